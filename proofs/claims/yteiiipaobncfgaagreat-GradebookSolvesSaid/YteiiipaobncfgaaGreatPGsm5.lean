/- Texts that the proofs of GradebookSolves need. No condition. (Part 5 of 7.) -/
import Derived.Test.YteiiipaobncfgaaGreatPGsm4
set_option linter.unusedSimpArgs false
set_option linter.unusedVariables false
set_option linter.defProp false
set_option maxRecDepth 100000
set_option maxHeartbeats 4000000
open Go.Proofs.Tryz
open Or renaming inl->gP,inr->gQ
open Go.Result renaming andThen->gY
open Except renaming bind->ir
open Go renaming Calls->iv
open Go.Value renaming slice->iD,int->iW,ownBlock->jB
open Nat renaming blt->iE,ble->jr,beq->jv
open Go.Region renaming ready->iH,binds->jh
open List renaming replicate->iL,range->jj
open Go.Builtin renaming zeroCells->i9
open Go.IntKind renaming wrap->jo
open Array renaming replicate->jt
open Go.Oper renaming wp->jy
open Go.Addr renaming add->jA
open Go.Sem renaming run->jP
namespace Bk
abbrev mD:=@StR.same
end Bk
open Bk.Stp renaming transfer->md,setCur->mp,items->mx,move->mC
open Bk.Nd renaming size->mg,name->mr,isPlace->mtt,kind->mz
namespace Bk
open Go Go.RowKit Go.Proofs
attribute [local irreducible] Go.Calls
variable {n k:Int} {d m:Nat} {l:List Nd} {w w':wD} {s:lB} {Z:Except Int Rn} {x y:Nd} {P P':nP} {e:Ending} {r:Rn} {st:Stp}
section
variable {ρ ρ':Nat->Rl} {κ:Nat->Nat} {K:List (Int×Int)} {sb:Nat} {st':Stp} {w1:wD} {S:nP}
def Fa (G:st.WF K m) (M:m<=1000000):Le st.look 224 [pt sb] (λw=>StoreAt ρ κ w sb st):=λs w N=>RB G M s w N.h
def ET (h:StoreAt ρ κ w sb st):Keep (λw=>StoreAt ρ κ w sb st) w:=⟨h,λ_ _ h x=>h.ext x⟩
def Iy (G:st.WF K m) (h:x.isPlace=true) (M:x.bad st.cur.vars=0):∃i c,BP x.name st.cur.vars=some i/\st.cur.cells[i]? = some c/\st.cellD x.name=c/\st.look x.name=some (st.items c)/\c<st.heap.length/\(∃y,K[c]? = some y/\(y.1=1\/y.1=2)):=by
 obtain ⟨k,n,s,l⟩:=x;have N:k=2\/k=3:=by
  simp only [mtt,mz,gR,jc,beq_iff_eq] at h;exact h.1
 have O:=(Kl M).1;have e:CF k=1\/CF k=2:=by unfold CF;rcases N with rfl|rfl<;>decide
 obtain ⟨i,c,y,U,V,X,Y,Z,h7,h8,-⟩:=G.use (O Ab);exact ⟨i,c,U,V,X,Y,Z,y,h7,Ab⟩
def Kq {c n:Nat} {M:oA} {xs:List Int} (N:ρ (κ c) = .cell c) (V:Blk w (κ c) [.slice M n d]) (O:OwnR ρ (.items c) w (.slice M n d) xs) (X:0<n):∃g,M=some ⟨g,0,none⟩/\PlaceAt ρ κ w c g n d xs:=by
 rcases O.1.open with ⟨h,-⟩|⟨g',U,zs,h,-⟩
 . simp only [iK] at h;omega
 simp only [iK] at h;obtain ⟨rfl,-,-⟩:=h;exact ⟨g',rfl,N,O.2 g' rfl,V,O.1⟩
def ZL (hw:st.WF K m) (hm:m<=1000000) (hk:40<=k/\k<=42) (ab:x.isPlace=true) (aj:y.isExpr=true) (ak:x.wf) (al:y.wf) (am:x.bad st.cur.vars=0) (a:Option Addr) (c0:Nat) (w:World) (hs:rowSits S w [x,y] a) (h:StoreAt ρ κ w sb st) :
 Calls prog 217 #[pt sb,.agg #[.int .u8 k,.int .i64 0,str [],.slice a 2 c0]] w (StR ρ sb (st.exec k [] [x,y]).2 (st.exec k [] [x,y]).1 w):=by
 obtain ⟨i,c,hi,hc,Z,ac,an,-⟩:=Iy hw ab am
 have e:st.exec k [] [x,y]=if (Bf st.look x).2≠0 then ((Bf st.look x).2,st) else if (AW st.look y).2≠0 then ((AW st.look y).2,st) else if (Bf st.look x).1<0\/((st.items c).length:Int)<=(Bf st.look x).1 then (12,st) else (0,st.put c (Bf st.look x).1.toNat (LH k ((st.items c).getD (Bf st.look x).1.toNat 0) (AW st.look y).1)):=by
  unfold Stp.exec
  simp only [lF,List.getD_cons_succ,At (show ¬k=43 by omega),AH hk,Z]
 rw [e];have U:=ET h;have HX:=gO (λxa xc w1 h1 h2=>Ko AU (Fa (sb:=sb) (ρ:=ρ) (κ:=κ) hw hm) x ak ab (· < w.heap.size) xa xc w1 h1 h2);have HY:=gO (λya yc w1 h1 h2=>PS AU (Fa (sb:=sb) (ρ:=ρ) (κ:=κ) hw hm) y al aj (· < w.heap.size) ya yc w1 h1 h2);have HC:=gO (λw1 h=>M3 (ρ:=ρ) (κ:=κ) (sb:=sb) hw hm x.name hi w1 h);rw [Z] at HC;obtain ⟨kb,ko,xa,xc,ya,yc,rfl,-,G,hx,N,hy⟩:=bQ hs;replace hx:=Cd _ _ hx;replace hy:=Cd _ _ hy;obtain ⟨ao,vi,M,ad⟩:=h.cells _ _ (EQ an);obtain ⟨ai,ci,rfl⟩:=ad.1.shape;have a6:=hw.look_le ac
 have ap:=λhn=>Kq ao M ad hn
 have X:=Ne w;obtain ⟨xk,xn,xs,xl⟩:=x;obtain ⟨yk,yn,ys,yl⟩:=y;simp only [mr] at HC hi Z ac;replace G:Row w ⟨kb,ko+0*4,none⟩ [.int .u8 xk,.int .i64 xn,str xs,.slice xa xl.length xc]:=G;replace N:Row w ⟨kb,ko+1*4,none⟩ [.int .u8 yk,.int .i64 yn,str ys,.slice ya yl.length yc]:=N
 generalize hA:Bf st.look (.mk xk xn xs xl)=A at *
 generalize hB:AW st.look (.mk yk yn ys yl)=B at *
 generalize hn:(st.items c).length=n at *
 refine Ad func217 ntmps217 rfl rfl ?_
 focus
  refine cS (eB [_,_,_,_] ?_);intro b1 w2 V x5 _ _;revert U X hx hy G N M;refine eE x5 ?_;intro U X hx hy G N M;refine C1 Pa (cN (C1 Pf (C1 (Pl V) (C1 Pi (BT [_,_,_,_] Ac rfl rfl rfl G rfl rfl rfl (C1 Mv (C1 (EF rfl rfl) (cC rfl (HX.out _ _ _ Ae Ae) ?_))))))));rintro _ w9 ⟨⟨⟩,x8⟩;have a7:=x8.size;revert V U X hx hy G N M;refine eE x8 ?_;intro V U X hx hy G N M;refine C1 Mv (C1 Px (C1 Px (C1 Pa (C1 Pa (cT (Aj (cS (C1 Mv (C1 V2 (cT (BS rfl (λaq=>?_) (λaq=>?_))))))))))));refine cS (C1 Mv (C1 Pa (cT (AR (As (AT rfl rfl ?_))))));rotate_left;refine Ao (Ai (cS (C1 Pa (cT (Aj (cS (C1 Pg (C1 (Pl V) (cT (Au (cS (C1 V1 (C1 Pa (cT (Dz (Aj ?_))))))))))))))));rotate_left
 . rw [AH Ae]
   exact mD U.h X
 rw [At (λh=>h Ae)];refine DD (ι:=Unit) (λ_=>[(0,pt sb),(3,pt b1),(5,.int .i64 A.1),(6,.int .i64 A.2),(7,.int .i64 0),(40,.bool true)]) (λ_ w'=>w'=w9) ?_ ?_
 . focus
    refine cS (C1 V1 (C1 Pa (cT (Ay rfl (λar=>?_) (λar=>?_)))));refine Ao ?_;rotate_left;refine cS (C1 V1 (C1 Pa (cT (Ay rfl (λau=>?_) (λau=>?_)))));refine Ao ?_;rotate_left;refine Al (C1 V1 (C1 Pa (Ak ?_)));rotate_left
   all_goals exact BY () (An rfl (An rfl (An rfl (An rfl (An rfl (B4 rfl (congrArg Value.bool (decide_eq_true Ab)) BK)))))) rfl
 rintro-u1 hu;subst hu
 focus
  refine BO rfl (Al (C1 Pf (C1 (Pl V) (C1 Pi (C1 (YN N) (C1 Mv (C1 (EF rfl rfl) (cC rfl (HY.out _ _ _ Ae Ae) ?_))))))));rintro _ a8 ⟨⟨⟩,av⟩;revert V U X G M;refine eE av ?_;intro V U X G M;refine C1 Mv (C1 Px (C1 Px (C1 Pa (C1 Pa (Ak (Ah (Ai (Aj (cS (C1 Mv (C1 V2 (cT (BS rfl (λaw=>?_) (λaw=>?_))))))))))))));refine cS (C1 Mv (C1 Pa (cT (AR (As (AT rfl rfl ?_))))));rotate_left;refine Ao (Ai (cS (C1 Mv (C1 Pf (C1 (Pl V) (C1 Pi (C1 Pf (C1 (Pw G) (cC rfl (HC.out _ (Keep.h Ae)) ?_)))))))));rintro _ ae ⟨⟨⟩,af⟩;have a9:=af.size;revert V U X M;refine eE af ?_;intro V U X M;refine C1 Pn (C1 Pg (C1 (Pl M) (C1 Pa (cT (Aj ?_)))));rotate_left
 . rw [AH Ae]
   exact mD U.h X
 rw [At (λh=>h Ae)]
 by_cases O:A.1<0\/(n:Int)<=A.1
 . rw [AH O]
   focus
    refine cS (C1 Mv (C1 V3 (C1 Mv (B0 rfl rfl rfl (λax=>?_) (λax=>?_)))));refine FO (FO (FO (FO (C1 TL (cT (BO rfl (cS (C1 Pa (cT (AR (As (AT rfl rfl ?_))))))))))));rotate_left;refine FN (C1 Mv (FN (C1 Mv (FN (C1 Pz (FN (C1 V6 (C1 Sh (cT (TM (cS (C1 Pa (cT (AR (As (AT rfl rfl ?_))))))))))))))));rotate_left
   . exact mD U.h X
   . exact mD U.h X
 rw [At O];obtain ⟨g,rfl,hp⟩:=ap Ab;replace hp:=hp.ext X;have ay:=hp.row (i:=A.1.toNat) Ab;have ho:=hp.ho;have F:=lZ (· = g) ae;have Hp:=gO hp;have HI:=gO U.h;have az:=gO X
 generalize (st.items c).getD A.1.toNat 0=v0 at *
 refine cS (C1 Mv (C1 V3 (C1 Mv (EA (C1 Mv (EA (C1 Mv (EA (C1 Pz (EA (C1 V6 (C1 NY (cT (Dz (Ao (Ai (cS (C1 Mv (C1 Mv (C1 Pi (C1 Pa (cT (Aj (cS (C1 Pg (C1 (Pl V) (cT (Au (Aj ?_)))))))))))))))))))))))))))))
 refine DD (ι:=Unit) (λ_=>[(3,pt b1),(7,.int .i64 B.1),(9,.pointer (some ⟨g,0+A.1.toNat*1,none⟩)),(80,.bool true)]) (λ_ w'=>w'=ae) ?_ ?_
 . focus
    refine cS (C1 V1 (C1 Pa (cT (Ay rfl (λa0=>?_) (λa0=>?_)))));refine Ao ?_;rotate_left;refine cS (C1 V1 (C1 Pa (cT (Ay rfl (λa1=>?_) (λa1=>?_)))));refine Ao ?_;rotate_left;refine Al (C1 V1 (C1 Pa (Ak ?_)));rotate_left
   all_goals exact BY () (An rfl (An rfl (An rfl (B4 rfl (congrArg Value.bool (decide_eq_true Ab)) BK)))) rfl
 rintro-u2 hu;subst hu
 have a2:A.1.toNat<(st.items c).length:=by omega
 refine BO rfl (Aj (Aq (λwz=>Ext u2 wz) 11 (.pure 0 (.pure 1 (.pure 2 (.pure 3 (.pure 4 (.pure 5 (.fork 6 (.pure 7 (.pure 8 (.pure 9 (.pure 10 .tail)))) .none))))))) mixed AU (Aa (Af (Aa Ag))) ?_));intro a3 ag _;have Y:(λwz=>Ext u2 wz) a3:=ag;simp only at Y;have ah:=V;have aa:=ay;revert ho F;refine eE ag ?_;intro ho F;refine ⟨Y,(Tq rfl Pg (Tq rfl (Db ah) (Tq rfl Mv (Tq rfl Pn (Tq rfl (Ap Ac rfl rfl rfl (λwz hz=>mb (l5 aa hz) rfl)) (Tq rfl Mv (AE rfl (AN AU rfl (Xz _ _ _ hk _) (λ_ _ h=>⟨_,h.1⟩)) rfl ?_ aFh AC)))))))⟩;rintro _ ba ⟨⟨⟩,rfl⟩;refine ⟨Y,(Tq rfl Mv (Tq rfl Px (Tq rfl Px (Tq rfl Pa (Ar rfl (C1 Pa (cT (Aj (cS (C1 Mv (C1 V1 (cT (Wt (Al (C1 Mv (C1 Mv (C1 Pn (A6 (Cq Ac rfl rfl rfl Ae a2) (BH ?_)))))))))))))))))))⟩;rintro _ a5 ⟨bb,a4,bc⟩;replace F:=F.fr a4 Ab;refine cN (C1 Mv (C1 Pa (cT (AR (AJ (As (AT rfl rfl ?_)))))))
 exact ⟨ρ,κ,rfl,Ro.refl _ _,HI.out.putI Hp.out.hrc Hp.out.hrg Hp.out.hb F Ae,(lX az.out).fr F (λk hk=>gP (by rw [show k=g from hk,Hp.out.hrg];trivial))⟩
def ZM (hw:st.WF K m) (hm:m<=1000000) (a0:x.isPlace=true) (a1:y.isPlace=true) (bk:x.wf) (bl:y.wf) (bm:x.bad st.cur.vars=0) (bn:y.bad st.cur.vars=0) (a:Option Addr) (c0:Nat) (w:World) (hs:rowSits S w [x,y] a) (h:StoreAt ρ κ w sb st) :
 Calls prog 217 #[pt sb,.agg #[.int .u8 43,.int .i64 0,str [],.slice a 2 c0]] w (StR ρ sb (st.exec 43 [] [x,y]).2 (st.exec 43 [] [x,y]).1 w):=by
 obtain ⟨i,c,hi,hc,av,a2,a3,-⟩:=Iy hw a0 bm;obtain ⟨i',V,a4,ca,al,ar,a5,-⟩:=Iy hw a1 bn
 have e:st.exec 43 [] [x,y]=if (Bf st.look x).2≠0 then ((Bf st.look x).2,st) else if (Bf st.look y).2≠0 then ((Bf st.look y).2,st) else if (Bf st.look x).1<0\/((st.items c).length:Int)<=(Bf st.look x).1 then (12,st) else if (Bf st.look y).1<0\/((st.items V).length:Int)<=(Bf st.look y).1 then (12,st)
  else (0,(st.put c (Bf st.look x).1.toNat ((st.items V).getD (Bf st.look y).1.toNat 0)).put V (Bf st.look y).1.toNat ((st.items c).getD (Bf st.look x).1.toNat 0)):=by
  unfold Stp.exec
  simp only [lF,List.getD_cons_succ,if_true,At (show ¬(40<=(43:Int)/\(43:Int)<=42) by decide),av,al]
 rw [e];have hI:=ET h;have HX:=gO (λxa xc w1 h1 h2=>Ko AU (Fa (sb:=sb) (ρ:=ρ) (κ:=κ) hw hm) x bk a0 (· < w.heap.size) xa xc w1 h1 h2);have HY:=gO (λya yc w1 h1 h2=>Ko AU (Fa (sb:=sb) (ρ:=ρ) (κ:=κ) hw hm) y bl a1 (· < w.heap.size) ya yc w1 h1 h2);have HC:=gO (λw1 h=>M3 (ρ:=ρ) (κ:=κ) (sb:=sb) hw hm x.name hi w1 h);have HD:=gO (λw1 h=>M3 (ρ:=ρ) (κ:=κ) (sb:=sb) hw hm y.name a4 w1 h);rw [av] at HC;rw [al] at HD;obtain ⟨kb,ko,xa,xc,ya,yc,rfl,-,N,hx,O,hy⟩:=bQ hs;replace hx:=Cd _ _ hx;replace hy:=Cd _ _ hy;obtain ⟨ad,vi,G,a6⟩:=h.cells _ _ (EQ a3);obtain ⟨ai,ci,rfl⟩:=a6.1.shape;obtain ⟨bo,vj,M,a7⟩:=h.cells _ _ (EQ a5);obtain ⟨aj,cj,rfl⟩:=a7.1.shape;have cb:=hw.look_le a2;have b3:=hw.look_le ar
 have bp:=λhn=>Kq ad G a6 hn
 have bq:=λhn=>Kq bo M a7 hn
 have X:=Ne w;obtain ⟨xk,xn,xs,xl⟩:=x;obtain ⟨yk,yn,ys,yl⟩:=y;simp only [mr] at HC HD hi av a2 a4 al ar;replace N:Row w ⟨kb,ko+0*4,none⟩ [.int .u8 xk,.int .i64 xn,str xs,.slice xa xl.length xc]:=N;replace O:Row w ⟨kb,ko+1*4,none⟩ [.int .u8 yk,.int .i64 yn,str ys,.slice ya yl.length yc]:=O
 generalize hA:Bf st.look (.mk xk xn xs xl)=A at *
 generalize hB:Bf st.look (.mk yk yn ys yl)=B at *
 generalize hn:(st.items c).length=n at *
 generalize cc:(st.items V).length=n' at *
 refine Ad func217 ntmps217 rfl rfl ?_
 focus
  refine cS (eB [_,_,_,_] ?_);intro b1 w2 h4 x5 _ _;revert hI X hx hy N O G M;refine eE x5 ?_;intro hI X hx hy N O G M;refine C1 Pa (cN (C1 Pf (C1 (Pl h4) (C1 Pi (BT [_,_,_,_] Ac rfl rfl rfl N rfl rfl rfl (C1 Mv (C1 (EF rfl rfl) (cC rfl (HX.out _ _ _ Ae Ae) ?_))))))));rintro _ w9 ⟨⟨⟩,x8⟩;revert h4 hI X hx hy N O G M;refine eE x8 ?_;intro h4 hI X hx hy N O G M;refine C1 Mv (C1 Px (C1 Px (C1 Pa (C1 Pa (cT (Aj (cS (C1 Mv (C1 V2 (cT (BS rfl (λbr=>?_) (λbr=>?_))))))))))));refine cS (C1 Mv (C1 Pa (cT (AR (As (AT rfl rfl ?_))))));rotate_left;refine Ao (Ai (cS (C1 Pa (cT (Aj (cS (C1 Pg (C1 (Pl h4) (cT (Au (cS (C1 V1 (C1 Pa (cT (Wt (Al (C1 Pf (C1 (Pl h4) (C1 Pi (C1 (YN O) (C1 Mv (C1 (EF rfl rfl) (cC rfl (HY.out _ _ _ Ae Ae) ?_)))))))))))))))))))))));rintro _ cd ⟨⟨⟩,bs⟩;revert h4 hI X hx hy N O G M;refine eE bs ?_;intro h4 hI X hx hy N O G M;refine C1 Mv (C1 Px (C1 Px (C1 Pa (C1 Pa (Ak (Ah (Ai (Aj (cS (C1 Mv (C1 V2 (cT (BS rfl (λbt=>?_) (λbt=>?_))))))))))))));refine cS (C1 Mv (C1 Pa (cT (AR (As (AT rfl rfl ?_))))));rotate_left;refine Ao (Ai (cS (C1 Mv (C1 Pf (C1 (Pl h4) (C1 Pi (C1 Pf (C1 (Pw N) ?_))))))))
  refine cC rfl (HC.out _ (Keep.h Ae)) ?_;rintro _ ce ⟨⟨⟩,bu⟩;revert h4 hI X hx hy N O G M;refine eE bu ?_;intro h4 hI X hx hy N O G M;refine C1 Pn (C1 Pg (C1 (Pl G) (C1 Pa (cT (Aj ?_)))));rotate_left
 . rw [AH Ae]
   exact mD hI.h X
 . rw [At (λh=>h Ae),AH Ae]
   exact mD hI.h X
 rw [At (λh=>h Ae),At (λh=>h Ae)]
 by_cases ag:A.1<0\/(n:Int)<=A.1
 . rw [AH ag]
   focus
    refine cS (C1 Mv (C1 V3 (C1 Mv (B0 rfl rfl rfl (λbv=>?_) (λbv=>?_)))));refine FO (FO (FO (FO (C1 TL (cT (BO rfl (cS (C1 Pa (cT (AR (As (AT rfl rfl ?_))))))))))));rotate_left;refine FN (C1 Mv (FN (C1 Mv (FN (C1 Pz (FN (C1 V6 (C1 Sh (cT (TM (cS (C1 Pa (cT (AR (As (AT rfl rfl ?_))))))))))))))));rotate_left
   . exact mD hI.h X
   . exact mD hI.h X
 rw [At ag];obtain ⟨g,rfl,hp⟩:=bp Ab
 refine cS (C1 Mv (C1 V3 (C1 Mv (EA (C1 Mv (EA (C1 Mv (EA (C1 Pz (EA (C1 V6 (C1 NY (cT (Dz (Ao (Ai (cS (C1 Mv (C1 Mv (C1 Pi (C1 Pa (cT (Aj (cS (C1 Pg (C1 (Pl h4) (cT (Au (Aj (cS (C1 V1 (C1 Pa (cT (NH (cS (C1 V1 (C1 Pa (cT (NH (Al (C1 V1 (C1 Pa (cT (NH (cS (C1 V1 (C1 Pa (cT (Wt (cS (C1 Mv (C1 Pf (C1 (Pl h4) (C1 Pi (C1 Pf (C1 (Pw O) (cC rfl (HD.out _ (Keep.h Ae)) ?_)))))))))))))))))))))))))))))))))))))))))))))))))))))))));rintro _ Y ⟨⟨⟩,bw⟩;revert h4 hI X hx hy N O M G;refine eE bw ?_;intro h4 hI X hx hy N O M G;refine C1 Pn (C1 Pg (C1 (Pl M) (C1 Pa (cT (Aj ?_)))))
 by_cases aa:B.1<0\/(n':Int)<=B.1
 . rw [AH aa]
   focus
    refine cS (C1 Mv (C1 V3 (C1 Mv (B0 rfl rfl rfl (λbx=>?_) (λbx=>?_)))));refine FO (FO (FO (FO (C1 TL (cT (BO rfl (cS (C1 Pa (cT (AR (As (AJ (As (AT rfl rfl ?_))))))))))))));rotate_left;refine FN (C1 Mv (FN (C1 Mv (FN (C1 Pz (FN (C1 V6 (C1 Sh (cT (TM (cS (C1 Pa (cT (AR (As (AJ (As (AT rfl rfl ?_))))))))))))))))));rotate_left
   . exact mD hI.h X
   . exact mD hI.h X
 rw [At aa];obtain ⟨g',rfl,hq⟩:=bq Ab
 have aw:A.1.toNat<(st.items c).length:=by omega
 have ax:B.1.toNat<(st.items V).length:=by omega
 have ah:=(hp.ext X).row aw;have ab:=(hq.ext X).row ax;have a8:=gO X;have HI:=gO hI.h
 by_cases ao:V=c
 . subst ao
   have bz:g'=g:=by
    have h1:=(hp.hb.row.at0 rfl).symm.trans (hq.hb.row.at0 rfl);simp only [gU,iK,jW,and_true] at h1
    exact h1.1.symm
   subst bz
   have e:(st.put V A.1.toNat ((st.items V).getD B.1.toNat 0)).put V B.1.toNat ((st.items V).getD A.1.toNat 0)=st.all V (((st.items V).set A.1.toNat ((st.items V).getD B.1.toNat 0)).set B.1.toNat ((st.items V).getD A.1.toNat 0)):=by
    unfold Stp.put
    rw [CO,AH ⟨rfl,a3⟩]
    unfold Stp.all
    simp
   rw [e]
   have a9:∀v,B.1.toNat<((st.items V).set A.1.toNat v).length:=λv=>by rw [jx];exact ax
   have ho:=(hp.ext X).ho;have Hp:=gO (hp.ext X);have F:=lZ (· = g') Y
   generalize (st.items V).getD A.1.toNat 0=v0 at *
   generalize (st.items V).getD B.1.toNat 0=v1 at *
   refine cS (C1 Mv (C1 V3 (C1 Mv (EA (C1 Mv (EA (C1 Mv (EA (C1 Pz (EA (C1 V6 (C1 NY (cT (Dz (Ao (Ai (Aj (E6 (λZ=>Ext Y Z) (λZ=>Fr (λx=>x=g') Y Z) [1,2,11,12,13] [1,2] 11 12 (.free 1 (.free 2 (.pure 0 (.pure 3 (.pure 4 (.pure 5 (.pure 6 (.pure 7 (.pure 8 (.pure 9 (.pure 10 (.put 11 (.tail 12))))))))))))) (λ_ h=>lX h) mixed AU (Aa (Af (Aa Ag))) ?_))))))))))))))))));intro ba ay _;have bb:(λZ=>Ext Y Z) ba:=ay;simp only at bb;have am:(λZ=>Fr (λx=>x=g') Y Z) ba:=lX ay;simp only at am;have ae:=ah;have af:=ab;revert h4 M G ho F ah ab;refine eE ay ?_;intro h4 M G ho F ah ab;refine Bp Ae rfl (Av rfl) rfl (Bp Ae rfl (Av rfl) rfl (Am Ae rfl (Av rfl) rfl (Am Ae rfl (Av rfl) rfl (Am Ae rfl (Av rfl) rfl (Am Ae rfl (AO Ac rfl rfl rfl rfl Ab Ab) rfl (Am Ae rfl (Ap Ac rfl rfl rfl (λZ hz=>mb (l5 af hz) rfl)) rfl (Am Ae rfl (Av rfl) rfl (Am Ae rfl (BF rfl) rfl (Am Ae rfl (Ap Ac rfl rfl rfl (λZ hz=>mb (l5 ae hz) rfl)) rfl ?_)))))))))
   refine Am Ae rfl (BF rfl) rfl (DB rfl (Cq Ac rfl rfl rfl Ae aw) (BH ?_));rintro _ cf ⟨cg,bc,ch⟩;replace am:=am.fr bc Ab;replace F:=F.fr bc Ab;refine ⟨Ae,(DA rfl (C1 Pi (A6 (Cq Ac rfl rfl rfl Ae (a9 _)) (BH ?_))))⟩;rintro _ b4 ⟨b5,bd,b6⟩;replace F:=F.fr bd Ab;refine cN (C1 Pa (cT (AR (AJ (As (AT rfl rfl ?_))))))
   exact ⟨ρ,κ,rfl,Ro.refl _ _,HI.out.putI Hp.out.hrc Hp.out.hrg Hp.out.hb F Ae,(lX a8.out).fr F (λk hk=>gP (by rw [show k=g' from hk,Hp.out.hrg];trivial))⟩
 . have e:(st.put c A.1.toNat ((st.items V).getD B.1.toNat 0)).put V B.1.toNat ((st.items c).getD A.1.toNat 0)=(st.all c ((st.items c).set A.1.toNat ((st.items V).getD B.1.toNat 0))).all V ((st.items V).set B.1.toNat ((st.items c).getD A.1.toNat 0)):=by
    unfold Stp.put
    rw [CO,At (λh=>ao h.1)]
   rw [e];have be:=hp.ext X;have bf:=hq.ext X;have ak:=hp.hrg;have U:=hq.hrg
   have bg:g'≠g:=λe=>by rw [e,ak] at U;simp at U;exact ao U.symm
   have ho:=be.ho;have ap:=bf.ho;have Hp:=gO be;have Hq:=gO bf;have F:=lZ (λk=>k=g\/k=g') Y
   generalize (st.items c).getD A.1.toNat 0=v0 at *
   generalize (st.items V).getD B.1.toNat 0=v1 at *
   refine cS (C1 Mv (C1 V3 (C1 Mv (EA (C1 Mv (EA (C1 Mv (EA (C1 Pz (EA (C1 V6 (C1 NY (cT (Dz (Ao (Ai (Aj (E6 (λZ=>Ext Y Z) (λZ=>Fr (λx=>x=g) Y Z) [1,2,11,12,13] [1,2] 11 12 (.free 1 (.free 2 (.pure 0 (.pure 3 (.pure 4 (.pure 5 (.pure 6 (.pure 7 (.pure 8 (.pure 9 (.pure 10 (.put 11 (.tail 12))))))))))))) (λ_ h=>lX h) mixed AU (Aa (Af (Aa Ag))) ?_))))))))))))))))));intro bh az _;have bi:(λZ=>Ext Y Z) bh:=az;simp only at bi;have an:(λZ=>Fr (λx=>x=g) Y Z) bh:=lX az;simp only at an;have ae:=ah;have af:=ab;revert h4 G M ho ap F ah ab;refine eE az ?_;intro h4 G M ho ap F ah ab;refine Bp Ae rfl (Av rfl) rfl (Bp Ae rfl (Av rfl) rfl (Am Ae rfl (Av rfl) rfl (Am Ae rfl (Av rfl) rfl (Am Ae rfl (Av rfl) rfl (Am Ae rfl (AO Ac rfl rfl rfl rfl Ab Ab) rfl (Am Ae rfl (Ap Ac rfl rfl rfl (λZ hz=>mb (l5 af hz) rfl)) rfl (Am Ae rfl (Av rfl) rfl (Am Ae rfl (BF rfl) rfl (Am Ae rfl (Ap Ac rfl rfl rfl (λZ hz=>mb (l5 ae hz) rfl)) rfl ?_)))))))))
   refine Am Ae rfl (BF rfl) rfl (DB rfl (Cq Ac rfl rfl rfl Ae aw) (BH ?_));rintro _ ck ⟨bj,aq,cl⟩;replace an:=an.fr aq Ab;replace ap:=mM ap aq (λk hk hS=>by (obtain rfl:=gZ (show some g'=some k from hk);exact bg hS));replace F:=F.fr aq Ab;replace ab:=ab.fr aq Ab;refine ⟨Ae,(DA rfl (C1 Pi (A6 (Cq Ac rfl rfl rfl Ae ax) (BH ?_))))⟩;rintro _ b7 ⟨b8,au,b9⟩;replace bj:=mM bj au (λk hk hS=>by (obtain rfl:=gZ (show some g=some k from hk);exact bg hS.symm));replace F:=l8 F au (λk hk=>gP (gQ hk));refine cN (C1 Pa (cT (AR (AJ (As (AT rfl rfl ?_))))))
   have ad:=Hp.out.hrc;have ac:=Hq.out.hrc
   have b0:=Hp.out.hb.fr F (λe=>by
    rcases e with e|e
    . rw [e,ak] at ad
      cases ad
    . rw [e,U] at ad
      cases ad)
   have b2:=Hq.out.hb.fr F (λe=>by
    rcases e with e|e
    . rw [e,ak] at ac
      cases ac
    . rw [e,U] at ac
      cases ac)
   exact ⟨ρ,κ,rfl,Ro.refl _ _,HI.out.set2 (lw ao) (F.weaken (λk hk=>by rcases hk with rfl|rfl;exact gP (gQ ak);exact gQ (gQ U))) (Ro.refl _ _) (HI.out.fresh.mv F) ⟨ad,_,b0,Ae,λk hk=>by obtain rfl:=gZ (show some g=some k from hk);exact ak⟩ ⟨ac,_,b2,Ae,λk hk=>by obtain rfl:=gZ (show some g'=some k from hk);exact U⟩,
    (lX a8.out).fr F (λk hk=>gP (by rcases hk with rfl|rfl;rw [ak];trivial;rw [U];trivial))⟩
def Uh (hw:st.WF K m) (hm:m<=1000000) {s:List UInt8} (hk:(44<=k/\k<=49)) (ah:x.isPlace=true) (ar:x.wf) (au:x.bad st.cur.vars=0) (av:(k=44\/k=45)->Ek st.cur.vars s 3=0) (a:Option Addr) (c0:Nat) (w:World) (hs:rowSits S w [x] a) (h:StoreAt ρ κ w sb st) :
 Calls prog 217 #[pt sb,.agg #[.int .u8 k,.int .i64 0,str s,.slice a 1 c0]] w (StR ρ sb (st.exec k s [x]).2 (st.exec k s [x]).1 w):=by
 obtain ⟨i,c,hi,hc,af,aj,aw,yk,ax,ba⟩:=Iy hw ah au
 have e:st.exec k s [x]=if (Bf st.look x).2≠0 then ((Bf st.look x).2,st) else if (Bf st.look x).1<0\/((st.items c).length:Int)<=(Bf st.look x).1 then (12,st) else if k=44\/k=45 then st.move k c (Bf st.look x).1.toNat (st.cellD s) else st.transfer k c (Bf st.look x).1.toNat:=by
  unfold Stp.exec
  simp only [lF,At (show ¬k=43 by omega),At (show ¬(40<=k/\k<=42) by omega),af]
  simp
 rw [e];have M:=ET h;have HX:=gO (λxa xc w1 h1 h2=>Ko AU (Fa (sb:=sb) (ρ:=ρ) (κ:=κ) hw hm) x ar ah (· < w.heap.size) xa xc w1 h1 h2);have HC:=gO (λw1 h=>M3 (ρ:=ρ) (κ:=κ) (sb:=sb) hw hm x.name hi w1 h);rw [af] at HC;obtain ⟨kb,ko,xa,xc,rfl,-,N,hx⟩:=WM hs;replace hx:=Cd _ _ hx;obtain ⟨ay,vi,O,ak⟩:=h.cells _ _ (EQ aw);obtain ⟨ai,ci,rfl⟩:=ak.1.shape;have bm:=hw.look_le aj
 have az:=λhn=>Kq ay O ak hn
 have X:=Ne w;obtain ⟨xk,xn,xs,xl⟩:=x;simp only [mr] at HC hi af aj;replace N:Row w ⟨kb,ko+0*4,none⟩ [.int .u8 xk,.int .i64 xn,str xs,.slice xa xl.length xc]:=N
 generalize hA:Bf st.look (.mk xk xn xs xl)=A at *
 generalize hn:(st.items c).length=n at *
 refine Ad func217 ntmps217 rfl rfl ?_
 focus
  refine cS (eB [_,_,_,_] ?_);intro b1 w2 h4 x5 p6 z7;revert M X hx N O;refine eE x5 ?_;intro M X hx N O;refine C1 Pa (cN (C1 Pf (C1 (Pl h4) (C1 Pi (BT [_,_,_,_] Ac rfl rfl rfl N rfl rfl rfl (C1 Mv (C1 (EF rfl rfl) (cC rfl (HX.out _ _ _ Ae Ae) ?_))))))));rintro _ w9 ⟨⟨⟩,x8⟩;have bn:=x8.size;revert h4 M X N O;refine eE x8 ?_;intro h4 M X N O;refine C1 Mv (C1 Px (C1 Px (C1 Pa (C1 Pa (cT (Aj (cS (C1 Mv (C1 V2 (cT (BS rfl (λa0=>?_) (λa0=>?_))))))))))));refine cS (C1 Mv (C1 Pa (cT (AR (As (AT rfl rfl ?_))))));rotate_left;refine Ao (Ai (cS (C1 Pa (cT (Aj (cS (C1 Pg (C1 (Pl h4) (cT (Au (cS (C1 V1 (C1 Pa (cT (Dz (Aj (cS (C1 V1 (C1 Pa (cT (Dz (cS (C1 V1 (C1 Pa (cT (Dz (Al (C1 V1 (C1 Pa (cT (Dz (Ao (Ah (Ai (Aj (cS (C1 Mv (C1 V2 (cT (Dz (Ao (Ai (cS (C1 Mv (C1 Pf (C1 (Pl h4) (C1 Pi (C1 Pf (C1 (Pw N) (cC rfl (HC.out _ (Keep.h Ae)) ?_))))))))))))))))))))))))))))))))))))))))))))))))));rintro _ ac ⟨⟨⟩,al⟩;have bo:=al.size;revert h4 M X O;refine eE al ?_;intro h4 M X O;refine C1 Pn (C1 Pg (C1 (Pl O) (C1 Pa (cT (Aj ?_)))));rotate_left
 . rw [AH Ae]
   exact mD M.h X
 rw [At (λh=>h Ae)]
 by_cases Z:A.1<0\/(n:Int)<=A.1
 . rw [AH Z]
   focus
    refine cS (C1 Mv (C1 V3 (C1 Mv (B0 rfl rfl rfl (λa1=>?_) (λa1=>?_)))));refine FO (FO (FO (FO (C1 TL (cT (BO rfl (cS (C1 Pa (cT (AR (As (AT rfl rfl ?_))))))))))));rotate_left;refine FN (C1 Mv (FN (C1 Mv (FN (C1 Pz (FN (C1 V6 (C1 Sh (cT (TM (cS (C1 Pa (cT (AR (As (AT rfl rfl ?_))))))))))))))));rotate_left
   . exact mD M.h X
   . exact mD M.h X
 rw [At Z];obtain ⟨g,rfl,U⟩:=az Ab;replace U:=U.ext X
 have aa:A.1.toNat<(st.items c).length:=by omega
 by_cases ad:k=44\/k=45
 . rw [AH ad];obtain ⟨i2,d,yd,e1,e2,e3,e4,e5,e6,e7,e8⟩:=hw.use (av ad)
   have am:c≠d:=by
    rintro rfl;rw [ax] at e6;obtain rfl:=gZ e6
    omega
   have a2:(st.items d).length<=1000:=by rcases e8 with ⟨h,-⟩|⟨h,-⟩|⟨-,h⟩<;>omega
   have HD:=gO (λw1 h=>M3 (ρ:=ρ) (κ:=κ) (sb:=sb) hw hm s e1 w1 h);rw [e3] at HD ⊢;have HM:=gO (λw1 h U=>cI (ρ:=ρ) (κ:=κ) (sb:=sb) (g:=g) (n:=n) (cap:=ci) hw e5 am a2 aa k ad w1 h U);have F:Fr (λk=>MV (ρ k)) w _:=lX X
   generalize st.move k c A.1.toNat d=r at *
   focus
    refine cS (C1 Mv (C1 V3 (C1 Mv (EA (C1 Mv (EA (C1 Mv (EA (C1 Pz (EA (C1 V6 (C1 NY (cT (Dz (Ao (Ai (cS (C1 Mv (C1 Mv (C1 Pi (C1 Pa (cT (Aj (cS (C1 Pg (C1 (Pl h4) (cT (Au (Aj (cS (C1 V1 (C1 Pa (cT (Dz (cS (C1 V1 (C1 Pa (cT (Dz (Al (C1 V1 (C1 Pa (cT (Dz (cS (C1 V1 (C1 Pa (cT (Dz (Aj (cS (C1 V1 (C1 Pa (cT (Ay rfl (λa3=>?_) (λa3=>?_))))))))))))))))))))))))))))))))))))))))))))))))))))))));refine Ao (Ai (YO (Aj (Aq (λwz=>Ext ac wz) 7 (.pure 0 (.pure 1 (.pure 2 (.pure 3 (.pure 4 (.pure 5 (.fork 6 .tail .none))))))) mixed AU (Aa (Af (Aa Ag))) ?_))));intro a4 ag _;have V:(λwz=>Ext ac wz) a4:=ag;simp only at V;have Y:=h4;have bp:=ag.size;revert M U F;refine eE ag ?_;intro M U F;refine ⟨V,(Tq rfl Pg (Tq rfl (Db Y) (Tq rfl Mv (Tq rfl Mv (Tq rfl Pf (Tq rfl (Db Y) (AE rfl (AN AU rfl (HD.out _ (Keep.h Ae)) (λ_ _ h=>⟨_,h.1⟩)) rfl ?_ aFh AC)))))))⟩;rintro _ bq ⟨⟨⟩,an⟩;have br:=an.size;revert V M U F;refine eE an ?_;intro V M U F;refine ⟨V,(Ar rfl (eQ rfl (HM.out _ (Keep.h Ae) Ae) ?_))⟩;rintro _ bb ⟨a5,a6,⟨⟩,bc,bd,ao⟩
    replace F:=l8 F ao (λk hk=>gP hk);refine C1 Pa (cT (AR (AJ (As (AT rfl rfl ?_)))));rotate_left;refine Al (C1 V1 (C1 Pa (cT (TM (Aj (Aq (λwz=>Ext ac wz) 7 (.pure 0 (.pure 1 (.pure 2 (.pure 3 (.pure 4 (.pure 5 (.fork 6 .tail .none))))))) mixed AU (Aa (Af (Aa Ag))) ?_))))));intro ap ab _;have G:(λwz=>Ext ac wz) ap:=ab;simp only at G;have Y:=h4;have be:=ab.size;revert M U F;refine eE ab ?_;intro M U F;refine ⟨G,(Tq rfl Pg (Tq rfl (Db Y) (Tq rfl Mv (Tq rfl Mv (Tq rfl Pf (Tq rfl (Db Y) (AE rfl (AN AU rfl (HD.out _ (Keep.h Ae)) (λ_ _ h=>⟨_,h.1⟩)) rfl ?_ aFh AC)))))))⟩;rintro _ bf ⟨⟨⟩,ae⟩;have bg:=ae.size;revert G M U F;refine eE ae ?_;intro G M U F;refine ⟨G,(Ar rfl (eQ rfl (HM.out _ (Keep.h Ae) Ae) ?_))⟩;rintro _ bh ⟨a7,a8,⟨⟩,bi,bj,aq⟩;replace F:=l8 F aq (λk hk=>gP hk);refine C1 Pa (cT (AR (AJ (As (AT rfl rfl ?_)))));rotate_left
   . exact ⟨_,_,rfl,Ro.low Ae Ab,Ae,F⟩
   . exact ⟨_,_,rfl,Ro.low Ae Ab,Ae,F⟩
 . rw [At ad]
   have HT:∀w1,StoreAt ρ κ w1 sb st->PlaceAt ρ κ w1 c g n ci (st.items c)->Calls prog 228 #[pt sb,.int .u8 k,.pointer (some ⟨g,0+A.1.toNat*1,none⟩)] w1 (StR ρ sb (st.transfer k c A.1.toNat).2 (st.transfer k c A.1.toNat).1 w1):=λw1 h U=>by
    rcases (show k=46\/k=47\/k=48\/k=49 by omega) with rfl|rfl|rfl|rfl
    . exact Xv aa w1 h U
    . exact Xx aa w1 h U
    . exact Xy aa w1 h U
    . exact Xw aa w1 h U
   replace HT:=gO HT;have F:Fr (λk=>MV (ρ k)) w _:=lX X
   generalize st.transfer k c A.1.toNat=r at *
   refine cS (C1 Mv (C1 V3 (C1 Mv (EA (C1 Mv (EA (C1 Mv (EA (C1 Pz (EA (C1 V6 (C1 NY (cT (Dz (Ao (Ai (cS (C1 Mv (C1 Mv (C1 Pi (C1 Pa (cT (Aj (cS (C1 Pg (C1 (Pl h4) (cT (Au (Aj (cS (C1 V1 (C1 Pa (cT (Dz (cS (C1 V1 (C1 Pa (cT (Dz (Al (C1 V1 (C1 Pa (cT (Dz (cS (C1 V1 (C1 Pa (cT (Dz (Aj (cS (C1 V1 (C1 Pa (cT (Dz (Al (C1 V1 (C1 Pa (cT (Dz (Ao (Ah (Ai (cS (C1 Mv (C1 Pg (C1 (Pl h4) (C1 Mv (eQ rfl (HT.out _ (Keep.h Ae) Ae) ?_)))))))))))))))))))))))))))))))))))))))))))))))))))))))))))))))))))));rintro _ bs ⟨bk,bl,⟨⟩,bt,bu,a9⟩;replace F:=l8 F a9 (λk hk=>gP hk);refine C1 Pa (cT (AR (AT rfl rfl ?_)))
   exact ⟨_,_,rfl,Ro.low Ae Ab,Ae,F⟩
end
section
variable {ρ ρ':Nat->Rl} {κ:Nat->Nat} {K:List (Int×Int)} {sb:Nat} {st':Stp} {w1:wD} {S:nP}
def Tb (h:40<=k/\k<=49):40<=A9 k/\A9 k<=49:=by
 unfold A9;rcases (show k=40\/k=41\/k=42\/k=43\/k=44\/k=45\/k=46\/k=47\/k=48\/k=49 by omega) with rfl|rfl|rfl|rfl|rfl|rfl|rfl|rfl|rfl|rfl<;>decide
def VG (G:40<=k/\k<=49) (h:(Nd.mk k n s l).isStmt=true):(Nd.mk (A9 k) n s l).isStmt=true:=by
 unfold Nd.isStmt at h ⊢;rcases (show k=40\/k=41\/k=42\/k=43\/k=44\/k=45\/k=46\/k=47\/k=48\/k=49 by omega) with rfl|rfl|rfl|rfl|rfl|rfl|rfl|rfl|rfl|rfl<;>simpa [A9] using h
def cK (Y:st.WF K m) (Z:m<=1000000) (hk:40<=k/\k<=49) (aa:(Nd.mk k n s l).isStmt=true) (ab:(Nd.mk k n s l).wf) (hb:(Nd.mk k n s l).bad st.cur.vars=0) (a:oA) (V:Nat) (w:wD) (hs:rowSits S w l a) (h:StoreAt ρ κ w sb st) :
 Calls prog 217 #[pt sb,.agg #[.int .u8 k,.int .i64 n,str s,.slice a l.length V]] w (StR ρ sb (st.exec k s l).2 (st.exec k s l).1 w):=by
 have U:=Kl hb;obtain ⟨-,-,-,-,-,-,M⟩:=ab;cases B3 aa with
 | upd X N hy=>
  obtain ⟨G,O,-⟩:=M;exact ZL Y Z Ab N hy G O (Cp U.2).1 a V w hs h
 | swap N hy=>
  obtain ⟨G,O,-⟩:=M;exact ZM Y Z N hy G O (Cp U.2).1 (Cp (Cp U.2).2).1 a V w hs h
 | stack X hn N=>
  obtain ⟨G,-⟩:=M;exact Uh Y Z Ab N G (Cp U.2).1 (λ_=>by
   have:=U.1;have e:CF k=3:=by unfold CF;rcases X with rfl|rfl<;>decide
   rw [e] at this;exact this B7) a V w hs h
 | tape X N=>
  obtain ⟨G,-⟩:=M;exact Uh Y Z Ab N G (Cp U.2).1 (λh=>by omega) a V w hs h
 | call X=>omega
 | branch X=>omega
 | local_=>omega
 | lstack=>omega
def eR (hw:st.WF K m) (hm:m<=1000000) (hk:(40<=k/\k<=49)\/k=56) (aa:(Nd.mk k n s l).isStmt=true) (ab:(Nd.mk k n s l).wf) (hz:(Nd.mk k n s l).size<=1000000) (a:oA) (c0:Nat) (w:wD) (hs:rowSits S w l a) (h:StoreAt ρ κ w sb st) :
 Calls prog 196 #[pt sb,.agg #[.int .u8 k,.int .i64 n,str s,.slice a l.length c0]] w (StR ρ sb (st.run1 k n s l).2 (st.run1 k n s l).1 w):=by
 have Z:=WK (· < w.heap.size) (.mk k n s l) ab;unfold Ec at Z;rw [aa] at Z;have Z:=gO (λw1 hs=>Z a c0 w1 hs);simp only [Nd.val,Nd.sits] at Z;have M:=Ci _ _ hs;have X:=Ne w;have V:=ET h;have ar:=hw.nc;have au:=hw.curm;rcases hk with hk|rfl
 . have e:st.run1 k n s l=if (Nd.mk k n s l).bad st.cur.vars≠0 then ((Nd.mk k n s l).bad st.cur.vars,st) else st.exec k s l:=by unfold Stp.run1;rw [At Ab]
   rw [e];obtain ⟨fb,fo,pre,post,T,vv,vc,O,-,ac,hf,-⟩:=h.open;obtain ⟨av,cv,rfl,N⟩:=G3 (S:=λ_=>True) hf.v.1 (λ_ _=>trivial);have G:=ac.blk;have HC:=gO (λw1 h=>EP fb fo st.calls.length sb Ab w1 h);have HF:=gO (λw1 h1 h2 h3=>ZD st.cur.vars Ab av cv vc (.int .i64 st.cur.locals) fb fo _ (.mk k n s l) (· < w.heap.size) (λ_=>True) a c0 w1 (Nat.lt_succ_self _) Ab h1 h2 h3);simp only [Nd.val,Nd.sits] at HF;have HX:(Nd.mk k n s l).bad st.cur.vars=0 -> ∀w1,rowSits (· < w.heap.size) w1 l a->StoreAt ρ κ w1 sb st->Calls prog 217 #[pt sb,.agg #[.int .u8 k,.int .i64 n,str s,.slice a l.length c0]] w1 (StR ρ sb (st.exec k s l).2 (st.exec k s l).1 w1):=λhb w1 h1 h2=>cK hw hm hk aa ab hb a c0 w1 h1 h2
   have HX:=gO HX;have HB:=gO (λw1=>ZE k hk w1);have F:Fr (λk=>MV (ρ k)) w w:=lZ _ w;generalize (Nd.mk k n s l).bad st.cur.vars=bd at *;generalize st.exec k s l=r at *;generalize st.cur.vars=vs at *;refine Ad func196 ntmps196 rfl rfl ?_
   focus
    refine cS (eB [_,_,_,_] ?_);intro b1 w2 Y x5 p6 z7;revert M X V O F N G;refine eE x5 ?_;intro M X V O F N G;refine eK ?_;refine C1 (A2 Ac rfl rfl) (kC (Z.out _ Ae) ?_);rintro _ w9 ⟨⟨⟩,x8⟩;revert Y M X V O F N G;refine eY x8 ?_;intro aw Y M X V O F N G;refine kC (HB.out _) ?_;rintro _ ad ⟨⟨⟩,ah⟩;revert Y M X V O F N G;refine eY ah ?_;intro ax Y M X V O F N G;refine eK ?_;refine Aq (λwz=>Ext ad wz) 3 (.pure 0 (.pure 2 (.fork 1 .tail .none))) mixed AU (Aa (Aa Ag)) ?_;intro ai ae _;have U:(λwz=>Ext ad wz) ai:=ae;simp only at U;have af:=Y;revert Y M X V O F N G;refine eY ae ?_;intro ay Y M X V O F N G;refine ⟨U,(Tq rfl Mv (Tq rfl (xL [_,_,_,_] (λwz hz=>(l9 af hz))) (tC rfl rfl (HC.out _ Ae) ?_)))⟩;rintro _ az ⟨⟨⟩,aj⟩;revert U Y M X V F N G;refine eY aj ?_;intro a0 U Y M X V F N G;refine ⟨U,(Ar rfl (cC rfl (HF.out _ Ae Ae Ae) ?_))⟩;rintro _ a1 ⟨⟨⟩,ak⟩;revert Y M X V F;refine eY ak ?_;intro a2 Y M X V F;refine eK ?_;refine BS rfl (λal=>?_) (λal=>?_);refine kR ?_;rotate_left;refine kQ (HX.out Ae _ Ae (Keep.h Ae)) ?_;rintro _ a3 ⟨ap,aq,⟨⟩,a4,a5,am⟩;have F:=l8 F am (λk hk=>gP hk);refine kR ?_;rotate_left
   . rw [AH Ae];exact mD V.h X
   . rw [At (λh=>h Ae)];exact ⟨_,_,rfl,Ro.low Ae Ab,Ae,F⟩
 . have e:st.run1 56 n s l=(9,st):=by unfold Stp.run1;rw [AH rfl]
   rw [e];refine Ad func196 ntmps196 rfl rfl (cS (eB [_,_,_,_] ?_));intro a6 a7 ag an _ _;revert h M X;refine eE an ?_;intro h M X;refine eK ?_;refine C1 (A2 Ac rfl rfl) (kC (Z.out _ Ae) ?_);rintro _ a8 ⟨⟨⟩,ao⟩;revert ag h X;refine eE ao ?_;intro ag h X;refine kR ?_;exact mD Ae X
def cL (hw:st.WF K m) (hm:m<=1000000) (M:(40<=k/\k<=49)\/k=56) (N:(Nd.mk k n s l).isStmt=true) (X:(Nd.mk k n s l).wf) (hz:(Nd.mk k n s l).size<=1000000) (a:oA) (c0:Nat) (w:wD) (hs:rowSits S w l a) (h:StoreAt ρ κ w sb st) :
 Calls prog 195 #[pt sb,.agg #[.int .u8 k,.int .i64 n,str s,.slice a l.length c0]] w (StR ρ sb (st.run1 (A9 k) n s l).2 (st.run1 (A9 k) n s l).1 w):=by
 have G:=Ci _ _ hs;have HI:=gO (VB k Ab);have Y:(40<=A9 k/\A9 k<=49)\/A9 k=56:=by
  rcases M with h|rfl
  . exact gP (Tb h)
  . exact gQ rfl
 have O:(Nd.mk (A9 k) n s l).isStmt=true:=by
  rcases M with h|rfl
  . exact VG h N
  . exact N
 have U:(Nd.mk (A9 k) n s l).wf:=by
  obtain ⟨-,-,Z⟩:=X;exact ⟨Ab,Ab,Z⟩
 have HD:=gO (λw1 Z h2=>eR (ρ:=ρ) (κ:=κ) (sb:=sb) hw hm Y O U hz a c0 w1 (S:=(· < w.heap.size)) Z h2);have aa:=h.fresh;have hn:∀k,w.heap.size<=k -> ¬MV (ρ k):=λk M e=>by rw [aa k M] at e;exact e
 have F:Fr (λk=>MV (ρ k)) w w:=lZ _ w;generalize st.run1 (A9 k) n s l=r at *;generalize A9 k=k2 at *;refine Ad func195 ntmps195 rfl rfl (cS (eB [_,_,_,_] ?_));intro b1 w2 h4 x5 p6 z7;revert h G F;refine eE x5 ?_;intro h G F;refine kC (HI.out _) ?_;rintro _ w9 ⟨⟨⟩,x8⟩;revert h4 h G F;refine eY x8 ?_;intro ae h4 h G F;refine C1 Pg (eV [_] [_,_,_,_] h4 ?_);intro af ag V ah;have h:=StoreAt.fr h V (λk M=>hn k (by have:k=_:=M;omega));revert G F;refine eF V ?_;intro G F;refine kQ (HD.out _ Ae Ae) ?_;rintro _ ai ⟨ac,ad,⟨⟩,aj,ak,ab⟩;have F:=l8 F ab (λk M=>gP M);refine kR ?_;exact ⟨_,_,rfl,Ro.low Ae Ab,Ae,F⟩
end
section
variable {P:Program} {n:Nat} {l:Sl} {ty:TypeId} {Q:Exit->Act->wD->Prop} {ops:Array Oper} {rest:List Oper} {pos:String} {after:Array Edge} {B:List PanicEntry->wD->Prop}
def Na {f:FuncId} {xs:List Operand} {tys:Array TypeId} {vs:lV} {d:Option Nat} (U:BZ P f=true) (G:evs l xs=some vs) (C:Calls P f vs.toArray w (UD (λ_ _=>False) B)) (M:∀c w1,B c w1->QW n Q (.panic c) l w1) :
 LW P n ops Q (⟨d,.call ⟨.value (.func f),xs.toArray,tys⟩,ty,pos,after,none⟩::rest) l w:=by
 unfold LW;unfold QW at M;intro a N;unfold wpList;rw [AH (Bd rfl)];left;have O:=AP (n:=n) (tys:=tys) (ty:=ty) U G C (λ_ _ h=>h.elim);unfold N0 at O;exact O a _ _ _ _ _ _ N (λv w1 h=>h.elim) (λc w1 h=>M c w1 h a N)
end
def Nb {P:Program} {n:Nat} {l:Sl} {S:wD->Prop} {tab:Tab} {t ty sz:Nat} {x y:Operand} {p q:Bool} (T:TabOk P tab) (G:AB tab t=some (.bool,sz)) (M:ev l x=some (.bool p)) (N:ev l y=some (.bool q)):Br P n l S (.binOp .neq t x y d) ty (.bool (decide (p≠q))):=by
 unfold Br;intro _ w O pos after g h _;have U:(eqGuard .neq t x y (.bool p) (.bool q)).run P w = .ok () w:=by unfold eqGuard;simp
 have V:P.underlying t=some .bool:=(T _ _ _ G).under;have X:(Op.equal t (.bool p) (.bool q)).run P w = .ok (p==q) w:=by
  show (Op.equalIn (9999+1) t (.bool p) (.bool q)).run P w=_;unfold Op.equalIn;simp [AD V,gY]
 simp [execOp,h.ev M,h.ev N,U,X,binOp];cases p<;>cases q<;>rfl
def Nc (e:Int):List PanicEntry:=[{ v:=.iface 240 (.agg #[.int .i64 e]),recovered:=false }]
structure RC where
 rb:Nat
 sb:Nat
 eb:Nat
 ec:Nat
 g:PG
 va:oA
 vc:Nat
 pa:oA
 pc:Nat
 ma:oA
 mc:Nat
 fuel:Nat
 S:nP
def eU (r:Rl):Prop:=MV r\/r = .other 0\/r = .other 1
structure RunAt (c:RC) (P:nP) (ρ:Nat->Rl) (κ:Nat->Nat) (w:wD) (r:Rn):Prop where
 role:ρ c.rb = .other 0
 rolE:ρ c.eb = .other 1
 rem:r.rem<=c.fuel
 blk:Blk w c.rb [.slice c.va c.g.vars.length c.vc,.slice c.pa c.g.procs.length c.pc,.int .u8 c.g.main.kind,.int .i64 c.g.main.num,str c.g.main.name,.slice c.ma c.g.main.kids.length c.mc,.pointer (some ⟨c.sb,0,none⟩),.int .i64 ((c.fuel:Int)-r.rem),.int .i64 c.fuel,.slice (some ⟨c.eb,0,none⟩) c.g.procs.length c.ec]
 ent:∃es:List Int,es.length=c.g.procs.length/\Blk w c.eb (AZ es)
 st:StoreAt ρ κ w c.sb r.st
 wf:∃K,r.st.WF K (1000+(c.fuel-r.rem))
 procs:PDs c.S w c.g.procs c.pa
 sub:∀k,c.S k->P k
 off:∀k,P k -> ¬eU (ρ k)/\k<w.heap.size
section
variable {c:RC} {ρ ρ':Nat->Rl} {κ κ':Nat->Nat} {T:nP}
def PDs.frS {S:nP} {l:List PD} {a:oA} (h:PDs S w l a) (x:Fr T w w') (G:∀b,S b -> ¬T b):PDs S w' l a:=
 h.mono aFh (λb _ _ _ M ⟨N,pc,ba,bc,h1,h2,h3⟩=>⟨N,pc,ba,bc,h1.fr x (G b M),h2.fr x G,lW h3 x G⟩)
def RunAt.ext (h:RunAt c P ρ κ w r) (x:Ext w w'):RunAt c P ρ κ w' r:=by
 obtain ⟨O,U,V,X,⟨es,Y,Z⟩,h7,h8,h9,M,G⟩:=h;have hs:=x.size;exact ⟨O,U,V,X.ext x,⟨es,Y,Z.ext x⟩,h7.ext x,h8,h9.ext x,M,λk N=>⟨(G k N).1,by have:=(G k N).2;omega⟩⟩
instance  : LfE w w' (RunAt c P ρ κ w r) (RunAt c P ρ κ w' r):=⟨λx h=>Bk.RunAt.ext h x⟩
def Run (c:RC) (P:nP) (w:wD) (r:Rn):Prop:= ∃ ρ κ,RunAt c P ρ κ w r
def Run.ext (h:Run c P w r) (x:Ext w w'):Run c P w' r:=h.imp λ_ ⟨κ,h⟩=>⟨κ,h.ext x⟩
instance  : LfE w w' (Run c P w r) (Run c P w' r):=⟨λx h=>Bk.Run.ext h x⟩
def Run.blk (h:Run c P w r):Blk w c.rb [.slice c.va c.g.vars.length c.vc,.slice c.pa c.g.procs.length c.pc,.int .u8 c.g.main.kind,.int .i64 c.g.main.num,str c.g.main.name,.slice c.ma c.g.main.kids.length c.mc,pt c.sb,.int .i64 ((c.fuel:Int)-r.rem),.int .i64 c.fuel,.slice (some ⟨c.eb,0,none⟩) c.g.procs.length c.ec]:=by
 obtain ⟨_,_,h⟩:=h;exact h.blk
def Run.rem (h:Run c P w r):r.rem<=c.fuel:=by
 obtain ⟨_,_,h⟩:=h;exact h.rem
def Cn (P:nP) (w w':wD):nP:=λk=>P k\/(w.heap.size<=k/\k<w'.heap.size)
def Run.more (h:Run c P w r) (x:Ext w w'):Run c (Cn P w w') w' r:=by
 obtain ⟨ρ,κ,h⟩:=h;obtain ⟨O,U,V,X,Y,Z,h7,h8,h9,M⟩:=h.ext x;refine ⟨ρ,κ,O,U,V,X,Y,Z,h7,h8,λk G=>gP (h9 k G),λk G=>?_⟩;rcases G with G|⟨G,N⟩
 . exact M k G
 . refine ⟨λe=>?_,N⟩;rw [h.st.fresh k G] at e;rcases e with e|e|e
   . exact e
   . cases e
   . cases e
def Run.less (h:Run c P' w r) (M:∀k,c.S k->P k) (N:∀k,P k->P' k):Run c P w r:=by
 obtain ⟨ρ,κ,O,U,V,X,Y,Z,h7,h8,h9,G⟩:=h;exact ⟨ρ,κ,O,U,V,X,Y,Z,h7,h8,M,λk hk=>G k (N k hk)⟩
def Run.sub (h:Run c P w r):∀k,c.S k->P k:=by
 obtain ⟨_,_,h⟩:=h;exact h.sub
def RunA (c:RC) (P:nP) (X:Except Int Rn) (w:wD):Ending->wD->Prop:=λe w'=> ∃r,e = .returned (.tuple #[])/\X = .ok r/\Run c P w' r/\Fr (λk=> ¬P k) w w'
def RunA.ret (h:RunA c P Z w e w'):∃v,e = .returned v:=by
 obtain ⟨_,h,-⟩:=h;exact ⟨_,h⟩
def RF {α:Type} (P:nP) (X:Except Int α) (w:wD) (ch:List PanicEntry) (w':wD):Prop:= ∃er,X = .error er/\ch=Nc er/\Fr (λk=> ¬P k) w w'
def DF (c:RC) (P:nP) (X:Except Int Rn) (w:wD):Ending->wD->Prop:=UD (RunA c P X w) (RF P X w)
def ValA (c:RC) (P:nP) (X:Except Int (Bool×Rn)) (w:wD):Ending->wD->Prop:=λe w'=> ∃u r,e = .returned (.bool u)/\X = .ok (u,r)/\Run c P w' r/\Fr (λk=> ¬P k) w w'
def ValA.ret {X:Except Int (Bool×Rn)} (h:ValA c P X w e w'):∃v,e = .returned v:=by
 obtain ⟨_,_,h,-⟩:=h;exact ⟨_,h⟩
def ZN (c:RC) (P:nP) (X:Except Int (Bool×Rn)) (w:wD):Ending->wD->Prop:=UD (ValA c P X w) (RF P X w)
def ExpA (X:Except Int Int) (w:wD):Ending->wD->Prop:=λe w'=> ∃v,e = .returned (.int .i64 v)/\X = .ok v/\Ext w w'
def ExpA.ret {X:Except Int Int} (h:ExpA X w e w'):∃v,e = .returned v:=by
 obtain ⟨_,h,-⟩:=h;exact ⟨_,h⟩
def eW (X:Except Int Int) (w:wD) (ch:List PanicEntry) (w':wD):Prop:= ∃er,X = .error er/\ch=Nc er/\Ext w w'
def Tc (e:Int) (G:e≠0) (w:wD):Calls prog 209 #[.int .i64 e] w (UD (λ_ _=>False) (λh w'=>h=Nc e/\Ext w w')):=by
 have X:=Ne w;refine Ad func209 ntmps209 rfl rfl (eK ?_);refine C1 (xB [_]) (C1 (UE AU rfl) (Wv rfl (AF ?_)));exact gQ ⟨_,rfl,rfl,X⟩
def Stp.WF.mono {K:List (Int×Int)} {m':Nat} (h:st.WF K m) (G:m<=m'):st.WF K m':=⟨h.len,h.base,h.calls,h.cell,h.nc,λf M=>jg (h.vb f M) G⟩
def Run.tick (h:Run c P w r) (hr:0<r.rem) (x:Fr (· = c.rb) w w') (X:Blk w' c.rb [.slice c.va c.g.vars.length c.vc,.slice c.pa c.g.procs.length c.pc,.int .u8 c.g.main.kind,.int .i64 c.g.main.num,str c.g.main.name,.slice c.ma c.g.main.kids.length c.mc,pt c.sb,.int .i64 ((c.fuel:Int)-r.rem+1),.int .i64 c.fuel,.slice (some ⟨c.eb,0,none⟩) c.g.procs.length c.ec]):Run c P w' ⟨r.st,r.rem-1⟩/\Fr (λk=> ¬P k) w w':=by
 obtain ⟨ρ,κ,O,U,h3,h4,⟨es,Y,Z⟩,h7,⟨K,h8⟩,h9,N,M⟩:=h;have hs:=x.size;have V:∀k,P k -> ¬k=c.rb:=λk G e=>(M k G).1 (by rw [e,O];exact gQ (gP rfl))
 refine ⟨⟨ρ,κ,O,U,by simp only;omega,?_,⟨es,Y,Z.fr x (λe=>by rw [show c.eb=c.rb from e,O] at U;simp at U)⟩,h7.fr x (λk G e=>by rw [show k=c.rb from G,O] at e;exact e),⟨K,h8.mono (by simp only;omega)⟩,h9.frS x (λk G e=>V k (N k G) e),N,λk G=>⟨(M k G).1,by have:=(M k G).2;omega⟩⟩,x.weaken (λk G e=>V k e G)⟩;simp only;rw [show ((c.fuel:Int)-((r.rem-1:Nat):Int))=(c.fuel:Int)-r.rem+1 by omega];exact X
def Nf (hc:c.fuel<=10000) (w:wD) (h:Run c P w r):Calls prog 190 #[pt c.rb] w (DF c P (A4 r) w):=by
 have X:=Ne w;have N:=h.blk;have ab:=h.rem;have HI:=gO h;clear h;by_cases Y:r.rem=0
 . have e:A4 r = .error 18:=by unfold A4;rw [AH Y]
   rw [e];rw [Y] at N;have HF:=gO (λw1=>Tc 18 B7 w1);refine Ad func190 ntmps190 rfl rfl ?_;refine eK ?_;refine Aq (λO=>Ext w O) 8 (.pure 0 (.pure 1 (.pure 2 (.pure 3 (.pure 4 (.pure 5 (.pure 6 (.pure 7 .tail)))))))) mixed AU (Aa (Aa Ag)) ?_;intro w1 x2 _;have U:(λO=>Ext w O) w1:=x2;simp only at U;have G:=N;have X:=X.ext x2;refine ⟨U,?_⟩;refine Tq rfl Mv (Tq rfl Pn (Tq rfl Pf (Tq rfl (Db G) (Tq rfl Mv (Tq rfl Pn (Tq rfl Pf (Tq rfl (Db G) ?_)))))));refine Ar rfl (C1 V6 (cT (TM (Al (Na AU rfl (HF.out _) ?_)))));intro c5 w6 q7;refine AI (AF ?_);exact gQ ⟨_,rfl,18,rfl,q7.1,lX (X.trans q7.2)⟩
 . have e:A4 r = .ok ⟨r.st,r.rem-1⟩:=by unfold A4;rw [At Y]
   rw [e];have F:=lZ (· = c.rb) w;refine Ad func190 ntmps190 rfl rfl ?_;refine eK ?_;refine Aq (λO=>Ext w O) 8 (.pure 0 (.pure 1 (.pure 2 (.pure 3 (.pure 4 (.pure 5 (.pure 6 (.pure 7 .tail)))))))) mixed AU (Aa (Aa Ag)) ?_;intro Z V _;have M:(λO=>Ext w O) Z:=V;simp only at M;have G:=N;revert N F;refine eE V ?_;intro N F;refine ⟨M,?_⟩;refine Tq rfl Mv (Tq rfl Pn (Tq rfl Pf (Tq rfl (Db G) (Tq rfl Mv (Tq rfl Pn (Tq rfl Pf (Tq rfl (Db G) ?_)))))));refine Ar rfl ?_;refine eK ?_;refine eV [_] [_,_,_,_,_,_,_,_,_,_] N ?_;intro ac ad aa _;clear N;have F:=F.fr aa Ab;refine Ak (Bm rfl ?_);have h9:=HI.out.tick Ab F Ae;exact gP ⟨_,rfl,rfl,h9.1,h9.2⟩
def Td (e:Int) (w:wD):Ending->wD->Prop:=UD (λen w'=>en = .returned (.tuple #[])/\e=0/\Ext w w') (λch w'=>e≠0/\ch=Nc e/\Ext w w')
def Iz (e:Int) (p:Value) (w:wD):Calls prog 191 #[p,.int .i64 e] w (Td e w):=by
 have X:=Ne w;by_cases G:e=0
 . subst G;refine Ad func191 ntmps191 rfl rfl (cS (C1 Mv (C1 V2 (cT (NH (Ao (Bm rfl ?_)))))));exact gP ⟨rfl,rfl,X⟩
 . have M:=gO (λw1=>Tc e G w1);refine Ad func191 ntmps191 rfl rfl (cS (C1 Mv (C1 V2 (cT (YO (Al (C1 Mv (Na AU rfl (M.out _) ?_))))))));intro N O h;refine AF ?_;exact gQ ⟨_,rfl,G,h.1,X.trans h.2⟩
def Ng {K:List (Int×Int)} {sb:Nat} (G:st.WF K m) (M:m<=1000000):Le st.look 220 [pt sb] (λw=>StoreAt ρ κ w sb st):=λs w N=>cG G M s w N.h
def cM (U:c.fuel<=10000) (t:Nd) (M:t.wf) (N:t.isExpr=true) (a:oA) (m:Nat) (S:nP) (w:wD) (O:t.sits S w a) (h:Run c P w r) :
 Calls prog 219 #[t.val a m,.func (.func 220) #[pt c.sb] #[]] w λe w'=>e = .returned (.tuple #[.bool (decide ((AW r.st.look t).1≠0)),.int .i64 (AW r.st.look t).2])/\Ext w w':=by
 obtain ⟨ρ,κ,h⟩:=h;obtain ⟨K,G⟩:=h.wf;exact ZK AU (Ng (ρ:=ρ) (κ:=κ) (sb:=c.sb) G Ab) t M N S a m w O (ET h.st)
def cO (U:c.fuel<=10000) (t:Nd) (M:t.wf) (N:t.isExpr=true) (a:oA) (m:Nat) (S:nP) (w:wD) (O:t.sits S w a) (h:Run c P w r) :
 Calls prog 221 #[t.val a m,.func (.func 220) #[pt c.sb] #[]] w (dQ (AW r.st.look t) w):=by
 obtain ⟨ρ,κ,h⟩:=h;obtain ⟨K,G⟩:=h.wf;exact PS AU (Ng (ρ:=ρ) (κ:=κ) (sb:=c.sb) G Ab) t M N S a m w O (ET h.st)
def Ui (hc:c.fuel<=10000) (t:Nd) (hw:t.wf) (hx:t.isExpr=true) (a:oA) (m:Nat) (S:nP) (w:wD) (hs:t.sits S w a) (h:Run c P w r) :
 Calls prog 208 #[pt c.rb,t.val a m] w (UD (ExpA (BD t r) w) (eW (BD t r) w)):=by
 have X:=Ne w;have M:=Cd _ _ hs;have HE:=gO (λw1 h1 h2=>cO (c:=c) (P:=P) (r:=r) hc t hw hx a m (· < w.heap.size) w1 h1 h2);have HC:=gO (λe w1=>Iz e (pt c.rb) w1);unfold Td at HC;have e1:BD t r=if (AW r.st.look t).2≠0 then .error (AW r.st.look t).2 else .ok (AW r.st.look t).1:=rfl
 rw [e1];clear hs e1;generalize AW r.st.look t=v at *;obtain ⟨k,n,s,l⟩:=t;refine Ad func208 ntmps208 rfl rfl ?_
 focus
  refine cS (eB [_,_,_,_] ?_);intro b1 w2 h4 x5 _ _;revert h X M;refine eE x5 ?_;intro h X M;refine eK ?_;refine Aq (λO=>Ext w2 O) 11 (.pure 0 (.pure 1 (.pure 2 (.pure 3 (.pure 4 (.pure 5 (.fork 6 (.pure 7 (.pure 8 (.pure 9 (.pure 10 .tail)))) .none))))))) mixed AU (Aa Ag) ?_;intro w8 x9 _;have G:(λO=>Ext w2 O) w8:=x9;simp only at G;have U:=h4;have V:=h;revert h X M;refine eE x9 ?_;intro h X M;refine ⟨G,?_⟩;refine Tq rfl (xL [_,_,_,_] (λO Y=>(l9 U Y))) ?_;refine eT ?_;refine Tq rfl (Ap Ac rfl rfl rfl (λO Y=>l7 (l9 (Run.blk V) Y) rfl)) (Tq rfl (EF rfl rfl) ?_);refine tC rfl rfl (HE.out _ Ae Ae) ?_;rintro _ ab ⟨⟨⟩,Z⟩;revert G X;refine eE Z ?_;intro G X;refine ⟨G,?_⟩;refine Tq rfl Mv (Tq rfl Px (Tq rfl Px (Tq rfl Pa ?_)));refine Ar rfl ?_;refine eK ?_;refine A3 (AP AU rfl (HC.out _ _) (λ_ _ h=>⟨_,h.1⟩)) rfl ?_ ?_;rotate_left;intro ac ad N
  rotate_right 1
  rintro _ ae ⟨⟨⟩,af,aa⟩;have X:=X.ext aa;refine kR ?_;rotate_left;refine AI (AF ?_);rotate_left
 . exact gP ⟨_,rfl,by rw [At Ab],X⟩
 . exact gQ ⟨_,rfl,v.2,by rw [AH N.1],N.2.1,X.trans N.2.2⟩
def PT (hc:c.fuel<=10000) (t:Nd) (hw:t.wf) (hx:t.isExpr=true) (a:oA) (m:Nat) (w:wD) (hs:t.sits P w a) (h:Run c P w r) :
 Calls prog 206 #[pt c.rb,t.val a m] w (ZN c P (BI t r) w):=by
 have X:=Ne w;have HR:=gO h;clear h;have e1:∀N,A4 r = .ok N->BI t r=if (AW N.st.look t).2≠0 then .error (AW N.st.look t).2 else .ok (decide ((AW N.st.look t).1≠0),N):=λN h1=>by
  unfold BI;rw [h1];by_cases hv:(AW N.st.look t).2≠0
  . simp only [ir,BD,AH hv]
  . simp only [ir,BD,At hv]
 have e2:∀er,A4 r = .error er->BI t r = .error er:=λer h1=>by unfold BI;rw [h1];rfl
 have HC:=gO (λe w1=>Iz e (pt c.rb) w1);unfold Td at HC;have HT:=λPP N w1 h1 h2=>cM (c:=c) (P:=PP) (r:=N) hc t hw hx a m P w1 h1 h2
 obtain ⟨k,n,s,l⟩:=t;change Calls prog _ #[_,.agg #[.int .u8 k,.int .i64 n,str s,.slice a l.length m]] w _;refine Ad func206 ntmps206 rfl rfl ?_;refine cS (eB [_,_,_,_] ?_);intro b1 w2 h4 x5 p6 z7;revert X hs;refine eE x5 ?_;intro X hs;refine C1 Pa (cT ?_);have h1:=HR.out.more X;have HS:=gO (λN w1 h=>Nf (c:=c) (P:=Cn P w w2) (r:=N) hc w1 h);unfold DF at HS;have HT:=gO (HT (Cn P w w2));have F:Fr (λk=> ¬P k) w w2:=lX X;clear X
 focus
  refine eK ?_;refine A3 (AP AU rfl (HS.out _ _ Ae) (λ_ _ h=>h.ret)) rfl ?_ ?_;rotate_left;intro am an ag
  rotate_right 1
  rintro _ V ⟨aa,⟨⟩,Y,G,ab⟩;revert h4 hs F;refine eF ab ?_;intro h4 hs F;refine eK ?_;refine Aq (λwz=>Ext V wz) 11 (.pure 0 (.pure 1 (.pure 2 (.pure 3 (.pure 4 (.pure 5 (.fork 6 (.pure 7 (.pure 8 (.pure 9 (.pure 10 .tail)))) .none))))))) mixed AU (Aa Ag) ?_;intro ac Z _;have M:(λwz=>Ext V wz) ac:=Z;simp only at M;have U:=G;have ad:=h4;revert G hs F;refine eE Z ?_;intro G hs F;refine ⟨M,?_⟩;refine Tq rfl (xL [_,_,_,_] (λwz hz=>(l9 ad hz))) ?_;refine eT ?_;refine Tq rfl (Ap Ac rfl rfl rfl (λwz hz=>l7 (l9 (Run.blk U) hz) rfl)) (Tq rfl (EF rfl rfl) ?_);refine tC rfl rfl (HT.out _ _ Ae Ae) ?_;rintro _ ah ⟨⟨⟩,ae⟩;revert M G F;refine eE ae ?_;intro M G F;refine ⟨M,?_⟩;refine Tq rfl Mv (Tq rfl Px (Tq rfl Px (Tq rfl Pa ?_)));refine Ar rfl ?_;refine eK ?_;refine A3 (AP AU rfl (HC.out _ _) (λ_ _ h=>⟨_,h.1⟩)) rfl ?_ ?_;rotate_left;intro ai aj O
  rotate_right 1
  rintro _ ak ⟨⟨⟩,al,af⟩;revert G F;refine eE af ?_;intro G F;refine kR ?_;rotate_left;refine AI (AF ?_);rotate_left;refine AI (AF ?_);rotate_left
 . exact gP ⟨_,aa,rfl,by rw [e1 _ Y,At Ab],G.less HR.out.sub (λk=>gP),F⟩
 . exact gQ ⟨_,rfl,_,by rw [e1 _ Y,AH O.1],O.2.1,F.ext O.2.2⟩
 . obtain ⟨er,g1,g2,g3⟩:=ag;exact gQ ⟨_,rfl,er,e2 _ g1,g2,F.fr g3 (λk hk=>gP (λh=>hk (gP h)))⟩
def RG (hc:c.fuel<=10000) (G:Bool) (t:Nd) (hw:t.wf) (hx:t.isExpr=true) (a:oA) (m:Nat) (w:wD) (hs:t.sits P w a) (h:Run c P w r) :
 Calls prog 207 #[pt c.rb,t.val a m,.bool G] w (DF c P (Bj t G r) w):=by
 have X:=Ne w;have HR:=gO h;have e1:∀q r1,BI t r = .ok (q,r1)->Bj t G r=if q≠G then .error 15 else .ok r1:=λq r1 O=>by
  unfold Bj;rw [O];rfl
 have e2:∀U,BI t r = .error U->Bj t G r = .error U:=λU O=>by unfold Bj;rw [O];rfl
 have HF:=gO (λw1=>Tc 15 B7 w1);have HH:=λPP w1 O h2=>PT (c:=c) (P:=PP) (r:=r) hc t hw hx a m w1 O h2
 obtain ⟨k,n,s,l⟩:=t;change Calls prog _ #[_,.agg #[.int .u8 k,.int .i64 n,str s,.slice a l.length m],_] w _;refine Ad func207 ntmps207 rfl rfl (cS (eB [_,_,_,_] ?_));intro b1 w2 h4 x5 _ _;revert X hs;refine eE x5 ?_;intro X hs;refine cT ?_;have O:=HR.out.more X;have HH:=gO (HH (Cn P w w2));unfold ZN at HH;have F:Fr (λk=> ¬P k) w w2:=lX X
 focus
  refine eK ?_;refine A3 (AP AU rfl (HH.out _ (l6 Ae (λb h=>gP h)) Ae) (λ_ _ h=>h.ret)) rfl ?_ ?_;rotate_left;intro ag ah ab
  rotate_right 1
  rintro _ ac ⟨ad,V,⟨⟩,M,Y,Z⟩;have F:=l8 F Z (λk hk=>gP (λh=>hk (gP h)));refine C1 Mv (C1 (Nb Ac rfl rfl rfl) (cT (BS rfl (λaa=>?_) (λaa=>?_))));refine Al (Na AU rfl (HF.out _) ?_);intro ae af N;refine AF ?_;rotate_left;refine Ao (Bm rfl ?_);rotate_left;refine AI (AF ?_);rotate_left
 . exact gQ ⟨_,rfl,15,by rw [e1 _ _ M,AH Ae],N.1,F.ext N.2⟩
 . exact gP ⟨V,rfl,by rw [e1 _ _ M,At (λh=>h Ae)],Y.less HR.out.sub (λk=>gP),F⟩
 . obtain ⟨U,g1,g2,g3⟩:=ab;exact gQ ⟨_,rfl,U,e2 _ g1,g2,F.fr g3 (λk hk=>gP (λh=>hk (gP h)))⟩
end
def Kr {P:Program} {n:Nat} {l:Sl} {tab:Tab} {sz:Nat} {fn:Func} {R:Ending->wD->Prop} {N b O G b':Nat} {sk V:Sk} {vs M:lV} (h:fn.results = #[.cell m N,.cell O G]) (T:TabOk P tab) (ht:AB tab N=some (sk,sz)) (X:AB tab G=some (V,d)) (hs:sk.agg=true) (aa:V.agg=true)
 (hv:look l m=some (pt b)) (ab:look l O=some (pt b')) (hb:Blk w b vs) (ac:Blk w b' M) (hl:vs.length=sz) (ad:M.length=d) (hR:R (.returned (.tuple #[.agg vs.toArray,.agg M.toArray])) w):QW n (bodyPost P fn R) .ret l w:=by
 unfold QW;intro a ha;refine ⟨ha.defers,.tuple #[.agg vs.toArray,.agg M.toArray],?_,hR⟩;have e:(loadVar N ⟨b,0,none⟩).run P w = .ok (.agg vs.toArray) w:=by
  simp only [ij,iC,gY,loadVar,CB (T _ _ _ ht),hs,if_true,Ca (T _ _ _ ht)];rw [<-hl,CD hb.row]
 have e':(loadVar G ⟨b',0,none⟩).run P w = .ok (.agg M.toArray) w:=by
  simp only [ij,iC,gY,loadVar,CB (T _ _ _ X),aa,if_true,Ca (T _ _ _ X)];rw [<-ad,CD ac.row]
 have Y:=ha.has m _ hv;have Z:=ha.has O _ ab;simp only [jf] at Y Z;simp [results,h,Y,Z,e,e',asAddr]
section
variable {c:RC} {T:nP}
def RH (c:RC) (P:nP) (rem:Nat) (x:Int×Stp) (w:wD):Ending->wD->Prop:=λe w'=>e = .returned (.int .i64 x.1)/\Run c P w' ⟨x.2,rem⟩/\Fr (λk=> ¬(P k\/k=c.rb)) w w'
def RunAt.store {ρ:Nat->Rl} {κ:Nat->Nat} (h:RunAt c P ρ κ w r) {x:Int} (U:∃K,st.WF K (1000+(c.fuel-r.rem))) (hs:StR ρ c.sb st x w e w'):RH c P r.rem (x,st) w e w':=by
 obtain ⟨ρ',κ',h1,V,h3,N⟩:=hs;obtain ⟨k1,X,k3,Y,⟨es,k5,Z⟩,k7,k8,k9,O,M⟩:=h;have hz:=N.size;have hP:∀k,P k -> ¬MV (ρ k):=λk G e=>(M k G).1 (gP e)
 refine ⟨h1,⟨ρ',κ',by rw [V _ Y.lt,k1],by rw [V _ Z.lt,X],k3,Y.fr N (λe=>by rw [k1] at e;exact e),⟨es,k5,Z.fr N (λe=>by rw [X] at e;exact e)⟩,h3,U,k9.frS N (λk G e=>hP k (O k G) e),O,λk G=>⟨?_,by have:=(M k G).2;omega⟩⟩,N.weaken (λk G e=>by rcases e with e|e;exact hP k e G;rw [e,k1] at G;exact G)⟩;rw [V _ (M k G).2];exact (M k G).1
def cP (Z:c.fuel<=10000) (v:VD) (M:v.kind=1\/v.kind=3) (O:v.len=0) (x:Int) (w:wD) (h:Run c P w r) (hr:r.rem<c.fuel) (U:∃K,r.st.WF K (1000+m)) (V:m<c.fuel-r.rem) :
 Calls prog 192 #[pt c.sb,v.val,.int .i64 x] w (RH c P r.rem (r.st.opens v x) w):=by
 obtain ⟨ρ,κ,h⟩:=h;obtain ⟨K,N⟩:=U;refine i7 (cH N Ab v M O x w h.st) λe w' X=>h.store ?_ X
 obtain ⟨Y,G⟩:=N.opens M x;exact ⟨Y,G.mono Ab⟩
def Uj (N:c.fuel<=10000) (s:lB) (x:Int) (w:wD) (h:Run c P w r):Calls prog 193 #[pt c.sb,str s,.int .i64 x] w (RH c P r.rem (r.st.closes s x) w):=by
 obtain ⟨ρ,κ,h⟩:=h;obtain ⟨K,G⟩:=h.wf;exact i7 (ZH G Ab s x w h.st) λe w' M=>h.store ⟨K,G.closes s x⟩ M
def ZO (N:c.fuel<=10000) (w:wD) (h:Run c P w r):Calls prog 213 #[pt c.sb] w (RH c P r.rem (r.st.leaves) w):=by
 obtain ⟨ρ,κ,h⟩:=h;obtain ⟨K,G⟩:=h.wf;exact i7 (ZG G w h.st) λe w' M=>h.store ⟨K,G.leaves⟩ M
def ZP (hc:c.fuel<=10000) (ps:List VD) (G:List lB) (X:ps.length<=1000) (M N:oA) (O U:Nat) (w:wD) (h:Run c P w r) (Y:VDs P w ps M) (Z:Rows P w (G.map str) N) :
 Calls prog 212 #[pt c.sb,.slice M ps.length O,.slice N G.length U] w (RH c P r.rem (r.st.enters ps G) w):=by
 obtain ⟨ρ,κ,h⟩:=h;obtain ⟨K,V⟩:=h.wf;exact i7 (ZI (S:=P) V Ab ps G Ab (λk hk e=>(h.off k hk).1 (gP e)) M N O U w h.st Y Z) λe w' hs=>h.store ⟨K,V.enters Ab G⟩ hs
def gh (Y:c.fuel<=10000) (V:(40<=k/\k<=49)\/k=56) (G:(Nd.mk k n s l).isStmt=true) (M:(Nd.mk k n s l).wf) (X:(Nd.mk k n s l).size<=1000000) (a:oA) (O:Nat) (w:wD) (N:rowSits P w l a) (h:Run c P w r) :
 Calls prog 196 #[pt c.sb,.agg #[.int .u8 k,.int .i64 n,str s,.slice a l.length O]] w (RH c P r.rem (r.st.run1 k n s l) w):=by
 obtain ⟨ρ,κ,h⟩:=h;obtain ⟨K,U⟩:=h.wf;exact i7 (eR U Ab V G M X a O w N h.st) λe w' N=>h.store ⟨K,U.run1 k n s l⟩ N
def cQ (Y:c.fuel<=10000) (V:(40<=k/\k<=49)\/k=56) (G:(Nd.mk k n s l).isStmt=true) (M:(Nd.mk k n s l).wf) (X:(Nd.mk k n s l).size<=1000000) (a:oA) (O:Nat) (w:wD) (N:rowSits P w l a) (h:Run c P w r) :
 Calls prog 195 #[pt c.sb,.agg #[.int .u8 k,.int .i64 n,str s,.slice a l.length O]] w (RH c P r.rem (r.st.run1 (A9 k) n s l) w):=by
 obtain ⟨ρ,κ,h⟩:=h;obtain ⟨K,U⟩:=h.wf;exact i7 (cL U Ab V G M X a O w N h.st) λe w' N=>h.store ⟨K,U.run1 (A9 k) n s l⟩ N
def EU {G:Rn} (h:Run c P' w' G) (F:Fr (λk=> ¬P k) w w') (M:∀k,c.S k->P k) (N:∀k,P k->P' k) (e:Z = .ok G):DF c P Z w (.returned (.tuple #[])) w':=gP ⟨G,rfl,e,h.less M N,F⟩
def Bz {α:Type} {X:Except Int α} {w1:wD} {M:List PanicEntry} (q:RF P' X w1 M w') (F:Fr (λk=> ¬P k) w w1) (N:∀k,P k->P' k) (e:∀G,X = .error G->Z = .error G):DF c P Z w (.panicked M) w':=by
 obtain ⟨G,O,U,V⟩:=q;exact gQ ⟨_,rfl,G,e _ O,U,F.fr V (λk Y=>gP (λh=>Y (N k h)))⟩
def RI {i:Nat} (h:i<l.length):l[i]? = some (Bu l i):=by
 unfold Bu;rw [gT,gN h];rfl
def EndsA (P:nP) (f l:Nd) (w:wD):Ending->wD->Prop:=λe w'=> ∃a m a' m',e = .returned (.tuple #[f.val a m,l.val a' m'])/\f.sits P w' a/\l.sits P w' a'/\Ext w w'
def EndsA.ret {f l:Nd} (h:EndsA P f l w e w'):∃v,e = .returned v:=by
 obtain ⟨_,_,_,_,h,-⟩:=h;exact ⟨_,h⟩
def Te (hl:2<=l.length) (ch:l.length<=1000000) (aa:Bool) (a:oA) (c0:Nat) (w:wD) (hs:rowSits P w l a) (Z:∀k,P k->k<w.heap.size) :
 Calls prog 205 #[.agg #[.int .u8 k,.int .i64 n,str s,.slice a l.length c0],.bool aa] w (EndsA P (if aa then Bu l (l.length-1) else Bu l 0) (if aa then Bu l 0 else Bu l (l.length-1)) w):=by
 have X:=Ne w;obtain ⟨kb,ko,rfl,ci,ak⟩:=BG hs (by intro e;subst e;simp at hl);obtain ⟨xa,xc,rx,O⟩:=ak 0 _ (RI Ab);obtain ⟨ya,yc,ry,U⟩:=ak (l.length-1) _ (RI Ab);clear ak hs;generalize Bu l 0=x at *;generalize Bu l (l.length-1)=y at *;obtain ⟨xk,xn,xs,xl⟩:=x;obtain ⟨yk,yn,ys,yl⟩:=y;replace rx:Row w ⟨kb,ko+0*4,none⟩ [.int .u8 xk,.int .i64 xn,str xs,.slice xa xl.length xc]:=rx;have hi:((l.length:Int)-1).toNat=l.length-1:=by omega
 replace ry:Row w ⟨kb,ko+((l.length:Int)-1).toNat*4,none⟩ [.int .u8 yk,.int .i64 yn,str ys,.slice ya yl.length yc]:=by rw [hi];exact ry
 refine Ad func205 ntmps205 rfl rfl ?_
 focus
  refine cS (eB [_,_,_,_] ?_);intro b1 w2 h4 x5 p6 z7;revert X O U rx ry;refine eE x5 ?_;intro X O U rx ry;refine eA [_,_,_,_] ?_;intro b8 w9 M bu cj ck;revert h4 X O U rx ry;refine eE bu ?_;intro h4 X O U rx ry;refine eA [_,_,_,_] ?_;intro cl bf G bv cm cn;revert M h4 X O U rx ry;refine eE bv ?_;intro M h4 X O U rx ry;refine eK ?_;refine Aq (λY=>Ext bf Y) 15 (.pure 0 (.pure 1 (.pure 2 (.pure 3 (.pure 4 (.pure 5 (.pure 6 (.pure 7 (.pure 8 (.pure 9 (.pure 10 (.pure 11 (.fork 12 (.fork 13 (.fork 14 .tail .none) .none) (.fork 13 (.fork 12 (.fork 14 .tail .none) .none) .none)))))))))))))) mixed AU (Aa Ag) ?_;intro bw bg _;have N:(λY=>Ext bf Y) bw:=bg;simp only at N;have b7:=h4;have bh:=rx;have bi:=ry;revert G M X O U;refine eY bg ?_;intro co G M X O U;refine ⟨N,?_⟩;refine eT ?_;refine Tq rfl (Dy [_,_,_,_] Ac rfl rfl rfl (λY hz=>(l5 bh hz)) rfl rfl) ?_;refine eT ?_;refine Tq rfl (AL rfl rfl (gX _ Ab)) (Tq rfl Pi (Tq rfl (BC Ac rfl rfl rfl (λY hz=>(l5 bi hz)) rfl) ?_));refine AE rfl (Bb CJ rfl) rfl ?_ aFh ?kr28;rintro _ cp ⟨cq,rfl,ap⟩;have aq:=ap.blk;dsimp only at aq;have bx:=ap.ext;have cr:=ap.pos;have ct:=ap.size;revert N G M X O U;refine eE bx ?_;intro N G M X O U;refine ⟨N,?_⟩;refine AE rfl (Bb CJ rfl) rfl ?_ aFh AC;rintro _ cu ⟨cv,rfl,ar⟩;have au:=ar.blk;dsimp only at au;have bz:=ar.ext;have cw:=ar.pos;have cx:=ar.size;revert aq N G M X O U;refine eE bz ?_;intro aq N G M X O U;refine ⟨N,?_⟩;refine Dm [_,_,_,_] [_,_,_,_] rfl Ac rfl rfl rfl rfl rfl rfl aq rfl rfl ?_ AC;intro cy a5;have av:=a5.blk;have a6:=a5.fr;have cz:=a5.size;revert au N G M X;refine eF a6 ?_;intro au N G M X;have O:=lW O a6 (λb V h=>by (have h1:=Z b V;have e:b=_:=h;omega));have U:=lW U a6 (λb V h=>by (have h1:=Z b V;have e:b=_:=h;omega));refine ⟨N,?_⟩;refine Ar rfl (eS [_,_,_,_] au ?_);intro aw bj a7 z53;revert av G M X;refine eF a7 ?_;intro av G M X;have O:=lW O a7 (λb V h=>by (have h1:=Z b V;have e:b=_:=h;omega));have U:=lW U a7 (λb V h=>by (have h1:=Z b V;have e:b=_:=h;omega));refine cT (Aj ?_);rotate_left;refine AE rfl (Bb CJ rfl) rfl ?_ aFh AC;rintro _ c1 ⟨c2,rfl,ax⟩;have aj:=ax.blk;dsimp only at aj;have b0:=ax.ext;have c3:=ax.pos
  have c4:=ax.size;revert N G M X O U;refine eE b0 ?_;intro N G M X O U;refine ⟨N,?_⟩;refine AE rfl (Bb CJ rfl) rfl ?_ aFh AC;rintro _ c5 ⟨c6,rfl,ay⟩;have bk:=ay.blk;dsimp only at bk;have b2:=ay.ext;have c7:=ay.pos;have c8:=ay.size;revert aj N G M X O U;refine eE b2 ?_;intro aj N G M X O U;refine ⟨N,?_⟩;refine Dm [_,_,_,_] [_,_,_,_] rfl Ac rfl rfl rfl rfl rfl rfl bk rfl rfl ?_ AC;intro c9 a8;have az:=a8.blk;have a9:=a8.fr;have da:=a8.size;revert aj N G M X;refine eF a9 ?_;intro aj N G M X;have O:=lW O a9 (λb V h=>by (have h1:=Z b V;have e:b=_:=h;omega));have U:=lW U a9 (λb V h=>by (have h1:=Z b V;have e:b=_:=h;omega));refine ⟨N,?_⟩;refine Ar rfl (eS [_,_,_,_] aj ?_);intro a0 bl ba db;revert az G M X;refine eF ba ?_;intro az G M X;have O:=lW O ba (λb V h=>by (have h1:=Z b V;have e:b=_:=h;omega));have U:=lW U ba (λb V h=>by (have h1:=Z b V;have e:b=_:=h;omega));refine cT (Aj ?_);rotate_left
 . cases aa
   . refine eK ?_;refine Aq (λY=>Fr (λx=>x=b8) aw Y) 3 (.pure 0 (.pure 1 (.fork 2 .tail .none))) mixed AU (Aa Ag) ?_;intro b3 bm _;have ab:(λY=>Fr (λx=>x=b8) aw Y) b3:=lX bm;simp only at ab;have af:=bj;have ag:=av;revert G M X O U;refine eE bm ?_;intro G M X O U;refine ⟨ab,?_⟩;refine Tq rfl (xL [_,_,_,_] (λY hz=>(lY ag hz (by first|omega|(dsimp only;omega))))) (Tq rfl (xL [_,_,_,_] (λY hz=>(lY af hz (by first|omega|(dsimp only;omega))))) ?_);refine Dm [_,_,_,_] [_,_,_,_] rfl Ac rfl rfl rfl rfl rfl rfl M rfl rfl ?_ AC;intro dc bn;have a1:=bn.blk;have bb:=bn.fr;revert ab G X;refine eF bb ?_;intro ab G X;have O:=lW O bb (λb V h=>by (have h1:=Z b V;have e:b=_:=h;omega));have U:=lW U bb (λb V h=>by (have h1:=Z b V;have e:b=_:=h;omega));refine ⟨ab,?_⟩;refine Ar rfl (eS [_,_,_,_] G ?_);intro b9 ca al _;revert a1 X;refine eF al ?_;intro a1 X;have O:=lW O al (λb V h=>by (have h1:=Z b V;have e:b=_:=h;omega));have U:=lW U al (λb V h=>by (have h1:=Z b V;have e:b=_:=h;omega));refine cT (AR ?_);refine Kr rfl Ac rfl rfl rfl rfl rfl rfl Ae Ae rfl rfl ?_;exact ⟨_,_,_,_,rfl,O,U,X⟩
   . refine eK ?_;refine Aq (λY=>Fr (λx=>x=b8) aw Y) 3 (.pure 0 (.pure 1 (.fork 2 .tail .none))) mixed AU (Aa (Aa Ag)) ?_;intro b4 bo _;have ac:(λY=>Fr (λx=>x=b8) aw Y) b4:=lX bo;simp only at ac;have af:=bj;have ag:=av;revert G M X O U;refine eE bo ?_;intro G M X O U;refine ⟨ac,?_⟩;refine Tq rfl (xL [_,_,_,_] (λY hz=>(lY af hz (by first|omega|(dsimp only;omega))))) (Tq rfl (xL [_,_,_,_] (λY hz=>(lY ag hz (by first|omega|(dsimp only;omega))))) ?_);refine Dm [_,_,_,_] [_,_,_,_] rfl Ac rfl rfl rfl rfl rfl rfl M rfl rfl ?_ AC;intro dd bp;have a2:=bp.blk;have bc:=bp.fr;revert ac G X;refine eF bc ?_;intro ac G X;have O:=lW O bc (λb V h=>by (have h1:=Z b V;have e:b=_:=h;omega));have U:=lW U bc (λb V h=>by (have h1:=Z b V;have e:b=_:=h;omega));refine ⟨ac,?_⟩;refine Ar rfl (eS [_,_,_,_] G ?_);intro cb cc am _;revert a2 X;refine eF am ?_;intro a2 X;have O:=lW O am (λb V h=>by (have h1:=Z b V;have e:b=_:=h;omega));have U:=lW U am (λb V h=>by (have h1:=Z b V;have e:b=_:=h;omega));refine eK ?_;refine Kr rfl Ac rfl rfl rfl rfl rfl rfl Ae Ae rfl rfl ?_;exact ⟨_,_,_,_,rfl,U,O,X⟩
 . cases aa
   . refine eK ?_;refine Aq (λY=>Fr (λx=>x=b8) a0 Y) 3 (.pure 0 (.pure 1 (.fork 2 .tail .none))) mixed AU (Aa Ag) ?_;intro b5 bq _;have ad:(λY=>Fr (λx=>x=b8) a0 Y) b5:=lX bq;simp only at ad;have ah:=bl;have ai:=az;revert G M X O U;refine eE bq ?_;intro G M X O U;refine ⟨ad,?_⟩;refine Tq rfl (xL [_,_,_,_] (λY hz=>(lY ai hz (by first|omega|(dsimp only;omega))))) (Tq rfl (xL [_,_,_,_] (λY hz=>(lY ah hz (by first|omega|(dsimp only;omega))))) ?_);refine Dm [_,_,_,_] [_,_,_,_] rfl Ac rfl rfl rfl rfl rfl rfl M rfl rfl ?_ AC;intro de br;have a3:=br.blk;have bd:=br.fr;revert ad G X;refine eF bd ?_;intro ad G X;have O:=lW O bd (λb V h=>by (have h1:=Z b V;have e:b=_:=h;omega));have U:=lW U bd (λb V h=>by (have h1:=Z b V;have e:b=_:=h;omega));refine ⟨ad,?_⟩;refine Ar rfl (eS [_,_,_,_] G ?_);intro cd ce an _;revert a3 X;refine eF an ?_;intro a3 X;have O:=lW O an (λb V h=>by (have h1:=Z b V;have e:b=_:=h;omega));have U:=lW U an (λb V h=>by (have h1:=Z b V;have e:b=_:=h;omega));refine cT (AR ?_);refine Kr rfl Ac rfl rfl rfl rfl rfl rfl Ae Ae rfl rfl ?_;exact ⟨_,_,_,_,rfl,O,U,X⟩
   . refine eK ?_;refine Aq (λY=>Fr (λx=>x=b8) a0 Y) 3 (.pure 0 (.pure 1 (.fork 2 .tail .none))) mixed AU (Aa (Aa Ag)) ?_;intro b6 bs _;have ae:(λY=>Fr (λx=>x=b8) a0 Y) b6:=lX bs;simp only at ae;have ah:=bl;have ai:=az;revert G M X O U;refine eE bs ?_;intro G M X O U;refine ⟨ae,?_⟩;refine Tq rfl (xL [_,_,_,_] (λY hz=>(lY ah hz (by first|omega|(dsimp only;omega))))) (Tq rfl (xL [_,_,_,_] (λY hz=>(lY ai hz (by first|omega|(dsimp only;omega))))) ?_);refine Dm [_,_,_,_] [_,_,_,_] rfl Ac rfl rfl rfl rfl rfl rfl M rfl rfl ?_ AC;intro df bt;have a4:=bt.blk;have be:=bt.fr;revert ae G X;refine eF be ?_;intro ae G X;have O:=lW O be (λb V h=>by (have h1:=Z b V;have e:b=_:=h;omega));have U:=lW U be (λb V h=>by (have h1:=Z b V;have e:b=_:=h;omega));refine ⟨ae,?_⟩;refine Ar rfl (eS [_,_,_,_] G ?_);intro cf cg ao _;revert a4 X;refine eF ao ?_;intro a4 X;have O:=lW O ao (λb V h=>by (have h1:=Z b V;have e:b=_:=h;omega));have U:=lW U ao (λb V h=>by (have h1:=Z b V;have e:b=_:=h;omega));refine eK ?_;refine Kr rfl Ac rfl rfl rfl rfl rfl rfl Ae Ae rfl rfl ?_;exact ⟨_,_,_,_,rfl,U,O,X⟩
end
mutual
def cU (ps:List PD):Nd->Prop
 | .mk k _ s l=>((k=50\/k=51)->(Cg ps s).isSome=true)/\XA ps l
def XA (ps:List PD):List Nd->Prop
 | []=>True
 | t::r=>cU ps t/\XA ps r
end
def Ks {ps:List PD}:∀ {l:List Nd} {i:Nat} {t:Nd},XA ps l->l[i]? = some t->cU ps t
 | x::r,0,t,h,e=>by simp only [iw,gU] at e;subst e;exact h.1
 | x::r,i+1,t,h,e=>Ks h.2 (by simpa using e)
 | [],_,_,_,e=>by simp at e
def Ie:∀ {l:List Nd} {i:Nat} {t:Nd},DZ l=true->l[i]? = some t->t.isStmt=true
 | x::r,0,t,h,e=>by simp only [iw,gU] at e;subst e;simp only [DZ,gR] at h;exact h.1
 | x::r,i+1,t,h,e=>by simp only [DZ,gR] at h;exact Ie h.2 (by simpa using e)
 | [],_,_,_,e=>by simp at e
structure StOk (ps:List PD) (t:Nd):Prop where
 wf:t.wf
 size:t.size<=1000000
 calls:cU ps t
def XB (c:RC) (d:Nat):Prop:= ∀(P:nP) (b:Bool) (t:Nd) (r:Rn) (a:oA) (m:Nat) (w:wD),t.isStmt=true->StOk c.g.procs t->Aw c.g.procs d b t r≠.error (-1)->t.sits P w a->Run c P w r ->
 Calls prog 162 #[.pointer (some ⟨c.rb,0,none⟩),t.val a m,.bool b] w (DF c P (Aw c.g.procs d b t r) w)
def EV (c:RC) (d:Nat):Prop:= ∀(P:nP) (b:Bool) (t:Nd) (r:Rn) (a:oA) (m:Nat) (w:wD),t.isBlock=true->StOk c.g.procs t->AG (Aw c.g.procs d) b t r≠.error (-1)->t.sits P w a->Run c P w r ->
 Calls prog 121 #[.pointer (some ⟨c.rb,0,none⟩),t.val a m,.bool b] w (DF c P (AG (Aw c.g.procs d) b t r) w)
section
variable {c:RC} {T:nP}
def Uk {d:Nat} (IH:XB c d):EV c d:=by
 intro P b t r a m w hb ar af N h;have X:=Ne w;have HR:=gO h;clear h;obtain ⟨k,n,s,l⟩:=t;have Z:DZ l=true:=by
  unfold Nd.isBlock at hb;simp only [gR] at hb;exact hb.2
 obtain ⟨au,hz,av⟩:=ar;obtain ⟨-,-,-,-,-,-,ag⟩:=au;have ah:XA c.g.procs l:=av.2;have a3:=Cz l;simp only [mg] at hz;have hX:AG (Aw c.g.procs d) b (.mk k n s l) r=Eh (Aw c.g.procs d b) (if b then l.reverse else l) r:=rfl;rw [hX] at af ⊢;have N:rowSits P w l a:=N;change Calls prog _ #[_,.agg #[.int .u8 k,.int .i64 n,str s,.slice a l.length m],_] w _;generalize hL:(if b then l.reverse else l)=L at *;have a4:L.length=l.length:=by rw [<-hL];split<;>simp
 have ai:∀j,j<l.length->l[if b then l.length-1-j else j]? = L[j]? := λj hj=>by
  rw [<-hL];cases b
  . rfl
  . simp only [if_true];rw [List.getElem?_reverse hj]
 refine Ad func121 ntmps121 rfl rfl ?_;refine cS (eB [_,_,_,_] ?_);intro b1 w2 h4 x5 p6 z7;have X:=X.ext x5;clear N;have N:=mH N x5;refine cT ?_;have h1:=HR.out.more X;have F:Fr (λk=> ¬P k) w w2:=lX X;clear X;refine eK ?_;refine C1 (AL rfl rfl (gX _ Ab)) (C1 Pa (cN (C1 Pf (C1 (Pl h4) (C1 Pz (C1 Mv (cT ?_)))))));refine Au ?_;refine AQ (ι:=Nat) (λj=>[(0,pt c.rb),(2,.bool b),(4,pt b1),(6,.int .i64 ((l.length:Int)-1)),(14,.int .i64 l.length),(15,.int .i64 j)])
  (λj w'=> ∃Y,j<=l.length/\Run c (Cn P w w2) w' Y/\Blk w' b1 [.int .u8 k,.int .i64 n,str s,.slice a l.length m]/\rowSits P w' l a/\Fr (λk=> ¬P k) w w'/\Eh (Aw c.g.procs d b) L r=Eh (Aw c.g.procs d b) (L.drop j) Y)
  (λj=>l.length-j) 0 sB ⟨r,ii _,h1,h4,N,F,rfl⟩ ?_
 clear h1 h4 N F;rintro j w1 ⟨Y,hj,h1,h4,N,F,O⟩;by_cases aj:j<l.length
 . obtain ⟨kb,ko,rfl,a5,M⟩:=BG N (by intro e;subst e;simp at aj);have G:=ai j aj;rw [gN (by omega:j<L.length)] at G;rw [iB (by omega:j<L.length),Eh] at O;have ak:Aw c.g.procs d b L[j] Y≠.error (-1):=λe=>af (by rw [O,e];rfl)
   have U:∀er,Aw c.g.procs d b L[j] Y = .error er->Eh (Aw c.g.procs d b) L r = .error er:=λer e=>by rw [O,e];rfl
   have V:∀r2,Aw c.g.procs d b L[j] Y = .ok r2->Eh (Aw c.g.procs d b) L r=Eh (Aw c.g.procs d b) (L.drop (j+1)) r2:=λr2 e=>by rw [O,e];rfl
   cases b with
   | false=>
    simp only [iS,if_true,if_false] at G;obtain ⟨xa,xc,rx,sx⟩:=M _ _ G;have ac:=Ie Z G;have ad:=Ks ah G;have ae:=BB ag _ (iF G);have aw:=Ei (iF G);clear M G;generalize L[j]=x at *;have HS:=gO (λw1 h1 h2=>IH (Cn P w w2) false x Y xa xc w1 ac ⟨ae,Ab,ad⟩ ak h1 h2);unfold DF at HS;obtain ⟨xk,xn,xs,xl⟩:=x;replace rx:Row w1 ⟨kb,ko+j*4,none⟩ [.int .u8 xk,.int .i64 xn,str xs,.slice xa xl.length xc]:=rx
    focus
     refine eK ?_;refine A3 (AP AU rfl (HS.out _ (l6 Ae (λb h=>gP h)) Ae) (λ_ _ h=>h.ret)) rfl ?_ ?_;rotate_left;intro a6 a7 ax
     rotate_right 1
     rintro _ az ⟨al,⟨⟩,am,an,aa⟩;revert F h4 N sx;refine eZ aa ?_;intro a0 F h4 N sx;clear rx aa;refine Ak (Ah (Ai (Al (C1 V7 (C1 Mv (Ak ?_))))));rotate_left;refine AS (AI (AI (AS (AF ?_))));rotate_left
    . exact AA (j+1) sB ⟨al,Ab,an,Ae,Ae,F,V _ am⟩ Ab
    . obtain ⟨er,g1,g2,g3⟩:=ax;exact gQ ⟨_,rfl,er,U _ g1,g2,F.fr g3 (λk hk=>gP (λh=>hk (gP h)))⟩
   | true=>
    simp only [if_true,if_false] at G;obtain ⟨xa,xc,rx,sx⟩:=M _ _ G;have ac:=Ie Z G;have ad:=Ks ah G;have ae:=BB ag _ (iF G);have aw:=Ei (iF G);clear M G;generalize L[j]=x at *;have HS:=gO (λw1 h1 h2=>IH (Cn P w w2) true x Y xa xc w1 ac ⟨ae,Ab,ad⟩ ak h1 h2);unfold DF at HS;obtain ⟨xk,xn,xs,xl⟩:=x;replace rx:Row w1 ⟨kb,ko+((l.length:Int)-1-(j:Int)).toNat*4,none⟩ [.int .u8 xk,.int .i64 xn,str xs,.slice xa xl.length xc]:=by rw [show ((l.length:Int)-1-(j:Int)).toNat=l.length-1-j by omega];exact rx
    focus
     refine eK ?_;refine C1 (AL rfl rfl (gX _ Ab)) ?_;refine eK ?_;refine A3 (AP AU rfl (HS.out _ (l6 Ae (λb h=>gP h)) Ae) (λ_ _ h=>h.ret)) rfl ?_ ?_;rotate_left;intro a8 a9 ay
     rotate_right 1
     rintro _ a1 ⟨ao,⟨⟩,ap,aq,ab⟩;revert F h4 N sx;refine eZ ab ?_;intro a2 F h4 N sx;clear rx ab;refine Ak (Ah (Ai (Al (C1 V7 (C1 Mv (Ak ?_))))));rotate_left;refine AS (AI (AI (AS (AF ?_))));rotate_left
    . exact AA (j+1) sB ⟨ao,Ab,aq,Ae,Ae,F,V _ ap⟩ Ab
    . obtain ⟨er,g1,g2,g3⟩:=ay;exact gQ ⟨_,rfl,er,U _ g1,g2,F.fr g3 (λk hk=>gP (λh=>hk (gP h)))⟩
 . obtain rfl:j=l.length:=by omega
   rw [List.drop_of_length_le Ab] at O;rw [O];refine cS (C1 V3 (cT (Aj (Dz (B9 (Az (Az (A0 (Bm rfl ?_)))))))));exact gP ⟨Y,rfl,rfl,h1.less HR.out.sub (λk=>gP),F⟩
end
section
variable {c:RC} {T:nP}
def Run.lt (h:Run c P w r):∀k,P k->k<w.heap.size:=λk G=>by
 obtain ⟨_,_,h⟩:=h;exact (h.off k G).2
def StOk.kid {ps:List PD} (h:StOk ps (.mk k n s l)) {i:Nat} {t:Nd} (G:l[i]? = some t):StOk ps t:=by
 obtain ⟨M,N,O⟩:=h;obtain ⟨-,-,-,-,-,-,U⟩:=M;have:=Ei (iF G);simp only [mg] at N;exact ⟨BB U _ (iF G),Ab,Ks O.2 G⟩
def XC (hc:c.fuel<=10000) (IH:EV c d) (b:Bool) {z u:Nd} (hx:x.isExpr=true) (hy:y.isBlock=true) (hz:z.isBlock=true) (hu:u.isExpr=true) (ae:StOk c.g.procs (.mk 52 n s [x,y,z,u])) (a:oA) (m:Nat) (w:wD)
 (ai:((BI (if b then u else x) r).bind λp=>(AG (Aw c.g.procs d) b (if p.1 then y else z) p.2).bind (Bj (if b then x else u) p.1))≠.error (-1)) (hs:(Nd.mk 52 n s [x,y,z,u]).sits P w a) (h:Run c P w r) :
 Calls prog 187 #[pt c.rb,(Nd.mk 52 n s [x,y,z,u]).val a m,.bool b] w (DF c P ((BI (if b then u else x) r).bind λp=>(AG (Aw c.g.procs d) b (if p.1 then y else z) p.2).bind (Bj (if b then x else u) p.1)) w):=by
 have X:=Ne w;have HR:=gO h;have N:=h.lt;have hs:rowSits P w [x,y,z,u] a:=hs;obtain ⟨kb,ko,rfl,aj,af⟩:=BG hs AK;obtain ⟨ya,yc,Y,sy⟩:=af 1 y rfl;obtain ⟨za,zc,rz,sz⟩:=af 2 z rfl;have bz:=ae.kid (i:=0) rfl;have a1:=ae.kid (i:=1) rfl;have a2:=ae.kid (i:=2) rfl;have b0:=ae.kid (i:=3) rfl;have HE:=gO (λw1 U h2=>Te (k:=52) (n:=n) (s:=s) (l:=[x,y,z,u]) (P:=P) AK AK b (some ⟨kb,ko,none⟩) m w1 U h2);have hf:(if b then u else x).isExpr=true:=by cases b <;> assumption
 have hg:(if b then x else u).isExpr=true:=by cases b<;>assumption
 have a3:StOk c.g.procs (if b then u else x):=by cases b<;>assumption
 have a4:StOk c.g.procs (if b then x else u):=by cases b<;>assumption
 simp only [show Bu [x,y,z,u] ([x,y,z,u].length-1)=u from rfl,show Bu [x,y,z,u] 0=x from rfl] at HE;generalize (if b then u else x)=f at *;generalize (if b then x else u)=g at *;obtain ⟨fk,fn,fs,fl⟩:=f;obtain ⟨gk,gn,gs,gl⟩:=g;obtain ⟨yk,yn,ys,yl⟩:=y;obtain ⟨zk,zn,zs,zl⟩:=z;replace Y:Row w ⟨kb,ko+1*4,none⟩ [.int .u8 yk,.int .i64 yn,str ys,.slice ya yl.length yc]:=Y;replace rz:Row w ⟨kb,ko+2*4,none⟩ [.int .u8 zk,.int .i64 zn,str zs,.slice za zl.length zc]:=rz;change Calls prog _ #[_,.agg #[.int .u8 52,.int .i64 n,str s,.slice (some ⟨kb,ko,none⟩) 4 m],_] w _;have b2:=N kb aj;obtain ⟨Z,hZ⟩:∃Z,Z=((BI (.mk fk fn fs fl) r).bind λp=>(AG (Aw c.g.procs d) b (if p.1 then .mk yk yn ys yl else .mk zk zn zs zl) p.2).bind (Bj (.mk gk gn gs gl) p.1)):=⟨_,rfl⟩
 rw [<-hZ] at ai ⊢;have x1:∀er,BI (.mk fk fn fs fl) r = .error er->Z = .error er:=λer e=>by rw [hZ,e];rfl
 have x2:∀q r1,BI (.mk fk fn fs fl) r = .ok (q,r1)->Z=(AG (Aw c.g.procs d) b (if q then .mk yk yn ys yl else .mk zk zn zs zl) r1).bind (Bj (.mk gk gn gs gl) q):=λq r1 e=>by rw [hZ,e];rfl
 refine Ad func187 ntmps187 rfl rfl (cS (eB [_,_,_,_] ?_));intro b1 w2 h4 x5 p6 z7;revert X sy sz;refine eE x5 ?_;intro X sy sz;revert hs Y rz;refine eE x5 ?_;intro hs Y rz;refine kQ (HE.out _ Ae (λk hk=>by have:=N k hk;omega)) ?_;rintro _ b3 ⟨a8,m9,am,an,⟨⟩,V,G,a5⟩;revert h4 X sy sz Y rz;refine eY a5 ?_;intro b4 h4 X sy sz Y rz;refine eK ?_;refine eA [_,_,_,_] ?_;intro b5 b6 ak a6 b7 b8;revert V G h4 X sy sz Y rz;refine eE a6 ?_;intro V G h4 X sy sz Y rz;refine eA [_,_,_,_] ?_;intro b9 ca al a7 cb cc;revert ak V G h4 X sy sz Y rz;refine eE a7 ?_;intro ak V G h4 X sy sz Y rz;refine eS [_,_,_,_] ak ?_;intro cd ao f35 ce;have al:=al.fr f35 Ab;have V:=lW V f35 (λb hb h=>by (have U:=N b hb;omega));have G:=lW G f35 (λb hb h=>by (have U:=N b hb;omega));revert h4 X;refine eF f35 ?_;intro h4 X;have sy:=lW sy f35 (λb hb h=>by (have U:=N b hb;omega));have sz:=lW sz f35 (λb hb h=>by (have U:=N b hb;omega));revert Y rz;refine eF f35 ?_;intro Y rz;refine eS [_,_,_,_] al ?_;intro ad ac aa cf;have ao:=ao.fr aa Ab;have V:=lW V aa (λb hb h=>by (have U:=N b hb;omega));have G:=lW G aa (λb hb h=>by (have U:=N b hb;omega))
 revert h4 X;refine eF aa ?_;intro h4 X;have sy:=lW sy aa (λb hb h=>by (have U:=N b hb;omega));have sz:=lW sz aa (λb hb h=>by (have U:=N b hb;omega));revert Y rz;refine eF aa ?_;intro Y rz;refine cT ?_;have U:=HR.out.more X;have F:Fr (λk=> ¬P k) w ad:=lX X;have HH:=gO (λw1 U h2=>PT (c:=c) (P:=Cn P w ad) (r:=r) hc _ a3.wf hf a8 m9 w1 U h2);unfold ZN at HH;have HY:=gO (λq r1 (e:BI (.mk fk fn fs fl) r = .ok (q,r1)) (hq:q=true) w1 U h2=>IH (Cn P w ad) b _ r1 ya yc w1 hy a1 (λe2=>ai (by rw [x2 _ _ e,hq];simp only [if_true];rw [e2];rfl)) U h2);have HZ:=gO (λq r1 (e:BI (.mk fk fn fs fl) r = .ok (q,r1)) (hq:q=false) w1 U h2=>IH (Cn P w ad) b _ r1 za zc w1 hz a2 (λe2=>ai (by rw [x2 _ _ e,hq];simp only [iS,if_false];rw [e2];rfl)) U h2);have HA:=gO (λq r2 w1 U h2=>RG (c:=c) (P:=Cn P w ad) (r:=r2) hc q _ a4.wf hg am an w1 U h2);unfold DF at HY HZ HA
 focus
  refine eK ?_;refine A3 (AP AU rfl (HH.out _ (l6 Ae (λb h=>gP h)) Ae) (λ_ _ h=>h.ret)) rfl ?_ ?_;rotate_left;intro cg ch a9
  rotate_right 1
  rintro _ bb ⟨bc,bd,⟨⟩,O,be,ab⟩;revert ac G h4 sy sz;refine eF ab ?_;intro ac G h4 sy sz;have Y:=mo Y ab (λh=>h (gP aj));have rz:=mo rz ab (λh=>h (gP aj));have F:=l8 F ab (λk hk=>gP (λh=>hk (gP h)));refine C1 Pa (cT (Aj (cS (C1 Mv (cT (FR rfl (λM=>?_) (λM=>?_)))))));refine eK ?_;refine A3 (AP AU rfl (HY.out _ _ Ae Ae _ (l6 Ae (λb h=>gP h)) Ae) (λ_ _ h=>h.ret)) rfl ?_ ?_;rotate_left;intro bf bg ap
  rotate_right 1
  rintro _ bh ⟨bi,⟨⟩,ag,bj,aq⟩;revert ac G F;refine eF aq ?_;intro ac G F;refine eK ?_;refine A3 (AP AU rfl (HA.out _ _ _ (l6 Ae (λb h=>gP h)) Ae) (λ_ _ h=>h.ret)) rfl ?_ ?_;rotate_left;intro bk bl ar
  rotate_right 1
  rintro _ bm ⟨bn,⟨⟩,bo,au,av⟩;have F:=l8 F av (λk hk=>gP (λh=>hk (gP h)));refine Ak (Bm rfl ?_);rotate_left;refine AF ?_;rotate_left;refine AI (AF ?_);rotate_left;refine eK ?_;refine A3 (AP AU rfl (HZ.out _ _ Ae Ae _ (l6 Ae (λb h=>gP h)) Ae) (λ_ _ h=>h.ret)) rfl ?_ ?_;rotate_left;intro bp bq aw
  rotate_right 1
  rintro _ br ⟨bs,⟨⟩,ah,bt,ax⟩;revert ac G F;refine eF ax ?_;intro ac G F;refine eK ?_;refine A3 (AP AU rfl (HA.out _ _ _ (l6 Ae (λb h=>gP h)) Ae) (λ_ _ h=>h.ret)) rfl ?_ ?_;rotate_left;intro bu bv ay
  rotate_right 1
  rintro _ ba ⟨bw,⟨⟩,bx,az,a0⟩;have F:=l8 F a0 (λk hk=>gP (λh=>hk (gP h)));refine Ak (Bm rfl ?_);rotate_left;refine AF ?_;rotate_left;refine AI (AF ?_);rotate_left;refine AI (AF ?_);rotate_left
 . subst M;exact EU au F HR.out.sub (λk=>gP) (by rw [x2 _ _ O];simp only [if_true,iS,if_false,ag,ir];assumption)
 . subst M;exact Bz ar F (λk=>gP) (λer e=>by rw [x2 _ _ O];simp only [if_true,iS,if_false,ag,ir];exact e)
 . subst M;exact Bz ap F (λk=>gP) (λer e=>by rw [x2 _ _ O];simp only [if_true,iS,if_false,e,ir])
 . subst M;exact EU az F HR.out.sub (λk=>gP) (by rw [x2 _ _ O];simp only [if_true,iS,if_false,ah,ir];assumption)
 . subst M;exact Bz ay F (λk=>gP) (λer e=>by rw [x2 _ _ O];simp only [if_true,iS,if_false,ah,ir];exact e)
 . subst M;exact Bz aw F (λk=>gP) (λer e=>by rw [x2 _ _ O];simp only [if_true,iS,if_false,e,ir])
 . exact Bz a9 F (λk=>gP) x1
def cV (hc:c.fuel<=10000) (IH:EV c d) (b:Bool) {z u:Nd} (hx:x.isExpr=true) (hy:y.isBlock=true) (bb:z.isBlock=true) (hu:u.isExpr=true) (ao:StOk c.g.procs (.mk 53 n s [x,y,z,u])) (a:oA) (m:Nat) (w:wD)
 (am:((Bj (if b then u else x) true r).bind (Ch (AG (Aw c.g.procs d) b y) (AG (Aw c.g.procs d) b z) (if b then x else u) (if b then u else x) d))≠.error (-1)) (hs:(Nd.mk 53 n s [x,y,z,u]).sits P w a) (h:Run c P w r) :
 Calls prog 188 #[pt c.rb,(Nd.mk 53 n s [x,y,z,u]).val a m,.bool b] w (DF c P ((Bj (if b then u else x) true r).bind (Ch (AG (Aw c.g.procs d) b y) (AG (Aw c.g.procs d) b z) (if b then x else u) (if b then u else x) d)) w):=by
 have X:=Ne w;have HR:=gO h;have ab:=h.lt;have hs:rowSits P w [x,y,z,u] a:=hs;obtain ⟨kb,ko,rfl,aa,ap⟩:=BG hs AK;obtain ⟨ya,yc,O,Y⟩:=ap 1 y rfl;obtain ⟨za,zc,U,sz⟩:=ap 2 z rfl;have b5:=ao.kid (i:=0) rfl;have bc:=ao.kid (i:=1) rfl;have bd:=ao.kid (i:=2) rfl;have b6:=ao.kid (i:=3) rfl;have HE:=gO (λw1 h1 h2=>Te (k:=53) (n:=n) (s:=s) (l:=[x,y,z,u]) (P:=P) AK AK b (some ⟨kb,ko,none⟩) m w1 h1 h2);have hf:(if b then u else x).isExpr=true:=by cases b <;> assumption
 have hg:(if b then x else u).isExpr=true:=by cases b<;>assumption
 have be:StOk c.g.procs (if b then u else x):=by cases b<;>assumption
 have bf:StOk c.g.procs (if b then x else u):=by cases b<;>assumption
 simp only [show Bu [x,y,z,u] ([x,y,z,u].length-1)=u from rfl,show Bu [x,y,z,u] 0=x from rfl] at HE;generalize (if b then u else x)=f at *;generalize (if b then x else u)=g at *;obtain ⟨fk,fn,fs,fl⟩:=f;obtain ⟨gk,gn,gs,gl⟩:=g;obtain ⟨yk,yn,ys,yl⟩:=y;obtain ⟨zk,zn,zs,zl⟩:=z;replace O:Row w ⟨kb,ko+1*4,none⟩ [.int .u8 yk,.int .i64 yn,str ys,.slice ya yl.length yc]:=O;replace U:Row w ⟨kb,ko+2*4,none⟩ [.int .u8 zk,.int .i64 zn,str zs,.slice za zl.length zc]:=U;change Calls prog _ #[_,.agg #[.int .u8 53,.int .i64 n,str s,.slice (some ⟨kb,ko,none⟩) 4 m],_] w _;have b7:=ab kb aa;obtain ⟨B1,av⟩:∃B1,B1=AG (Aw c.g.procs d) b (.mk yk yn ys yl):=⟨_,rfl⟩;obtain ⟨B2,aw⟩:∃B2,B2=AG (Aw c.g.procs d) b (.mk zk zn zs zl):=⟨_,rfl⟩
 rw [<-av,<-aw] at am ⊢;obtain ⟨Z,hZ⟩:∃Z,Z=((Bj (.mk fk fn fs fl) true r).bind (Ch B1 B2 (.mk gk gn gs gl) (.mk fk fn fs fl) d)):=⟨_,rfl⟩
 rw [<-hZ] at am ⊢;have x1:∀er,Bj (.mk fk fn fs fl) true r = .error er->Z = .error er:=λer e=>by rw [hZ,e];rfl
 have x2:∀r1,Bj (.mk fk fn fs fl) true r = .ok r1->Z=Ch B1 B2 (.mk gk gn gs gl) (.mk fk fn fs fl) d r1:=λr1 e=>by rw [hZ,e];rfl
 refine Ad func188 ntmps188 rfl rfl (cS (eB [_,_,_,_] ?_));intro b1 w2 h4 x5 p6 z7;revert X Y sz;refine eE x5 ?_;intro X Y sz;revert hs O U;refine eE x5 ?_;intro hs O U;refine kQ (HE.out _ Ae (λk hk=>by have:=ab k hk;omega)) ?_;rintro _ b8 ⟨a8,m9,an,aq,⟨⟩,G,M,bg⟩;revert h4 X Y sz O U;refine eY bg ?_;intro b9 h4 X Y sz O U;refine eK ?_;refine eA [_,_,_,_] ?_;intro az ca ax bh cb cc;revert G M h4 X Y sz O U;refine eE bh ?_;intro G M h4 X Y sz O U;refine eA [_,_,_,_] ?_;intro a0 cd ay bi ce cf;revert ax G M h4 X Y sz O U;refine eE bi ?_;intro ax G M h4 X Y sz O U;refine eS [_,_,_,_] ax ?_;intro cg N f35 ch;have ay:=ay.fr f35 Ab;have G:=lW G f35 (λb hb h=>by (have h1:=ab b hb;omega));have M:=lW M f35 (λb hb h=>by (have h1:=ab b hb;omega));revert h4 X;refine eF f35 ?_;intro h4 X;have Y:=lW Y f35 (λb hb h=>by (have h1:=ab b hb;omega));have sz:=lW sz f35 (λb hb h=>by (have h1:=ab b hb;omega));revert O U;refine eF f35 ?_;intro O U;refine eS [_,_,_,_] ay ?_;intro al V ae ci;have N:=N.fr ae Ab;have G:=lW G ae (λb hb h=>by (have h1:=ab b hb;omega));have M:=lW M ae (λb hb h=>by (have h1:=ab b hb;omega))
 revert h4 X;refine eF ae ?_;intro h4 X;have Y:=lW Y ae (λb hb h=>by (have h1:=ab b hb;omega));have sz:=lW sz ae (λb hb h=>by (have h1:=ab b hb;omega));revert O U;refine eF ae ?_;intro O U;refine cT ?_;have h1:=HR.out.more X;have F:Fr (λk=> ¬P k) w al:=lX X;have HH:=gO (λr1 w1 h1 h2=>PT (c:=c) (P:=Cn P w al) (r:=r1) hc _ bf.wf hg an aq w1 h1 h2);unfold ZN at HH;have HA:=gO (λq r2 w1 h1 h2=>RG (c:=c) (P:=Cn P w al) (r:=r2) hc q _ be.wf hf a8 m9 w1 h1 h2);unfold DF at HA
 focus
  refine eK ?_;refine A3 (AP AU rfl (HA.out _ _ _ (l6 Ae (λb h=>gP h)) Ae) (λ_ _ h=>h.ret)) rfl ?_ ?_;rotate_left;intro cj ck bj
  rotate_right 1
  rintro _ bm ⟨a1,⟨⟩,a2,ar,af⟩;revert V N G M h4 Y sz;refine eF af ?_;intro V N G M h4 Y sz;have O:=mo O af (λh=>h (gP aa));have U:=mo U af (λh=>h (gP aa));have F:=l8 F af (λk hk=>gP (λh=>hk (gP h)));refine cT ?_;rotate_left;refine AI (AF ?_);rotate_left
 . refine Au ?_;have bk:=x2 _ a2;refine AQ (ι:=Nat) (λ_=>[(0,pt c.rb),(2,.bool b),(4,pt b1),(6,pt az),(7,pt a0)])
    (λj w'=> ∃rj,Run c (Cn P w al) w' rj/\Blk w' b1 [.int .u8 53,.int .i64 n,str s,.slice (some ⟨kb,ko,none⟩) 4 m]/\Blk w' az [.int .u8 fk,.int .i64 fn,str fs,.slice a8 fl.length m9]/\Blk w' a0 [.int .u8 gk,.int .i64 gn,str gs,.slice an gl.length aq]/\Row w' ⟨kb,ko+1*4,none⟩ [.int .u8 yk,.int .i64 yn,str ys,.slice ya yl.length yc]/\Row w' ⟨kb,ko+2*4,none⟩ [.int .u8 zk,.int .i64 zn,str zs,.slice za zl.length zc] /\
     (Nd.mk fk fn fs fl).sits P w' a8/\(Nd.mk gk gn gs gl).sits P w' an/\(Nd.mk yk yn ys yl).sits P w' ya/\(Nd.mk zk zn zs zl).sits P w' za/\Fr (λk=> ¬P k) w w'/\Z=Ch B1 B2 (.mk gk gn gs gl) (.mk fk fn fs fl) j rj)
    (λj=>j) d sB ⟨a1,ar,h4,N,V,O,U,G,M,Y,sz,F,bk⟩ ?_
   rintro j w1 ⟨rj,ar,h4,N,V,O,U,G,M,Y,sz,F,hz⟩;cases j with
   | zero=>exact absurd hz (λe=>am e)
   | succ j=>
    have y1:∀er,B1 rj = .error er->Z = .error er:=λer e=>by rw [hz];simp only [Ch,e,ir]
    have y2:∀r1 er,B1 rj = .ok r1->BI (.mk gk gn gs gl) r1 = .error er->Z = .error er:=λr1 er e e2=>by rw [hz];simp only [Ch,e,e2,ir]
    have y3:∀r1 r2,B1 rj = .ok r1->BI (.mk gk gn gs gl) r1 = .ok (true,r2)->Z = .ok r2:=λr1 r2 e e2=>by rw [hz];simp only [Ch,e,e2,ir,if_true]
    have y4:∀r1 r2,B1 rj = .ok r1->BI (.mk gk gn gs gl) r1 = .ok (false,r2)->Z=(B2 r2).bind λr=>(Bj (.mk fk fn fs fl) false r).bind (Ch B1 B2 (.mk gk gn gs gl) (.mk fk fn fs fl) j):=λr1 r2 e e2=>by rw [hz];simp only [Ch,e,e2,ir,iS,if_false]
    have HY:=gO (λw1 h1 h2=>IH (Cn P w al) b _ rj ya yc w1 hy bc (λe2=>am (y1 _ (by rw [av];exact e2))) h1 h2);have HZ:=gO (λr1 q r2 (e:B1 rj = .ok r1) (e2:BI (.mk gk gn gs gl) r1 = .ok (q,r2)) (hq:q=false) w1 h1 h2=>IH (Cn P w al) b _ r2 za zc w1 bb bd (λe3=>am (by subst hq;rw [y4 _ _ e e2,aw,e3];rfl)) h1 h2);rw [<-av] at HY;rw [<-aw] at HZ;unfold DF at HY HZ
    focus
     refine eK ?_;refine A3 (AP AU rfl (HY.out _ (l6 Ae (λb h=>gP h)) Ae) (λ_ _ h=>h.ret)) rfl ?_ ?_;rotate_left;intro cl cm bl
     rotate_right 1
     rintro _ bn ⟨bo,⟨⟩,ac,bp,ag⟩;revert h4 N V;refine eF ag ?_;intro h4 N V;have O:=mo O ag (λh=>h (gP aa));have U:=mo U ag (λh=>h (gP aa));revert G M Y sz F;refine eF ag ?_;intro G M Y sz F;refine eK ?_;refine A3 (AP AU rfl (HH.out _ _ (l6 Ae (λb h=>gP h)) Ae) (λ_ _ h=>h.ret)) rfl ?_ ?_;rotate_left;intro bq br a3
     rotate_right 1
     rintro _ bs ⟨bt,bu,⟨⟩,ah,a4,ai⟩;revert h4 N V;refine eF ai ?_;intro h4 N V;have O:=mo O ai (λh=>h (gP aa));have U:=mo U ai (λh=>h (gP aa));revert G M Y sz F;refine eF ai ?_;intro G M Y sz F;refine cT (FR rfl (λad=>?_) (λad=>?_));refine eK ?_;refine EW rfl ?_;rotate_left;refine eK ?_;refine A3 (AP AU rfl (HZ.out _ _ _ Ae Ae Ae _ (l6 Ae (λb h=>gP h)) Ae) (λ_ _ h=>h.ret)) rfl ?_ ?_;rotate_left;intro bv bw a5
     rotate_right 1
     rintro _ bx ⟨bz,⟨⟩,au,b0,aj⟩;revert h4 N V;refine eF aj ?_;intro h4 N V;have O:=mo O aj (λh=>h (gP aa));have U:=mo U aj (λh=>h (gP aa));revert G M Y sz F;refine eF aj ?_;intro G M Y sz F;refine eK ?_;refine A3 (AP AU rfl (HA.out _ _ _ (l6 Ae (λb h=>gP h)) Ae) (λ_ _ h=>h.ret)) rfl ?_ ?_;rotate_left;intro b2 b3 a6
     rotate_right 1
     rintro _ b4 ⟨a7,⟨⟩,a9,ba,ak⟩;revert h4 N V;refine eF ak ?_;intro h4 N V;have O:=mo O ak (λh=>h (gP aa));have U:=mo U ak (λh=>h (gP aa));revert G M Y sz F;refine eF ak ?_;intro G M Y sz F;refine Ak (Ah ?_);rotate_left;refine AS (AI (AS (AF ?_)));rotate_left;refine AI (AS (AI (AS (AF ?_))));rotate_left;refine AI (AI (AS (AI (AS (AF ?_)))));rotate_left;refine AI (AS (AI (AS (AF ?_))));rotate_left
    . subst ad;exact EU a4 F HR.out.sub (λk=>gP) (y3 _ _ ac ah)
    . subst ad;exact AA j sB ⟨a7,ba,Ae,Ae,Ae,Ae,Ae,Ae,Ae,Ae,Ae,F,by rw [y4 _ _ ac ah,au];simp only [ir];rw [a9]⟩ Ab
    . subst ad;exact Bz a6 F (λk=>gP) (λer e=>by rw [y4 _ _ ac ah,au];simp only [ir];rw [e])
    . subst ad;exact Bz a5 F (λk=>gP) (λer e=>by rw [y4 _ _ ac ah,e];rfl)
    . exact Bz a3 F (λk=>gP) (λer e=>y2 _ _ ac e)
    . exact Bz bl F (λk=>gP) y1
 . exact Bz bj F (λk=>gP) x1
end
section
variable {c:RC} {T:nP}
def Eg {w1:wD} {h:List PanicEntry} {e:Int} (q:e≠0/\h=Nc e/\Ext w1 w') (F:Fr (λk=> ¬P k) w w1) (G:e≠0->Z = .error e):DF c P Z w (.panicked h) w':=
 gQ ⟨_,rfl,e,G q.1,q.2.1,F.ext q.2.2⟩
def OB {X:Except Int Int} {w1:wD} {G:List PanicEntry} (q:eW X w1 G w') (F:Fr (λk=> ¬P k) w w1) (e:∀h,X = .error h->Z = .error h):DF c P Z w (.panicked G) w':=by
 obtain ⟨h,M,N,O⟩:=q;exact gQ ⟨_,rfl,h,e _ M,N,F.ext O⟩
def Run.wf (h:Run c P w r):∃K,r.st.WF K (1000+(c.fuel-r.rem)):=by
 obtain ⟨_,_,h⟩:=h;exact h.wf
def Ul (N:c.fuel<=10000) (M:Run c P w r) (P':nP) (v:VD) (O:v.kind=1\/v.kind=3) (U:v.len=0) (x:Int) (G:Rn) (e:A4 r = .ok G) (w1:wD) (h:Run c P' w1 G) :
 Calls prog 192 #[pt c.sb,v.val,.int .i64 x] w1 (RH c P' G.rem (G.st.opens v x) w1):=by
 obtain ⟨V,rfl⟩:=B8 e;have X:=M.rem;exact cP N v O U x w1 h (by simp only;omega) (m:=c.fuel-r.rem) M.wf (by simp only;omega)
def ZQ (hc:c.fuel<=10000) (IH:EV c d) (b:Bool) {z:Nd} (hx:x.isExpr=true) (hy:y.isBlock=true) (cp:z.isExpr=true) (ar:StOk c.g.procs (.mk 54 n s [x,y,z])) (a:oA) (m:Nat) (w:wD)
 (a2:((A4 r).bind λr=>(BD (if b then z else x) r).bind λv=>(Cy (·.opens ⟨s,1,0⟩ v) r).bind λr=>(AG (Aw c.g.procs d) b y r).bind λr=>(A4 r).bind λr=>(BD (if b then x else z) r).bind λv=>Cy (·.closes s v) r)≠.error (-1)) (hs:(Nd.mk 54 n s [x,y,z]).sits P w a) (h:Run c P w r) :
 Calls prog 189 #[pt c.rb,(Nd.mk 54 n s [x,y,z]).val a m,.bool b] w (DF c P ((A4 r).bind λr=>(BD (if b then z else x) r).bind λv=>(Cy (·.opens ⟨s,1,0⟩ v) r).bind λr=>(AG (Aw c.g.procs d) b y r).bind λr=>(A4 r).bind λr=>(BD (if b then x else z) r).bind λv=>Cy (·.closes s v) r) w):=by
 have X:=Ne w;have HR:=gO h;have ae:=h.lt;clear h;have hs:rowSits P w [x,y,z] a:=hs;obtain ⟨kb,ko,rfl,a3,aw⟩:=BG hs AK;obtain ⟨ya,yc,Y,sy⟩:=aw 1 y rfl;have cq:=ar.kid (i:=0) rfl;have br:=ar.kid (i:=1) rfl;have cr:=ar.kid (i:=2) rfl;have HE:=gO (λw1 h1 h2=>Te (k:=54) (n:=n) (s:=s) (l:=[x,y,z]) (P:=P) AK AK b (some ⟨kb,ko,none⟩) m w1 h1 h2);have hf:(if b then z else x).isExpr=true:=by cases b<;>assumption
 have hg:(if b then x else z).isExpr=true:=by cases b<;>assumption
 have bs:StOk c.g.procs (if b then z else x):=by cases b<;>assumption
 have bt:StOk c.g.procs (if b then x else z):=by cases b<;>assumption
 simp only [show Bu [x,y,z] ([x,y,z].length-1)=z from rfl,show Bu [x,y,z] 0=x from rfl] at HE;generalize (if b then z else x)=f at *;generalize (if b then x else z)=g at *;clear aw ar;obtain ⟨fk,fn,fs,fl⟩:=f;obtain ⟨gk,gn,gs,gl⟩:=g;obtain ⟨yk,yn,ys,yl⟩:=y;replace Y:Row w ⟨kb,ko+1*4,none⟩ [.int .u8 yk,.int .i64 yn,str ys,.slice ya yl.length yc]:=Y;change Calls prog _ #[_,.agg #[.int .u8 54,.int .i64 n,str s,.slice (some ⟨kb,ko,none⟩) 3 m],_] w _;have ct:=ae kb a3;obtain ⟨B1,a4⟩:∃B1,B1=AG (Aw c.g.procs d) b (.mk yk yn ys yl):=⟨_,rfl⟩
 rw [<-a4] at a2 ⊢;obtain ⟨Z,hZ⟩:∃Z,Z=((A4 r).bind λr=>(BD (.mk fk fn fs fl) r).bind λv=>(Cy (·.opens ⟨s,1,0⟩ v) r).bind λr=>(B1 r).bind λr=>(A4 r).bind λr=>(BD (.mk gk gn gs gl) r).bind λv=>Cy (·.closes s v) r):=⟨_,rfl⟩
 rw [<-hZ] at a2 ⊢;refine Ad func189 ntmps189 rfl rfl ?_;refine cS (eB [_,_,_,_] ?_);intro b1 w2 U x5 p6 z7;have X:=X.ext x5;clear hs;revert hs sy Y;refine eE x5 ?_;intro hs sy Y;refine kQ (HE.out _ Ae (λk hk=>by have:=ae k hk;omega)) ?_;rintro _ cu ⟨a8,m9,bf,bg,⟨⟩,V,G,bu⟩;revert U X sy Y;refine eY bu ?_;intro cv U X sy Y;refine eK ?_;refine eA [_,_,_,_] ?_;intro cw cx a5 bv cy cz;revert V G U X sy Y;refine eE bv ?_;intro V G U X sy Y;refine eA [_,_,_,_] ?_;intro c0 c1 a6 bw c2 c3;revert a5 V G U X sy Y;refine eE bw ?_;intro a5 V G U X sy Y;refine eS [_,_,_,_] a5 ?_;intro c4 al f35 c5;have a6:=a6.fr f35 Ab;have V:=lW V f35 (λb hb h=>by (have h1:=ae b hb;omega));have G:=lW G f35 (λb hb h=>by (have h1:=ae b hb;omega));revert U X;refine eF f35 ?_;intro U X;have sy:=lW sy f35 (λb hb h=>by (have h1:=ae b hb;omega));have Y:=mo Y f35 (by simp only;omega);refine eS [_,_,_,_] a6 ?_;intro aa O ak c6;have al:=al.fr ak Ab;have V:=lW V ak (λb hb h=>by (have h1:=ae b hb;omega));have G:=lW G ak (λb hb h=>by (have h1:=ae b hb;omega));revert U X;refine eF ak ?_;intro U X;have sy:=lW sy ak (λb hb h=>by (have h1:=ae b hb;omega));have Y:=mo Y ak (by simp only;omega);refine cT ?_
 have h1:=HR.out.more X;have F:Fr (λk=> ¬P k) w aa:=lX X;clear X hs;have HS:=gO (λr1 w1 h=>Nf (c:=c) (P:=Cn P w aa) (r:=r1) hc w1 h);unfold DF at HS;have HV:=gO (λr1 w1 h1 h2=>Ui (c:=c) (P:=Cn P w aa) (r:=r1) hc _ bs.wf hf a8 m9 P w1 h1 h2);have HU:=gO (λr1 w1 h1 h2=>Ui (c:=c) (P:=Cn P w aa) (r:=r1) hc _ bt.wf hg bf bg P w1 h1 h2);have HO:=gO (λr1 e v w1 h=>Ul hc HR.out (Cn P w aa) ⟨s,1,0⟩ (gP rfl) rfl v r1 e w1 h);unfold VD.val at HO;have HL:=gO (λr1 v w1 h=>Uj (c:=c) (P:=Cn P w aa) (r:=r1) hc s v w1 h);have HC:=gO (λe w1=>Iz e (pt c.rb) w1);unfold Td at HC;have HY:=gO (λr1 v (e:A4 r = .ok r1) (e2:BD (.mk fk fn fs fl) r1 = .ok v) (e3:(r1.st.opens ⟨s,1,0⟩ v).1=0) w1 h1 h2=>IH (Cn P w aa) b _ ⟨(r1.st.opens ⟨s,1,0⟩ v).2,r1.rem⟩ ya yc w1 hy br (λe4=>a2 (by rw [hZ];simp only [e,e2,ir,Cy,e3,ne_eq,not_true,if_false];rw [a4,e4])) h1 h2);rw [<-a4] at HY;unfold DF at HY
 focus
  refine eK ?_;refine A3 (AP AU rfl (HS.out _ _ Ae) (λ_ _ h=>h.ret)) rfl ?_ ?_;rotate_left;intro c7 c8 bx
  rotate_right 1
  rintro _ ax ⟨b8,⟨⟩,ab,af,am⟩;revert O al V G U sy;refine eF am ?_;intro O al V G U sy;have Y:=mo Y am (λh=>h (gP a3));have F:=l8 F am (λk hk=>gP (λh=>hk (gP h)));refine eK ?_;refine Aq (λwz=>Fr ((λk=> ¬(Cn P w aa k\/k=c.rb))) ax wz) 12 (.pure 0 (.pure 1 (.pure 2 (.pure 3 (.pure 4 (.pure 5 (.pure 6 (.pure 7 (.pure 8 (.pure 9 (.fork 10 (.fork 11 .tail .none) .none))))))))))) mixed AU (Aa Ag) ?_;intro bh ay _;have M:(λwz=>Fr ((λk=> ¬(Cn P w aa k\/k=c.rb))) ax wz) bh:=lX ay;simp only at M;have au:=af;have a7:=al;have an:=U;revert af O V G U sy Y F;refine eE ay ?_;intro af O V G U sy Y F;refine ⟨M,?_⟩;refine eT ?_;refine Tq rfl (Ap Ac rfl rfl rfl (λwz hz=>l7 (lY (Run.blk au) hz (by first|omega|(dsimp only;omega))) rfl)) (Tq rfl Pf (Tq rfl (Ap Ac rfl rfl rfl (λwz hz=>l7 (lY an hz (λh=>h (gP (gQ ⟨Ab,Ab⟩)))) rfl)) (Tq rfl (xB [_,_,_]) (Tq rfl Mv (Tq rfl (xL [_,_,_,_] (λwz hz=>(lY a7 hz (λh=>h (gP (gQ ⟨Ab,Ab⟩)))))) ?_)))));refine Qf rfl (AP AU rfl (HV.out _ _ Ae Ae) (λ_ _ h=>h.ret)) rfl ?_ ?_ AC;rotate_left;intro b9 ca bi
  rotate_right 1
  rintro _ cb ⟨cc,⟨⟩,ac,bj⟩;revert M af O G U sy Y F;refine eE bj ?_;intro M af O G U sy Y F;refine ⟨M,?_⟩;refine tC rfl rfl (HO.out _ Ae _ _ Ae) ?_;rintro _ cd ⟨⟨⟩,az,ad⟩;revert M O;refine eF ad ?_;intro M O;have G:=lW G ad (λb hb h=>h (gP (gP hb)));have U:=lY U ad (λh=>h (gP (gQ ⟨Ab,Ab⟩)));have sy:=lW sy ad (λb hb h=>h (gP (gP hb)));have Y:=mo Y ad (λh=>h (gP (gP a3)));have F:=l8 F ad (λk hk=>gP (λh=>hk (gP (gP h))));refine ⟨M,?_⟩;refine Ar rfl ?_;refine A3 (AP AU rfl (HC.out _ _) (λ_ _ h=>⟨_,h.1⟩)) rfl ?_ ?_;rotate_left;intro ce cf bk
  rotate_right 1
  rintro _ cg ⟨⟨⟩,ag,bl⟩;revert az O G U sy Y F;refine eE bl ?_;intro az O G U sy Y F;refine eK ?_;refine A3 (AP AU rfl (HY.out _ _ Ae Ae Ae _ (l6 Ae (λb h=>gP h)) Ae) (λ_ _ h=>h.ret)) rfl ?_ ?_;rotate_left;intro ch ci bm
  rotate_right 1
  rintro _ cj ⟨ck,⟨⟩,aj,cl,bn⟩;revert O G U F;refine eF bn ?_;intro O G U F;refine eK ?_;refine A3 (AP AU rfl (HS.out _ _ Ae) (λ_ _ h=>h.ret)) rfl ?_ ?_;rotate_left;intro cm cn bo
  rotate_right 1
  rintro _ a0 ⟨co,⟨⟩,ao,ah,bp⟩;revert O G U F;refine eF bp ?_;intro O G U F;refine cT (Aq (λwz=>Fr ((λk=> ¬(Cn P w aa k\/k=c.rb))) a0 wz) 11 (.pure 0 (.pure 1 (.pure 2 (.pure 3 (.pure 4 (.pure 5 (.pure 6 (.pure 7 (.pure 8 (.fork 9 (.fork 10 .tail .none) .none)))))))))) mixed AU Ag ?_);intro bq a1 _;have N:(λwz=>Fr ((λk=> ¬(Cn P w aa k\/k=c.rb))) a0 wz) bq:=lX a1;simp only at N;have av:=ah;have a9:=O;have an:=U;revert ah G F;refine eE a1 ?_;intro ah G F;refine ⟨N,?_⟩;refine eT ?_;refine Tq rfl (Ap Ac rfl rfl rfl (λwz hz=>l7 (lY (Run.blk av) hz (by first|omega|(dsimp only;omega))) rfl)) (Tq rfl Pf (Tq rfl (Ap Ac rfl rfl rfl (λwz hz=>l7 (lY an hz (λh=>h (gP (gQ ⟨Ab,Ab⟩)))) rfl)) (Tq rfl Mv (Tq rfl (xL [_,_,_,_] (λwz hz=>(lY a9 hz (λh=>h (gP (gQ ⟨Ab,Ab⟩)))))) ?_))));refine Qf rfl (AP AU rfl (HU.out _ _ Ae Ae) (λ_ _ h=>h.ret)) rfl ?_ ?_ AC;rotate_left;intro bz b0 ba
  rotate_right 1
  rintro _ b2 ⟨b3,⟨⟩,ap,bb⟩;revert N ah F;refine eE bb ?_;intro N ah F;refine ⟨N,?_⟩;refine tC rfl rfl (HL.out _ _ _ Ae) ?_;rintro _ b4 ⟨⟨⟩,ai,aq⟩;have N:=l8 N aq (λk hk=>gP hk);have F:=l8 F aq (λk hk=>gP (λh=>hk (gP (gP h))));refine ⟨N,?_⟩;refine Ar rfl ?_;refine A3 (AP AU rfl (HC.out _ _) (λ_ _ h=>⟨_,h.1⟩)) rfl ?_ ?_;rotate_left;intro b5 b6 bc
  rotate_right 1
  rintro _ b7 ⟨⟨⟩,bd,be⟩;revert ai F;refine eE be ?_;intro ai F;refine Ak (Bm rfl ?_);rotate_left;refine AF ?_;rotate_left;refine AF ?_;rotate_left;refine AI (AF ?_);rotate_left;refine AI (AF ?_);rotate_left;refine AI (AF ?_);rotate_left;refine AI (AF ?_);rotate_left;refine AI (AF ?_);rotate_left
 . exact EU ai F HR.out.sub (λk=>gP) (by rw [hZ];simp only [ab,ac,ag,aj,ao,ap,bd,ir,Cy,ne_eq,not_true,not_false_iff,if_false,if_true])
 . exact Eg bc F (λe=>by rw [hZ];simp only [ab,ac,ag,aj,ao,ap,ir,Cy,ne_eq,not_true,not_false_iff,if_false,if_true];rw [AH e])
 . exact OB ba F (λer e=>by rw [hZ];simp only [ab,ac,ag,aj,ao,e,ir,Cy,ne_eq,not_true,not_false_iff,if_false,if_true])
 . exact Bz bo F (λk=>gP) (λer e=>by rw [hZ];simp only [ab,ac,ag,aj,e,ir,Cy,ne_eq,not_true,not_false_iff,if_false,if_true])
 . exact Bz bm F (λk=>gP) (λer e=>by rw [hZ];simp only [ab,ac,ag,e,ir,Cy,ne_eq,not_true,not_false_iff,if_false,if_true])
 . exact Eg bk F (λe=>by rw [hZ];simp only [ab,ac,ir,Cy,ne_eq,not_true,not_false_iff,if_false,if_true];rw [AH e])
 . exact OB bi F (λer e=>by rw [hZ];simp only [ab,e,ir,Cy,ne_eq,not_true,not_false_iff,if_false,if_true])
 . exact Bz bx F (λk=>gP) (λer e=>by rw [hZ];simp only [e,ir,Cy,ne_eq,not_true,not_false_iff,if_false,if_true])
end
section
variable {c:RC} {T:nP}
def XD (hc:c.fuel<=10000) (IH:EV c d) (b:Bool) {s:List UInt8} (hy:y.isBlock=true) (a5:StOk c.g.procs (.mk 55 n s [y])) (a:Option Addr) (m:Nat) (w:World)
 (aq:Aw c.g.procs (d+1) b (.mk 55 n s [y]) r≠.error (-1)) (hs:(Nd.mk 55 n s [y]).sits P w a) (h:Run c P w r) :
 Calls prog 162 #[pt c.rb,(Nd.mk 55 n s [y]).val a m,.bool b] w (DF c P (Aw c.g.procs (d+1) b (.mk 55 n s [y]) r) w):=by
 have X:=Ne w;have HR:=gO h;have hs:rowSits P w [y] a:=hs;obtain ⟨kb,ko,ya,yc,rfl,ar,Y,sy⟩:=WM hs;have a6:=a5.kid (i:=0) rfl;obtain ⟨B1,ap⟩:∃B1,B1=AG (Aw c.g.procs d) b y:=⟨_,rfl⟩;obtain ⟨Z,hZ⟩:∃Z,Z=Aw c.g.procs (d+1) b (.mk 55 n s [y]) r:=⟨_,rfl⟩
 rw [<-hZ] at aq ⊢
 replace hZ:Z=(A4 r).bind λr=>(Cy (·.opens ⟨s,3,0⟩ 0) r).bind λr=>(B1 r).bind λr=>(A4 r).bind (Cy (·.closes s 0)):=by
  rw [hZ,ap];simp only [Aw,show ¬((55:Int)=52) by decide,show ¬((55:Int)=53) by decide,show ¬((55:Int)=54) by decide,if_true,if_false]
  rfl
 obtain ⟨yk,yn,ys,yl⟩:=y;replace Y:Row w ⟨kb,ko+0*4,none⟩ [.int .u8 yk,.int .i64 yn,str ys,.slice ya yl.length yc]:=Y
 change Calls prog _ #[_,.agg #[.int .u8 55,.int .i64 n,str s,.slice (some ⟨kb,ko,none⟩) 1 m],_] w _
 refine Ad func162 ntmps162 rfl rfl ?_
 refine cS (eB [_,_,_,_] ?_);intro b1 w2 O x5 p6 z7;replace X:=X.ext x5;revert sy Y;refine eE x5 ?_;intro sy Y;refine cT ?_
 have h1:=HR.out.more X;have F:Fr (λk=> ¬P k) w w2:=lX X;have HS:=gO (λr1 w1 h=>Nf (c:=c) (P:=Cn P w w2) (r:=r1) hc w1 h)
 unfold DF at HS
 have HO:=gO (λr1 e w1 h=>Ul hc HR.out (Cn P w w2) ⟨s,3,0⟩ (gQ rfl) rfl 0 r1 e w1 h)
 unfold VD.val at HO
 have HL:=gO (λr1 w1 h=>Uj (c:=c) (P:=Cn P w w2) (r:=r1) hc s 0 w1 h);have HC:=gO (λe w1=>Iz e (pt c.rb) w1)
 unfold Td at HC
 have HY:=gO (λr1 (e:A4 r = .ok r1) (e3:(r1.st.opens ⟨s,3,0⟩ 0).1=0) w1 h1 h2=>IH (Cn P w w2) b _ ⟨(r1.st.opens ⟨s,3,0⟩ 0).2,r1.rem⟩ ya yc w1 hy a6 (λe4=>aq (by rw [hZ];simp only [e,ir,Cy,e3,ne_eq,not_true,if_false];rw [ap,e4])) h1 h2)
 rw [<-ap] at HY
 unfold DF at HY
 focus
  refine cS (C1 Pg (C1 (Pl O) (cT (Au (cS (C1 V1 (C1 Pa (cT (NH (cS (C1 V1 (C1 Pa (cT (NH (cS (C1 V1 (C1 Pa (cT (NH (cS (C1 V1 (C1 Pa (cT (Wt (cS (C1 Mv (A3 (AP AU rfl (HS.out _ _ Ae) (λ_ _ h=>h.ret)) rfl ?_ ?_)))))))))))))))))))))))))));rotate_left;intro bp bq a7
  rotate_right 1
  rintro _ ai ⟨a8,⟨⟩,N,aa,ab⟩;revert O sy;refine eF ab ?_;intro O sy;replace Y:=mo Y ab (λh=>h (gP ar));replace F:=l8 F ab (λk hk=>gP (λh=>hk (gP h)));refine cT (Aj (Aq (λwz=>Fr ((λk=> ¬(Cn P w w2 k\/k=c.rb))) ai wz) 9 (.pure 0 (.pure 1 (.pure 2 (.pure 3 (.pure 4 (.pure 5 (.pure 6 (.pure 7 (.fork 8 .tail .none))))))))) mixed AU (Aa (Af Ag)) ?_));intro au aj _;have G:(λwz=>Fr ((λk=> ¬(Cn P w w2 k\/k=c.rb))) ai wz) au:=lX aj;simp only at G;have ag:=aa;have ac:=O;revert aa O sy Y F;refine eE aj ?_;intro aa O sy Y F;refine ⟨G,(Tq rfl Mv (Tq rfl Mv (Tq rfl Pn (Tq rfl Pf (Tq rfl (Ap Ac rfl rfl rfl (λwz hz=>l7 (lY (Run.blk ag) hz (by first|omega|(dsimp only;omega))) rfl)) ?_)))))⟩;refine Tq rfl Pf (Tq rfl (Ap Ac rfl rfl rfl (λwz hz=>l7 (lY ac hz (λh=>h (gP (gQ ⟨Ab,Ab⟩)))) rfl)) (Tq rfl (D3 [_,_,_] Ac CJ rfl rfl rfl rfl) (AE rfl (AN AU rfl (HO.out _ Ae _ Ae) (λ_ _ h=>⟨_,h.1⟩)) rfl ?_ aFh AC)));rintro _ a9 ⟨⟨⟩,ak,U⟩;revert G O;refine eF U ?_;intro G O;replace sy:=lW sy U (λb hb h=>h (gP (gP hb)))
  replace Y:=mo Y U (λh=>h (gP (gP ar)));replace F:=l8 F U (λk hk=>gP (λh=>hk (gP (gP h))));refine ⟨G,(Ar rfl (A3 (AP AU rfl (HC.out _ _) (λ_ _ h=>⟨_,h.1⟩)) rfl ?_ ?_))⟩;rotate_left;intro ba bb av
  rotate_right 1
  rintro _ bc ⟨⟨⟩,V,aw⟩;revert ak O sy Y F;refine eE aw ?_;intro ak O sy Y F;refine cN (C1 Mv (C1 Pf (C1 (Pl O) (C1 Pi (BT [_,_,_,_] Ac rfl rfl rfl Y rfl rfl rfl (C1 Mv (A3 (AP AU rfl (HY.out _ Ae Ae _ (l6 Ae (λb h=>gP h)) Ae) (λ_ _ h=>h.ret)) rfl ?_ ?_)))))));rotate_left;intro bd be ax
  rotate_right 1
  rintro _ bf ⟨bg,⟨⟩,ad,bh,ay⟩;revert O F;refine eF ay ?_;intro O F;refine cN (C1 Mv (A3 (AP AU rfl (HS.out _ _ Ae) (λ_ _ h=>h.ret)) rfl ?_ ?_));rotate_left;intro bi bj az
  rotate_right 1
  rintro _ al ⟨bk,⟨⟩,am,ae,a0⟩;revert O F;refine eF a0 ?_;intro O F;refine cT (Aq (λwz=>Fr ((λk=> ¬(Cn P w w2 k\/k=c.rb))) al wz) 8 (.pure 0 (.pure 1 (.pure 2 (.pure 3 (.pure 4 (.pure 5 (.pure 6 (.fork 7 .tail .none)))))))) mixed AU (Af Ag) ?_);intro a1 an _;have M:(λwz=>Fr ((λk=> ¬(Cn P w w2 k\/k=c.rb))) al wz) a1:=lX an;simp only at M;have ah:=ae;have ac:=O;revert ae F;refine eE an ?_;intro ae F;refine ⟨M,(Tq rfl Mv (Tq rfl Mv (Tq rfl Pn (Tq rfl Pf (Tq rfl (Ap Ac rfl rfl rfl (λwz hz=>l7 (lY (Run.blk ah) hz (by first|omega|(dsimp only;omega))) rfl)) ?_)))))⟩;refine Tq rfl Pf (Tq rfl (Ap Ac rfl rfl rfl (λwz hz=>l7 (lY ac hz (λh=>h (gP (gQ ⟨Ab,Ab⟩)))) rfl)) (AE rfl (AN AU rfl (HL.out _ _ Ae) (λ_ _ h=>⟨_,h.1⟩)) rfl ?_ aFh AC));rintro _ bl ⟨⟨⟩,af,ao⟩;replace M:=l8 M ao (λk hk=>gP hk);replace F:=l8 F ao (λk hk=>gP (λh=>hk (gP (gP h))));refine ⟨M,(Ar rfl (A3 (AP AU rfl (HC.out _ _) (λ_ _ h=>⟨_,h.1⟩)) rfl ?_ ?_))⟩;rotate_left;intro bm bn a2
  rotate_right 1
  rintro _ bo ⟨⟨⟩,a3,a4⟩;revert af F;refine eE a4 ?_;intro af F;refine Ak (Ah (Bm rfl ?_));rotate_left;refine AS (AF ?_);rotate_left;refine AI (AS (AF ?_));rotate_left;refine AI (AS (AF ?_));rotate_left;refine AI (AS (AF ?_));rotate_left;refine AI (AS (AF ?_));rotate_left
 . exact EU af F HR.out.sub (λk=>gP) (by rw [hZ];simp only [N,V,ad,am,a3,ir,Cy,ne_eq,not_true,not_false_iff,if_false,if_true])
 . exact Eg a2 F (λe=>by rw [hZ];simp only [N,V,ad,am,ir,Cy,ne_eq,not_true,not_false_iff,if_false,if_true];rw [AH e])
 . exact Bz az F (λk=>gP) (λer e=>by rw [hZ];simp only [N,V,ad,e,ir,Cy,ne_eq,not_true,not_false_iff,if_false,if_true])
 . exact Bz ax F (λk=>gP) (λer e=>by rw [hZ];simp only [N,V,e,ir,Cy,ne_eq,not_true,not_false_iff,if_false,if_true])
 . exact Eg av F (λe=>by rw [hZ];simp only [N,ir,Cy,ne_eq,not_true,not_false_iff,if_false,if_true];rw [AH e])
 . exact Bz a7 F (λk=>gP) (λer e=>by rw [hZ];simp only [e,ir,Cy,ne_eq,not_true,not_false_iff,if_false,if_true])
def Dk {S S':nP} {a:oA} (h:rowSits S w l a) (G:∀b,S b->S' b):rowSits S' w l a:=by
 have:=l6 (t:=.mk 0 0 [] l) h G;exact this
def LV (hc:c.fuel<=10000) (d:Nat) (b:Bool) {s:List UInt8} (N:(40<=k/\k<=49)\/k=56) (aq:(Nd.mk k n s l).isStmt=true) (af:StOk c.g.procs (.mk k n s l)) (a:Option Addr) (m:Nat) (w:World) (hs:(Nd.mk k n s l).sits P w a) (h:Run c P w r) :
 Calls prog 162 #[pt c.rb,(Nd.mk k n s l).val a m,.bool b] w (DF c P (Aw c.g.procs (d+1) b (.mk k n s l) r) w):=by
 have X:=Ne w;have HR:=gO h;obtain ⟨Z,hZ⟩:∃Z,Z=Aw c.g.procs (d+1) b (.mk k n s l) r:=⟨_,rfl⟩
 rw [<-hZ]
 rw [Cr _ _ _ Ab] at hZ
 change Calls prog _ #[_,.agg #[.int .u8 k,.int .i64 n,str s,.slice a l.length m],_] w _
 refine Ad func162 ntmps162 rfl rfl ?_
 refine cS (Du [_,_,_,_] rfl rfl rfl ?_);intro b1 w2 n3;have h4:=n3.blk;have x5:=n3.ext;have p6:=n3.pos;have z7:=n3.size;replace X:=X.ext x5;replace hs:=mH hs x5;refine cT ?_
 have h1:=HR.out.more X;have F:Fr (λk=> ¬P k) w w2:=lX X;have HS:=gO (λr1 w1 h=>Nf (c:=c) (P:=Cn P w w2) (r:=r1) hc w1 h)
 unfold DF at HS
 have HD:=gO (λr1 w1 h1 h2=>gh (c:=c) (P:=Cn P w w2) (r:=r1) hc N aq af.wf af.size a m w1 h1 h2);have HU:=gO (λr1 w1 h1 h2=>cQ (c:=c) (P:=Cn P w w2) (r:=r1) hc N aq af.wf af.size a m w1 h1 h2);have HC:=gO (λe w1=>Iz e (pt c.rb) w1)
 unfold Td at HC
 cases b
 . simp only [iS,if_false] at hZ
   focus
    refine cS (C1 Pg (C1 (Pl h4) (cT (Au (cS (C1 V1 (C1 Pa (cT (Dz (cS (C1 V1 (C1 Pa (cT (Dz (cS (C1 V1 (C1 Pa (cT (Dz (cS (C1 V1 (C1 Pa (cT (Dz (Aj (cS (C1 V1 (C1 Pa (cT (Dz (Al (C1 V1 (C1 Pa (cT (Dz (cS (C1 Mv (A3 (AP AU rfl (HS.out _ _ Ae) (λ_ _ h=>h.ret)) rfl ?_ ?_))))))))))))))))))))))))))))))))))))));rotate_left;intro bb bc az
    rotate_right 1
    rintro _ ai ⟨a1,⟨⟩,aj,V,Y⟩;replace h4:=lY h4 Y (λh=>h (gQ ⟨Ab,Ab⟩));replace hs:=mA hs Y (λb hb h=>h (gP hb));replace F:=l8 F Y (λk N=>gP (λh=>N (gP h)));refine cN (C1 Mv (cT (Ba rfl (Aq (λwz=>Fr ((λk=> ¬(Cn P w w2 k\/k=c.rb))) ai wz) 7 (.pure 0 (.pure 1 (.pure 2 (.pure 3 (.pure 4 (.pure 5 (.fork 6 .tail .none))))))) mixed AU (Af Ag) ?_))));intro ar O _;have G:(λwz=>Fr ((λk=> ¬(Cn P w w2 k\/k=c.rb))) ai wz) ar:=lX O;simp only at G;have ag:=V;have aa:=h4;replace V:=V.ext O;replace hs:=mH hs O;replace F:=F.ext O;refine ⟨G,(Tq rfl Mv (Tq rfl Mv (Tq rfl Pn (Tq rfl Pf (Tq rfl (Ap Ac rfl rfl rfl (λwz hz=>l7 (lY (Run.blk ag) hz (by first|omega|(dsimp only;omega))) rfl)) ?_)))))⟩;refine Tq rfl (BV [_,_,_,_] Ac rfl rfl rfl (λwz hz=>(lY aa hz (λh=>h (gP (gQ ⟨Ab,Ab⟩))))) rfl rfl) (AE rfl (AN AU rfl (HD.out _ _ (Dk Ae (λb h=>gP h)) Ae) (λ_ _ h=>⟨_,h.1⟩)) rfl ?_ aFh AC);rintro _ a2 ⟨⟨⟩,ab,ak⟩;replace G:=l8 G ak (λk N=>gP N);replace F:=l8 F ak (λk N=>gP (λh=>N (gP (gP h))))
    refine ⟨G,(Ar rfl (A3 (AP AU rfl (HC.out _ _) (λ_ _ h=>⟨_,h.1⟩)) rfl ?_ ?_))⟩;rotate_left;intro a3 a4 au
    rotate_right 1
    rintro _ a5 ⟨⟨⟩,av,al⟩;replace ab:=ab.ext al;replace F:=F.ext al;refine Ak (Ah (Bm rfl ?_));rotate_left;refine AS (AF ?_);rotate_left;refine AI (AS (AF ?_));rotate_left
   . exact EU ab F HR.out.sub (λk=>gP) (by rw [hZ];simp only [aj,av,ir,Cy,ne_eq,not_true,not_false_iff,if_false,if_true])
   . exact Eg au F (λe=>by rw [hZ];simp only [aj,ir,Cy,ne_eq,not_true,not_false_iff,if_false,if_true];rw [AH e])
   . exact Bz az F (λk=>gP) (λer e=>by rw [hZ];simp only [e,ir,Cy,ne_eq,not_true,not_false_iff,if_false,if_true])
 . simp only [if_true] at hZ
   focus
    refine cS (C1 Pg (C1 (Pl h4) (cT (Au (cS (C1 V1 (C1 Pa (cT (Dz (cS (C1 V1 (C1 Pa (cT (Dz (cS (C1 V1 (C1 Pa (cT (Dz (cS (C1 V1 (C1 Pa (cT (Dz (Aj (cS (C1 V1 (C1 Pa (cT (Dz (Al (C1 V1 (C1 Pa (cT (Dz (cS (C1 Mv (A3 (AP AU rfl (HS.out _ _ Ae) (λ_ _ h=>h.ret)) rfl ?_ ?_))))))))))))))))))))))))))))))))))))));rotate_left;intro bd be a0
    rotate_right 1
    rintro _ am ⟨a6,⟨⟩,an,ac,ad⟩;replace h4:=lY h4 ad (λh=>h (gQ ⟨Ab,Ab⟩));replace hs:=mA hs ad (λb hb h=>h (gP hb));replace F:=l8 F ad (λk N=>gP (λh=>N (gP h)));refine cN (C1 Mv (cT (BO rfl (Aq (λwz=>Fr ((λk=> ¬(Cn P w w2 k\/k=c.rb))) am wz) 7 (.pure 0 (.pure 1 (.pure 2 (.pure 3 (.pure 4 (.pure 5 (.fork 6 .tail .none))))))) mixed AU (Af Ag) ?_))));intro aw U _;have M:(λwz=>Fr ((λk=> ¬(Cn P w w2 k\/k=c.rb))) am wz) aw:=lX U;simp only at M;have ah:=ac;have aa:=h4;replace ac:=ac.ext U;replace hs:=mH hs U;replace F:=F.ext U;refine ⟨M,(Tq rfl Mv (Tq rfl Mv (Tq rfl Pn (Tq rfl Pf (Tq rfl (Ap Ac rfl rfl rfl (λwz hz=>l7 (lY (Run.blk ah) hz (by first|omega|(dsimp only;omega))) rfl)) ?_)))))⟩;refine Tq rfl (BV [_,_,_,_] Ac rfl rfl rfl (λwz hz=>(lY aa hz (λh=>h (gP (gQ ⟨Ab,Ab⟩))))) rfl rfl) (AE rfl (AN AU rfl (HU.out _ _ (Dk Ae (λb h=>gP h)) Ae) (λ_ _ h=>⟨_,h.1⟩)) rfl ?_ aFh AC);rintro _ a7 ⟨⟨⟩,ae,ao⟩;replace M:=l8 M ao (λk N=>gP N);replace F:=l8 F ao (λk N=>gP (λh=>N (gP (gP h))))
    refine ⟨M,(Ar rfl (A3 (AP AU rfl (HC.out _ _) (λ_ _ h=>⟨_,h.1⟩)) rfl ?_ ?_))⟩;rotate_left;intro a8 a9 ax
    rotate_right 1
    rintro _ ba ⟨⟨⟩,ay,ap⟩;replace ae:=ae.ext ap;replace F:=F.ext ap;refine Ak (Ah (Bm rfl ?_));rotate_left;refine AS (AF ?_);rotate_left;refine AI (AS (AF ?_));rotate_left
   . exact EU ae F HR.out.sub (λk=>gP) (by rw [hZ];simp only [an,ay,ir,Cy,ne_eq,not_true,not_false_iff,if_false,if_true])
   . exact Eg ax F (λe=>by rw [hZ];simp only [an,ir,Cy,ne_eq,not_true,not_false_iff,if_false,if_true];rw [AH e])
   . exact Bz a0 F (λk=>gP) (λer e=>by rw [hZ];simp only [e,ir,Cy,ne_eq,not_true,not_false_iff,if_false,if_true])
end
def E2 (l:List Nd) (j:Nat):List lB:=(l.take j).map mr++iL (l.length-j) []
def RJ (l:List Nd) (j:Nat) (h:j<=l.length):(E2 l j).length=l.length:=by simp [E2];omega
def RK (l:List Nd) (j:Nat) (h:j<l.length):(E2 l j).set j (l[j]).name=E2 l (j+1):=by
 unfold E2;have G:((l.take j).map mr).length=j:=by simp;omega
 have M:(iL (l.length-j) ([]:lB))=[]::iL (l.length-(j+1)) []:=by
  rw [show l.length-j=(l.length-(j+1))+1 by omega,lE]
 rw [km _ _ Ab,G,jw,M,lh,gS h,jm,iI];rfl
def RL (l:List Nd):E2 l l.length=l.map mr:=by simp [E2]
def ArrS.rowsStr {C D g:Nat} {xs:List lB} (h:ArrS strShape C D w g xs) {S:nP} (M:S g):Rows S w (xs.map str) (some ⟨g,0,none⟩):=by
 refine gQ ⟨g,0,rfl,M,λi v G=>?_⟩;rw [iJ] at G;cases hx:xs[i]? with
 | none=>rw [hx] at G;cases G
 | some x=>
  rw [hx] at G;obtain rfl:=gZ G;obtain ⟨cs,N,rfl⟩:=h.row hx;have:=N.at0 rfl;rw [show strShape.sz=1 from rfl,kh,iY] at this;have e:(⟨g,0,none⟩:Addr).add i=⟨g,i,none⟩:=by unfold jA;by_cases O:i=0<;>simp [O]
  rw [e];exact this
section
variable {c:RC} {T:nP}
def Run.ent (h:Run c P w r):∃es:List Int,es.length=c.g.procs.length/\Blk w c.eb (AZ es):=by
 obtain ⟨_,_,h⟩:=h;exact h.ent
def Run.offE (h:Run c P w r):∀k,P k -> ¬k=c.eb:=by
 obtain ⟨_,_,h⟩:=h;exact λk G e=>(h.off k G).1 (by rw [e,h.rolE];exact gQ (gQ rfl))
def Run.neER (h:Run c P w r):c.rb≠c.eb:=by
 obtain ⟨_,_,h⟩:=h;intro e;have G:=h.role;rw [e,h.rolE] at G;simp at G
def Run.procs (h:Run c P w r):PDs c.S w c.g.procs c.pa:=by
 obtain ⟨_,_,h⟩:=h;exact h.procs
def Run.bump (h:Run c P w r) (x:Fr (· = c.eb) w w') {es:List Int} (V:es.length=c.g.procs.length) (X:Blk w' c.eb (AZ es)):Run c P w' r:=by
 obtain ⟨ρ,κ,U,O,Y,Z,-,h7,h8,h9,N,M⟩:=h;have hs:=x.size;have hP:∀k,P k -> ¬k=c.eb:=λk G e=>(M k G).1 (by rw [e,O];exact gQ (gQ rfl))
 refine ⟨ρ,κ,U,O,Y,Z.fr x (λe=>by rw [show c.rb=c.eb from e,O] at U;simp at U),⟨es,V,X⟩,h7.fr x (λk G e=>by rw [show k=c.eb from G,O] at e;exact e),h8,h9.frS x (λk G e=>hP k (N k G) e),N,λk G=>⟨(M k G).1,by have:=(M k G).2;omega⟩⟩
def RM {P:Program} {l:Sl} {tab:Tab} {ty:TypeId} {w:wD} {x y:Operand} {t g i:Nat} {s:Sk} {xs:List Int} {u:Int} (TT:TabOk P tab) (ht:AB tab t=some (s,1)) (hx:ev l x=some (.pointer (some ⟨g,0+i*1,none⟩))) (hy:ev l y=some (.int .i64 u))
 (hb:Blk w g (AZ xs)) (hi:i<xs.length) :
 BE P m l (.store t x y) ty w (GR λw'=>Blk w' g (AZ (xs.set i u))/\Fr (· = g) w w'/\w'.heap.size=w.heap.size):=by
 have hd:=D1 (P:=P) (n:=m) (l:=l) (ty:=ty) (us:=[.int .i64 u]) TT ht hx hy rfl rfl rfl hb (by rw [lJ];simp [AZ];omega);unfold BE at hd ⊢;intro a dst pos after gd next Q ha hn b;refine hd a dst pos after gd next Q ha (λv' w' h=>h.elim) (λw' hP=>b w' ⟨?_,hP.fr,hP.size⟩);have h1:=hP.blk;rw [iY,kh] at h1;simpa [A7,AZ,List.map_set] using h1
structure ProcsOk (g:PG):Prop where
 few:g.procs.length<=1000000
 blk:∀p∈g.procs,p.body.isBlock=true/\StOk g.procs p.body/\p.params.length<=1000
def XE (hc:c.fuel<=10000) (hg:ProcsOk c.g) (IH:EV c d) (b:Bool) {s:List UInt8} {i:Nat} (hp:Cg c.g.procs s=some i) (hl:l.length<=8) (a:Option Addr) (m:Nat) (w:World)
 (au:((A4 r).bind λr=>(Cy (·.enters (c.g.procs.getD i ⟨[],[],.mk 0 0 [] []⟩).params (l.map mr)) r).bind λr=>
  (AG (Aw c.g.procs d) b (c.g.procs.getD i ⟨[],[],.mk 0 0 [] []⟩).body r).bind λr=>(A4 r).bind (Cy (·.leaves)))≠.error (-1)) (hs:(Nd.mk k n s l).sits P w a) (h:Run c P w r) :
 Calls prog 194 #[pt c.rb,(Nd.mk k n s l).val a m,.bool b] w (DF c P ((A4 r).bind λr=>(Cy (·.enters (c.g.procs.getD i ⟨[],[],.mk 0 0 [] []⟩).params (l.map mr)) r).bind λr=>
  (AG (Aw c.g.procs d) b (c.g.procs.getD i ⟨[],[],.mk 0 0 [] []⟩).body r).bind λr=>(A4 r).bind (Cy (·.leaves))) w):=by
 have X:=Ne w;have HR:=gO h;have bb:=h.lt
 have hi:i<c.g.procs.length:=by
  unfold Cg at hp
  exact (List.findIdx?_eq_some_iff_getElem.1 hp).1
 obtain ⟨p,bd⟩:∃p,p=c.g.procs.getD i ⟨[],[],.mk 0 0 [] []⟩:=⟨_,rfl⟩
 rw [<-bd] at au ⊢
 have be:c.g.procs[i]? = some p:=by rw [bd,gT,gN hi];rfl
 obtain ⟨bx,bz,b0⟩:=hg.blk p (iF be);have HP:=gO (λw1 h1=>PI c.g hg.few s c.S c.va c.vc c.pa c.pc c.ma c.mc w1 h1);rw [show Gx c.g.procs s=(i:Int) by unfold Gx;rw [hp]] at HP;obtain ⟨B1,a5⟩:∃B1,B1=AG (Aw c.g.procs d) b p.body:=⟨_,rfl⟩
 rw [<-a5] at au ⊢
 obtain ⟨Z,hZ⟩:∃Z,Z=((A4 r).bind λr=>(Cy (·.enters p.params (l.map mr)) r).bind λr=>(B1 r).bind λr=>(A4 r).bind (Cy (·.leaves))):=⟨_,rfl⟩
 rw [<-hZ] at au ⊢
 change Calls prog _ #[_,.agg #[.int .u8 k,.int .i64 n,str s,.slice a l.length m],_] w _
 refine Ad func194 ntmps194 rfl rfl ?_
 refine cS (Du [_,_,_,_] rfl rfl rfl ?_);intro b1 w2 n3;have h4:=n3.blk;have x5:=n3.ext;have p6:=n3.pos;have z7:=n3.size;replace X:=X.ext x5;replace hs:=mH hs x5;refine cN (C1 Pf (C1 (Pl h4) (C1 Pz (Ax (Dq (sh:=strShape) (C:=0) (D:=0) (N:=l.length) (z:=[]) Ac CJ rfl rfl rfl rfl AU rfl rfl Ab (λ_ _=>rfl)) rfl ?_ aFh))));rintro _ b2 ⟨g8,rfl,h9,cx,cy,a6⟩;replace h4:=h4.ext a6;replace X:=X.ext a6;replace hs:=mH hs a6;refine C1 Pa (cT (Aj (cS (C1 Pf (C1 (Pl h4) (C1 Pz (C1 Mv (cT ?_))))))))
 have hA:ArrS strShape 0 0 b2 g8 (E2 l 0):=by simpa [E2] using h9
 refine Au ?_;refine AQ (ι:=Nat) (λj=>[(0,pt c.rb),(2,.bool b),(4,pt b1),(6,.slice (some ⟨g8,0,none⟩) l.length l.length),(16,.slice a l.length m),(17,.int .i64 l.length),(18,.int .i64 j)])
  (λj w'=>j<=l.length/\ArrS strShape 0 0 w' g8 (E2 l j)/\Blk w' b1 [.int .u8 k,.int .i64 n,str s,.slice a l.length m]/\rowSits P w' l a/\Ext w w'/\b1+2<=w'.heap.size)
  (λj=>l.length-j) 0 sB ⟨ii _,hA,h4,hs,X,Ab⟩ ?_
 rintro j w1 ⟨hj,hA,h4,hs,X,hz⟩
 by_cases am:j<l.length
 . obtain ⟨kb,ko,rfl,cz,bf⟩:=BG hs (by intro e;subst e;simp at am);obtain ⟨xa,xc,rx,sx⟩:=bf j l[j] (gN am);have a7:=RK l j am;have c0:=RJ l j hj
   generalize l[j]=x at *
   obtain ⟨xk,xn,xs,xl⟩:=x;replace rx:Row w1 ⟨kb,ko+j*4,none⟩ [.int .u8 xk,.int .i64 xn,str xs,.slice xa xl.length xc]:=rx
   refine cS (C1 V3 (cT (Aj (TM (Ao (Ai (Aj (Au (cS (C1 Mv (C1 Pi (C1 (YN rx) (eA [_,_,_,_] ?_)))))))))))));intro c1 c2 b3 av c3 c4;replace hA:=hA.ext av;replace X:=X.ext av;replace h4:=h4.ext av;replace hs:=mH hs av;refine C1 Pa (eS [_,_,_,_] b3 ?_);intro c5 bg ah cc;replace hA:=hA.fr ah Ab;replace X:=X.fr ah Ab;replace h4:=h4.fr ah Ab;replace hs:=mA hs ah (λb hb h=>by (have h1:=bb b hb;omega));refine cT (Al (C1 Mv (C1 Mv (C1 Pf (C1 (Pl bg) (C1 Pi (A6 (Cj (sh:=strShape) (j:=j) (z:=xs) (us:=[_]) Ac rfl rfl rfl rfl rfl rfl Ae Ab Ab rfl) (BH ?_))))))));rintro _ cd ⟨ce,an,cf⟩;replace X:=X.fr an Ab;replace h4:=h4.fr an Ab;replace hs:=mA hs an (λb hb h=>by (have h1:=bb b hb;omega));refine Ak (Ah (Ai (Al (C1 V7 (C1 Mv (Ak ?_))))))
   exact AA (j+1) sB ⟨Ab,by rw [<-a7];assumption,Ae,Ae,X,Ab⟩ Ab
 . obtain rfl:j=l.length:=by omega
   rw [RL] at hA
   refine cS (C1 V3 (cT (Aj (Dz (B9 (Az (Az (A0 (Ai ?_)))))))))
   have ac:=(HR.out.ext X).blk;have aw:=(HR.out.ext X).procs;obtain ⟨pb,po,b4,c6,bh⟩:=aw.get (by intro e;rw [e] at hi;simp at hi);obtain ⟨qa,qc,ba,bc,rp,rv,sb⟩:=bh i p be;have V:=HR.out.sub;rw [b4] at ac aw HP;obtain ⟨pn,bi,b5⟩:=p;obtain ⟨bk,bn,bs,bl⟩:=b5;dsimp only at *
   refine Aj (Aq (λwz=>Ext w1 wz) 6 (.pure 0 (.pure 1 (.pure 2 (.pure 3 (.pure 4 (.pure 5 .tail)))))) mixed AU (Aa Ag) ?_);intro b6 ad _;have az:(λwz=>Ext w1 wz) b6:=ad;simp only at az;have bj:=h4;have a8:=ac;have c7:=ad.size;replace X:=X.ext ad;replace hA:=hA.ext ad;replace aw:=aw.ext ad;replace ac:=ac.ext ad;replace rp:=rp.ext ad;replace rv:=rv.ext ad;replace sb:=mQ sb ad;refine ⟨az,(Tq rfl Mv (Tq rfl Pn (Tq rfl Pg (Tq rfl (BV [_,_,_,_,_,_] Ac rfl rfl rfl (λwz hz=>(l9 a8 hz)) rfl rfl) (Tq rfl Pf (Tq rfl (Db bj) (Ar rfl (cC rfl (HP.out _ Ae) ?_))))))))⟩;rintro _ c8 ⟨⟨⟩,ag⟩;have c9:=ag.size;replace X:=X.ext ag;replace hA:=hA.ext ag;replace ac:=ac.ext ag;replace rp:=rp.ext ag;replace rv:=rv.ext ag;replace sb:=mQ sb ag;refine C1 Pa (cN (C1 Mv (C1 Pn (C1 Pg (C1 Pf (C1 (Pl ac) (C1 Mv (C1 Pi (C1 (YN rp) (ED [_,_,_,_,_,_] CJ rfl rfl ?_))))))))));intro da db Y;refine Dl [_,_,_,_,_,_] Ac rfl rfl rfl rfl rfl rfl Y rfl ?_;intro M Y;have G:=Y.blk;dsimp only at G;have ai:=Y.ext;have cg:=Y.pos;have ch:=Y.size;replace X:=X.ext ai;replace hA:=hA.ext ai;replace rv:=rv.ext ai
   replace sb:=mQ sb ai;refine cT ?_
   have h1:=HR.out.more X;have aj:Rows (Cn P w M) M ((l.map mr).map str) (some ⟨g8,0,none⟩):=hA.rowsStr (gQ ⟨Ab,Ab⟩);have F:Fr (λk=> ¬P k) w M:=lX X;have HS:=gO (λr1 w1 h=>Nf (c:=c) (P:=Cn P w M) (r:=r1) hc w1 h)
   unfold DF at HS
   have HE:=gO (λr1 w1 h1 h2 h3=>ZP (c:=c) (P:=Cn P w M) (r:=r1) hc bi (l.map mr) b0 qa (some ⟨g8,0,none⟩) qc l.length w1 h1 h2 h3);simp only [kG] at HE;have HC:=gO (λe w1=>Iz e (pt c.rb) w1)
   unfold Td at HC
   focus
    refine cS (C1 Mv (A3 (AP AU rfl (HS.out _ _ Ae) (λ_ _ h=>h.ret)) rfl ?_ ?_));rotate_left;intro dc dd b7
    rotate_right 1
    rintro _ a0 ⟨a1,⟨⟩,aa,ao,ae⟩;replace G:=lY G ae (λh=>h (gQ ⟨Ab,Ab⟩));replace rv:=mB rv ae (λb hb h=>h (gP (V _ hb)));replace sb:=lW sb ae (λb hb h=>h (gP (V _ hb)));replace aj:=Rows.fr aj ae (λb hb h=>h hb);replace F:=l8 F ae (λk hk=>gP (λh=>hk (gP h)));refine cT (Aj (Aq (λwz=>Fr ((λk=> ¬(Cn P w M k\/k=c.rb))) a0 wz) 9 (.pure 0 (.pure 1 (.pure 2 (.pure 3 (.pure 4 (.pure 5 (.pure 6 (.pure 7 (.fork 8 .tail .none))))))))) mixed AU (Aa Ag) ?_));intro bm O _;have U:(λwz=>Fr ((λk=> ¬(Cn P w M k\/k=c.rb))) a0 wz) bm:=lX O;simp only at U;have ax:=ao;have ay:=G;replace ao:=ao.ext O;replace G:=G.ext O;replace rv:=rv.ext O;replace sb:=mQ sb O;replace aj:=aj.ext O;replace F:=F.ext O;refine ⟨U,(Tq rfl Mv (Tq rfl Mv (Tq rfl Pn (Tq rfl Pf (Tq rfl (Ap Ac rfl rfl rfl (λwz hz=>l7 (lY (Run.blk ax) hz (by first|omega|(dsimp only;omega))) rfl)) ?_)))))⟩;refine Tq rfl Pf (Tq rfl (Ap Ac rfl rfl rfl (λwz hz=>l7 (lY ay hz (λh=>h (gP (gQ ⟨Ab,Ab⟩)))) rfl)) (Tq rfl Mv (AE rfl (AN AU rfl (HE.out _ _ Ae (mV Ae (λb h=>gP (V _ h))) Ae) (λ_ _ h=>⟨_,h.1⟩)) rfl ?_ aFh AC)))
    rintro _ ci ⟨⟨⟩,ab,ak⟩;replace U:=l8 U ak (λk hk=>gP hk);replace G:=lY G ak (λh=>h (gP (gQ ⟨Ab,Ab⟩)));replace sb:=lW sb ak (λb hb h=>h (gP (gP (V _ hb))));replace F:=l8 F ak (λk hk=>gP (λh=>hk (gP (gP h))));refine ⟨U,(Ar rfl (A3 (AP AU rfl (HC.out _ _) (λ_ _ h=>⟨_,h.1⟩)) rfl ?_ ?_))⟩;rotate_left;intro cj ck bo
    rotate_right 1
    rintro _ a2 ⟨⟨⟩,af,al⟩;replace ab:=ab.ext al;replace G:=G.ext al;replace sb:=mQ sb al;replace F:=F.ext al;refine cT ?_;rotate_left;refine AI (AF ?_);rotate_left;refine AI (AF ?_);rotate_left
   . obtain ⟨es,de,b8⟩:=ab.ent;have ap:=ab.offE
     have b9:Row a2 ⟨c.eb,0+i*1,none⟩ [.int .i64 (es.getD i 0)]:=λj v hj=>by
      cases j with
      | zero=>
       simp only [iw,gU] at hj;subst hj;rw [iY,kh]
       exact b8.cell (by simp [AZ,gN (show i<es.length by omega),gT])
      | succ j=>simp at hj
     have ac:=ab.blk;have H1:=gO ab;have F2:=lZ (· = c.eb) a2;have HF:=gO F
     refine cS (C1 Mv (C1 Pn (C1 Pf (C1 (Pl ac) (C1 Mv (C1 Pi (C1 (UC b9) (C1 (JL rfl rfl) (C1 Pi (A6 (RM Ac rfl rfl rfl Ae Ab) (BH ?_)))))))))));rintro _ df ⟨ca,a9,dg⟩;replace G:=lY G a9 (λe=>ap _ (gQ ⟨Ab,Ab⟩) e);replace sb:=lW sb a9 (λb hb e=>ap b (gP (V _ hb)) e);replace F2:=F2.fr a9 Ab;refine cT ?_
     have h2:=H1.out.bump F2 (by rw [jx];omega) ca;have F:=HF.out.fr F2 (λk hk=>gP (λh=>ap k (gP h) hk));have HL:=gO (λr1 w1 h=>ZO (c:=c) (P:=Cn P w M) (r:=r1) hc w1 h);have HY:=gO (λw1 h1 h2=>IH (Cn P w M) b (.mk bk bn bs bl) ⟨(a1.st.enters bi (l.map mr)).2,a1.rem⟩ ba bc w1 bx bz (λe4=>au (by rw [hZ];simp only [aa,ir,Cy,af,ne_eq,not_true,if_false];rw [a5,e4])) h1 h2)
     rw [<-a5] at HY
     unfold DF at HY
     focus
      refine cS (C1 Mv (C1 Pf (A1 [_,_,_,_] Ac rfl rfl rfl G rfl rfl rfl (C1 Mv (A3 (AP AU rfl (HY.out _ (l6 Ae (λb h=>gP (V _ h))) Ae) (λ_ _ h=>h.ret)) rfl ?_ ?_)))));rotate_left;intro dh di cb
      rotate_right 1
      rintro _ cl ⟨cm,⟨⟩,aq,cn,bp⟩;replace F:=l8 F bp (λk hk=>gP (λh=>hk (gP h)));refine cN (C1 Mv (A3 (AP AU rfl (HS.out _ _ Ae) (λ_ _ h=>h.ret)) rfl ?_ ?_));rotate_left;intro co cp bq
      rotate_right 1
      rintro _ cq ⟨cr,⟨⟩,a3,br,bt⟩;replace F:=l8 F bt (λk hk=>gP (λh=>hk (gP h)));refine cT (Al (C1 Mv (C1 Mv (C1 Pn (C1 Pf (C1 (Pl (Run.blk br)) (cC rfl (HL.out _ _ Ae) ?_)))))));rintro _ ct ⟨⟨⟩,ar,bu⟩;replace F:=l8 F bu (λk hk=>gP (λh=>hk (gP (gP h))));refine A3 (AP AU rfl (HC.out _ _) (λ_ _ h=>⟨_,h.1⟩)) rfl ?_ ?_;rotate_left;intro cu cv bv
      rotate_right 1
      rintro _ cw ⟨⟨⟩,bw,a4⟩;replace ar:=ar.ext a4;replace F:=F.ext a4;refine Ak (Bm rfl ?_);rotate_left;refine AF ?_;rotate_left;refine AI (AF ?_);rotate_left;refine AI (AF ?_);rotate_left
     . exact EU ar F HR.out.sub (λk=>gP) (by rw [hZ];simp only [aa,af,aq,a3,bw,ir,Cy,ne_eq,not_true,not_false_iff,if_false,if_true])
     . exact Eg bv F (λe=>by rw [hZ];simp only [aa,af,aq,a3,ir,Cy,ne_eq,not_true,not_false_iff,if_false,if_true];rw [AH e])
     . exact Bz bq F (λk=>gP) (λer e=>by rw [hZ];simp only [aa,af,aq,e,ir,Cy,ne_eq,not_true,not_false_iff,if_false,if_true])
     . exact Bz cb F (λk=>gP) (λer e=>by rw [hZ];simp only [aa,af,e,ir,Cy,ne_eq,not_true,not_false_iff,if_false,if_true])
   . exact Eg bo F (λe=>by rw [hZ];simp only [aa,ir,Cy,ne_eq,not_true,not_false_iff,if_false,if_true];rw [AH e])
   . exact Bz b7 F (λk=>gP) (λer e=>by rw [hZ];simp only [e,ir,Cy,ne_eq,not_true,not_false_iff,if_false,if_true])
end
section
variable {c:RC} {T:nP}
def ZR (hc:c.fuel<=10000) (IH:EV c d) (b:Bool) {z u:Nd} (hx:x.isExpr=true) (hy:y.isBlock=true) (hz:z.isBlock=true) (hu:u.isExpr=true) (O:StOk c.g.procs (.mk 52 n s [x,y,z,u])) (a:oA) (m:Nat) (w:wD)
 (M:Aw c.g.procs (d+1) b (.mk 52 n s [x,y,z,u]) r≠.error (-1)) (V:rowSits P w [x,y,z,u] a) (h:Run c P w r) :
 Calls prog 162 #[pt c.rb,.agg #[.int .u8 52,.int .i64 n,str s,.slice a 4 m],.bool b] w (DF c P (Aw c.g.procs (d+1) b (.mk 52 n s [x,y,z,u]) r) w):=by
 have X:=Ne w;have Y:=gO h;have F:=lZ (λk=> ¬P k) w;obtain ⟨Z,N⟩:∃Z,Z=Aw c.g.procs (d+1) b (.mk 52 n s [x,y,z,u]) r:=⟨_,rfl⟩
 rw [<-N] at M ⊢;replace N:Z=((BI (if b then u else x) r).bind λp=>(AG (Aw c.g.procs d) b (if p.1 then y else z) p.2).bind (Bj (if b then x else u) p.1)):=by rw [N];unfold Aw;cases b<;>rfl
 have HB:Hid (∀(G:nP) (w1:wD),rowSits G w1 [x,y,z,u] a->Run c G w1 r->Calls prog 187 #[pt c.rb,.agg #[.int .u8 52,.int .i64 n,str s,.slice a 4 m],.bool b] w1 (UD (RunA c G Z w1) (RF G Z w1))):=
  gO (λG w1 h1 h2=>by have h3:=XC (c:=c) (P:=G) (r:=r) hc IH b hx hy hz hu O a m w1 (by rw [<-N];exact M) h1 h2;rw [<-N] at h3;exact h3)
 refine Ad func162 ntmps162 rfl rfl ?_
 focus
  refine cS (eB [_,_,_,_] ?_);intro b1 w2 h4 x5 _ _;revert V X F;refine eE x5 ?_;intro V X F;refine eK ?_;refine A3 (AP AU rfl (HB.out (Cn P w w2) _ (Dk Ae (λb h=>gP h)) (Y.out.more X)) (λ_ _ h=>h.ret)) rfl ?_ ?_;rotate_left;intro aa ab ac
  rotate_right 1
  rintro _ ad ⟨ae,⟨⟩,rfl,af,U⟩;have F:=l8 F U (λk hk=>gP (λh=>hk (gP h)));refine Ak (Ah (Bm rfl ?_));rotate_left;refine AS (AF ?_);rotate_left
 . exact EU Ae F Y.out.sub (λk=>gP) rfl
 . exact Bz Ae F (λk=>gP) aFh
def eX (hc:c.fuel<=10000) (IH:EV c d) (b:Bool) {z u:Nd} (hx:x.isExpr=true) (hy:y.isBlock=true) (hz:z.isBlock=true) (hu:u.isExpr=true) (O:StOk c.g.procs (.mk 53 n s [x,y,z,u])) (a:oA) (m:Nat) (w:wD)
 (M:Aw c.g.procs (d+1) b (.mk 53 n s [x,y,z,u]) r≠.error (-1)) (V:rowSits P w [x,y,z,u] a) (h:Run c P w r) :
 Calls prog 162 #[pt c.rb,.agg #[.int .u8 53,.int .i64 n,str s,.slice a 4 m],.bool b] w (DF c P (Aw c.g.procs (d+1) b (.mk 53 n s [x,y,z,u]) r) w):=by
 have X:=Ne w;have Y:=gO h;have F:=lZ (λk=> ¬P k) w;obtain ⟨Z,N⟩:∃Z,Z=Aw c.g.procs (d+1) b (.mk 53 n s [x,y,z,u]) r:=⟨_,rfl⟩
 rw [<-N] at M ⊢;replace N:Z=((Bj (if b then u else x) true r).bind (Ch (AG (Aw c.g.procs d) b y) (AG (Aw c.g.procs d) b z) (if b then x else u) (if b then u else x) d)):=by rw [N];unfold Aw;cases b<;>rfl
 have HB:Hid (∀(G:nP) (w1:wD),rowSits G w1 [x,y,z,u] a->Run c G w1 r->Calls prog 188 #[pt c.rb,.agg #[.int .u8 53,.int .i64 n,str s,.slice a 4 m],.bool b] w1 (UD (RunA c G Z w1) (RF G Z w1))):=
  gO (λG w1 h1 h2=>by have h3:=cV (c:=c) (P:=G) (r:=r) hc IH b hx hy hz hu O a m w1 (by rw [<-N];exact M) h1 h2;rw [<-N] at h3;exact h3)
 refine Ad func162 ntmps162 rfl rfl ?_
 focus
  refine cS (eB [_,_,_,_] ?_);intro b1 w2 h4 x5 _ _;revert V X F;refine eE x5 ?_;intro V X F;refine eK ?_;refine A3 (AP AU rfl (HB.out (Cn P w w2) _ (Dk Ae (λb h=>gP h)) (Y.out.more X)) (λ_ _ h=>h.ret)) rfl ?_ ?_;rotate_left;intro aa ab ac
  rotate_right 1
  rintro _ ad ⟨ae,⟨⟩,rfl,af,U⟩;have F:=l8 F U (λk hk=>gP (λh=>hk (gP h)));refine Ak (Ah (Bm rfl ?_));rotate_left;refine AS (AF ?_);rotate_left
 . exact EU Ae F Y.out.sub (λk=>gP) rfl
 . exact Bz Ae F (λk=>gP) aFh
def cW (hc:c.fuel<=10000) (IH:EV c d) (b:Bool) {z:Nd} (hx:x.isExpr=true) (hy:y.isBlock=true) (hz:z.isExpr=true) (O:StOk c.g.procs (.mk 54 n s [x,y,z])) (a:oA) (m:Nat) (w:wD)
 (M:Aw c.g.procs (d+1) b (.mk 54 n s [x,y,z]) r≠.error (-1)) (V:rowSits P w [x,y,z] a) (h:Run c P w r) :
 Calls prog 162 #[pt c.rb,.agg #[.int .u8 54,.int .i64 n,str s,.slice a 3 m],.bool b] w (DF c P (Aw c.g.procs (d+1) b (.mk 54 n s [x,y,z]) r) w):=by
 have X:=Ne w;have Y:=gO h;have F:=lZ (λk=> ¬P k) w;obtain ⟨Z,N⟩:∃Z,Z=Aw c.g.procs (d+1) b (.mk 54 n s [x,y,z]) r:=⟨_,rfl⟩
 rw [<-N] at M ⊢;replace N:Z=((A4 r).bind λr=>(BD (if b then z else x) r).bind λv=>(Cy (·.opens ⟨s,1,0⟩ v) r).bind λr=>(AG (Aw c.g.procs d) b y r).bind λr=>(A4 r).bind λr=>(BD (if b then x else z) r).bind λv=>Cy (·.closes s v) r):=by rw [N];unfold Aw;cases b<;>rfl
 have HB:Hid (∀(G:nP) (w1:wD),rowSits G w1 [x,y,z] a->Run c G w1 r->Calls prog 189 #[pt c.rb,.agg #[.int .u8 54,.int .i64 n,str s,.slice a 3 m],.bool b] w1 (UD (RunA c G Z w1) (RF G Z w1))):=
  gO (λG w1 h1 h2=>by have h3:=ZQ (c:=c) (P:=G) (r:=r) hc IH b hx hy hz O a m w1 (by rw [<-N];exact M) h1 h2;rw [<-N] at h3;exact h3)
 refine Ad func162 ntmps162 rfl rfl ?_
 focus
  refine cS (eB [_,_,_,_] ?_);intro b1 w2 h4 x5 _ _;revert V X F;refine eE x5 ?_;intro V X F;refine eK ?_;refine A3 (AP AU rfl (HB.out (Cn P w w2) _ (Dk Ae (λb h=>gP h)) (Y.out.more X)) (λ_ _ h=>h.ret)) rfl ?_ ?_;rotate_left;intro aa ab ac
  rotate_right 1
  rintro _ ad ⟨ae,⟨⟩,rfl,af,U⟩;have F:=l8 F U (λk hk=>gP (λh=>hk (gP h)));refine Ak (Ah (Bm rfl ?_));rotate_left;refine AS (AF ?_);rotate_left
 . exact EU Ae F Y.out.sub (λk=>gP) rfl
 . exact Bz Ae F (λk=>gP) aFh
def ZS (hc:c.fuel<=10000) (IH:EV c d) (b:Bool) (hg:ProcsOk c.g) {i:Nat} (U:Cg c.g.procs s=some i) (hl:l.length<=8) (aa:StOk c.g.procs (.mk 50 n s l)) (a:oA) (m:Nat) (w:wD)
 (M:Aw c.g.procs (d+1) b (.mk 50 n s l) r≠.error (-1)) (V:rowSits P w l a) (h:Run c P w r) :
 Calls prog 162 #[pt c.rb,.agg #[.int .u8 50,.int .i64 n,str s,.slice a l.length m],.bool b] w (DF c P (Aw c.g.procs (d+1) b (.mk 50 n s l) r) w):=by
 have X:=Ne w;have Y:=gO h;have F:=lZ (λk=> ¬P k) w;obtain ⟨Z,N⟩:∃Z,Z=Aw c.g.procs (d+1) b (.mk 50 n s l) r:=⟨_,rfl⟩
 rw [<-N] at M ⊢;replace N:Z=((A4 r).bind λr=>(Cy (·.enters (c.g.procs.getD i ⟨[],[],.mk 0 0 [] []⟩).params (l.map mr)) r).bind λr=>(AG (Aw c.g.procs d) (b != decide ((50:Int)=51)) (c.g.procs.getD i ⟨[],[],.mk 0 0 [] []⟩).body r).bind λr=>(A4 r).bind (Cy (·.leaves))):=by rw [N];rw [ER _ _ _ Ab,U];rfl
 have HB:Hid (∀(G:nP) (w1:wD) (q:Bool) (hq:q=(b != decide ((50:Int)=51))),rowSits G w1 l a->Run c G w1 r->Calls prog 194 #[pt c.rb,.agg #[.int .u8 50,.int .i64 n,str s,.slice a l.length m],.bool q] w1 (UD (RunA c G Z w1) (RF G Z w1))):=
  gO (λG w1 q hq h1 h2=>by subst hq;have h3:=XE (k:=50) (n:=n) (c:=c) (P:=G) (r:=r) hc hg IH (b != decide ((50:Int)=51)) U hl a m w1 (by rw [<-N];exact M) h1 h2;rw [<-N] at h3;exact h3)
 refine Ad func162 ntmps162 rfl rfl ?_
 focus
  refine cS (eB [_,_,_,_] ?_);intro b1 w2 h4 x5 _ _;revert V X F;refine eE x5 ?_;intro V X F;refine eK ?_;refine C1 (Nb Ac rfl rfl rfl) ?_;refine A3 (AP AU rfl (HB.out (Cn P w w2) _ _ (by cases b<;>rfl) (Dk Ae (λb h=>gP h)) (Y.out.more X)) (λ_ _ h=>h.ret)) rfl ?_ ?_;rotate_left;intro ab ac ad
  rotate_right 1
  rintro _ ae ⟨af,⟨⟩,rfl,ag,O⟩;have F:=l8 F O (λk hk=>gP (λh=>hk (gP h)));refine Ak (Ah (Bm rfl ?_));rotate_left;refine AS (AF ?_);rotate_left
 . exact EU Ae F Y.out.sub (λk=>gP) rfl
 . exact Bz Ae F (λk=>gP) aFh
def ZT (hc:c.fuel<=10000) (IH:EV c d) (b:Bool) (hg:ProcsOk c.g) {i:Nat} (U:Cg c.g.procs s=some i) (hl:l.length<=8) (aa:StOk c.g.procs (.mk 51 n s l)) (a:oA) (m:Nat) (w:wD)
 (M:Aw c.g.procs (d+1) b (.mk 51 n s l) r≠.error (-1)) (V:rowSits P w l a) (h:Run c P w r) :
 Calls prog 162 #[pt c.rb,.agg #[.int .u8 51,.int .i64 n,str s,.slice a l.length m],.bool b] w (DF c P (Aw c.g.procs (d+1) b (.mk 51 n s l) r) w):=by
 have X:=Ne w;have Y:=gO h;have F:=lZ (λk=> ¬P k) w;obtain ⟨Z,N⟩:∃Z,Z=Aw c.g.procs (d+1) b (.mk 51 n s l) r:=⟨_,rfl⟩
 rw [<-N] at M ⊢;replace N:Z=((A4 r).bind λr=>(Cy (·.enters (c.g.procs.getD i ⟨[],[],.mk 0 0 [] []⟩).params (l.map mr)) r).bind λr=>(AG (Aw c.g.procs d) (b != decide ((51:Int)=51)) (c.g.procs.getD i ⟨[],[],.mk 0 0 [] []⟩).body r).bind λr=>(A4 r).bind (Cy (·.leaves))):=by rw [N];rw [ER _ _ _ Ab,U];rfl
 have HB:Hid (∀(G:nP) (w1:wD) (q:Bool) (hq:q=(b != decide ((51:Int)=51))),rowSits G w1 l a->Run c G w1 r->Calls prog 194 #[pt c.rb,.agg #[.int .u8 51,.int .i64 n,str s,.slice a l.length m],.bool q] w1 (UD (RunA c G Z w1) (RF G Z w1))):=
  gO (λG w1 q hq h1 h2=>by subst hq;have h3:=XE (k:=51) (n:=n) (c:=c) (P:=G) (r:=r) hc hg IH (b != decide ((51:Int)=51)) U hl a m w1 (by rw [<-N];exact M) h1 h2;rw [<-N] at h3;exact h3)
 refine Ad func162 ntmps162 rfl rfl ?_
 focus
  refine cS (eB [_,_,_,_] ?_);intro b1 w2 h4 x5 _ _;revert V X F;refine eE x5 ?_;intro V X F;refine eK ?_;refine C1 (Nb Ac rfl rfl rfl) ?_;refine A3 (AP AU rfl (HB.out (Cn P w w2) _ _ (by cases b<;>rfl) (Dk Ae (λb h=>gP h)) (Y.out.more X)) (λ_ _ h=>h.ret)) rfl ?_ ?_;rotate_left;intro ab ac ad
  rotate_right 1
  rintro _ ae ⟨af,⟨⟩,rfl,ag,O⟩;have F:=l8 F O (λk hk=>gP (λh=>hk (gP h)));refine Ak (Ah (Bm rfl ?_));rotate_left;refine AS (AF ?_);rotate_left
 . exact EU Ae F Y.out.sub (λk=>gP) rfl
 . exact Bz Ae F (λk=>gP) aFh
def cX (O:c.fuel<=10000) (hg:ProcsOk c.g) (Y:EV c d):XB c (d+1):=by
 intro P b t r a m w N G M U h;cases B3 N with
 | upd X V Z=>exact LV O d b Ab N G a m w U h
 | swap V Z=>exact LV O d b Ab N G a m w U h
 | stack X hn V=>exact LV O d b Ab N G a m w U h
 | tape X V=>exact LV O d b Ab N G a m w U h
 | call X hn hl hv=>
  rename_i k s l;obtain ⟨i,hi⟩:=Option.isSome_iff_exists.1 (G.calls.1 X);rcases X with rfl|rfl
  . exact ZS O Y b hg hi hl G a m w M U h
  . exact ZT O Y b hg hi hl G a m w M U h
 | branch X V Z hz hu=>
  rcases X with rfl|rfl
  . exact ZR O Y b V Z hz hu G a m w M U h
  . exact eX O Y b V Z hz hu G a m w M U h
 | local_ hn V Z hz=>exact cW O Y b V Z hz G a m w M U h
 | lstack hn V=>exact XD O Y b V G a m w M U h
def Um (G:c.fuel<=10000) (M:ProcsOk c.g):∀d,XB c d
 | 0=>λP b t r a m w _ _ h _ _=>absurd (by unfold Aw;rfl) h
 | d+1=>cX G M (Uk (Um G M d))
def XF (h:c.fuel<=10000) (G:ProcsOk c.g) (d:Nat):EV c d:=Uk (Um h G d)
end
end Bk
namespace Bk
open Go Go.RowKit
section
variable {P:Program} {n:Nat} {l:Sl} {w:wD} {ty:TypeId} {Q:Exit->Act->wD->Prop} {ops:Array Oper} {rest:List Oper} {pos:String} {after:Array Edge} {A:Ending->wD->Prop} {B:List PanicEntry->wD->Prop} {D:List Deferred}
def VH {f:FuncId} {fn:Func} {c:Code} {args:lV} {R:Ending->wD->Prop}
 (M:P.funcs[f]? = some fn) (X:fn.ntmps=n) (N:fn.body=some c) (O:jr args.length n=true) (h:CW P n c (bodyPostD P fn R) (GF 0 args) w):Calls P f args.toArray w R:=by
 unfold CW at h;refine calls_of_wp_defers M N (h _ ?_);have U:args.length<=n:=by simpa using O
 refine ⟨by simp;omega,rfl,λd v V=>?_⟩;obtain ⟨-,G⟩:=Gk d v args 0 V;simp only [jM] at G;have:d<args.length:=by
  rcases it d args.length with h|h
  . exact h
  . rw [ic h] at G;cases G
 rw [gN this] at G;simp only [gU] at G;simp [kN,this,G]
def XG {x:Operand} {f:Fn} {fi ca:Array Value} (G:ev l x=some (.func f fi ca)) (k:SM P [⟨.fn f ca,fi⟩] n ops Q rest l w):LW P n ops Q (⟨none,.defer ⟨.value x,#[],#[]⟩,ty,pos,after,none⟩::rest) l w:=by
 unfold SM at k;unfold LW;intro a h;unfold wpList;rw [AH (Bd rfl)];left;have e:(execOp a.eval ⟨none,.defer ⟨.value x,#[],#[]⟩,ty,pos,after,none⟩).run P w = .ok (.defer ⟨.fn f ca,fi⟩) w:=by
  simp [execOp,resolve,h.ev G,Deferred.ofValue,gY]
 unfold jy;rw [e];refine k _ ⟨⟨h.size,rfl,h.has⟩,?_⟩;show _::a.defers=_;rw [h.defers]
def VI {f:FuncId} {x:Operand} {fi ca:lV} {xs:List Operand} {tys:Array TypeId} {vs:lV} {d:Nat} (U:BZ P f=true) (V:ev l x=some (.func (.func f) fi.toArray ca.toArray)) (N:evs l xs=some vs) (X:iE d n=true) (C:Calls P f (fi++vs++ca).toArray w (UD A B))
 (Y:∀e w1,A e w1 -> ∃v,e = .returned v) (k:∀v w1,A (.returned v) w1->SM P D n ops Q rest ((d,v)::l) w1) (O:∀c w1,B c w1->JZ D n Q (.panic c) l w1) :
 SM P D n ops Q (⟨some d,.call ⟨.value x,xs.toArray,tys⟩,ty,pos,after,none⟩::rest) l w:=by
 unfold SM at k ⊢;unfold JZ at O;intro a M;unfold wpList;rw [AH (Bd rfl)];left;have G:xs.map a.eval=vs:=M.1.evs N;have e:(execOp a.eval ⟨some d,.call ⟨.value x,xs.toArray,tys⟩,ty,pos,after,none⟩).run P w = .ok (.enter f (fi++vs++ca).toArray) w:=by
  simp only [execOp,resolve,M.ev V,Deferred.ofValue,ij,iC,gY,invoke];rw [DH U];simp [<-G]
 unfold jy;rw [e];refine i7 C λe w1 h=>?_
 rcases h with h|⟨c,rfl,h⟩
 . obtain ⟨v,rfl⟩:=Y e w1 h;exact k v w1 h _ (M.put X v)
 . exact O c w1 h a M
def Nh {K:Act->wD->Prop} {c:List PanicEntry} (h:JZ D n Q (.panic c) l w):JZ D n (Exit.then K Q) (.panic c) l w:=by unfold JZ at h ⊢;exact h
def OC {fn:Func} {R:Ending->wD->Prop} {e:Exit} {u u':FrameMode} {f:FuncId} {fi ca:lV} {t G sz:Nat} {s:Sk} {tab:Tab} {b:Nat} (N:(e = .ret/\u = .returning) \/ ∃c,e = .panic c/\u = .panicking c) (V:BZ P f=true)
 (h:fn.results = #[.cell t G]) (T:TabOk P tab) (X:AB tab G=some (s,sz)) (Y:s.agg=false) (Z:look l t=some (pt b)) (hu:settle u' = .returning)
 (C:CallsD P f (fi++ca).toArray u w λe O w1=>O=u'/\e = .returned (.tuple #[]) /\ ∃v,Blk w1 b [v]/\R (.returned v) w1):JZ [⟨.fn (.func f) ca.toArray,fi.toArray⟩] n (bodyPostD P fn R) e l w:=by
 unfold JZ;intro a U;have key:Leaves P fn a.tmps R a.defers u w:=by
  rw [U.2];refine leaves_cons (f:=f) (args:=(fi++ca).toArray) ?_ ?_ (CallsD.mono C ?_)
  . rcases N with ⟨-,rfl⟩|⟨c,-,rfl⟩<;>simp
  . simp only [invoke];rw [DH V];simp
  . rintro e1 O w1 ⟨rfl,rfl,v,M,hR⟩;simp only;rw [hu];exact ⟨v,QM h T X Y (U.1.has t _ Z) (M.cell rfl),hR⟩
 rcases N with ⟨rfl,rfl⟩|⟨c,rfl,rfl⟩<;>exact key
def Ni {f:FuncId} {fn:Func} {t d id:Nat} {V Y:TypeId} {N O:String} {G M:Array Edge} {y:Code} {args:lV} {u u':FrameMode} {v:Value} {R:Ending->wD->Prop}
 (hf:P.funcs[f]? = some fn) (hn:fn.ntmps=n) (hb:fn.body=some (.seq (.region id #[⟨some t,.call ⟨.builtin .recover,#[],#[]⟩,V,N,G,none⟩,⟨some d,.assign (.tmp t),Y,O,M,none⟩] false) y)) (hl:jr args.length n=true) (ht:iE t n=true) (hd:iE d n=true)
 (hr:∀(c:Frame) (cs:List Frame),c.mode=u->recoverD (c::cs)=some (v,{ c with mode:=u' }::cs)\/(recoverD (c::cs)=none/\v = .nilIface/\u'=u))
 (h:CW P n y (bodyPost P fn R) ((d,v)::(t,v)::GF 0 args) w):CallsD P f args.toArray u w λe Z w'=>Z=u'/\R e w':=by
 unfold CW at h;refine callsD_of_wpS hf hb λc₀ cs hu=>wpS_seq (wpS_region ?_)
 have aa:Env n (GF 0 args) { tmps:=args.toArray++jt (fn.ntmps-args.toArray.size) undef,defers:=[] }:=by
  have ae:args.length<=n:=by simpa using hl
  refine ⟨by simp;omega,rfl,λd v hv=>?_⟩;obtain ⟨-,U⟩:=Gk d v args 0 hv;simp only [jM] at U;have:d<args.length:=by
   rcases it d args.length with h|h
   . exact h
   . rw [ic h] at U;cases U
  rw [gN this] at U;simp only [gU] at U;simp [kN,this,U]
 generalize ({ tmps:=args.toArray++jt (fn.ntmps-args.toArray.size) undef,defers:=[] }:Act)=a at *;have ab:∀(c1:Frame),c1={ c₀ with mode:=u' }->wpOpsS P #[⟨some t,.call ⟨.builtin .recover,#[],#[]⟩,V,N,G,none⟩,⟨some d,.assign (.tmp t),Y,O,M,none⟩] (Exit.thenS (y.wpS P (bodyPostS P fn c₀ cs λe Z w'=>Z=u'/\R e w')) (bodyPostS P fn c₀ cs λe Z w'=>Z=u'/\R e w')) [1] (a.put (some t) v) (c1::cs) w:=λc1 ac=>by
  have he:=aa.put ht v;have ad:(a.put (some t) v).eval (.tmp t)=v:=he.ev (by simp [ev,Ii]);simp only [wpOpsS,List.getElem?_toArray,kI,iw];rw [AH (Bd rfl)];simp only [execOp,iC,ad,Oper.upon];refine wpS_of_wp (wp_mono (h _ (he.put hd v)) λe a1 w1 X=>?_);subst ac;cases e with
  | normal=>
   obtain ⟨q1,v1,q2,q3⟩:=X;exact ⟨q1,u',rfl,v1,q2,rfl,q3⟩
  | ret=>
   obtain ⟨q1,v1,q2,q3⟩:=X;exact ⟨q1,u',rfl,v1,q2,rfl,q3⟩
  | panic c=>
   obtain ⟨q1,q3⟩:=X;exact ⟨q1,u',rfl,rfl,q3⟩
  | outgrown=>exact ⟨u',rfl,X⟩
  | exit i=>exact X
  | goto i=>exact X
 simp only [lk,gV,iG,show jj 2=[0,1] from rfl];unfold wpOpsS;simp only [List.getElem?_toArray,iw];rw [AH (Bd rfl)];have e1:(execOp a.eval ⟨some t,.call ⟨.builtin .recover,#[],#[]⟩,V,N,G,none⟩).run P w = .ok .recover w:=by
  simp [execOp,resolve,invoke,builtin,gY]
 rw [e1];simp only;rcases hr c₀ cs hu with h1|⟨h1,U,h3⟩
 . rw [h1];exact ab _ rfl
 . rw [h1];subst U;refine ab _ ?_;rw [h3,<-hu]
end
open Go.Proofs
attribute [local irreducible] Go.Calls
section
variable {c:RC} {P P':nP} {w w':wD} {r:Rn} {T:nP}
def Run.away (h:Run c P w r) (x:Fr T w w') (V:∀k,T k->P k /\ ¬c.S k):Run c P w' r:=by
 obtain ⟨ρ,κ,X,Y,Z,h4,⟨es,h5,h6⟩,h7,h8,h9,O,M⟩:=h;have hs:=x.size;have U:∀k,eU (ρ k) -> ¬T k:=λk G N=>(M k (V k N).1).1 G
 exact ⟨ρ,κ,X,Y,Z,h4.fr x (U _ (by rw [X];exact gQ (gP rfl))),⟨es,h5,h6.fr x (U _ (by rw [Y];exact gQ (gQ rfl)))⟩,h7.fr x (λk G N=>U k (gP N) G),h8,h9.frS x (λk G N=>(V k N).2 G),O,λk G=>⟨(M k G).1,by have:=(M k G).2;omega⟩⟩
def XH (h:Nat) (w:wD) (G:Blk w h [.slice none 0 0,.bool false]):Calls prog 159 #[pt h] w λe w'=>e = .returned (.int .i64 0)/\Ext w w':=by
 have X:=Ne w;refine Ad func159 ntmps159 rfl rfl (eK ?_);refine C1 (A2 Ac rfl rfl) (kR ?_);exact ⟨rfl,X⟩
def XI (h G M:Nat) (w:wD):CallsD prog 160 #[pt h,pt G,pt M] .returning w λe u w'=>u = .returning/\e = .returned (.tuple #[])/\Ext w w':=by
 have X:=Ne w;refine Ni (args:=[_,_,_]) (v:=.nilIface) func160 ntmps160 rfl rfl rfl rfl (λc cs N=>gQ ⟨by simp [recoverD,N],rfl,rfl⟩) (eK ?_);refine C1 (UF Ac rfl rfl) (eK ?_);refine EW rfl ?_;exact ⟨rfl,X⟩
def Tf (b2 b5 N X:Nat) (V e0:Int) (w:wD) (h2:Blk w b2 [pt X]) (Y:Blk w X [.slice none 0 0,.bool false]) (h5:Blk w b5 [.int .i64 0]) (M:Blk w N [.int .i64 e0]) (ad:N<w.heap.size) :
 CallsD prog 160 #[pt b2,pt b5,pt N] (.panicking (Nc V)) w λe u w'=>u = .panicking [{ v:=.iface 240 (.agg #[.int .i64 V]),recovered:=true }]/\e = .returned (.tuple #[])/\Blk w' N [.int .i64 V]/\Fr (· = N) w w':=by
 have F:=lZ (· = N) w;have HL:=gO (λw1 h=>XH X w1 h);refine Ni (args:=[_,_,_]) (v:=.iface 240 (.agg #[.int .i64 V])) func160 ntmps160 rfl rfl rfl rfl (λc cs hc=>gP (by simp [recoverD,hc,Nc])) ?_;refine eK ?_;refine C1 (Ww Ac rfl rfl) ?_;refine eK ?_;refine Aq (λZ=>Ext w Z) 3 (.pure 0 (.pure 2 (.fork 1 .tail .none))) mixed AU (Aa (Aa Ag)) ?_;intro w1 x2 _;have G:(λZ=>Ext w Z) w1:=x2;simp only at G;have O:=h2;have U:=h5;revert Y M F;refine eE x2 ?_;intro Y M F;refine ⟨G,?_⟩;refine Tq rfl (Db O) (Tq rfl (Db U) ?_);refine tC rfl rfl (HL.out _ Ae) ?_;rintro _ w7 ⟨⟨⟩,x6⟩;revert G M F;refine eE x6 ?_;intro G M F;refine ⟨G,?_⟩;refine Ar rfl ?_;refine eK ?_;refine C1 (Sq AU rfl) ?_;refine eK ?_;refine xA [_] ?_;intro b9 ae aa;refine eI [_] aa ?_;intro af ag ab _ _;revert M F;refine eE ab ?_;intro M F;refine eK ?_;refine eS [_] M ?_;intro ah ai ac _;clear M Y;have F:=F.fr ac Ab;refine Ak (Bm rfl ?_);exact ⟨rfl,Ae,F⟩
def cY (c:RC) (P:nP) (Z:Except Int Rn) (w:wD):Ending->wD->Prop:=λe w'=> ∃er,e = .returned (.int .i64 er)/\((er=0 /\ ∃r,Z = .ok r/\Run c P w' r)\/(er≠0/\Z = .error er))/\Fr (λk=> ¬P k) w w'
def VJ {V:Nat} {f:FuncId} {ca:lV} (hb:BZ prog f=true) {Z:Except Int Rn} (hz:Z≠.error 0) (w:wD) (hP:∀k,P k->k<w.heap.size) (hS:∀k,c.S k->P k) (aa:P V) (M:Blk w V [.slice none 0 0,.bool false])
 (HC:∀w1,Ext w w1->Calls prog f ca.toArray w1 (DF c (Cn P w w1) Z w1)) :
 Calls prog 119 #[pt V,.func (.func f) #[] ca.toArray] w (cY c P Z w):=by
 have X:=Ne w;have HL:=gO (λw1 h=>XH V w1 h);have HC:=gO HC;refine VH (args:=[_,_]) func119 ntmps119 rfl rfl (cS (eB [_] ?_));intro Y w2 O x5 p6 z7;revert M X;refine eE x5 ?_;intro M X;refine eA [_] ?_;intro b8 w9 G ab ag ah;revert O M X;refine eE ab ?_;intro O M X;refine eK ?_;refine C1 (A2 Ac rfl rfl) (eK ?_);refine C1 (JJ Ac rfl rfl) (kC (HL.out _ Ae) ?_);rintro _ ai ⟨⟨⟩,ac⟩;revert G O M X;refine eY ac ?_;intro aj G O M X;refine xA [_] ?_;intro N ak ad;refine eI [_] ad ?_;intro al ae af am an;revert G O M X;refine eE af ?_;intro G O M X;refine cT (Aj (Al (De (B6 rfl) rfl (XG rfl (GW (DE (Ip (EL (FF (Av rfl) rfl (VI (fi:=[]) (vs:=[]) (ca:=ca) (xs:=[]) hb rfl rfl rfl (HC.out _ X) (λ_ _ h=>h.ret) ?_ ?_))))))))))
 . rintro v w1 ⟨r,he,hr,hv,F⟩;obtain rfl:=Ending.returned.inj he;have h8:=G.fr F (λh=>h (gQ ⟨Ab,Ab⟩));refine GW (DE (Ip (EL (KJ Ac rfl rfl rfl rfl rfl h8 λw3 h9 F2=>GW (DE (J0 (OC (u':=.returning) (fi:=[]) (ca:=[pt Y,pt N,pt b8]) (gP ⟨rfl,rfl⟩) AU rfl Ac rfl rfl rfl rfl ((XI Y N b8 w3).mono ?_))))))));rintro e u w4 ⟨rfl,rfl,x4⟩;have F3:Fr (λk=> ¬P k) w w4:=(((lX X).fr F (λk U=>gP (λh=>U (gP h)))).fr F2 (λk U=>gP (λh=>by have:=hP k h;omega))).ext x4;exact ⟨rfl,rfl,_,h9.ext x4,0,rfl,gP ⟨rfl,r,hr,((hv.away F2 (λk U=>⟨gQ ⟨Ab,Ab⟩,λh=>by have:=hP k (hS k h);omega⟩)).ext x4).less hS (λk=>gP)⟩,F3⟩
 . rintro ch w1 ⟨er,he,rfl,F⟩;have h8:=G.fr F (λh=>h (gQ ⟨Ab,Ab⟩));refine Nh (OC (u':=.panicking [{ v:=.iface 240 (.agg #[.int .i64 er]),recovered:=true }]) (fi:=[]) (ca:=[pt Y,pt N,pt b8]) (gQ ⟨_,rfl,rfl⟩) AU rfl Ac rfl rfl rfl rfl ((Tf Y N b8 V er 0 w1 (O.fr F (λh=>h (gQ ⟨Ab,Ab⟩))) (M.fr F (λh=>h (gP aa))) (ae.fr F (λh=>h (gQ ⟨Ab,Ab⟩))) h8 h8.lt).mono ?_));rintro e u w4 ⟨rfl,rfl,h9,F2⟩;have F3:Fr (λk=> ¬P k) w w4:=((lX X).fr F (λk U=>gP (λh=>U (gP h)))).fr F2 (λk U=>gP (λh=>by have:=hP k h;omega));exact ⟨rfl,rfl,_,h9,er,rfl,gQ ⟨λe=>hz (e▸he),he⟩,F3⟩
end
structure SV.small (s:SV):Prop where
 few:s.cells.length<=1000000
 each:∀xs∈s.cells,xs.length<=1000000
 tin:s.tin.length<=1000000
 tout:s.tout.length<=1000000
structure ResV where
 st:SV
 steps:Int
 err:Int
abbrev ResV.row (r:ResV) (a:oA) (c:Nat) (ta:oA) (tc:Nat) (oa:oA) (oc:Nat):lV:=[.slice a r.st.cells.length c,.slice ta r.st.tin.length tc,.slice oa r.st.tout.length oc,.int .i64 r.steps,.int .i64 r.err]
end Bk
namespace Bk
open Go Go.RowKit Go.Proofs
variable {i c:Nat} {xs:List Int} {k:Int} {v:List VD} {st:Stp} {w:wD} {s:lB} {l:List Nd} {t:Nd} {ρ:Nat->nP} {d:VD}
def CK (vs:List VD) (s:SV) (j:Nat):Stp:=⟨s.cells.take j,⟨vs.take j,jj j,0⟩,[],s.tin,s.tout⟩
def NewS (B sb:Nat) (st:Stp) (w:wD):Prop:= ∃ ρ κ,(∀k,k<B->ρ k = .none)/\StoreAt ρ κ w sb st
def gm (B sb:Nat) (st:Stp) (w:wD):Ending->wD->Prop:=λe w'=>e = .returned (.tuple #[])/\NewS B sb st w'/\Fr (λk=>B<=k) w w'
def XJ {B sb:Nat} (h:NewS B sb st w) (O:st.calls=[]) (hl:∀c∈st.base.cells,c<st.heap.length) (hv:st.base.vars.length<=1000000) (hn:st.base.cells.length<=1000000) (hB:B<=sb) (ap:B<=w.heap.size)
 (v:VD) (xs:List Int) (u:Value) (cb:Nat) (w1:wD) (X:Ext w w1) (af:w.heap.size<=cb) (hb:Blk w1 cb [u]) (hu:OwnI w1 w.heap.size u xs) (ag:u.ownBlock≠some cb) :
 Calls prog 158 #[pt sb,v.val,pt cb] w1 (gm B sb { st with base:=⟨st.base.vars++[v],st.base.cells++[st.heap.length],st.base.locals⟩,heap:=st.heap++[xs] } w1):=by
 obtain ⟨ρ,κ,h0,h⟩:=h;have V:st.cur=st.base:=by unfold Stp.cur;rw [O];rfl
 obtain ⟨fb,fo,pre,post,T,vv,vc,ah,ab,M,hf,U⟩:=h.open;obtain ⟨rfl,rfl⟩:fb=sb/\fo=0:=by
  obtain ⟨_,_,_,_,_,_,-,h2|h2⟩:=ah
  . exact h2.2
  . rw [O] at h2;exact absurd h2.1 AK
 have N:st.calls.length=0:=by rw [O];rfl
 rw [N,V] at hf;rw [V] at M;have ai:fb<w.heap.size:=M.1.blk.lt;have ac:=hb.lt;obtain ⟨Y,aj,Z,ad⟩:∃Y,w.heap.size<=Y/\Y<w1.heap.size /\ ∀k,u.ownBlock=some k->k=Y:=by
  cases hu0:u.ownBlock with
  | none=>exact ⟨cb,af,ac,λk G=>by cases G⟩
  | some g=>exact ⟨g,(hu.lt hu0).1,(hu.lt hu0).2,λk G=>(gZ G).symm⟩
 obtain ⟨k1,k2,k3,k4,k5,k6⟩:=RD (κ:=κ) (n:=st.heap.length) hf h.fresh ai ab (λc O=>by have:=hl c O;omega) w1 cb Y X af aj ac Z;have ak:Win w1 fb 0 [vv,vc,.int .i64 st.base.locals] pre post T:=M.ext X;have aa:=Uf (κ:=Qa κ st.heap.length cb) st.base v st.heap.length fb 0 pre post T vv vc (.int .i64 st.base.locals) w1 k1 ak k2 k3 hv hn;rw [show Kz (Qa κ st.heap.length cb) st.heap.length=pt cb by unfold Kz Qa;rw [AH rfl]] at aa;refine aa.mono ?_;rintro e w' ⟨al,am,ρ',rfl,q1,q2,q3,q4,q5⟩;have eo:∀b,b<w.heap.size->FP ρ st.heap.length cb Y b=ρ b:=λb hb=>by unfold FP;rw [At Ab,At Ab]
 have hr:Ro ρ ρ' w:=λb hb=>by rw [q1 b Ab,eo b hb]
 have F:Fr (Fq ρ st.calls.length fb) w w':=(lX X).fr q5 (λk G=>by rw [N];exact k4 k G);have hκ:∀c,c≠st.heap.length->Qa κ st.heap.length cb c=κ c:=λc O=>At O
 have h1:=U ρ' (Qa κ st.heap.length cb) w' ⟨st.base.vars++[v],st.base.cells++[st.heap.length],st.base.locals⟩ al am hr q2 (λf hf c an=>hκ c (by rw [O] at hf;obtain rfl:=iu.1 hf;have:=hl c an;omega)) (λc O=>hκ c Ab) F q3 (by rw [N];exact q4);have ao:st.setCur ⟨st.base.vars++[v],st.base.cells++[st.heap.length],st.base.locals⟩={ st with base:=⟨st.base.vars++[v],st.base.cells++[st.heap.length],st.base.locals⟩ }:=by unfold mp;rw [AH O]
 rw [ao] at h1;have ae:CellAt ρ' (Qa κ st.heap.length cb) w' st.heap.length xs:=by
  refine ⟨?_,u,?_,?_,λk G=>?_⟩
  . rw [show Qa κ st.heap.length cb st.heap.length=cb from AH rfl,q1 cb ac];exact AH rfl
  . rw [show Qa κ st.heap.length cb st.heap.length=cb from AH rfl];exact hb.fr q5 k5
  . exact (hu.low (λ_ _=>ii _)).fr q5 (λk G hS=>by rw [ad k G] at hS;exact k6 hS)
  . rw [ad k G,q1 Y Z];unfold FP;rw [At (λe=>ag (by rw [G,ad k G,e])),AH rfl]
 refine ⟨rfl,⟨ρ',Qa κ st.heap.length cb,λk G=>by rw [hr k Ab,h0 k G],h1.newCell ae⟩,q5.weaken (λk G=>?_)⟩;rcases it k B with h|h
 . exfalso;have e1:FP ρ st.heap.length cb Y k = .none:=by rw [eo k Ab,h0 k h]
   unfold Fq at G;rw [e1] at G;rcases G with rfl|G|G
   . omega
   . cases G
   . cases G
 . exact h
attribute [local irreducible] Go.Calls
def VK (vs:List VD) (s:SV) (j:Nat) (G:j<vs.length) (h:j<s.cells.length):({ CK vs s j with base:=⟨(CK vs s j).base.vars++[vs[j]],(CK vs s j).base.cells++[(CK vs s j).heap.length],(CK vs s j).base.locals⟩,heap:=(CK vs s j).heap++[s.cells[j]] }:Stp)=CK vs s (j+1):=by
 simp only [CK,iO,kY (Nat.le_of_lt h),gS G,gS h,List.range_succ]
def CloneI (B:Nat) (xs:List Int) (w:wD):Ending->wD->Prop:=λe w'=> ∃a c,e = .returned (.slice a xs.length c)/\OwnI w' B (.slice a xs.length c) xs/\(∀k,(iD a xs.length c).ownBlock=some k->k<w'.heap.size)/\Ext w w'
def CloneI.ret {B:Nat} {w':wD} {e:Ending} (h:CloneI B xs w e w'):∃v,e = .returned v:=by
 obtain ⟨_,_,h,-⟩:=h;exact ⟨_,h⟩
def XK (xs:List Int) (M:xs.length<=1000000) (B:Nat) (S:nP) (a:oA) (c:Nat) (w:wD) (N:B<=w.heap.size) (h:Rows S w (AZ xs) a):Calls prog 88 #[.slice a xs.length c] w (CloneI B xs w):=
 (FC xs M a c w (Gh h)).mono λ_ _ ⟨a,c,h1,h2,h3,h4⟩=>⟨a,c,h1,h2.low (λk G=>by have:=h3 k G;omega),λk G=>(h3 k G).2,h4⟩
def FitsP.each {vs:List VD} {s:SV} (h:FitsP vs s):∀xs∈s.cells,xs.length<=1000:=λxs M=>by
 obtain ⟨⟨X,N⟩,Y,Z,h5,O⟩:=h;obtain ⟨i,U,rfl⟩:=List.mem_iff_getElem.1 M;have G:=O i vs[i] s.cells[i] (gN Ab) (gN U);have V:=N vs[i] (ig _);unfold Mq CT at G;unfold IG at V;split at G
 . exact G
 . split at G<;>omega
def FitsP.small {vs:List VD} {s:SV} (h:FitsP vs s):s.small:=
 ⟨by have:=h.1.1;have:=h.2.1;omega,λxs G=>by have:=h.each xs G;omega,by have:=h.2.2.1;omega,by have:=h.2.2.2.1;omega⟩
def NewR (vs:List VD) (s:SV) (w:wD):Ending->wD->Prop:=λe w'=> ∃sb,e = .returned (.tuple #[.pointer (some ⟨sb,0,none⟩),.int .i64 0])/\NewS w.heap.size sb (CK vs s vs.length) w'/\w.heap.size<=sb/\Ext w w'
def NewR.ret {vs:List VD} {s:SV} {w':wD} {e:Ending} (h:NewR vs s w e w'):∃v,e = .returned v:=by
 obtain ⟨_,h,-⟩:=h;exact ⟨_,h⟩
def NewS.first {B sb tb:Nat} {w0 w1:wD} {vs:List VD} {s:SV} {ρ:Nat->Rl} (hB:B<=w0.heap.size) (N:w0.heap.size<=w1.heap.size) (O:Ro (λ_=>.none) ρ w0) (U:TapeAt ρ w1 tb s.tin s.tout) (X:Ext w1 w) (hs:sb=w1.heap.size) (V:w.heap.size=sb+1) (G:Blk w sb [.slice none 0 0,.slice none 0 0,.int .i64 0,.slice none 0 0,pt tb]):NewS B sb (CK vs s 0) w:=by
 have Y:Ro ρ (λb=>if b=sb then .store else if b<sb then ρ b else .none) w1:=λb G=>by
  simp only;rw [At Ab,AH Ab]
 have M:=(U.ro Y (ip _)).ext X;refine ⟨_,λ_=>0,λk h=>?_,AH rfl,λb G=>?_,⟨_,_,_,tb,[],G,⟨⟨?_,λk h=>by cases h⟩,?_,λk h=>by cases h⟩,⟨?_,λk h=>by cases h⟩,?_,M⟩,λc xs Z=>?_⟩
 . rw [At Ab,AH Ab];exact O k Ab
 . rw [At Ab,At Ab]
 . exact mR
 . exact mR
 . exact mR
 . rfl
 . simp [CK] at Z
def NewS.low {B sb:Nat} (h:NewS B sb st w) (O:i<=B):NewS i sb st w:=by
 obtain ⟨ρ,κ,M,N⟩:=h;exact ⟨ρ,κ,λk U=>M k Ab,N⟩
def fA (vs:List VD) (s:SV) (hf:FitsP vs s) (S:nP) (a ca ta oa:oA) (c cc tc oc:Nat) (w:wD) (N:VDs S w vs a) (hv:s.sits S w ca ta oa) :
 Calls prog 118 #[.slice a vs.length c,.agg (s.row ca cc ta tc oa oc).toArray] w (NewR vs s w):=by
 have X:=Ne w;have hn:=hf.1.1;have ah:=hf.2.1;replace N:VDs (· < w.heap.size) w vs a:=N.lt2.wide λ_ h=>h.2
 have hv:=hv.ltA;have HF:=gO (λw1 h1 h2=>(bU vs Ab s (· < w.heap.size) a ca ta oa c cc tc oc w1 Ab h1 h2).mono (R':=λe w'=>e = .returned (.bool true)/\Ext w1 w') λe w' ⟨q,h1,h2,h3⟩=>⟨by rw [h1,h2.2 hf],h3⟩);have HT:=gO (λw1 h1 h2=>cE (λ_=>.none) s.tin s.tout hf.2.2.1 hf.2.2.2.1 ta oa tc oc w1 (Gh (S:=(· < w.heap.size)) h1) (Gh (S:=(· < w.heap.size)) h2));have Hf:=gO hf;clear hf;have Z:=hv.tin;have aa:=hv.tout;have G:=hv.cells;change Calls prog _ #[_,.agg #[.slice ca s.cells.length cc,.slice ta s.tin.length tc,.slice oa s.tout.length oc]] w _;refine Ad func118 ntmps118 rfl rfl ?_;refine cS (eB [_,_,_] ?_);intro b1 w2 O x5 p6 z7;revert X N hv Z aa G;refine eE x5 ?_;intro X N hv Z aa G;refine kC (HF.out _ Ae Ae) ?_;rintro _ w9 ⟨⟨⟩,x8⟩;revert O X N Z aa G;refine eY x8 ?_;intro bq O X N Z aa G;refine kQ (HT.out _ Ae Ae) ?_;rintro _ av ⟨a9,ba,⟨⟩,aw,br,ax,ay⟩;revert O X N G;refine eY ay ?_;intro az O X N G;refine C1 Mv (C1 Px (C1 Px (C1 Pa (C1 Pa (cT (Aj (cS (C1 Mv (C1 V2 (cT (NH ?_)))))))))));refine Ao (Ai ?_);have ai:=gO ax;have U:=Ne av;refine eK ?_;refine C1 (xB [_,_,_,_,_]) (eB [_,_,_,_,_] ?_);intro ac a0 aj a1 a2 a3;revert O X N G U;refine eE a1 ?_;intro O X N G U;refine C1 Pa (cT (Aj (cS (C1 Mv (C1 Pz (C1 Mv (cT ?_)))))))
 have hN:NewS (b1+1) ac (CK vs s 0) a0:=NewS.first Ab az aw ai.out U a2 a3 aj;have a4:b1+1<=ac:=by omega
 clear U aj ai HF HT Z aa hv;refine Au ?_;refine AQ (ι:=Nat) (λj=>[(3,pt b1),(8,pt ac),(28,.slice a vs.length c),(29,.int .i64 vs.length),(30,.int .i64 j)])
  (λj w'=>j<=vs.length/\NewS (b1+1) ac (CK vs s j) w'/\Blk w' b1 [.slice ca s.cells.length cc,.slice ta s.tin.length tc,.slice oa s.tout.length oc]/\VDs (· < w.heap.size) w' vs a/\ICs (· < w.heap.size) w' s.cells ca/\Ext w w'/\b1+1<=w'.heap.size) (λj=>vs.length-j) 0 sB ⟨ii _,hN,O,N,G,X,Ab⟩ ?_
 clear hN O N G X;rintro j w3 ⟨hj,hN,O,N,G,X,hz⟩;by_cases ak:j<vs.length
 . obtain ⟨kb,ko,rfl,kS,hk⟩:=mw N Ab;obtain ⟨db,bs,rfl,dS,hd⟩:=G.get (by intro e;rw [e] at ah;simp at ah;omega);have rx:=hk j _ (gN ak);obtain ⟨xa,xc,ry,Y⟩:=hd j _ (gN Ab);have bt:=Hf.out.each s.cells[j] (ig _);have g1:∀c∈(CK vs s j).base.cells,c<(CK vs s j).heap.length:=λc hc=>by simp only [CK,kp,iO] at hc ⊢;omega
   have g2:(CK vs s j).base.vars.length<=1000000:=by simp only [CK,iO];omega
   have g3:(CK vs s j).base.cells.length<=1000000:=by simp only [CK,lN];omega
   have HA:=gO (XJ hN rfl g1 g2 g3 a4 hz vs[j] s.cells[j]);have ab:=VK vs s j ak Ab;rw [ab] at HA;clear hk hd ab hN;generalize vs[j]=x at *;generalize s.cells[j]=xs at *;have HX:=gO (λw1 hB (h:Rows (· < w.heap.size) w1 (AZ xs) xa)=>XK xs Ab w3.heap.size (· < w.heap.size) xa xc w1 hB h);obtain ⟨xn,xk,xl⟩:=x;replace rx:Row w3 ⟨kb,ko+j*3,none⟩ [str xn,.int .u8 xk,.int .i64 xl]:=rx;unfold VD.val at HA;dsimp only at HA;have a5:=gO (λ(u:Value) (cb:Nat) (w1:wD) (X:Ext w3 w1) (a6:w3.heap.size<=cb) (hb:Blk w1 cb [u]) (hu:OwnI w1 w3.heap.size u xs) (b2:Nat) (h1:∀k,u.ownBlock=some k->k<b2) (h2:b2<=cb)=>HA.out u cb w1 X a6 hb hu (λe=>by have:=h1 _ e;omega));clear HA;have U:=Ne w3;refine eK ?_;refine eA [_,_,_] ?_;intro bu bv a7 a8 bw bx;revert X N O G ry Y U;refine eE a8 ?_;intro X N O G ry Y U;refine C1 Pa (eS [_,_,_] a7 ?_);intro al am an bb;revert X N O G ry Y U;refine eF an ?_;intro X N O G ry Y U;refine cT (Aq (λwz=>Ext al wz) 12 (.pure 0 (.pure 1 (.pure 2 (.pure 3 (.pure 4 (.pure 5 (.pure 6 (.pure 7 (.pure 8 (.fork 9 (.pure 10 (.fork 11 .tail .none)) .none)))))))))) mixed AU (Af (Aa (Aa (Af (Aa Ag))))) ?_);intro ao ae _;have M:(λwz=>Ext al wz) ao:=ae;simp only at M;have ad:=am;have bc:=O;have ap:=ry;revert X N O G Y U;refine eY ae ?_;intro bd X N O G Y U;refine ⟨M,?_⟩;refine eT ?_;refine Tq rfl (xL [_,_,_] (λwz hz=>(l9 ad hz))) ?_;refine eT ?_;refine Tq rfl (Ap Ac rfl rfl rfl (λwz hz=>mb (l5 ap hz) rfl)) ?_;refine tC rfl rfl (HX.out _ Ab Ae) ?_;rintro _ be ⟨bf,bg,⟨⟩,af,bh,aq⟩;revert M X N O G U;refine eY aq ?_;intro bi M X N O G U;refine ⟨M,?_⟩;refine Tq rfl (xB [_]) ?_
   refine AE rfl (Hb rfl rfl) rfl ?_ aFh AC;rintro _ bj ⟨bk,rfl,V⟩;have bl:=V.blk;have ar:=V.ext;have bm:=V.pos;have bn:=V.size;revert af M X N O G U;refine eE ar ?_;intro af M X N O G U;refine ⟨M,?_⟩;refine Ar rfl (cC rfl (a5.out _ _ _ Ae Ab Ae Ae _ Ae Ab) ?_);rintro _ bo ⟨⟨⟩,au,ag⟩;have bp:=ag.size;revert X N O G;refine eF ag ?_;intro X N O G;refine Ak (Ah (Ai (Al (C1 V7 (C1 Mv (Ak ?_))))));exact AA (j+1) sB ⟨Ab,au,O,N,G,X,Ab⟩ Ab
 . obtain rfl:j=vs.length:=by omega
   refine kT ?_;exact ⟨_,rfl,hN.low Ab,Ab,X⟩
def Stp.sv (st:Stp):SV:=⟨(st.base.cells.take (st.base.cells.length-st.base.locals)).map st.items,st.tin,st.tout⟩
def Gj (l:List (List Int)) (j:Nat):List (List Int):=l.take j++iL (l.length-j) []
def Tg (l:List (List Int)) (j:Nat) (h:j<=l.length):(Gj l j).length=l.length:=by simp [Gj];omega
def Th (l:List (List Int)) (j:Nat) (h:j<l.length):(Gj l j).set j l[j]=Gj l (j+1):=by
 unfold Gj;have G:(l.take j).length=j:=by simp;omega
 have M:(iL (l.length-j) ([]:List Int))=[]::iL (l.length-(j+1)) []:=by
  rw [show l.length-j=(l.length-(j+1))+1 by omega,lE]
 rw [km _ _ Ab,G,jw,M,lh,gS h,iI];rfl
def Ti (l:List (List Int)):Gj l l.length=l:=by simp [Gj]
def ArrS.ics {C D g:Nat} {xs:List (List Int)} (h:ArrS E1 C D w g xs) {S:nP} (M:S g) (N:∀b,C<=b->b<D->S b):ICs S w xs (some ⟨g,0,none⟩):=
 gQ ⟨g,0,rfl,M,λi x O=>by
  obtain ⟨cs,U,a,c,rfl,V⟩:=h.row O;exact ⟨a,c,U,V.wide (λb G=>N b G.1 G.2)⟩⟩
section
variable {ρ:Nat->Rl} {κ:Nat->Nat} {K:List (Int×Int)} {m sb:Nat}
def cZ {tb:Nat} {ti to:List Int} (w:wD) (h:TapeAt ρ w tb ti to):Calls prog 163 #[pt tb] w (CloneS ti w):=
 (eP ρ tb ti to w h).mono λ_ _ ⟨a,c,h1,h2,h3,h4⟩=>⟨a,c,h1,h2.rowsI h3,h4⟩
def ZU {tb:Nat} {ti to:List Int} (w:wD) (h:TapeAt ρ w tb ti to):Calls prog 164 #[pt tb] w (CloneS to w):=
 (cD ρ tb ti to w h).mono λ_ _ ⟨a,c,h1,h2,h3,h4⟩=>⟨a,c,h1,h2.rowsI h3,h4⟩
def Stp.WF.items_le (G:st.WF K m) (c:Nat):(st.items c).length<=1000000:=by
 rcases it c K.length with h|h
 . exact (G.cell c _ (gN h)).le
 . unfold mx;rw [gT,ic (by rw [G.len];exact h)];exact ii _
def StoreAt.read (h:StoreAt ρ κ w sb st) (O:∀c∈st.base.cells,c<st.heap.length):∃M ca cc N tb,Blk w sb [M,.slice ca st.base.cells.length cc,.int .i64 st.base.locals,N,pt tb]/\TapeAt ρ w tb st.tin st.tout /\
 (st.base.cells≠[] -> ∃g,ca=some ⟨g,0,none⟩/\g<w.heap.size /\ ∀i c,st.base.cells[i]? = some c -> ∃a e,Row w ⟨g,0+i*1,none⟩ [pt (κ c)]/\Blk w (κ c) [.slice a (st.items c).length e]/\Rows (· < w.heap.size) w (AZ (st.items c)) a):=by
 obtain ⟨h1,-,⟨M,bc,N,tb,cs,V,X,h4,h5,Y⟩,h7⟩:=h;rcases X.c.1.row with ⟨rfl,Z,-⟩|⟨g,cap,rfl,-,-,hr⟩
 . refine ⟨M,none,0,N,tb,by rw [Z];exact V,Y,λG=>absurd (List.length_eq_zero_iff.1 Z) G⟩
 . refine ⟨M,_,_,N,tb,V,Y,λG=>⟨g,rfl,(X.c.1.blk (k:=g) rfl).2,λi c hi=>?_⟩⟩;have hc:=O c (iF hi);obtain ⟨-,v,k1,k2⟩:=h7 c (st.items c) (by unfold mx;rw [gT,gN hc];rfl);obtain ⟨a,e,rfl⟩:=k2.1.shape;refine ⟨a,e,λj v U=>?_,k1,(k2.1.rowsI (S:=λ_=>True) (λ_ _=>trivial)).ltA⟩;cases j with
   | zero=>
    simp only [iw,gU] at U;subst U;have:=hr.at (i:=i) (v:=Kz κ c) (by rw [iJ,hi];rfl);rw [kh,show (⟨g,0+i,none⟩:Addr).add 0=⟨g,0+i,none⟩ by simp [jA]];simpa using this
   | succ j=>simp at U
def ZV (hw:st.WF K m) (hm:m<=1000000) (w:wD) (h:StoreAt ρ κ w sb st):Calls prog 122 #[pt sb] w (SvR st.sv w):=by
 have X:=Ne w;have H:=gO h;have ag:∀c∈st.base.cells,c<st.heap.length:=λc hc=>hw.cells_lt AK hc
 have a9:st.base.cells.length<=1000000:=by have:=hw.base.len;have:=hw.vb _ (je ..);omega
 have ay:st.base.locals<=st.base.cells.length:=by have:=hw.base.len;have:=hw.base.loc;omega
 have ak:∀c,(st.items c).length<=1000000:=hw.items_le;obtain ⟨bv,ca,cc,cv,tb,hb,ht,hr⟩:=h.read ag;clear h;refine Ad func122 ntmps122 rfl rfl ?_;refine cS (eA [_,_,_] ?_);intro b1 w2 O x6 p7 z8;revert X hb;refine eE x6 ?_;intro X hb;refine eK ?_;refine C1 (A2 Ac rfl rfl) ?_;refine eK ?_;refine Aq (λwz=>Ext w2 wz) 11 (.pure 0 (.pure 1 (.pure 2 (.pure 3 (.pure 4 (.pure 5 (.pure 6 (.pure 7 (.pure 8 (.pure 9 (.pure 10 .tail))))))))))) mixed AU (Aa Ag) ?_;intro w9 al _;have ac:(λwz=>Ext w2 wz) w9:=al;simp only at ac;have V:=hb;revert O X;refine eY al ?_;intro ba O X;refine ⟨ac,?_⟩;refine Tq rfl Mv (Tq rfl Pn (Tq rfl Pg (Tq rfl Pf (Tq rfl (Db V) (Tq rfl Pz (Tq rfl Mv (Tq rfl Pn (Tq rfl Pg (Tq rfl Pf (Tq rfl (Db V) ?_))))))))));refine Ar rfl (C1 (AL rfl rfl (gX _ Ab)) (C1 Pa (cT ?_)));obtain ⟨M,hM⟩:∃M,M=st.base.cells.length-st.base.locals:=⟨_,rfl⟩;rw [show ((st.base.cells.length:Int)-(st.base.locals:Int))=(M:Int) by omega];obtain ⟨L,hL⟩:∃L,L=st.sv.cells:=⟨_,rfl⟩
 have ah:L.length=M:=by rw [hL,hM];simp [Stp.sv]
 clear hb ht hr;refine eK ?_;refine Ax (Dq (sh:=E1) (C:=w9.heap.size+1) (D:=w9.heap.size+1) (N:=M) (z:=[]) Ac CJ rfl rfl rfl rfl AU rfl rfl Ab (λ_ _=>⟨none,0,rfl,gP rfl⟩)) rfl ?_ aFh;rintro _ bb ⟨ab,rfl,ai,bc,bd,ar⟩;revert O X;refine eE ar ?_;intro O X;refine C1 Pa (cT (Aj (cS (C1 Mv (C1 Pz (C1 Mv (cT ?_)))))));have e0:iL M []=Gj L 0:=by simp [Gj,ah]
 rw [e0] at ai;refine Au ?_;refine AQ (ι:=Nat) (λj=>[(0,pt sb),(2,pt b1),(4,.slice (some ⟨ab,0,none⟩) M M),(24,.int .i64 M),(25,.int .i64 j)])
  (λj w'=>j<=M/\ArrS E1 (w9.heap.size+1) w'.heap.size w' ab (Gj L j)/\Blk w' b1 [.slice none 0 0,.slice none 0 0,.slice none 0 0]/\Ext w w'/\w9.heap.size+1<=w'.heap.size) (λj=>M-j) 0 sB ⟨ii _,ai.wide Ab,O,X,Ab⟩ ?_
 clear ai O X e0;rintro j w3 ⟨hj,U,O,X,hz⟩;obtain ⟨bv,ca,cc,cv,tb,hb,ht,hr⟩:=(H.out.ext X).read ag;by_cases az:j<M
 . obtain ⟨g,rfl,be,ad⟩:=hr (by intro e;rw [e] at hM;simp at hM;omega);obtain ⟨a,e,r1,r2,r3⟩:=ad j st.base.cells[j] (gN Ab);have am:L[j]=st.items st.base.cells[j]:=by simp [hL,Stp.sv]
   have Y:=Th L j Ab;have bf:=Tg L j Ab;have HX:=gO (Hx (st.items st.base.cells[j]) (ak _) (· < w3.heap.size) a e);rw [am] at Y;clear ad hr am ag ak;generalize st.base.cells[j]=c at *;generalize st.items c=x at *;refine kQ (HX.out _ Ae) ?_;rintro _ bg ⟨bh,bi,⟨⟩,bj,au⟩;revert U O X;refine eY au ?_;intro bk U O X;refine C1 Pi (A6 (FY (sh:=E1) (j:=j) (z:=x) (us:=[_]) Ac rfl rfl rfl rfl rfl rfl Ae Ab Ab Ab ⟨_,_,rfl,Rows.wide Ae (λb h=>by omega)⟩) (BH ?_));rintro _ a0 ⟨av,aj,bl⟩;have a1:=aj.size;clear U;revert O X;refine eF aj ?_;intro O X;clear ht hb r1 r2 r3 aj;refine Ak (Ah (Ai (Al (C1 V7 (C1 Mv (Ak ?_))))));exact AA (j+1) sB ⟨Ab,by rw [<-Y];exact av.wide Ab,O,X,Ab⟩ Ab
 . obtain rfl:j=M:=by omega
   rw [<-ah,Ti] at U;clear hr;have HI:=gO (λw1 h=>cZ (ρ:=ρ) (tb:=tb) (ti:=st.tin) (to:=st.tout) w1 h);have HO:=gO (λw1 h=>ZU (ρ:=ρ) (tb:=tb) (ti:=st.tin) (to:=st.tout) w1 h);refine eK ?_;refine Aq (λwz=>Ext w3 wz) 11 (.pure 0 (.pure 1 (.pure 2 (.pure 3 (.pure 4 (.pure 6 (.pure 7 (.pure 8 (.pure 9 (.fork 5 (.fork 10 .tail .none) .none)))))))))) mixed AU (Aa Ag) ?_;intro aw an _;have G:(λwz=>Ext w3 wz) aw:=an;simp only at G;have V:=hb;revert U O X ht;refine eY an ?_;intro bm U O X ht;refine ⟨G,?_⟩;refine eT ?_;refine tC rfl rfl (HI.out _ Ae) ?_;rintro _ a2 ⟨ao,bn,⟨⟩,Z,ax⟩;revert G U O X ht;refine eY ax ?_;intro a3 G U O X ht;refine ⟨G,?_⟩;refine tC rfl rfl (HO.out _ Ae) ?_;rintro _ a4 ⟨ae,a5,⟨⟩,aa,ap⟩;revert Z G U O X;refine eY ap ?_;intro a6 Z G U O X;refine ⟨G,?_⟩;refine Ar rfl (C1 (xB [_,_,_]) (eS [_,_,_] O ?_));intro a7 aq af a8;revert aa Z U X;refine eF af ?_;intro aa Z U X;clear hb ht af;refine kX aq ?_;exact ⟨some ⟨ab,0,none⟩,j,ao,_,ae,_,(by show _=Ending.returned (.agg #[.slice (some ⟨ab,0,none⟩) st.sv.cells.length j,.slice ao st.tin.length _,.slice ae st.tout.length _]);rw [<-hL,ah]),⟨by rw [<-hL];exact U.ics ⟨Ab,Ab⟩ (λb h1 h2=>⟨Ab,Ab⟩),Z.wide (λb h=>⟨Ab,Ab⟩),aa.wide (λb h=>⟨Ab,Ab⟩)⟩,X⟩
end
def RN (h:k≠54) (G:k≠55):C2 k s i v=v:=by
 unfold C2;rw [At (λe=>h e.1),At (λe=>G e.1)]
def Tj (ps:List PD) (v:List VD):List Nd->Nat
 | []=>0
 | t::r=>t.flt ps v+Tj ps v r
def OD {ps:List PD} {v:List VD} {k:Int} {s:lB} (h:k≠54) (G:k≠55):∀(l:List Nd) (i:Nat),CS ps v k s i l=Tj ps v l
 | [],_=>by rw [CS,Tj]
 | t::r,i=>by rw [CS,Tj,RN h G,OD h G r]
def Fw {ps:List PD} {n:Int} (h:k≠54) (G:k≠55) (M:k≠50) (N:k≠51):(Nd.mk k n s l).flt ps v=O9 (CE ps v k s l.length)+Tj ps v l:=by
 rw [Nd.flt,At Ab,OD h G]
def NZ {α:Type} (X:Except Int α):Prop:=X≠.error 0
def NZ.bind {α β:Type} {X:Except Int α} {K:α->Except Int β} (h:NZ X) (G:∀v,NZ (K v)):NZ (X.bind K):=by
 cases X with
 | error e=>exact λM=>h (by simpa [ir] using M)
 | ok v=>exact G v
def XL {α:Type} (v:α):NZ (Except.ok v:Except Int α):=by unfold NZ;simp
def F8 (r:Rn):NZ (A4 r):=by unfold NZ A4;split<;>simp
def Nj (f:Stp->Int×Stp) (r:Rn):NZ (Cy f r):=by
 unfold NZ Cy;split
 . rename_i h;intro e;exact h (by simpa using e)
 . simp
def Nk (t:Nd) (r:Rn):NZ (BD t r):=by
 unfold NZ BD;split
 . rename_i h;intro e;exact h (by simpa using e)
 . simp
def Nl (t:Nd) (r:Rn):NZ (BI t r):=(F8 r).bind λr=>(Nk t r).bind λ_=>XL _
def KX (t:Nd) (b:Bool) (r:Rn):NZ (Bj t b r):=(Nl t r).bind λp=>by unfold NZ;split<;>simp
def XM {f:Nd->Rn->Except Int Rn} (h:∀t r,NZ (f t r)):∀(l:List Nd) (r:Rn),NZ (Eh f l r)
 | [],r=>XL r
 | t::l,r=>(h t r).bind λr=>XM h l r
def Nm {f:Bool->Nd->Rn->Except Int Rn} (h:∀b t r,NZ (f b t r)) (b:Bool) (t:Nd) (r:Rn):NZ (AG f b t r):=XM (λt r=>h b t r) _ r
def Un {h G:Rn->Except Int Rn} {x y:Nd} (M:∀r,NZ (h r)) (N:∀r,NZ (G r)):∀(m:Nat) (r:Rn),NZ (Ch h G x y m r)
 | 0,r=>by unfold NZ Ch;simp
 | m+1,r=>by
  unfold Ch;refine (M r).bind λr=>(Nl x r).bind λp=>?_
  split
  . exact XL _
  . exact (N _).bind λr=>(KX y false r).bind λr=>Un M N m r
def PU (ps:List PD):∀(d:Nat) (b:Bool) (t:Nd) (r:Rn),NZ (Aw ps d b t r)
 | 0,b,t,r=>by unfold NZ Aw;simp
 | d+1,b,.mk k n s l,r=>by
  have h:=Nm (PU ps d);unfold Aw;simp only;split
  . exact (Nl _ r).bind λp=>(h b _ _).bind λr=>KX _ _ r
  split
  . exact (KX _ _ r).bind λr=>Un (h b _) (h b _) d r
  split
  . exact (F8 r).bind λr=>(Nk _ r).bind λv=>(Nj _ r).bind λr=>(h b _ r).bind λr=>(F8 r).bind λr=>(Nk _ r).bind λv=>Nj _ r
  split
  . exact (F8 r).bind λr=>(Nj _ r).bind λr=>(h b _ r).bind λr=>(F8 r).bind λr=>Nj _ r
  split
  . exact (F8 r).bind λr=>(Nj _ r).bind λr=>(h _ _ r).bind λr=>(F8 r).bind λr=>Nj _ r
  . exact (F8 r).bind λr=>Nj _ r
def G4 (ps:List PD) (b:Bool) (t:Nd) (r:Rn):∃d,AG (Aw ps d) b t r≠.error (-1):=
 Lz (F:=λd=>Aw ps d) (λd G b t h=>KV ps b t h) (λd b t=>Ic ps d b t) r.rem b t (λx _ r M=>S9 ps r.rem b x r (ip _)) r (ip _)
def LX {ps:List PD}:∀ {l:List Nd},(∀t∈l,cU ps t)->XA ps l
 | [],_=>trivial
 | t::r,h=>⟨h t AK,LX λx G=>h x (by simp [G])⟩
def Es {ps:List PD} {v:List VD}:∀ {l:List Nd},Tj ps v l=0 -> ∀t∈l,t.flt ps v=0
 | [],_,_,h=>by simp at h
 | x::r,G,t,h=>by
  simp only [Tj,iP] at G;rcases io.1 h with rfl|h
  . exact G.1
  . exact Es G.2 t h
def XN (ps:List PD) (N:Nat):∀t:Nd,t.size<N->t.isExpr=true->cU ps t:=by
 induction N with
 | zero=>intro t h;omega
 | succ N M=>
  rintro ⟨k,n,s,l⟩ O h;have U:=Gn h;simp only [mz] at U;simp only [mg] at O;exact ⟨λe=>by omega,LX λx G=>M x (by have:=CM G;omega) ((Iv h).2.1 x G)⟩
def Et (ps:List PD) (h:t.isExpr=true):cU ps t:=XN ps (t.size+1) t Ab h
def Nn {e:Int} (h:O9 e=0):e=0:=by unfold O9 at h;split at h<;>first|assumption|cases h
def ZW (ps:List PD) (N:Nat):∀(t:Nd) (v:List VD),t.size<N->(t.isStmt=true\/t.isBlock=true)->t.flt ps v=0->cU ps t:=by
 induction N with
 | zero=>intro t v h;omega
 | succ N X=>
  intro t v Y h M;rcases h with h|h
  . cases B3 h with
    | upd V G U=>
     exact ⟨λe=>by omega,Et ps (Be G),Et ps U,trivial⟩
    | swap G U=>exact ⟨λe=>by omega,Et ps (Be G),Et ps (Be U),trivial⟩
    | stack V Z G=>exact ⟨λe=>by omega,Et ps (Be G),trivial⟩
    | tape V G=>exact ⟨λe=>by omega,Et ps (Be G),trivial⟩
    | call V Z hl hv=>
     rename_i k s l;refine ⟨λ_=>?_,LX λx G=>Et ps (GK (iN.1 hv x G))⟩;rw [Nd.flt,AH V,iP] at M;have O:=Nn M.1;unfold CE Qi at O;rw [At Ab,At Ab,At Ab,At Ab,AH V] at O;cases hp:Cg ps s with
     | some i=>rfl
     | none=>rw [hp] at O;simp at O
    | branch V G U hz hu=>
     rename_i k x y z u;rw [Fw Ab Ab Ab Ab] at M;simp only [mg,AV] at Y;have O:=(iP.1 M).2;exact ⟨λe=>by omega,Et ps G,X y v Ab (gQ U) (Es O y AK),X z v Ab (gQ hz) (Es O z AK),Et ps hu,trivial⟩
    | local_ Z G U hz=>
     rename_i s x y z;rw [Nd.flt,At Ab] at M;simp only [mg,AV] at Y;simp only [CS,iP] at M;exact ⟨λe=>by omega,Et ps G,X y _ Ab (gQ U) M.2.2.1,Et ps hz,trivial⟩
    | lstack Z G=>
     rename_i s x;rw [Nd.flt,At Ab] at M;simp only [mg,AV] at Y;simp only [CS,iP] at M;exact ⟨λe=>by omega,X x _ Ab (gQ G) M.2.1,trivial⟩
  . obtain ⟨k,n,s,l⟩:=t;obtain ⟨e,hr⟩:=D5 h;simp only [Nd.kids] at hr;obtain ⟨rfl,-⟩:=Nd.mk.inj e;rw [Fw Ab Ab Ab Ab] at M;have O:=(iP.1 M).2;simp only [mg] at Y;exact ⟨λe=>by omega,LX λx G=>X x v (by have:=CM G;omega) (gP (rowStmt_iff.1 hr x G)) (Es O x G)⟩
def Jt {ps:List PD}:∀ {l:List PD} {i:Nat},DR ps i l=0 -> ∀p∈l,p.body.flt ps p.params=0
 | [],_,_,_,h=>by simp at h
 | x::r,i,G,p,h=>by
  simp only [DR,iP] at G;rcases io.1 h with rfl|h
  . exact G.1.2
  . exact Jt G.2 p h
def OE {ps:List PD} (h:t.wf) (G:Ff t=true) (M:t.flt ps v=0):StOk ps t:=by
 obtain ⟨N,O,U⟩:=body_iff.1 G;exact ⟨h,Ab,ZW ps (t.size+1) t v Ab (gQ N) M⟩
def VL {g:PG} (h:g.wf) (G:g.ok=true) (M:g.flt=0):StOk g.procs g.main:=by
 unfold PG.flt at M;exact OE h.main (DU G).2.2.2.2 (iP.1 M).2
def XO {g:PG} (h:g.wf) (G:g.ok=true) (N:g.flt=0):ProcsOk g:=by
 unfold PG.flt at N;have U:=(iP.1 (iP.1 N).1).2;obtain ⟨-,X,-,V,-⟩:=DU G;refine ⟨Ab,λp M=>?_⟩;obtain ⟨-,Y,-,O⟩:=DN (V p M);exact ⟨(body_iff.1 O).1,OE (h.procs p M).body O (Jt U p M),Ab⟩
def PV {vs:List VD} {s:SV} (h:FitsP vs s):(CK vs s vs.length).WF (vs.map λv=>(v.kind,v.len)) 1000:=by
 obtain ⟨⟨h1,X⟩,Y,h4,h5,Z⟩:=h;have e1:s.cells.take vs.length=s.cells:=ki Ab;have e2:vs.take vs.length=vs:=im;unfold CK;rw [e1,e2];have hb:FrmWF (vs.map λv=>(v.kind,v.len)) ⟨vs,jj vs.length,0⟩:=⟨AK,ii _,λi v c G U=>by
  have V:=(List.getElem?_eq_some_iff.1 G).1;rw [List.getElem?_range (by simpa using V)] at U;obtain rfl:=gZ U;simp [G]⟩
 refine ⟨by simp [Y],hb,λf N=>by simp at N,λc x M=>?_,ii _,λf N=>?_⟩
 . rw [iJ] at M;cases G:vs[c]? with
   | none=>rw [G] at M;cases M
   | some v=>
    rw [G] at M;obtain rfl:=gZ M;have V:=(List.getElem?_eq_some_iff.1 G).1;have O:=Z c v _ G (gN (show c<s.cells.length by omega));have h8:=X v (iF G);have h9:(mx ⟨s.cells,⟨vs,jj vs.length,0⟩,[],s.tin,s.tout⟩ c)=s.cells[c]:=by
     unfold mx;simp [gT,gN (show c<s.cells.length by omega)]
    rw [h9];unfold Mq CT at O;unfold IG at h8;unfold cellOk;simp only;split at O
    . omega
    . split at O<;>omega
 . simp only [iu] at N;rw [N];simp only;omega
def IJ (s:SV) (f:Nat):Except Int Rn->ResV
 | .error e=>⟨s,0,e⟩
 | .ok r=>⟨r.st.sv,(f:Int)-r.rem,0⟩
def RO {P:Program} {n:Nat} {l:Sl} {tab:Tab} {sz:Nat} {fn:Func} {R:Ending->wD->Prop} {b s:Nat} {X:Sk} {vs:lV} {U:Value} (h:fn.results = #[.tmp s,.cell i c]) (T:TabOk P tab) (Y:AB tab c=some (X,sz)) (Z:X.agg=true)
 (hv:look l i=some (pt b)) (h1:look l s=some U) (hb:Blk w b vs) (hl:vs.length=sz) (hR:R (.returned (.tuple #[U,.agg vs.toArray])) w):QW n (bodyPost P fn R) .ret l w:=by
 unfold QW;intro a V;refine ⟨V.defers,.tuple #[U,.agg vs.toArray],?_,hR⟩;have e:(loadVar c ⟨b,0,none⟩).run P w = .ok (.agg vs.toArray) w:=by
  simp only [ij,iC,gY,loadVar,CB (T _ _ _ Y),Z,if_true,Ca (T _ _ _ Y)];rw [<-hl,CD hb.row]
 have M:=V.has i _ hv;have N:=V.has s _ h1;simp only [jf] at M N;simp [results,h,M,N,e,asAddr]
section
variable {c:RC} {P P':nP} {w':wD} {r:Rn} {T:nP}
def XP (hc:c.fuel<=10000) (hg:ProcsOk c.g) (N:StOk c.g.procs c.g.main) (O:c.g.main.isBlock=true) (d:Nat) (b:Bool) (U:AG (Aw c.g.procs d) b c.g.main r≠.error (-1)) (G V b7 vc pc X:Nat) (va pa M:oA) (w:wD) (h:Run c P w r)
 (ab:Blk w G [pt c.rb]) (Y:Blk w V (c.g.cells va vc pa pc M X)) (h7:Blk w b7 [.bool b]) (hm:c.g.main.sits P w M) :
 Calls prog 120 #[pt G,pt V,pt b7] w (DF c P (AG (Aw c.g.procs d) b c.g.main r) w):=by
 have HB:=gO (XF hc hg d P b c.g.main r M X w O N U hm h);generalize AG (Aw c.g.procs d) b c.g.main r=Z at *;unfold DF at HB;have F:=lZ (λk=> ¬P k) w;unfold PG.cells at Y;generalize c.g.main=t at *;obtain ⟨k,n,s,l⟩:=t;replace Y:Blk w V [.slice va c.g.vars.length vc,.slice pa c.g.procs.length pc,.int .u8 k,.int .i64 n,str s,.slice M l.length X]:=Y;refine Ad func120 ntmps120 rfl rfl ?_
 focus
  refine eK ?_;refine A3 (AP AU rfl (HB.out) (λ_ _ h=>h.ret)) rfl ?_ ?_;rotate_left;intro c7 w8 q9
  rotate_right 1
  rintro _ ac ⟨ad,⟨⟩,rfl,ae,aa⟩;have F:=l8 F aa (λk hk=>gP hk);refine Ak (Bm rfl ?_);rotate_left;refine AF ?_;rotate_left
 . exact gP ⟨_,rfl,rfl,Ae,F⟩
 . exact gQ ⟨_,rfl,Ae⟩
end
def ArrS.blkI {C D g:Nat} (h:ArrS C8 C D w g xs):Blk w g (AZ xs):=by
 obtain ⟨G,M,N,O⟩:=h.ex;have e:G=xs.map λx=>[.int .i64 x]:=by
  refine kP (by simp [N]) λi U V=>?_
  rw [kz];exact O i xs[i] G[i] (gN Ab) (gN U)
 have X:G.flatten=AZ xs:=by
  rw [e];clear h M N O e
  induction xs with
  | nil=>rfl
  | cons x r Y=>simp only [iR,jS,Y];rfl
 rw [<-X];exact M
section
variable {c:RC} {P P':nP} {w':wD} {r:Rn} {T:nP}
def ZX (M:c.fuel<=10000) (w:wD) (h:Run c P w r):Calls prog 122 #[pt c.sb] w (SvR r.st.sv w):=by
 obtain ⟨ρ,κ,h⟩:=h;obtain ⟨K,G⟩:=h.wf;exact ZV G Ab w h.st
def Run.small (O:c.fuel<=10000) (h:Run c P w r):r.st.sv.small:=by
 obtain ⟨ρ,κ,h⟩:=h;obtain ⟨K,G⟩:=h.wf;obtain ⟨U,V,X,tb,cs,-,-,-,-,M⟩:=h.st.frs;have Y:=M.li;have Z:=M.lo;have h3:=G.base.len;have h4:=G.vb _ (je ..);refine ⟨by simp only [Stp.sv,kG,iO];omega,λxs N=>?_,by simp only [Stp.sv];omega,by simp only [Stp.sv];omega⟩;simp only [Stp.sv,List.mem_map] at N;obtain ⟨x,-,rfl⟩:=N;exact G.items_le x
def ZY {B sb G ec vc pc mc f:Nat} {va Y ma:oA} {g:PG} {S:nP} {K:List (Int×Int)} {N w:wD} (hN:NewS B sb st N) (X:Ext N w) (hB:B<=N.heap.size) (ad:N.heap.size<=i) (ae:N.heap.size<=G) (Z:i≠G)
 (aa:st.WF K 1000) (V:Blk w i [.slice va g.vars.length vc,.slice Y g.procs.length pc,.int .u8 g.main.kind,.int .i64 g.main.num,str g.main.name,.slice ma g.main.kids.length mc,pt sb,.int .i64 0,.int .i64 f,.slice (some ⟨G,0,none⟩) g.procs.length ec]) {es:List Int} (ab:es.length=g.procs.length) (he:Blk w G (AZ es)) (hp:PDs S w g.procs Y) (hS:∀k,S k->P k) (hP:∀k,P k->k<w.heap.size/\(k<B\/(N.heap.size<=k/\k≠i/\k≠G))) :
 Run ⟨i,sb,G,ec,g,va,vc,Y,pc,ma,mc,f,S⟩ P w ⟨st,f⟩:=by
 obtain ⟨ρ,κ,h0,hs⟩:=hN;have hr:Ro ρ (λb=>if b=i then .other 0 else if b=G then .other 1 else ρ b) N:=λb V=>by
  simp only;rw [At Ab,At Ab]
 have af:=V.lt;have ac:=he.lt;have O:=hs.fresh;refine ⟨_,κ,AH rfl,?_,ip _,?_,⟨es,ab,he⟩,hs.move (Fr.none X) (λ_ h=>h.elim) hr (λb V=>?_),⟨K,aa.mono Ab⟩,hp,hS,λk hk=>⟨λh=>?_,(hP k hk).1⟩⟩
 . show (if G=i then Rl.other 0 else if G=G then Rl.other 1 else ρ G)=Rl.other 1;rw [At (λe=>Z e.symm),AH rfl]
 . simp only [Int.sub_self];exact V
 . rw [At Ab,At Ab];exact O b Ab
 . obtain ⟨-,U⟩:=hP k hk;have e1:ρ k = .none:=by
    rcases U with U|U
    . exact h0 k U
    . exact O k U.1
   have e2:(if k=i then Rl.other 0 else if k=G then Rl.other 1 else ρ k) = .none:=by
    rw [At Ab,At Ab,e1]
   rw [e2] at h;rcases h with h|h|h
   . exact h
   . cases h
   . cases h
end
def BeginR (res:ResV) (w:wD):Ending->wD->Prop:=λe w'=> ∃v a c ta tc oa oc,e = .returned (.tuple #[v,.agg (res.row a c ta tc oa oc).toArray])/\res.st.sits (λb=>w.heap.size<=b/\b<w'.heap.size) w' a ta oa/\res.st.small/\Ext w w'
def BeginR.ret {G:ResV} {w':wD} {e:Ending} (h:BeginR G w e w'):∃v,e = .returned v:=by
 obtain ⟨_,_,_,_,_,_,_,h,-⟩:=h;exact ⟨_,h⟩
def ZZ (g:PG) (av:g.wf) (ah:g.ok=true) (h0:g.flt=0) (s:SV) (hf:FitsP g.vars s) (f:Nat) (a5:f<=10000) (ac:Bool) (d:Nat) (bt:AG (Aw g.procs d) ac g.main ⟨CK g.vars s g.vars.length,f⟩≠.error (-1))
 (S:nP) (va:oA) (vc:Nat) (pa:oA) (pc:Nat) (ma:oA) (mc:Nat) (ca ta oa:oA) (cc tc oc:Nat) (w:wD) (Y:g.sits S w va pa ma) (U:PDsC S w g.procs pa) (bu:g.vars.length<=vc) (hv:s.sits S w ca ta oa) :
 Calls prog 86 #[.agg (g.cells va vc pa pc ma mc).toArray,.agg (s.row ca cc ta tc oa oc).toArray,.int .i64 f,.bool ac] w (BeginR (IJ s f (AG (Aw g.procs d) ac g.main ⟨CK g.vars s g.vars.length,f⟩)) w):=by
 have X:=Ne w;have Y:=Y.ltA;have U:=U.ltA;have hv:=hv.ltA;have aw:=hf.small;have HV:=gO (F6 av ah);have HC:=gO (λw1 h1 h2=>Kc g av ah (· < w.heap.size) va vc pa pc ma mc w1 h1 h2 bu);rw [h0] at HC;have HN:=gO (λw1 (h1:g.sits (· < w.heap.size) w1 va pa ma) h2=>fA g.vars s hf (· < w.heap.size) va ca ta oa vc cc tc oc w1 h1.vars h2);have HK:=gO (λw1 h=>KN s (· < w.heap.size) ca ta oa cc tc oc w1 aw.few aw.each aw.tin aw.tout h);have bv:=gO (XO av ah h0);have bw:=gO (VL av ah h0);have bx:=gO (MG ah);have HW:=gO (PV hf);have bz:=Nm (PU g.procs d) ac g.main ⟨CK g.vars s g.vars.length,f⟩;have d9:=(DU ah).2.1;clear hf av ah h0;refine Ad func86 ntmps86 rfl rfl ?_;refine cS (eB [_,_,_,_,_,_] ?_);intro b1 w2 h4 x5 p6 z7;revert X Y U hv;refine eE x5 ?_;intro X Y U hv;refine eB [_,_,_] ?_;intro b8 w9 G b0 ea ec;revert h4 X Y U hv;refine eE b0 ?_;intro h4 X Y U hv;refine eB [_] ?_;intro ax ed M b2 ee ef;revert G h4 X Y U hv;refine eE b2 ?_;intro G h4 X Y U hv;refine C1 Pa (eA [_,_,_,_,_] ?_);intro a7 eg O b3 eh ei;revert M G h4 X Y U hv;refine eE b3 ?_;intro M G h4 X Y U hv;refine kC (HV.out _ _ _ _ _ _ _ _ Ae) ?_;rintro _ ej ⟨⟨⟩,b4⟩;revert O M G h4 X Y U hv;refine eY b4 ?_;intro ek O M G h4 X Y U hv;refine kQ (HC.out _ Ae Ae) ?_;rintro _ a6 ⟨el,em,⟨⟩,b5⟩;revert O M G h4 X Y U hv;refine eY b5 ?_;intro en O M G h4 X Y U hv;refine kQ (HN.out _ Ae Ae) ?_;rintro _ ai ⟨ae,⟨⟩,a8,eo,b6⟩;revert O M G h4 X Y U hv;refine eY b6 ?_;intro ep O M G h4 X Y U hv;refine C1 Mv (C1 Px (C1 Px (C1 Pa (C1 Pa (cT (Aj (cS (C1 Mv (C1 V2 (cT (NH ?_)))))))))));refine Ao (Ai ?_)
 have b7:=gO a8;have Xn:=Ne ai;clear a8 HV HC HN;refine FZ (ι:=Nat×Nat×Nat) (λx=>[(4,pt b1),(5,pt b8),(7,pt ax),(8,.slice none 0 0),(9,pt a7),(10,pt ae),(12,pt x.2.2)])
  (λx w'=>Blk w' x.1 [.slice va g.vars.length vc,.slice pa g.procs.length pc,.int .u8 g.main.kind,.int .i64 g.main.num,str g.main.name,.slice ma g.main.kids.length mc,pt ae,.int .i64 0,.int .i64 f,.slice (some ⟨x.2.1,0,none⟩) g.procs.length g.procs.length] /\
   Blk w' x.2.1 (AZ (iL g.procs.length 0))/\Blk w' x.2.2 [pt x.1]/\ai.heap.size<=x.1/\ai.heap.size<=x.2.1/\ai.heap.size<=x.2.2/\x.1≠x.2.1/\x.2.2≠x.1/\x.2.2≠x.2.1/\Blk w' b1 (g.cells va vc pa pc ma mc)/\Blk w' b8 [.slice ca s.cells.length cc,.slice ta s.tin.length tc,.slice oa s.tout.length oc]/\Blk w' ax [.bool ac]/\Blk w' a7 [.slice none 0 0,.slice none 0 0,.slice none 0 0,.int .i64 0,.int .i64 0]/\g.sits (· < w.heap.size) w' va pa ma/\s.sits (· < w.heap.size) w' ca ta oa/\Ext ai w'/\Ext w w') ?_ ?_
 . focus
    refine Aq (λwz=>Ext ai wz) 10 (.pure 0 (.pure 1 (.pure 2 (.pure 3 (.pure 4 (.pure 5 (.fork 6 (.pure 7 (.fork 8 (.fork 9 .tail .none) (.fork 9 (.fork 8 .tail .none) .none))) (.fork 9 (.fork 6 (.pure 7 (.fork 8 .tail .none)) .none) .none)))))))) mixed AU (Aa Ag) ?_;intro b9 a9 _;have V:(λwz=>Ext ai wz) b9:=a9;simp only at V;have ba:=h4;revert O M G h4 X Y U hv Xn;refine eY a9 ?_;intro eq O M G h4 X Y U hv Xn;refine ⟨V,?_⟩;refine Tq rfl (xL [_,_,_,_,_,_] (λwz hz=>(l9 ba hz))) ?_;refine eT ?_;refine AE rfl (Dq (sh:=C8) (C:=0) (D:=0) (N:=g.procs.length) (z:=0) Ac CJ rfl rfl rfl rfl AU rfl rfl Ab (λ_ _=>rfl)) rfl ?_ aFh ?kra5;rintro _ cn ⟨er,rfl,ad,et,eu,bb⟩;revert V O M G h4 X Y U hv Xn;refine eE bb ?_;intro V O M G h4 X Y U hv Xn;refine ⟨V,?_⟩;refine Tq rfl (xB [_,_,_,_,_,_,_,_,_,_]) ?_;refine AE rfl (Hb rfl rfl) rfl ?_ aFh ?kra13;rintro _ co ⟨cp,rfl,aj⟩;have ak:=aj.blk;have bc:=aj.ext;have cq:=aj.pos;have cr:=aj.size;revert ad V O M G h4 X Y U hv Xn;refine eE bc ?_;intro ad V O M G h4 X Y U hv Xn;refine ⟨V,?_⟩;refine AE rfl (Bb CJ rfl) rfl ?_ aFh AC;rintro _ ct ⟨cu,rfl,al⟩;have a0:=al.blk;dsimp only at a0;have bd:=al.ext;have cv:=al.pos;have cw:=al.size;revert ak ad V O M G h4 X Y U hv Xn;refine eE bd ?_;intro ak ad V O M G h4 X Y U hv Xn;refine ⟨V,?_⟩;refine Ar rfl (eS [_] a0 ?_);intro cx cy be cz;revert ak ad O M G h4 X Y U hv Xn;refine eF be ?_;intro ak ad O M G h4 X Y U hv Xn;refine Ak ?_;rotate_left;refine AE rfl (Bb CJ rfl) rfl ?_ aFh AC;rintro _ c0 ⟨c1,rfl,am⟩;have an:=am.blk;dsimp only at an;have bf:=am.ext;have c2:=am.pos;have c3:=am.size;revert ad V O M G h4 X Y U hv Xn;refine eE bf ?_;intro ad V O M G h4 X Y U hv Xn;refine ⟨V,?_⟩;refine AE rfl (Hb rfl rfl) rfl ?_ aFh AC;rintro _ c4 ⟨c5,rfl,ao⟩;have a1:=ao.blk;have bg:=ao.ext;have c6:=ao.pos;have c7:=ao.size;revert an ad V O M G h4 X Y U hv Xn;refine eE bg ?_;intro an ad V O M G h4 X Y U hv Xn;refine ⟨V,?_⟩;refine Ar rfl (eS [_] an ?_);intro c8 c9 bh da
    revert a1 ad O M G h4 X Y U hv Xn;refine eF bh ?_;intro a1 ad O M G h4 X Y U hv Xn;refine Ak ?_;rotate_left;refine AE rfl (Bb CJ rfl) rfl ?_ aFh AC;rintro _ db ⟨dc,rfl,ap⟩;have af:=ap.blk;dsimp only at af;have bi:=ap.ext;have dd:=ap.pos;have de:=ap.size;revert V O M G h4 X Y U hv Xn;refine eE bi ?_;intro V O M G h4 X Y U hv Xn;refine ⟨V,?_⟩;refine AE rfl (Dq (sh:=C8) (C:=0) (D:=0) (N:=g.procs.length) (z:=0) Ac CJ rfl rfl rfl rfl AU rfl rfl Ab (λ_ _=>rfl)) rfl ?_ aFh AC;rintro _ df ⟨dg,rfl,aq,dh,di,bj⟩;revert af V O M G h4 X Y U hv Xn;refine eE bj ?_;intro af V O M G h4 X Y U hv Xn;refine ⟨V,?_⟩;refine Tq rfl (xB [_,_,_,_,_,_,_,_,_,_]) ?_;refine AE rfl (Hb rfl rfl) rfl ?_ aFh AC;rintro _ dk ⟨dl,rfl,ar⟩;have a2:=ar.blk;have bk:=ar.ext;have dm:=ar.pos;have dn:=ar.size;revert aq af V O M G h4 X Y U hv Xn;refine eE bk ?_;intro aq af V O M G h4 X Y U hv Xn;refine ⟨V,?_⟩;refine Ar rfl (eS [_] af ?_);intro dp dq bl dr;revert a2 aq O M G h4 X Y U hv Xn;refine eF bl ?_;intro a2 aq O M G h4 X Y U hv Xn;refine Ak ?_;rotate_left
   all_goals exact BY (_,_,_) sC ⟨Ae,ArrS.blkI Ae,Ae,by (try simp only);omega,by (try simp only);omega,by (try simp only);omega,by (try simp only);omega,by (try simp only);omega,by (try simp only);omega,Ae,Ae,Ae,Ae,Ae,Ae,Xn,X⟩
 . clear h4 G M O Y hv U X Xn;rintro ⟨rb,eb,au⟩ w3 ⟨ay,az,aa,o1,o2,o3,o4,o5,o6,h4,G,M,O,Y,hv,Xn,X⟩;simp only at ay az aa o1 o2 o3 o4 o5 o6;have ew:=Xn.size;have ds:=aa.lt;have hR:Run ⟨rb,ae,eb,g.procs.length,g,va,vc,pa,pc,ma,mc,f,(· < w.heap.size)⟩ (λk=>k<a6.heap.size\/k=au) w3 ⟨CK g.vars s g.vars.length,f⟩:=
    ZY b7.out Xn Ab o1 o2 o4 HW.out ay (es:=iL g.procs.length 0) AK az Y.procs (λk hk=>gP Ab) (λk hk=>by rcases hk with hk|hk<;>omega)
   have HA:Hid (∀jb w4,Ext w3 w4->w3.heap.size<=jb->jb<w4.heap.size->Blk w4 jb [.slice none 0 0,.bool false]->Calls prog 119 #[pt jb,.func (.func 120) #[] #[pt au,pt b1,pt ax]] w4 (cY ⟨rb,ae,eb,g.procs.length,g,va,vc,pa,pc,ma,mc,f,(· < w.heap.size)⟩ (Cn (λk=>k<a6.heap.size\/k=au) w3 w4) (AG (Aw g.procs d) ac g.main ⟨CK g.vars s g.vars.length,f⟩) w4)):=gO λjb w4 X4 j1 j2 hj=>
    VJ (ca:=[pt au,pt b1,pt ax]) AU bz w4 (λk hk=>by have:=X4.size;rcases hk with (hk|hk)|hk<;>omega) (λk hk=>gP (gP (by have e:k<w.heap.size:=hk;omega))) (gQ ⟨j1,j2⟩) hj (λw5 X5=>
     XP (c:=⟨rb,ae,eb,g.procs.length,g,va,vc,pa,pc,ma,mc,f,(· < w.heap.size)⟩) a5 bv.out bw.out bx.out d ac bt au b1 ax vc pc mc va pa ma w5 ((hR.more X4).more X5) ((aa.ext X4).ext X5) ((h4.ext X4).ext X5) ((M.ext X4).ext X5) (l6 ((Y.main.ext X4).ext X5) (λb hb=>gP (gP (gP (by have e:b<w.heap.size:=hb;omega))))))
   unfold cY at HA;generalize AG (Aw g.procs d) ac g.main ⟨CK g.vars s g.vars.length,f⟩=Z at *;have X3:=Ne w3;clear Xn hR;refine cS (eA [_,_] ?_);intro ex cb cd ce ey ez;revert ay az aa h4 G M O Y hv X X3;refine eE ce ?_;intro ay az aa h4 G M O Y hv X X3;refine C1 (B6 rfl) ?_;refine Ax (AN AU rfl (HA.out _ _ X3 Ab Ab Ae) (λ_ _ ⟨_,h⟩=>⟨_,h.1⟩)) rfl ?_ aFh;rintro _ a3 ⟨dt,⟨⟩,bm,ab⟩;have du:=ab.size;clear cd ay az;have aa:=lY aa ab (λh=>h (gP (gQ rfl)));have h4:=lY h4 ab (λh=>h (gP (gP Ab)));have G:=lY G ab (λh=>h (gP (gP Ab)));have M:=lY M ab (λh=>h (gP (gP Ab)));have O:=lY O ab (λh=>h (gP (gP Ab)));have Y:=mN Y ab (λb hb h=>h (gP (gP (by have e:b<w.heap.size:=hb;omega))));have hv:=mX hv ab (λb hb h=>h (gP (gP (by have e:b<w.heap.size:=hb;omega))));have X:=me X ab (λk hk=>by (rcases it k w.heap.size with h|h;exact absurd (gP (gP Ab)) hk;exact h));refine C1 Pa (cT (Aj ?_));rcases bm with ⟨bn,r,hZ,hR⟩|⟨bn,hZ⟩
   . subst bn;have cf:=hR.rem;have hb:=hR.blk;have cg:=hR.small a5;have HS:=gO (λw1 (h:Run ⟨rb,ae,eb,g.procs.length,g,va,vc,pa,pc,ma,mc,f,(· < w.heap.size)⟩ (Cn (λk=>k<a6.heap.size\/k=au) w3 cb) w1 r)=>ZX a5 w1 h);simp only at cf hb HS;rw [hZ];generalize ch:r.st.sv=sv at *;obtain ⟨cells,tin,tout⟩:=sv;refine eK ?_;refine Aq (λwz=>Ext a3 wz) 12 (.pure 0 (.pure 1 (.pure 2 (.pure 3 (.pure 4 (.pure 6 (.pure 7 (.pure 8 (.pure 9 (.fork 5 (.pure 10 (.pure 11 .tail)) .none)))))))))) mixed AU (Aa Ag) ?_;intro ci bo _;have ag:(λwz=>Ext a3 wz) ci:=bo;simp only at ag;have cj:=aa;have dv:=hb;revert aa h4 G M O Y hv X hR hb;refine eY bo ?_;intro e0 aa h4 G M O Y hv X hR hb;refine ⟨ag,?_⟩;refine eT ?_;refine tC rfl rfl (HS.out _ Ae) ?_;rintro _ dw ⟨e1,e2,dx,dy,ck,cl,⟨⟩,a4,bp⟩;revert ag aa h4 G M O Y hv X hR hb;refine eE bp ?_;intro ag aa h4 G M O Y hv X hR hb;refine ⟨ag,?_⟩;refine Tq rfl (xB [_,_,_,_,_]) (Tq rfl Pa ?_);refine Ar rfl (eS [_,_,_,_,_] O ?_);intro dz d0 bq d1;revert a4 aa h4 G M Y hv X hb;refine eF bq ?_;intro a4 aa h4 G M Y hv X hb;refine cT (AR ?_);refine RO rfl Ac rfl rfl rfl rfl Ae rfl ?_;rw [show IJ s f (.ok r)=⟨⟨cells,tin,tout⟩,(f:Int)-r.rem,0⟩ by unfold IJ;simp only [ch]]
     exact ⟨_,_,_,_,_,_,_,rfl,mT Ae (λb h=>⟨Ab,Ab⟩),cg,X⟩
   . refine kQ (HK.out _ Ae) ?_;rintro _ e3 ⟨e4,e5,d2,d3,d4,d5,⟨⟩,br,cm⟩;revert aa h4 G M O Y hv X;refine eE cm ?_;intro aa h4 G M O Y hv X;refine C1 Mv (C1 (xB [_,_,_,_,_]) (C1 Pa (eS [_,_,_,_,_] O ?_)));intro d6 d7 bs d8;revert br aa h4 G M Y hv X;refine eF bs ?_;intro br aa h4 G M Y hv X;refine cT (AR (As ?_));refine RO rfl Ac rfl rfl rfl rfl Ae rfl ?_;subst hZ;exact ⟨_,_,_,_,_,_,_,rfl,mT Ae (λb h=>⟨Ab,Ab⟩),aw,X⟩
def ResR (res:ResV) (w:wD):Ending->wD->Prop:=λe w'=> ∃a c ta tc oa oc,e = .returned (.agg (res.row a c ta tc oa oc).toArray)/\res.st.sits (λb=>w.heap.size<=b/\b<w'.heap.size) w' a ta oa/\res.st.small/\Ext w w'
def ResR.ret {G:ResV} {w':wD} {e:Ending} (h:ResR G w e w'):∃v,e = .returned v:=by
 obtain ⟨_,_,_,_,_,_,h,-⟩:=h;exact ⟨_,h⟩
def OF (g:PG) (aa:g.wf) (ab:g.ok=true) (h0:g.flt=0) (s:SV) (hf:FitsP g.vars s) (f:Nat) (ac:f<=10000) (d:Nat) (ad:AG (Aw g.procs d) false g.main ⟨CK g.vars s g.vars.length,f⟩≠.error (-1))
 (S:nP) (va:oA) (vc:Nat) (Y:oA) (pc:Nat) (ma:oA) (mc:Nat) (ca ta oa:oA) (cc tc oc:Nat) (w:wD) (O:g.sits S w va Y ma) (G:PDsC S w g.procs Y) (ae:g.vars.length<=vc) (U:s.sits S w ca ta oa) :
 Calls prog 48 #[.agg (g.cells va vc Y pc ma mc).toArray,.agg (s.row ca cc ta tc oa oc).toArray,.int .i64 f] w (ResR (IJ s f (AG (Aw g.procs d) false g.main ⟨CK g.vars s g.vars.length,f⟩)) w):=by
 have X:=Ne w;have O:=O.ltA;have G:=G.ltA;have U:=U.ltA;have HB:=gO (λw1 h1 h2 h3=>ZZ g aa ab h0 s hf f ac false d ad (· < w.heap.size) va vc Y pc ma mc ca ta oa cc tc oc w1 h1 h2 ae h3);generalize IJ s f _=af at *;obtain ⟨⟨cells,tin,tout⟩,n,er⟩:=af;refine Ad func48 ntmps48 rfl rfl (cS (eB [_,_,_,_,_,_] ?_));intro b1 w2 Z x5 p6 z7;revert X O G U;refine eE x5 ?_;intro X O G U;refine eB [_,_,_] ?_;intro b8 w9 V ag au av;revert Z X O G U;refine eE ag ?_;intro Z X O G U;refine eA [_,_,_,_,_] ?_;intro aw ax M ah ay z22;revert V Z X O G U;refine eE ah ?_;intro V Z X O G U;refine kQ (HB.out _ Ae Ae Ae) ?_;rintro _ az ⟨a0,a1,a2,ao,ap,aq,ar,⟨⟩,N,a3,ai⟩;revert M X;refine eY ai ?_;intro a4 M X;refine eK ?_;refine eA [_,_,_,_,_] ?_;intro a5 a6 aj ak a7 a8;revert N M X;refine eE ak ?_;intro N M X;refine C1 Pa (eS [_,_,_,_,_] aj ?_);intro a9 ba al z46;revert N M X;refine eF al ?_;intro N M X;refine eK ?_;refine eS [_,_,_,_,_] M ?_;intro bb am an bc;revert N X;refine eF an ?_;intro N X;refine kX am ?_;exact ⟨_,_,_,_,_,_,rfl,mT Ae (λb h=>⟨Ab,Ab⟩),Ae,X⟩
noncomputable def DQ (g:PG) (s:SV) (f:Nat):ResV:=
 IJ s f (AG (Aw g.procs (Classical.choose (G4 g.procs false g.main ⟨CK g.vars s g.vars.length,f⟩))) false g.main ⟨CK g.vars s g.vars.length,f⟩)
def PW (g:PG) (s:SV) (f:Nat):AG (Aw g.procs (Classical.choose (G4 g.procs false g.main ⟨CK g.vars s g.vars.length,f⟩))) false g.main ⟨CK g.vars s g.vars.length,f⟩≠.error (-1):=
 Classical.choose_spec (G4 g.procs false g.main ⟨CK g.vars s g.vars.length,f⟩)
structure VdV where
 ok:Bool
 tried:Int
 st:SV
 err:Int
def VdV.zero:VdV:=⟨false,0,⟨[],[],[]⟩,0⟩
noncomputable instance:DecidableEq SV:=λa b=>Classical.propDecidable _
noncomputable def Wm (g p:PG) (f:Nat):List SV->Int->VdV
 | [],n=>⟨true,n,⟨[],[],[]⟩,0⟩
 | s::l,n=>
  if (DQ g s f).err≠0 then Wm g p f l n
  else if (DQ p (DQ g s f).st f).err=0/\(DQ p (DQ g s f).st f).st=s then Wm g p f l (Go.IntKind.wrap .i64 (n+1))
  else ⟨false,Go.IntKind.wrap .i64 (n+1),s,(DQ p (DQ g s f).st f).err⟩
noncomputable instance:DecidableEq VD:=λa b=>Classical.propDecidable _
noncomputable def D8 (e:EX) (p:PG):Int:=
 if ¬e.valid then 1
 else if p.ok=false\/p.flt≠0 then 3
 else match p.errs with
  | er::_=>er
  | []=>if p.vars=e.g.vars then 0 else 7
def VM {e:EX} {p:PG} (N:∀x∈p.errs,x≠0) (h:D8 e p=0):e.valid/\p.acc/\p.vars=e.g.vars:=by
 unfold D8 at h;split at h
 . exact absurd h B7
 . rename_i O;split at h
   . exact absurd h B7
   . rename_i G;rw [not_or,Bool.not_eq_false,Decidable.not_not] at G;split at h
     . rename_i U l M;exact absurd h (N U (by rw [M];simp))
     . rename_i M;split at h
       . rename_i V;exact ⟨Decidable.not_not.1 O,⟨G.1,G.2,M⟩,V⟩
       . exact absurd h B7
structure FrmS (ρ:Nat->nP) (f g:Frm):Prop where
 vars:f.vars=g.vars
 locals:f.locals=g.locals
 len:f.cells.length=g.cells.length
 cell:∀(i c d:Nat),f.cells[i]? = some c->g.cells[i]? = some d->ρ c d
structure Sim (ρ:Nat->nP) (a b:Stp):Prop where
 base:FrmS ρ a.base b.base
 nc:a.calls.length=b.calls.length
 call:∀(i:Nat) (f g:Frm),a.calls[i]? = some f->b.calls[i]? = some g->FrmS ρ f g
 tin:a.tin=b.tin
 tout:a.tout=b.tout
 items:∀c d,ρ c d->a.items c=b.items d
 lt:∀c d,ρ c d->c<a.heap.length/\d<b.heap.length
 inj:∀c d c' d',ρ c d->ρ c' d'->(c=c'↔d=d')
def Vis (st:Stp) (s:lB) (d:Nat):Prop:= ∃i:Nat,BP s st.cur.vars=some i/\st.cur.cells[i]? = some d
section
variable {a b:Stp} {d:Nat}
def FrmS.get {f g:Frm} (h:FrmS ρ f g) {d:Nat} (e:g.cells[i]? = some d):∃c,f.cells[i]? = some c/\ρ c d:=by
 have G:=(List.getElem?_eq_some_iff.1 e).1;have M:f.cells[i]? = some (f.cells[i]'(by rw [h.len];exact G)):=gN (by rw [h.len];exact G);exact ⟨_,M,h.cell i _ d M e⟩
def FrmS.none {f g:Frm} (h:FrmS ρ f g) {i:Nat} (e:g.cells[i]? = none):f.cells[i]? = none:=by
 rw [List.getElem?_eq_none_iff] at e ⊢;rw [h.len];exact e
def Sim.getC (h:Sim ρ a b) {g:Frm} (e:b.calls[i]? = some g):∃f,a.calls[i]? = some f/\FrmS ρ f g:=by
 have G:=(List.getElem?_eq_some_iff.1 e).1;have M:a.calls[i]? = some (a.calls[i]'(by rw [h.nc];exact G)):=gN (by rw [h.nc];exact G);exact ⟨_,M,h.call i _ g M e⟩
def Sim.nil (h:Sim ρ a b):a.calls=[]↔b.calls=[]:=by
 rw [<-List.length_eq_zero_iff,<-List.length_eq_zero_iff,h.nc]
def Sim.cur (h:Sim ρ a b):FrmS ρ a.cur b.cur:=by
 unfold Stp.cur;rw [List.getLast?_eq_getElem?,List.getLast?_eq_getElem?,h.nc];cases e:b.calls[b.calls.length-1]? with
 | none=>
  have:a.calls[b.calls.length-1]? = none:=by
   rw [List.getElem?_eq_none_iff] at e ⊢;rw [h.nc];exact e
  rw [this];exact h.base
 | some g=>
  obtain ⟨f,G,M⟩:=h.getC e;rw [G];exact M
def Sim.look (h:Sim ρ a b):a.look=b.look:=by
 funext s;unfold Stp.look Frm.cell;have G:=h.cur;rw [G.vars];cases BP s b.cur.vars with
 | none=>rfl
 | some i=>
  simp only [jZ];cases e:b.cur.cells[i]? with
  | none=>rw [G.none e];rfl
  | some d=>
   obtain ⟨c,M,N⟩:=G.get e;rw [M];simp only [jI,h.items _ _ N]
def Vis.cellD (h:Vis st s d):st.cellD s=d:=by
 obtain ⟨i,G,M⟩:=h;unfold Stp.cellD Frm.cell;rw [G];simp [M]
def Sim.vis (h:Sim ρ a b) (G:Vis b s d):∃c,Vis a s c/\ρ c d:=by
 obtain ⟨i,M,N⟩:=G;obtain ⟨c,O,U⟩:=h.cur.get N;exact ⟨c,⟨i,by rw [h.cur.vars];exact M,O⟩,U⟩
def Sim.all (h:Sim ρ a b) (N:ρ c d) (xs:List Int):Sim ρ (a.all c xs) (b.all d xs) where
 base:=h.base
 nc:=h.nc
 call:=h.call
 tin:=h.tin
 tout:=h.tout
 items:=λO U G=>by
  rw [CO,CO,h.items _ _ G];have e:=h.inj _ _ _ _ G N;have l:=h.lt _ _ N;by_cases M:O=c
  . rw [AH ⟨M,l.1⟩,AH ⟨e.1 M,l.2⟩]
  . rw [At (λx=>M x.1),At (λx=>M (e.2 x.1))]
 lt:=λO U G=>by
  unfold Stp.all;simp only [jx];exact h.lt _ _ G
 inj:=h.inj
def Sim.put (h:Sim ρ a b) (G:ρ c d) (i:Nat) (v:Int):Sim ρ (a.put c i v) (b.put d i v):=by
 unfold Stp.put;rw [h.items _ _ G];exact h.all G _
def Sim.tinW (h:Sim ρ a b) (x:List Int):Sim ρ { a with tin:=x } { b with tin:=x }:=⟨h.base,h.nc,h.call,rfl,h.tout,h.items,h.lt,h.inj⟩
def Sim.toutW (h:Sim ρ a b) (x:List Int):Sim ρ { a with tout:=x } { b with tout:=x }:=⟨h.base,h.nc,h.call,h.tin,rfl,h.items,h.lt,h.inj⟩
def Sim.transfer (h:Sim ρ a b) (G:ρ c d) (k:Int) (i:Nat):(a.transfer k c i).1=(b.transfer k d i).1/\Sim ρ (a.transfer k c i).2 (b.transfer k d i).2:=by
 unfold md;rw [h.tin,h.tout,h.items _ _ G];by_cases U:k=46
 . simp only [AH U];cases b.tin with
   | nil=>exact ⟨rfl,h⟩
   | cons v r=>
    simp only;by_cases M:(b.items d).getD i 0≠0
    . simp only [AH M];exact ⟨trivial,h⟩
    . simp only [At M];exact ⟨trivial,(h.put G i v).tinW r⟩
 simp only [At U];by_cases M:k=47
 . simp only [AH M];by_cases N:4096<=b.tin.length
   . simp only [AH N];exact ⟨trivial,h⟩
   . simp only [At N];exact ⟨trivial,(h.put G i 0).tinW _⟩
 simp only [At M];by_cases N:k=48
 . simp only [AH N];by_cases O:4096<=b.tout.length
   . simp only [AH O];exact ⟨trivial,h⟩
   . simp only [At O];exact ⟨trivial,(h.put G i 0).toutW _⟩
 simp only [At N];cases b.tout.getLast? with
 | none=>exact ⟨rfl,h⟩
 | some v=>
  simp only;by_cases O:(b.items d).getD i 0≠0
  . simp only [AH O];exact ⟨trivial,h⟩
  . simp only [At O];exact ⟨trivial,(h.put G i v).toutW _⟩
def Sim.move (h:Sim ρ a b) (M:ρ c d) {e f:Nat} (G:ρ e f) (k:Int) (i:Nat):(a.move k c i e).1=(b.move k d i f).1/\Sim ρ (a.move k c i e).2 (b.move k d i f).2:=by
 unfold mC;rw [h.items _ _ M,h.items _ _ G];by_cases N:k=44
 . simp only [AH N];by_cases O:1000<=(b.items f).length
   . simp only [AH O];exact ⟨trivial,h⟩
   . simp only [At O];exact ⟨trivial,(h.all G _).put M i 0⟩
 simp only [At N];cases (b.items f).getLast? with
 | none=>exact ⟨rfl,h⟩
 | some v=>
  simp only;by_cases U:(b.items d).getD i 0≠0
  . simp only [AH U];exact ⟨trivial,h⟩
  . simp only [At U];exact ⟨trivial,(h.put M i v).all G _⟩
def Sim.exec (h:Sim ρ a b) (k:Int) (s:lB) (l:List Nd) (h1:∃d,Vis b (l.getD 0 (.mk 0 0 [] [])).name d) (h2:k=43 -> ∃d,Vis b (l.getD 1 (.mk 0 0 [] [])).name d) (h3:k=44\/k=45 -> ∃d,Vis b s d) :
 (a.exec k s l).1=(b.exec k s l).1/\Sim ρ (a.exec k s l).2 (b.exec k s l).2:=by
 obtain ⟨d,Y⟩:=h1;obtain ⟨c,hc,N⟩:=h.vis Y;unfold Stp.exec;simp only [h.look,hc.cellD,Y.cellD,h.items _ _ N];generalize Bf b.look (l.getD 0 (.mk 0 0 [] []))=U;generalize (if k=43 then Bf b.look (l.getD 1 (.mk 0 0 [] [])) else if 40<=k/\k<=42 then AW b.look (l.getD 1 (.mk 0 0 [] [])) else (0,0))=r;by_cases Z:U.2≠0
 . simp only [AH Z];exact ⟨trivial,h⟩
 simp only [At Z];by_cases e2:r.2≠0
 . simp only [AH e2];exact ⟨trivial,h⟩
 simp only [At e2];by_cases e3:U.1<0\/((b.items d).length:Int)<=U.1
 . simp only [AH e3];exact ⟨trivial,h⟩
 simp only [At e3];by_cases e4:40<=k/\k<=42
 . simp only [AH e4];exact ⟨trivial,h.put N _ _⟩
 simp only [At e4];by_cases V:k=43
 . simp only [AH V];obtain ⟨f,O⟩:=h2 V;obtain ⟨e,X,G⟩:=h.vis O;rw [X.cellD,O.cellD,h.items _ _ G];by_cases M:r.1<0\/((b.items f).length:Int)<=r.1
   . simp only [AH M];exact ⟨trivial,h⟩
   . simp only [At M];exact ⟨trivial,(h.put N _ _).put G _ _⟩
 simp only [At V];by_cases M:k=44\/k=45
 . simp only [AH M];obtain ⟨f,O⟩:=h3 M;obtain ⟨e,X,G⟩:=h.vis O;rw [X.cellD,O.cellD];exact h.move N G k _
 . simp only [At M];exact h.transfer N k _
def Stp.WF.vis {K:List (Int×Int)} {m:Nat} (h:st.WF K m) (G:Ek st.cur.vars s k=0):∃d x,Vis st s d/\d<st.heap.length/\K[d]? = some x/\x.1=k/\cellOk x (st.items d):=by
 obtain ⟨i,c,x,M,N,-,-,O,U,V,X⟩:=h.use G;exact ⟨c,x,⟨i,M,N⟩,O,U,V,X⟩
def VN {x:Nd} (G:x.isPlace=true) (h:x.bad v=0):Ek v x.name 1=0\/Ek v x.name 2=0:=by
 obtain ⟨k,n,s,l⟩:=x;obtain ⟨M,-⟩:=Kl h;simp only [mtt,gR,jc,beq_iff_eq,mz] at G;rcases G.1 with rfl|rfl
 . exact gP (M B7)
 . exact gQ (M B7)
end
section
variable {st' a b:Stp} {d e:Nat} {v:Int} {ys:List Int}
def Stp.eq_of (h:a.base=b.base) (G:a.calls=b.calls) (M:a.tin=b.tin) (N:a.tout=b.tout) (O:a.heap.length=b.heap.length) (U:∀c,a.items c=b.items c):a=b:=by
 obtain ⟨Y,Z,ca,ia,oa⟩:=a;obtain ⟨hb,bb,cb,ib,ob⟩:=b;simp only at h G M N O;subst h G M N;congr 1;refine kP O λn V X=>?_
 have:=U n;unfold mx at this;simpa [gT,gN V,gN X] using this
def Bq (h:c<st.heap.length):(st.put c i v).items c=(st.items c).set i v:=by
 unfold Stp.put;rw [CO,AH ⟨rfl,h⟩]
def Bg (h:d≠c):(st.put c i v).items d=st.items d:=by
 unfold Stp.put;rw [CO,At (λx=>h x.1)]
def Eu (h:c<st.heap.length):(st.all c xs).items c=xs:=by rw [CO,AH ⟨rfl,h⟩]
def Cf (h:d≠c):(st.all c xs).items d=st.items d:=by rw [CO,At (λx=>h x.1)]
def F9:(st.all c xs).heap.length=st.heap.length:=by simp [Stp.all]
def CQ:(st.put c i v).heap.length=st.heap.length:=by simp [Stp.put,Stp.all]
def GA {L:List Int} (h:i<L.length) (v:Int):(L.set i v).set i (L.getD i 0)=L:=by
 rw [kL];simp [gT,gN h]
def DG {L:List Int} (h:i<L.length) (v:Int):(L.set i v).getD i 0=v:=by
 simp [gT,jl h]
def If (G:c<st.heap.length) (M:i<(st.items c).length) (v:Int):(st.put c i v).put c i ((st.items c).getD i 0)=st:=by
 refine Stp.eq_of rfl rfl rfl rfl (by simp [CQ]) λN=>?_
 by_cases h:N=c
 . subst h;rw [Bq (by rw [CQ];exact G),Bq G,GA M]
 . rw [Bg h,Bg h]
def No {L:List Int} (h:i<L.length):L.set i (L.getD i 0)=L:=by
 have:=GA h 0;rwa [kL] at this
def VO {L:List Int} {j:Nat} (G:i<L.length) (M:j<L.length) :
 ((((L.set i (L.getD j 0)).set j (L.getD i 0)).set i (((L.set i (L.getD j 0)).set j (L.getD i 0)).getD j 0)).set j (((L.set i (L.getD j 0)).set j (L.getD i 0)).getD i 0))=L:=by
 by_cases h:i=j
 . subst h;simp only [No G]
 . have N:((L.set i (L.getD j 0)).set j (L.getD i 0)).getD j 0=L.getD i 0:=DG (by simp [M]) _;have O:((L.set i (L.getD j 0)).set j (L.getD i 0)).getD i 0=L.getD j 0:=by
    rw [gT,iV (λx=>h x.symm),<-gT,DG G]
   rw [N,O,List.set_comm _ _ (λx=>h x.symm),kL,kL,No G,No M]
def XQ {j:Nat} (N:c<st.heap.length) (O:i<(st.items c).length) (X:e<st.heap.length) (U:j<(st.items e).length) :
 (((st.put c i ((st.items e).getD j 0)).put e j ((st.items c).getD i 0)).put c i ((((st.put c i ((st.items e).getD j 0)).put e j ((st.items c).getD i 0)).items e).getD j 0)).put e j
  ((((st.put c i ((st.items e).getD j 0)).put e j ((st.items c).getD i 0)).items c).getD i 0)=st:=by
 refine Stp.eq_of rfl rfl rfl rfl (by simp [CQ]) λV=>?_
 by_cases G:c=e
 . subst G;by_cases h:V=c
   . subst h;simp only [Bq,CQ,N];exact VO O U
   . simp only [Bg h]
 . have M:e≠c:=λx=>G x.symm
   by_cases h:V=c
   . subst h;simp only [Bq,Bg G,Bg M,CQ,N,X];rw [DG U,GA O]
   . by_cases Y:V=e
     . subst Y;simp only [Bq,Bg G,Bg M,CQ,N,X];rw [DG O,GA U]
     . simp only [Bg h,Bg Y]
def Uo (v:BitVec 64):KE v.toNat=v.toInt:=by
 rw [BitVec.toInt_eq_toNat_cond];unfold KE;rw [jo];have:=v.isLt;simp [IntKind.signed,IntKind.bits];omega
def VP {x:Int} (h:E0 x):(BitVec.ofInt 64 x).toInt=x:=by
 unfold E0 at h;rw [BitVec.toInt_ofInt];simp only [Int.bmod];omega
def XR {u r:Int} (G:k=40\/k=41\/k=42) (h:E0 u):LH (A9 k) (LH k u r) r=u:=by
 rcases G with rfl|rfl|rfl
 . simp only [A9,LH];simp;unfold E0 at h;unfold KE;rw [jo,jo];simp [IntKind.signed,IntKind.bits];omega
 . simp only [A9,LH];simp;unfold E0 at h;unfold KE;rw [jo,jo];simp [IntKind.signed,IntKind.bits];omega
 . have e:A9 42=42:=by decide
   rw [e];simp only [LH];simp only [show ¬((42:Int)=40) by decide,show ¬((42:Int)=41) by decide,if_false,NM];rw [Uo (BitVec.ofInt 64 u ^^^ BitVec.ofInt 64 r),BitVec.ofInt_toInt,BitVec.xor_assoc,BitVec.xor_self,BitVec.xor_zero,Uo,VP h]
def Stp.execT (st:Stp) (k:Int) (i:Nat) (r:Int) (c e d:Nat):Int×Stp:=
 if 40<=k/\k<=42 then (0,st.put c i (LH k ((st.items c).getD i 0) r))
 else if k=43 then
  if r<0\/((st.items e).length:Int)<=r then (12,st)
  else (0,(st.put c i ((st.items e).getD r.toNat 0)).put e r.toNat ((st.items c).getD i 0))
 else if k=44\/k=45 then st.move k c i d
 else st.transfer k c i
def Np (st:Stp) (k:Int) (s:lB) (l:List Nd):st.exec k s l =
 (let x:=l.getD 0 (.mk 0 0 [] [])
  let y:=l.getD 1 (.mk 0 0 [] [])
  let a:=Bf st.look x
  let r:=if k=43 then Bf st.look y else if 40<=k/\k<=42 then AW st.look y else (0,0)
  if a.2≠0 then (a.2,st) else if r.2≠0 then (r.2,st) else if a.1<0\/((st.items (st.cellD x.name)).length:Int)<=a.1 then (12,st)
  else st.execT k a.1.toNat r.1 (st.cellD x.name) (st.cellD y.name) (st.cellD s)):=rfl
def Tk {r:Int} (hk:40<=k/\k<=49) (h:st.execT k i r c e d=(0,st')) (N:i<(st.items c).length) (O:c<st.heap.length) (he:k=43->e<st.heap.length)
 (hd:k=44\/k=45->d<st.heap.length/\c≠d/\(st.items d).length<=1000) (ht:st.tin.length<=4096/\st.tout.length<=4096) (hr:E0 ((st.items c).getD i 0)):st'.execT (A9 k) i r c e d=(0,st):=by
 unfold Stp.execT at h ⊢;by_cases h1:40<=k/\k<=42
 . rw [AH h1] at h;obtain ⟨-,rfl⟩:=ku h;have aa:k=40\/k=41\/k=42:=by omega
   have h2:40<=A9 k/\A9 k<=42:=by rcases aa with rfl|rfl|rfl<;>decide
   rw [AH h2,Bq O,DG N,XR aa hr,If O N]
 rw [At h1] at h;by_cases h2:k=43
 . subst h2;have e1:A9 43=43:=by decide
   rw [e1,At B7,AH rfl];rw [AH rfl] at h;by_cases X:r<0\/((st.items e).length:Int)<=r
   . rw [AH X] at h;cases h
   rw [At X] at h;obtain ⟨-,rfl⟩:=ku h;have hj:r.toNat<(st.items e).length:=by omega
   rw [At (by simp only [F7];exact X)];rw [XQ O N (he rfl) hj]
 rw [At h2] at h;by_cases X:k=44\/k=45
 . rw [AH X] at h;obtain ⟨d1,d2,d3⟩:=hd X;have d4:d≠c:=λx=>d2 x.symm
   have h4:A9 k=44\/A9 k=45:=by rcases X with rfl|rfl<;>decide
   rw [At Ab,At Ab,AH h4];rcases X with rfl|rfl
   . unfold mC at h ⊢;rw [AH rfl] at h;by_cases Y:1000<=(st.items d).length
     . rw [AH Y] at h;cases h
     rw [At Y] at h;obtain ⟨-,rfl⟩:=ku h;have e1:((st.all d (st.items d++[(st.items c).getD i 0])).put c i 0).items d=st.items d++[(st.items c).getD i 0]:=by rw [Bg d4,Eu d1]
     have U:((st.all d (st.items d++[(st.items c).getD i 0])).put c i 0).items c=(st.items c).set i 0:=by rw [Bq (by rw [F9];exact O),Cf d2]
     rw [At B7,e1,U,kW];simp only [DG N,ne_eq,not_true,if_false,kw];congr 1;refine Stp.eq_of rfl rfl rfl rfl (by simp [CQ,F9]) λc'=>?_
     by_cases h6:c'=d
     . subst h6;rw [Eu (by simp [CQ,F9,d1])]
     . rw [Cf h6];by_cases M:c'=c
       . subst M;rw [Bq (by simp [CQ,F9,O]),U,GA N]
       . rw [Bg M,Bg M,Cf h6]
   . unfold mC at h ⊢;rw [At B7] at h;have Z:A9 45=44:=by decide
     rw [Z,AH rfl];rcases i8 (st.items d) with V|⟨ys,y,G⟩
     . rw [V] at h;cases h
     rw [jp] at G;rw [G,kW] at h;simp only [kw] at h;by_cases Y:(st.items c).getD i 0≠0
     . rw [AH Y] at h;cases h
     rw [At Y] at h;obtain ⟨-,rfl⟩:=ku h;have e1:((st.put c i y).all d ys).items d=ys:=Eu (by rw [CQ];exact d1);have U:((st.put c i y).all d ys).items c=(st.items c).set i y:=by rw [Cf d2,Bq O]
     rw [e1,U,DG N,At (by rw [G] at d3;simp at d3;omega)];congr 1;refine Stp.eq_of rfl rfl rfl rfl (by simp [CQ,F9]) λc'=>?_
     by_cases M:c'=c
     . subst M;rw [Bq (by simp [CQ,F9,O]),Cf d2,U,kL];have:=GA (L:=st.items c') N 0;rw [kL] at this;rw [<-Decidable.not_not.1 Y];exact this
     . rw [Bg M];by_cases h6:c'=d
       . subst h6;rw [Eu (by simp [CQ,F9,d1]),G]
       . rw [Cf h6,Cf h6,Bg M]
 rw [At X] at h;obtain ⟨t1,t2⟩:=ht;have Y:k=46\/k=47\/k=48\/k=49:=by omega
 have h6:A9 k=46\/A9 k=47\/A9 k=48\/A9 k=49:=by rcases Y with rfl|rfl|rfl|rfl<;>decide
 rw [At Ab,At Ab,At Ab];rcases Y with rfl|rfl|rfl|rfl
 . unfold md at h ⊢;rw [AH rfl] at h;have Z:A9 46=47:=by decide
   rw [Z,At B7,AH rfl];cases ht:st.tin with
   | nil=>rw [ht] at h;cases h
   | cons v r=>
    rw [ht] at h t1;simp only at h;by_cases M:(st.items c).getD i 0≠0
    . rw [AH M] at h;cases h
    rw [At M] at h;obtain ⟨-,rfl⟩:=ku h;have U:({ st.put c i v with tin:=r }:Stp).items c=(st.items c).set i v:=Bq O;rw [U,DG N];rw [At (by simp at t1 ⊢;omega)];congr 1;have:=If O N v;rw [Decidable.not_not.1 M] at this;have e3:({ ({ st.put c i v with tin:=r }:Stp).put c i 0 with tin:=v::r }:Stp)={ (st.put c i v).put c i 0 with tin:=v::r }:=rfl;rw [e3,this,<-ht]
 . unfold md at h ⊢;rw [At B7,AH rfl] at h;have Z:A9 47=46:=by decide
   rw [Z,AH rfl];by_cases M:4096<=st.tin.length
   . rw [AH M] at h;cases h
   rw [At M] at h;obtain ⟨-,rfl⟩:=ku h;have U:({ st.put c i 0 with tin:=(st.items c).getD i 0::st.tin }:Stp).items c=(st.items c).set i 0:=Bq O;simp only [U,DG N,ne_eq,not_true,if_false];congr 1;have e3:({ ({ st.put c i 0 with tin:=(st.items c).getD i 0::st.tin }:Stp).put c i ((st.items c).getD i 0) with tin:=st.tin }:Stp)={ (st.put c i 0).put c i ((st.items c).getD i 0) with tin:=st.tin }:=rfl;rw [e3,If O N]
 . unfold md at h ⊢;rw [At B7,At B7,AH rfl] at h;have Z:A9 48=49:=by decide
   rw [Z,At B7,At B7,At B7];by_cases M:4096<=st.tout.length
   . rw [AH M] at h;cases h
   rw [At M] at h;obtain ⟨-,rfl⟩:=ku h;have U:({ st.put c i 0 with tout:=st.tout++[(st.items c).getD i 0] }:Stp).items c=(st.items c).set i 0:=Bq O;simp only [kW,U,DG N,ne_eq,not_true,if_false,kw];congr 1;have e3:({ ({ st.put c i 0 with tout:=st.tout++[(st.items c).getD i 0] }:Stp).put c i ((st.items c).getD i 0) with tout:=st.tout }:Stp)={ (st.put c i 0).put c i ((st.items c).getD i 0) with tout:=st.tout }:=rfl;rw [e3,If O N]
 . unfold md at h ⊢;rw [At B7,At B7,At B7] at h;have Z:A9 49=48:=by decide
   rw [Z,At B7,At B7,AH rfl];rcases i8 st.tout with V|⟨ys,y,G⟩
   . rw [V] at h;cases h
   rw [jp] at G;rw [G,kW] at h;simp only [kw] at h;by_cases M:(st.items c).getD i 0≠0
   . rw [AH M] at h;cases h
   rw [At M] at h;obtain ⟨-,rfl⟩:=ku h;have U:({ st.put c i y with tout:=ys }:Stp).items c=(st.items c).set i y:=Bq O;rw [U,DG N];rw [G] at t2;rw [At (by simp at t2 ⊢;omega)];congr 1;have:=If O N y;rw [Decidable.not_not.1 M] at this;have e3:({ ({ st.put c i y with tout:=ys }:Stp).put c i 0 with tout:=ys++[y] }:Stp)={ (st.put c i y).put c i 0 with tout:=ys++[y] }:=rfl;rw [e3,this,<-G]
end
def LB {m x:Nd}:∀ {l:List Nd},x∈l->m∈x.walk->m∈BU l
 | [],h,_=>by cases h
 | t::r,h,G=>by
  simp only [BU,i6];rcases io.1 h with rfl|h
  . exact gP G
  . exact gQ (LB h G)
def RP {n:Int} {m x:Nd} (h:x∈l) (G:m∈x.walk):m∈(Nd.mk k n s l).walk:=by
 simp only [Nd.walk];exact iU _ (LB h G)
def OG (t:Nd):t∈t.walk:=by
 obtain ⟨k,n,s,l⟩:=t;simp [Nd.walk]
def RQ {f g:lB->Option (List Int)}:∀(N:Nat) (t:Nd),t.size<N->(∀m∈t.walk,2<=m.kind->m.kind<=5->f m.name=g m.name)->AW f t=AW g t
 | 0,_,h,_=>by omega
 | N+1,.mk k n s l,h,hm=>by
  have G:∀x∈l,AW f x=AW g x:=λx hx=>RQ N x (by have:=DI hx;simp only [mg] at h;omega) (λm Z=>hm m (RP hx Z))
  have M:2<=k->k<=5->f s=g s:=λh1 h2=>hm _ (OG _) h1 h2
  unfold AW;by_cases O:k=1
  . rw [AH O,AH O]
  rw [At O,At O];by_cases U:k=2
  . rw [AH U,AH U,M Ab Ab]
  rw [At U,At U];by_cases V:k=3
  . rw [AH V,AH V,M Ab Ab];rcases l with _|⟨x,_|⟨y,r⟩⟩
    . rfl
    . simp only [G x (iu.2 rfl)]
    . rfl
  rw [At V,At V];by_cases X:k=4
  . rw [AH X,AH X,M Ab Ab]
  rw [At X,At X];by_cases Y:k=5
  . rw [AH Y,AH Y,M Ab Ab]
  rw [At Y,At Y];rcases l with _|⟨x,_|⟨y,_|⟨z,r⟩⟩⟩
  . rfl
  . simp only [G x (iu.2 rfl)]
  . simp only [G x AK,G y AK]
  . rfl
def IA {f g:lB->Option (List Int)} (h:∀s,t.ment s=true->f s=g s):AW f t=AW g t:=
 RQ (t.size+1) t Ab λm G M N=>h _ (by
  unfold Nd.ment;rw [ke];exact ⟨m,G,by unfold Nd.isRef;simp [M,N]⟩)
def LC {f g:lB->Option (List Int)} (M:t.kind=2\/t.kind=3) (h:∀s,t.idx s=true->f s=g s):Bf f t=Bf g t:=by
 obtain ⟨k,n,s,l⟩:=t;unfold Bf;by_cases G:(Nd.mk k n s l).kind=2
 . rw [AH G,AH G]
 . rw [At G,At G];have N:k=3:=M.resolve_left G;cases l with
   | nil=>rfl
   | cons x r=>exact IA λs O=>h s (by unfold Nd.idx;simp [N,mz,Nd.kids,O])
def RngL (xs:List Int):Prop:= ∀x∈xs,E0 x
def RngL.get (h:RngL xs) (i:Nat):E0 (xs.getD i 0):=by
 rw [gT];cases e:xs[i]? with
 | none=>simp [E0]
 | some x=>exact h x (iF e)
def XS {f:lB->Option (List Int)} (G:∀s xs,f s=some xs->xs.length<=1000000/\RngL xs):∀(N:Nat) (t:Nd),t.size<N->t.wf->E0 (AW f t).1
 | 0,_,h,_=>by omega
 | N+1,.mk k n s l,h,M=>by
  have hn:E0 n:=by
   simp only [Nd.wf] at M;exact ⟨M.2.2.1,M.2.2.2.1⟩
  have IH:∀x∈l,E0 (AW f x).1:=λx O=>XS G N x (by have:=DI O;simp only [mg] at h;omega) (BB (by simp only [Nd.wf] at M;exact M.2.2.2.2.2.2) x O)
  have z:E0 0:=by simp [E0]
  unfold AW;by_cases U:k=1
  . rw [AH U];exact hn
  rw [At U];by_cases V:k=2
  . rw [AH V];cases e:f s with
    | none=>exact z
    | some c=>exact F4 ((G s c e).2.get 0) z
  rw [At V];by_cases X:k=3
  . rw [AH X];cases e:f s with
    | none=>exact z
    | some c=>
     rcases l with _|⟨x,_|⟨y,r⟩⟩
     . exact z
     . exact F4 z (F4 z ((G s c e).2.get _))
     . exact z
  rw [At X];by_cases Y:k=4
  . rw [AH Y];cases e:f s with
    | none=>exact z
    | some c=>exact F4 z ((G s c e).2.get _)
  rw [At Y];by_cases Z:k=5
  . rw [AH Z];cases e:f s with
    | none=>exact z
    | some c=>
     have:=(G s c e).1;unfold E0;simp only;omega
  rw [At Z];rcases l with _|⟨x,_|⟨y,_|⟨z',r⟩⟩⟩
  . exact z
  . exact F4 z (Oc _ _)
  . exact F4 z (F4 z (Od _ (IH x AK)))
  . exact z
structure Good (st:Stp):Prop where
 wf:∃K m,st.WF K m
 rng:∀c,RngL (st.items c)
 tin:st.tin.length<=4096
 tout:st.tout.length<=4096
 tinR:RngL st.tin
 toutR:RngL st.tout
 nodup:∀f∈st.base::st.calls,f.cells.Nodup
section
variable {st' a b:Stp} {d e:Nat} {v:Int} {ys:List Int}
def Good.cur (h:Good st):st.cur.cells.Nodup:=h.nodup _ (Ix st)
def Good.look (h:Good st) (s:lB) (xs:List Int) (e:st.look s=some xs):xs.length<=1000000/\RngL xs:=by
 obtain ⟨K,m,G⟩:=h.wf;refine ⟨G.look_le e,?_⟩;unfold Stp.look at e;cases h2:st.cur.cell s with
 | none=>rw [h2] at e;cases e
 | some c=>
  rw [h2] at e;obtain rfl:=gZ e;exact h.rng c
def Good.ev (h:Good st) (G:t.wf):E0 (AW st.look t).1:=XS h.look (t.size+1) t Ab G
def RngL.set (h:RngL xs) (G:E0 v):RngL (xs.set i v):=λx M=>by
 rcases List.mem_or_eq_of_mem_set M with N|rfl
 . exact h x N
 . exact G
def Nq (h:∀c,RngL (st.items c)) (G:RngL xs):∀d,RngL ((st.all c xs).items d):=λd=>by
 rw [CO];split
 . exact G
 . exact h d
def Ev (h:∀c,RngL (st.items c)) (G:E0 v):∀d,RngL ((st.put c i v).items d):=Nq h ((h c).set G)
def XT (a b:Stp):Prop:=a.base=b.base/\a.calls=b.calls/\a.heap.length=b.heap.length
def Z0 (k x y:Int):E0 (LH k x y):=by
 unfold LH;split
 . exact J6 _
 split
 . exact J6 _
 . exact T6 _ _ _
def Nr (st:Stp) (k:Int) (i:Nat) (r:Int) (c e d:Nat):XT (st.execT k i r c e d).2 st:=by
 unfold Stp.execT mC md
 repeat' split
 all_goals refine ⟨rfl,rfl,?_⟩
 all_goals simp [CQ,F9]
def RR (h:Good st) (k:Int) (i:Nat) (r:Int) (c e d:Nat) :
 (∀X,RngL ((st.execT k i r c e d).2.items X))/\(st.execT k i r c e d).2.tin.length<=4096/\(st.execT k i r c e d).2.tout.length<=4096/\RngL (st.execT k i r c e d).2.tin/\RngL (st.execT k i r c e d).2.tout:=by
 have z:E0 0:=by simp [E0]
 have G:(∀X,RngL (st.items X))/\st.tin.length<=4096/\st.tout.length<=4096/\RngL st.tin/\RngL st.tout:=⟨h.rng,h.tin,h.tout,h.tinR,h.toutR⟩;have O:=h.tin;have U:∀c i,E0 ((st.items c).getD i 0):=λc i=>(h.rng c).get i
 unfold Stp.execT;split
 . exact ⟨Ev h.rng (Z0 _ _ _),G.2⟩
 split
 . split
   . exact G
   . exact ⟨Ev (Ev h.rng (U _ _)) (U _ _),G.2⟩
 split
 . unfold mC;split
   . split
     . exact G
     . refine ⟨Ev (Nq h.rng λx N=>?_) z,G.2⟩;rcases i6.1 N with M|M
       . exact h.rng d x M
       . rw [iu.1 M];exact U _ _
   . split
     . exact G
     . rename_i v V;split
       . exact G
       . exact ⟨Nq (Ev h.rng (h.rng d v (List.mem_of_getLast? V))) (λx N=>h.rng d x (DX N)),G.2⟩
 . unfold md;split
   . split
     . exact G
     . rename_i v r V;split
       . exact G
       . have M:=h.tinR;rw [V] at M O;exact ⟨Ev h.rng (M v AK),by simp at O ⊢;omega,h.tout,λx N=>M x (by simp only [io];exact gQ N),h.toutR⟩
   split
   . split
     . exact G
     . refine ⟨Ev h.rng z,by simp only [gV];omega,h.tout,λx N=>?_,h.toutR⟩;rcases io.1 N with rfl|M
       . exact U _ _
       . exact h.tinR x M
   split
   . split
     . exact G
     . refine ⟨Ev h.rng z,h.tin,by simp only [iq,gV,iG];omega,h.tinR,λx N=>?_⟩;rcases i6.1 N with M|M
       . exact h.toutR x M
       . rw [iu.1 M];exact U _ _
   . split
     . exact G
     . rename_i v V;split
       . exact G
       . exact ⟨Ev h.rng (h.toutR v (List.mem_of_getLast? V)),h.tin,by simp only [kv];omega,h.tinR,λx N=>h.toutR x (DX N)⟩
def Ju (st:Stp) (k:Int) (s:lB) (l:List Nd):(st.exec k s l).2=st \/ ∃i r c e d,(st.exec k s l).2=(st.execT k i r c e d).2:=by
 rw [Np];simp only;generalize (if k=43 then Bf st.look (l.getD 1 (.mk 0 0 [] [])) else if 40<=k/\k<=42 then AW st.look (l.getD 1 (.mk 0 0 [] [])) else (0,0))=r;generalize Bf st.look (l.getD 0 (.mk 0 0 [] []))=a;split
 . exact gP rfl
 split
 . exact gP rfl
 split
 . exact gP rfl
 . exact gQ ⟨_,_,_,_,_,rfl⟩
def GB (st:Stp) (k n:Int) (s:lB) (l:List Nd):XT (st.run1 k n s l).2 st:=by
 unfold Stp.run1;split
 . exact ⟨rfl,rfl,rfl⟩
 split
 . exact ⟨rfl,rfl,rfl⟩
 . rcases Ju st k s l with h|⟨i,r,c,e,d,h⟩<;>rw [h]
   . exact ⟨rfl,rfl,rfl⟩
   . exact Nr ..
def Good.run1 (h:Good st) (k n:Int) (s:lB) (l:List Nd):Good (st.run1 k n s l).2:=by
 obtain ⟨K,m,U⟩:=h.wf;obtain ⟨V,X,Z⟩:=GB st k n s l;have Y:∀f∈(st.run1 k n s l).2.base::(st.run1 k n s l).2.calls,f.cells.Nodup:=by rw [V,X];exact h.nodup
 have G:=U.run1 k n s l;have key:(∀M,RngL ((st.run1 k n s l).2.items M))/\(st.run1 k n s l).2.tin.length<=4096/\(st.run1 k n s l).2.tout.length<=4096/\RngL (st.run1 k n s l).2.tin/\RngL (st.run1 k n s l).2.tout:=by
  have N:(∀M,RngL (st.items M))/\st.tin.length<=4096/\st.tout.length<=4096/\RngL st.tin/\RngL st.tout:=⟨h.rng,h.tin,h.tout,h.tinR,h.toutR⟩
  unfold Stp.run1;split
  . exact N
  split
  . exact N
  . rcases Ju st k s l with O|⟨i,r,c,e,d,O⟩<;>rw [O]
    . exact N
    . exact RR h ..
 exact ⟨⟨K,m,G⟩,key.1,key.2.1,key.2.2.1,key.2.2.2.1,key.2.2.2.2,Y⟩
def OH {l:List Nat} (h:l.Nodup) {i j x:Nat} (G:l[i]? = some x) (M:l[j]? = some x):i=j:=by
 have N:=(List.getElem?_eq_some_iff.1 G).1;exact (List.getElem?_inj N h).1 (G.trans M.symm)
def Ns (N:st.cur.cells.Nodup) {s G:lB} (h:Vis st s c) (O:Vis st G d) (U:G≠s):d≠c:=by
 rintro rfl;obtain ⟨i,V,X⟩:=h;obtain ⟨j,Y,Z⟩:=O;obtain rfl:=OH N X Z;obtain ⟨v,h5,h6⟩:=Dj V;obtain ⟨u,M,h8⟩:=Dj Y;rw [h5] at M;obtain rfl:=gZ M;exact U (h8.symm.trans h6)
def Fh {a b:Stp} (h:a.base=b.base) (G:a.calls=b.calls):a.cur=b.cur:=by unfold Stp.cur;rw [h,G]
def Z3 {a b:Stp} (G:a.base=b.base) (M:a.calls=b.calls) {s:lB} (h:∀d,Vis b s d->a.items d=b.items d):a.look s=b.look s:=by
 unfold Stp.look Frm.cell;rw [Fh G M];cases e:BP s b.cur.vars with
 | none=>rfl
 | some i=>
  simp only [jZ];cases e2:b.cur.cells[i]? with
  | none=>rfl
  | some d=>
   simp only [jI];rw [h d ⟨i,e,e2⟩]
def RS {r:Int} {h:Nat} (G:h≠c) (O:k=43->h≠e) (N:k=44\/k=45->h≠d):(st.execT k i r c e d).2.items h=st.items h:=by
 unfold Stp.execT;split
 . exact Bg G
 split
 . rename_i M;split
   . rfl
   . rw [Bg (O M),Bg G]
 split
 . rename_i M;unfold mC;split
   . split
     . rfl
     . rw [Bg G,Cf (N M)]
   . split
     . rfl
     . split
       . rfl
       . rw [Cf (N M),Bg G]
 . unfold md
   repeat' split
   all_goals first|rfl|exact Bg G
end
abbrev NI:Nd:=.mk 0 0 [] []
structure Basic (st:Stp) (k:Int) (s:lB) (l:List Nd):Prop where
 kind:40<=k/\k<=49
 px:(l.getD 0 NI).kind=2\/(l.getD 0 NI).kind=3
 vx:∃c,Vis st (l.getD 0 NI).name c/\c<st.heap.length
 py:k=43->((l.getD 1 NI).kind=2\/(l.getD 1 NI).kind=3) /\ ∃e,Vis st (l.getD 1 NI).name e/\e<st.heap.length
 vs:k=44\/k=45 -> ∃d,Vis st s d/\d<st.heap.length/\(st.items d).length<=1000/\(l.getD 0 NI).name≠s
 ix:(l.getD 0 NI).idx (l.getD 0 NI).name=false/\(k=43->(l.getD 0 NI).idx (l.getD 1 NI).name=false)/\(k=44\/k=45->(l.getD 0 NI).idx s=false)
 iy:k=43->(l.getD 1 NI).idx (l.getD 0 NI).name=false/\(l.getD 1 NI).idx (l.getD 1 NI).name=false
 my:40<=k/\k<=42->(l.getD 1 NI).ment (l.getD 0 NI).name=false
def Fx (G:40<=k/\k<=49):(40<=A9 k/\A9 k<=49)/\(A9 k=43↔k=43)/\((A9 k=44\/A9 k=45)↔(k=44\/k=45))/\((40<=A9 k/\A9 k<=42)↔(40<=k/\k<=42)):=by
 have h:k=40\/k=41\/k=42\/k=43\/k=44\/k=45\/k=46\/k=47\/k=48\/k=49:=by omega
 rcases h with rfl|rfl|rfl|rfl|rfl|rfl|rfl|rfl|rfl|rfl<;>decide
section
variable {st':Stp} {n:Int}
def VQ (hG:Good st) (O:Basic st k s l) (h:st.exec k s l=(0,st')):st'.exec (A9 k) s l=(0,st):=by
 obtain ⟨c,hc,ah⟩:=O.vx;obtain ⟨e1,e2,e3,e4⟩:=Fx O.kind;rw [Np] at h;simp only at h;have ai:∃e,st.cellD (l.getD 1 NI).name=e/\(k=43->Vis st (l.getD 1 NI).name e/\e<st.heap.length):=⟨_,rfl,λM=>by
  obtain ⟨-,e,he,aj⟩:=O.py M;rw [he.cellD];exact ⟨he,aj⟩⟩
 obtain ⟨e,ae,hy⟩:=ai;have ak:∃d,st.cellD s=d/\(k=44\/k=45->Vis st s d/\d<st.heap.length/\(st.items d).length<=1000):=⟨_,rfl,λM=>by
  obtain ⟨d,hd,al,V,-⟩:=O.vs M;rw [hd.cellD];exact ⟨hd,al,V⟩⟩
 obtain ⟨d,af,Y⟩:=ak;rw [hc.cellD,ae,af] at h;generalize ha:Bf st.look (l.getD 0 (.mk 0 0 [] []))=a at h;generalize hr:(if k=43 then Bf st.look (l.getD 1 (.mk 0 0 [] [])) else if 40<=k/\k<=42 then AW st.look (l.getD 1 (.mk 0 0 [] [])) else (0,0))=r at h;split at h
 . rename_i N;exact absurd (congrArg Prod.fst h) N
 rename_i am;split at h
 . rename_i N;exact absurd (congrArg Prod.fst h) N
 rename_i an;split at h
 . cases h
 rename_i Z;have hi:a.1.toNat<(st.items c).length:=by omega
 have aa:=Tk O.kind h hi ah (λM=>(hy M).2) (λM=>⟨(Y M).2.1,by
  obtain ⟨-,-,-,-,N⟩:=O.vs M;exact λx=>Ns hG.cur hc (Y M).1 (λy=>N y.symm) x.symm,(Y M).2.2⟩) ⟨hG.tin,hG.tout⟩ ((hG.rng c).get _)
 have ab:st'=(st.execT k a.1.toNat r.1 c e d).2:=by rw [h]
 obtain ⟨s1,s2,s3⟩:XT st' st:=by rw [ab];exact Nr ..
 have U:∀X,X≠(l.getD 0 NI).name->(k=43->X≠(l.getD 1 NI).name)->(k=44\/k=45->X≠s)->st'.look X=st.look X:=λX V h2 h3=>Z3 s1 s2 λd' ac=>by
  rw [ab];exact RS (Ns hG.cur hc ac V) (λM=>Ns hG.cur (hy M).1 ac (h2 M)) (λM=>Ns hG.cur (Y M).1 ac (h3 M))
 have ao:Bf st'.look (l.getD 0 (.mk 0 0 [] []))=a:=by
  rw [<-ha];refine LC O.px λX G=>U X ?_ ?_ ?_
  . rintro rfl;rw [O.ix.1] at G;cases G
  . rintro M rfl;rw [O.ix.2.1 M] at G;cases G
  . rintro M rfl;rw [O.ix.2.2 M] at G;cases G
 have ap:(if A9 k=43 then Bf st'.look (l.getD 1 (.mk 0 0 [] [])) else if 40<=A9 k/\A9 k<=42 then AW st'.look (l.getD 1 (.mk 0 0 [] [])) else (0,0))=r:=by
  rw [<-hr];by_cases V:k=43
  . rw [AH V,AH (e2.2 V)];refine LC (O.py V).1 λX G=>U X ?_ ?_ (λM=>by omega)
    . rintro rfl;rw [(O.iy V).1] at G;cases G
    . rintro M rfl;rw [(O.iy V).2] at G;cases G
  . rw [At V,At (λx=>V (e2.1 x))];by_cases h2:40<=k/\k<=42
    . rw [AH h2,AH (e4.2 h2)];refine IA λX G=>U X ?_ (λM=>absurd M V) (λM=>by omega)
      rintro rfl;rw [O.my h2] at G;cases G
    . rw [At h2,At (λx=>h2 (e4.1 x))]
 rw [Np];simp only;rw [ao,ap];have ad:∀s,st'.cellD s=st.cellD s:=λs=>by unfold Stp.cellD;rw [Fh s1 s2]
 rw [ad,ad,ad,hc.cellD,ae,af,At am,At an];have ag:(st'.items c).length=(st.items c).length:=by
  rw [ab];unfold Stp.execT;split
  . exact F7 ..
  split
  . split
    . rfl
    . rw [F7,F7]
  split
  . rename_i M;have N:c≠d:=by
     obtain ⟨-,-,-,-,N⟩:=O.vs M;exact λx=>Ns hG.cur hc (Y M).1 (λy=>N y.symm) x.symm
    unfold mC;split
    . split
      . rfl
      . rw [F7,Cf N]
    . split
      . rfl
      . split
        . rfl
        . rw [Cf N,F7]
  . unfold md
    repeat' split
    all_goals first|rfl|exact F7 ..
 rw [ag,At Z];exact aa
def LY {k n:Int} {s:lB} {l:List Nd} (h:(st.run1 k n s l).1=0):k≠56/\(Nd.mk k n s l).bad st.cur.vars=0/\st.run1 k n s l=st.exec k s l:=by
 unfold Stp.run1 at h ⊢;split at h
 . cases h
 rename_i M;split at h
 . rename_i G;exact absurd h G
 rename_i G;rw [At M,At G];exact ⟨M,Decidable.not_not.1 G,rfl⟩
def Tl {k:Int} (G:40<=k/\k<=49):CF (A9 k)=CF k:=by
 have h:k=40\/k=41\/k=42\/k=43\/k=44\/k=45\/k=46\/k=47\/k=48\/k=49:=by omega
 rcases h with rfl|rfl|rfl|rfl|rfl|rfl|rfl|rfl|rfl|rfl<;>decide
def VR (O:Good st) (M:Basic st k s l) (h:(st.run1 k n s l).1=0):(st.run1 k n s l).2.run1 (A9 k) n s l=(0,st):=by
 obtain ⟨h1,N,U⟩:=LY h;obtain ⟨V,X,s3⟩:=GB st k n s l;have e0:=Fx M.kind;have Y:st.exec k s l=(0,(st.run1 k n s l).2):=by
  rw [<-U];exact Prod.ext h rfl
 have Z:=VQ O M Y;generalize (st.run1 k n s l).2=st' at *;unfold Stp.run1;have G:(Nd.mk (A9 k) n s l).bad st'.cur.vars=0:=by
  rw [Fh V X];unfold Nd.bad at N ⊢;rw [Tl M.kind];exact N
 rw [At Ab,At (λx=>x G),Z]
def Tm (hG:Good st) (G:Basic st k s l) (h:(st.run1 k n s l).1=0) {a:Stp} (U:Sim ρ a (st.run1 k n s l).2) :
 (a.run1 (A9 k) n s l).1=0/\Sim ρ (a.run1 (A9 k) n s l).2 st:=by
 have M:=VR hG G h;obtain ⟨V,X,s3⟩:=GB st k n s l;obtain ⟨Y,Z,-⟩:=LY h;have e0:=Fx G.kind;generalize (st.run1 k n s l).2=st' at *;obtain ⟨h4,h5,h6⟩:=LY (st:=st') (k:=A9 k) (n:=n) (s:=s) (l:=l) (by rw [M]);rw [h6] at M;have N:∀ {s c},Vis st s c->Vis st' s c:=λ{s c} ⟨i,Y,Z⟩=>⟨i,by rw [Fh V X];exact Y,by rw [Fh V X];exact Z⟩
 obtain ⟨c,hc,-⟩:=G.vx;have hx:=U.exec (A9 k) s l ⟨c,N hc⟩ (λO=>by
  obtain ⟨-,e,he,-⟩:=G.py (e0.2.1.1 O);exact ⟨e,N he⟩) (λO=>by
  obtain ⟨d,hd,-⟩:=G.vs (e0.2.2.1.1 O);exact ⟨d,N hd⟩)
 rw [M] at hx;have e:a.run1 (A9 k) n s l=a.exec (A9 k) s l:=by
  unfold Stp.run1;rw [At h4,U.cur.vars,At (λx=>x h5)]
 rw [e];exact hx
end
def Rv (f f':Rn->Except Int Rn) (v:List VD):Prop:= ∀(st:Stp) (M:Nat) (r':Rn),Good st->st.cur.vars=v->f ⟨st,M⟩ = .ok r' ->
 Good r'.st/\r'.st.base=st.base/\r'.st.calls=st.calls/\st.heap.length<=r'.st.heap.length/\r'.rem<=M /\
 ∀(ρ:Nat->nP) (a:Stp),(∀c d,ρ c d->d<st.heap.length)->Sim ρ a r'.st -> ∃a',Sim ρ a' st /\ ∀F,M-r'.rem<=F->f' ⟨a,F⟩ = .ok ⟨a',F-(M-r'.rem)⟩
section

def LD (f:Nd->Rn->Except Int Rn):∀(l m:List Nd) (r:Rn),Eh f (l++m) r=(Eh f l r).bind (Eh f m)
 | [],m,r=>rfl
 | t::l,m,r=>by
  simp only [jC,Eh];cases f t r with
  | error e=>rfl
  | ok h=>exact LD f l m h
def Rv.row {f f':Nd->Rn->Except Int Rn}:∀(l:List Nd),(∀t∈l,Rv (f t) (f' t) v)->Rv (Eh f l) (Eh f' l.reverse) v
 | [],_=>λst M Y G N h=>by
  cases h;exact ⟨G,rfl,rfl,ip _,ip _,λρ a _ O=>⟨a,O,λF _=>by simp only [jw,jM];rfl⟩⟩
 | t::l,Z=>λst M Y G N h=>by
  obtain ⟨U,h1,h2⟩:=AM h;obtain ⟨g1,b1,c1,l1,m1,k1⟩:=Z t AK st M U G N h1;obtain ⟨g2,b2,c2,l2,m2,k2⟩:=Rv.row l (λx hx=>Z x (by simp [hx])) U.st U.rem Y g1 (by rw [Fh b1 c1];exact N) h2;refine ⟨g2,b2.trans b1,c2.trans c1,jg l1 l2,jg m2 m1,λρ a hρ O=>?_⟩;obtain ⟨a1,V,e1⟩:=k2 ρ a (λc d h=>js (hρ c d h) l1) O;obtain ⟨a2,X,e2⟩:=k1 ρ a1 hρ V;refine ⟨a2,X,λF hF=>?_⟩;rw [jR,LD,e1 F Ab];simp only [ir,Eh];rw [e2 _ Ab];simp only [jK,Rn.mk.injEq,true_and];omega
def Rv.block {f f':Bool->Nd->Rn->Except Int Rn} {b:Bool} (h:∀x∈t.kids,Rv (f b x) (f' (!b) x) v):Rv (AG f b t) (AG f' (!b) t) v:=by
 cases b with
 | false=>exact Rv.row t.kids h
 | true=>
  have:=Rv.row (f:=f true) (f':=f' false) t.kids.reverse (λx G=>h x (by simpa using G));rw [lC] at this;exact this
def Fb (st:Stp) {F:Nat} (h:1<=F):A4 ⟨st,F⟩ = .ok ⟨st,F-1⟩:=by
 unfold A4;rw [At (by simp only;omega)]
def KY {x:Int} (F:Nat) (h:AW st.look t=(x,0)):BD t ⟨st,F⟩ = .ok x:=by
 unfold BD;simp only [h];rfl
def IB {x:Int} {F:Nat} (G:1<=F) (h:AW st.look t=(x,0)):BI t ⟨st,F⟩ = .ok (decide (x≠0),⟨st,F-1⟩):=by
 unfold BI;rw [Fb st G];simp only [ir];rw [KY _ h]
def Jv {x:Int} {q:Bool} {F:Nat} (G:1<=F) (h:AW st.look t=(x,0)) (M:q=decide (x≠0)):Bj t q ⟨st,F⟩ = .ok ⟨st,F-1⟩:=by
 unfold Bj;rw [IB G h];simp only [ir];rw [At (by rw [M];simp)]
def Jw {f:Stp->Int×Stp} (F:Nat) (h:(f st).1=0):Cy f ⟨st,F⟩ = .ok ⟨(f st).2,F⟩:=by
 unfold Cy;rw [At (by simp only;omega)]
def Sim.ev {a b:Stp} (h:Sim ρ a b) {x:Int×Int} (e:AW b.look t=x):AW a.look t=x:=by rw [h.look,e]
def Rv.branch {g g':Bool->Rn->Except Int Rn} (x u:Nd) (hg:∀p,Rv (g p) (g' p) v) :
 Rv (λr=>(BI x r).bind λp=>(g p.1 p.2).bind (Bj u p.1)) (λr=>(BI u r).bind λp=>(g' p.1 p.2).bind (Bj x p.1)) v:=λst M r' hG hv h=>by
 obtain ⟨p,h1,h⟩:=AM h;obtain ⟨r1,Z,h3⟩:=AM h;obtain ⟨hM,G,x0,N,O⟩:=Er h1;obtain ⟨p1,p2⟩:=p;simp only at O G Z h3 hM N;subst G;obtain ⟨g1,b1,c1,l1,m1,k1⟩:=hg p1 st (M-1) r1 hG hv Z;obtain ⟨X,rfl,u0,U,Y⟩:=Dc h3;simp only at X U ⊢;refine ⟨g1,b1,c1,l1,Ab,λρ a hρ hS=>?_⟩;obtain ⟨a1,V,e1⟩:=k1 ρ a hρ hS;refine ⟨a1,V,λF hF=>?_⟩;rw [IB Ab (hS.ev U)];simp only [ir];rw [<-Y,e1 _ Ab];simp only;rw [Jv Ab (V.ev N) O];simp only [jK,Rn.mk.injEq,true_and];omega
def OI (b1 b2:Rn->Except Int Rn) (test entry:Nd) (k:Nat) (r:Rn):Except Int Rn:=
 (BI test r).bind λp=>if p.1 then .ok p.2 else (b2 p.2).bind λr=>(Bj entry false r).bind (Ch b1 b2 test entry k)
def Jy (h G:Rn->Except Int Rn) (test entry:Nd) (k:Nat) (r:Rn):Ch h G test entry (k+1) r=(h r).bind (OI h G test entry k):=rfl
def OJ {b1 b2 O U:Rn->Except Int Rn} (first G:Nd) (h1:Rv b1 O v) (h2:Rv b2 U v):∀(m:Nat) (st:Stp) (M:Nat) (N:Rn),Good st->st.cur.vars=v->Ch b1 b2 G first m ⟨st,M⟩ = .ok N ->
 Good N.st/\N.st.base=st.base/\N.st.calls=st.calls/\st.heap.length<=N.st.heap.length/\N.rem<M/\(∃x,AW N.st.look G=(x,0)/\decide (x≠0)=true) /\
 ∃j,j+1<=m /\ ∀(ρ:Nat->nP) (a:Stp),(∀c d,ρ c d->d<st.heap.length)->Sim ρ a N.st -> ∃a',Sim ρ a' st /\
  ∀k F,M-N.rem-1<=F->Ch O U first G (k+j+1) ⟨a,F⟩=OI O U first G k ⟨a',F-(M-N.rem-1)⟩
 | 0,st,M,N,_,_,h=>by cases h
 | m+1,st,M,N,hG,hv,h=>by
  rw [Jy] at h;obtain ⟨V,e1,h⟩:=AM h;obtain ⟨g1,p1,c1,l1,m1,k1⟩:=h1 st M V hG hv e1;unfold OI at h;obtain ⟨p,e2,h⟩:=AM h;obtain ⟨hM,aa,x0,ab,X⟩:=Er e2;obtain ⟨q,r2⟩:=p;simp only at X aa h;subst aa;cases q with
  | true=>
   rw [AH rfl] at h;cases h;simp only;refine ⟨g1,p1,c1,l1,Ab,⟨x0,ab,X.symm⟩,0,Ab,λρ a hρ hS=>?_⟩;obtain ⟨a1,Y,f1⟩:=k1 ρ a hρ hS;refine ⟨a1,Y,λk F hF=>?_⟩;rw [jT,Jy,f1 F Ab];simp only [ir];rw [show F-(M-V.rem)=F-(M-(V.rem-1)-1) by omega]
  | false=>
   rw [At AK] at h;obtain ⟨r3,e3,h⟩:=AM h;obtain ⟨g2,p2,c2,l2,m2,k2⟩:=h2 V.st (V.rem-1) r3 g1 (by rw [Fh p1 c1];exact hv) e3;obtain ⟨r4,e4,h⟩:=AM h;obtain ⟨ag,rfl,y0,ae,af⟩:=Dc e4;obtain ⟨g3,p3,c3,l3,m3,Z,j,hj,k3⟩:=OJ first G h1 h2 m r3.st (r3.rem-1) N g2 (by rw [Fh p2 c2,Fh p1 c1];exact hv) h;refine ⟨g3,p3.trans (p2.trans p1),c3.trans (c2.trans c1),Ab,Ab,Z,j+1,Ab,λρ a hρ hS=>?_⟩;obtain ⟨a3,ac,f3⟩:=k3 ρ a (λc d h=>by have:=hρ c d h;omega) hS;obtain ⟨a2,ad,f2⟩:=k2 ρ a3 (λc d h=>by have:=hρ c d h;omega) ac;obtain ⟨a1,Y,f1⟩:=k1 ρ a2 hρ ad;refine ⟨a1,Y,λk F hF=>?_⟩;rw [show k+(j+1)+1=(k+1)+j+1 by omega,f3 (k+1) F Ab];unfold OI;rw [IB Ab (ac.ev ae)];simp only [ir];rw [<-af,At AK,f2 _ Ab];simp only;rw [Jv Ab (ad.ev ab) X];simp only;rw [Jy,f1 _ Ab];simp only [ir];unfold OI;rw [show F-(r3.rem-1-N.rem-1)-1-(V.rem-1-r3.rem)-1-(M-V.rem)=F-(M-N.rem-1) by omega];rfl
def Rv.loop {b1 b2 N O:Rn->Except Int Rn} (first G:Nd) (h1:Rv b1 N v) (h2:Rv b2 O v) (m:Nat) :
 Rv (λr=>(Bj first true r).bind (Ch b1 b2 G first m)) (λr=>(Bj G true r).bind (Ch N O first G m)) v:=λst M r' hG hv h=>by
 obtain ⟨r1,e1,h⟩:=AM h;obtain ⟨hM,rfl,x0,U,X⟩:=Dc e1;simp only at hM U h;obtain ⟨g3,p3,c3,l3,m3,⟨y0,Y,Z⟩,j,hj,k3⟩:=OJ first G h1 h2 m st (M-1) r' hG hv h;refine ⟨g3,p3,c3,l3,Ab,λρ a hρ hS=>?_⟩;obtain ⟨a3,V,f3⟩:=k3 ρ a hρ hS;refine ⟨a3,V,λF hF=>?_⟩;show (Bj G true ⟨a,F⟩).bind (Ch N O first G m)=_;rw [Jv Ab (hS.ev Y) Z.symm];simp only [ir];obtain ⟨k,rfl⟩:∃k,m=k+j+1:=⟨m-(j+1),Ab⟩;rw [f3 k _ Ab];unfold OI;rw [IB Ab (V.ev U)];simp only [ir];rw [<-X,AH rfl];simp only [jK,Rn.mk.injEq,true_and];omega
end
def Jz {M:List lB} (h:(Eo (Ds l M)).2=0):∀t∈l,∀s∈M,t.idx s=false:=λt N s O=>by
 unfold Ds at h;cases e:l.findSome? λt=>M.find? λs=>t.idx s with
 | some x=>rw [e] at h;cases h
 | none=>
  have U:=List.findSome?_eq_none_iff.1 e t N;have V:=List.find?_eq_none.1 U s O;simpa using V
section
variable {K:List (Int×Int)} {m:Nat}
def GC (U:st.WF K m) {x:Nd} (O:x.isPlace=true) (Z:x.bad st.cur.vars=0):(x.kind=2\/x.kind=3)/\(∃c,Vis st x.name c/\c<st.heap.length)/\Ek st.cur.vars x.name 3≠0:=by
 have V:x.kind=2\/x.kind=3:=by
  simp only [mtt,gR,jc,beq_iff_eq] at O;exact O.1
 have N:∀k,Ek st.cur.vars x.name k=0->k≠3->Ek st.cur.vars x.name 3≠0:=λk G M N=>by
  obtain ⟨i,a,h4,h5,h6⟩:=Ta G;obtain ⟨j,b,X,Y,h9⟩:=Ta N;rw [h4] at X;obtain rfl:=gZ X;rw [h5] at Y;obtain rfl:=gZ Y;exact M (h6.symm.trans h9)
 rcases VN O Z with h|h
 . obtain ⟨c,y,G,M,-⟩:=U.vis h;exact ⟨V,⟨c,G,M⟩,N 1 h B7⟩
 . obtain ⟨c,y,G,M,-⟩:=U.vis h;exact ⟨V,⟨c,G,M⟩,N 2 h B7⟩
def XU (hw:st.WF K m) {k1 n:Int} (ht:(Nd.mk k n s l).isStmt=true) (M:(EM (.mk k n s l)).2=0) (hk:k<50\/55<k) (h1:k1=k\/k1=A9 k) (ac:(Nd.mk k1 n s l).bad st.cur.vars=0):Basic st k1 s l:=by
 obtain ⟨hu,G⟩:=Kl ac;cases B3 ht with
 | upd O X hy=>
  rename_i x y;rw [EM] at M;by_cases ad:k=56
  . rw [AH ad] at M;cases M
  have Y:40<=k/\k<=42:=by omega
  rw [At ad,AH Y] at M;obtain ⟨e1,e2,e3,e4⟩:=Fx (show 40<=k/\k<=49 by omega);have U:40<=k1/\k1<=42:=by
   rcases h1 with rfl|rfl
   . exact Y
   . exact e4.2 Y
  obtain ⟨N,G⟩:=Cp G;obtain ⟨Z,p2,-⟩:=GC hw X N;split at M
  . cases M
  rename_i aa;simp only [jc,not_or,Bool.not_eq_true] at aa;exact ⟨Ab,Z,p2,λh=>by omega,λh=>by omega,⟨aa.1,λh=>by omega,λh=>by omega⟩,λh=>by omega,λ_=>aa.2⟩
 | swap X hy=>
  rename_i x y;have U:k1=43:=by rcases h1 with rfl|rfl<;>decide
  subst U;rw [EM] at M;rw [At B7,At B7,AH rfl] at M;have V:=Jz M;obtain ⟨N,G⟩:=Cp G;obtain ⟨af,G⟩:=Cp G;obtain ⟨Z,p2,-⟩:=GC hw X N;obtain ⟨q1,q2,-⟩:=GC hw hy af;exact ⟨B7,Z,p2,λ_=>⟨q1,q2⟩,λh=>by omega,⟨V x AK _ AK,λ_=>V x AK _ AK,λh=>by omega⟩,λ_=>⟨V y AK _ AK,V y AK _ AK⟩,λh=>by omega⟩
 | stack O hn X=>
  rename_i x;have ag:44<=k/\k<=45:=by omega
  obtain ⟨e1,e2,e3,e4⟩:=Fx (show 40<=k/\k<=49 by omega);have U:k1=44\/k1=45:=by
   rcases h1 with rfl|rfl
   . exact O
   . exact e3.2 O
  rw [EM] at M;rw [At Ab,At Ab,At Ab,AH ag] at M;have V:=Jz M;obtain ⟨N,G⟩:=Cp G;obtain ⟨Z,p2,p3⟩:=GC hw X N;have ae:CF k1=3:=by rcases U with rfl|rfl<;>decide
  have ab:=hu (by rw [ae];decide);rw [ae] at ab;obtain ⟨d,y,d1,d2,-,d4,d5⟩:=hw.vis ab;refine ⟨Ab,Z,p2,λh=>by omega,λ_=>⟨d,d1,d2,?_,λe=>p3 ?_⟩,⟨V x AK _ AK,λh=>by omega,λ_=>V x AK _ AK⟩,λh=>by omega,λh=>by omega⟩
  . rcases d5 with ⟨h,-⟩|⟨h,-⟩|⟨-,h⟩
    . omega
    . omega
    . exact h
  . have e':x.name=s:=e;rw [e'];exact ab
 | tape O X=>
  rename_i x;obtain ⟨e1,e2,e3,e4⟩:=Fx (show 40<=k/\k<=49 by omega);have U:k1=46\/k1=47\/k1=48\/k1=49:=by
   have:40<=k1/\k1<=49/\(k1=43↔k=43)/\((k1=44\/k1=45)↔(k=44\/k=45))/\((40<=k1/\k1<=42)↔(40<=k/\k<=42)):=by
    rcases h1 with rfl|rfl
    . exact ⟨Ab,Ab,Iff.rfl,Iff.rfl,Iff.rfl⟩
    . exact ⟨e1.1,e1.2,e2,e3,e4⟩
   omega
  rw [EM] at M;rw [At Ab,At Ab,At Ab,At Ab,AH Ab] at M;have V:=Jz M;obtain ⟨N,G⟩:=Cp G;obtain ⟨Z,p2,-⟩:=GC hw X N;exact ⟨Ab,Z,p2,λh=>by omega,λh=>by omega,⟨V x AK _ AK,λh=>by omega,λh=>by omega⟩,λh=>by omega,λh=>by omega⟩
 | call O _ _ _=>omega
 | branch O _ _ _ _=>omega
 | local_ _ _ _ _=>omega
 | lstack _ _=>omega
end
def Rv.basic (ps:List PD) (d:Nat) (b:Bool) {n:Int} (U:(Nd.mk k n s l).isStmt=true) (V:(EM (.mk k n s l)).2=0) (G:k<50\/55<k) (v:List VD):Rv (Aw ps (d+1) b (.mk k n s l)) (Aw ps (d+1) (!b) (.mk k n s l)) v:=λst M r' N hv h=>by
 rw [Cr ps d b G] at h;obtain ⟨r1,X,h⟩:=AM h;obtain ⟨Y,rfl⟩:=B8 X;obtain ⟨O,rfl⟩:=Dw h;simp only at O Y ⊢;obtain ⟨K,m,Z⟩:=N.wf;obtain ⟨h1,h2,h3⟩:=LY O;have hB:=XU Z U V G (k1:=if b then A9 k else k) (by cases b<;>simp) h2;obtain ⟨s1,s2,s3⟩:=GB st (if b then A9 k else k) n s l;refine ⟨N.run1 ..,s1,s2,Nat.le_of_eq s3.symm,Ab,λρ a hρ hS=>?_⟩;obtain ⟨q1,q2⟩:=Tm N hB O hS;refine ⟨_,q2,λF hF=>?_⟩;rw [Cr ps d (!b) G,Fb a Ab];have e:(if (!b)=true then A9 k else k)=A9 (if b=true then A9 k else k):=by cases b<;>simp [Eb]
 simp only [ir];rw [e,Jw _ q1];simp only [jK,Rn.mk.injEq,true_and];omega
section
variable {st' a b:Stp} {f g:Frm}
def setCur_heapR:(st.setCur f).heap=st.heap:=by unfold mp;split<;>rfl
def setCur_tin:(st.setCur f).tin=st.tin:=by unfold mp;split<;>rfl
def setCur_tout:(st.setCur f).tout=st.tout:=by unfold mp;split<;>rfl
def Ew (c:Nat):(st.setCur f).items c=st.items c:=by unfold mx;rw [setCur_heapR]
def GD (h:a.base=b.base) (G:a.calls=b.calls):(a.setCur f).base=(b.setCur f).base/\(a.setCur f).calls=(b.setCur f).calls:=by
 unfold mp;rw [G];split
 . exact ⟨rfl,rfl⟩
 . exact ⟨h,rfl⟩
def FK:(st.setCur f).cur=f:=by
 unfold mp Stp.cur;split
 . rename_i h;simp [h]
 . simp
def Ft:((st.setCur f).setCur g).base=(st.setCur g).base/\((st.setCur f).setCur g).calls=(st.setCur g).calls:=by
 unfold mp;by_cases h:st.calls=[]
 . simp [h]
 . simp [h]
def Ga:(st.setCur st.cur).base=st.base/\(st.setCur st.cur).calls=st.calls:=by
 unfold mp Stp.cur;rcases i8 st.calls with h|⟨l,x,h⟩
 . simp [h]
 . simp [h]
def Sim.setCur (h:Sim ρ a b) (O:FrmS ρ f g):Sim ρ (a.setCur f) (b.setCur g):=by
 unfold mp;by_cases N:b.calls=[]
 . rw [AH N,AH (h.nil.2 N)];exact ⟨O,h.nc,h.call,h.tin,h.tout,h.items,h.lt,h.inj⟩
 . rw [At N,At (λx=>N (h.nil.1 x))];refine ⟨h.base,by simp [h.nc],λi f' g' G M=>?_,h.tin,h.tout,h.items,h.lt,h.inj⟩;simp only at G M;have U:=h.nc;rcases it i (b.calls.length-1) with V|V
   . rw [gW (by simp;omega),kk,AH Ab] at G;rw [gW (by simp;omega),kk,AH Ab] at M;exact h.call i _ _ G M
   . rw [ik (by simp;omega)] at G M;simp only [kv] at G M;have X:=(List.getElem?_eq_some_iff.1 G).1;simp only [gV,iG] at X;rw [show i-(a.calls.length-1)=0 by omega] at G;rw [show i-(b.calls.length-1)=0 by omega] at M;simp only [iw,gU] at G M;subst G M;exact O
def FrmS.mono {ρ':Nat->nP} (h:FrmS ρ f g) (M:∀c d,d∈g.cells->ρ c d->ρ' c d):FrmS ρ' f g:=
 ⟨h.vars,h.locals,h.len,λi c d N G=>M c d (iF G) (h.cell i c d N G)⟩
def Good.lt (h:Good st) {f:Frm} (M:f∈st.base::st.calls) {c:Nat} (N:c∈f.cells):c<st.heap.length:=by
 obtain ⟨K,m,G⟩:=h.wf;rw [G.len];exact (G.all' f M).lt N
def Good.len (h:Good st):st.cur.vars.length=st.cur.cells.length:=by
 obtain ⟨K,m,G⟩:=h.wf;exact G.cur.len
def RT {x:Int} (h:(st.opens d x).1=0):BP d.name st.cur.vars=none/\(st.opens d x).2={ st.setCur ⟨st.cur.vars++[d],st.cur.cells++[st.heap.length],st.cur.locals+1⟩ with heap:=st.heap++[if d.kind=1 then [x] else []] }:=by
 unfold Stp.opens at h ⊢;split at h
 . cases h
 . rename_i G;rw [At G];refine ⟨?_,rfl⟩;cases e:BP d.name st.cur.vars with
   | none=>rfl
   | some i=>rw [e] at G;exact absurd rfl G
def KZ (x:Int) (h:BP d.name st.cur.vars=none):st.opens d x=(0,{ st.setCur ⟨st.cur.vars++[d],st.cur.cells++[st.heap.length],st.cur.locals+1⟩ with heap:=st.heap++[if d.kind=1 then [x] else []] }):=by
 unfold Stp.opens;rw [h,At AK]
def Stp.plus (st:Stp) (d:VD) (xs:List Int):Stp:={ st.setCur ⟨st.cur.vars++[d],st.cur.cells++[st.heap.length],st.cur.locals+1⟩ with heap:=st.heap++[xs] }
def Kt:(st.plus d xs).cur=⟨st.cur.vars++[d],st.cur.cells++[st.heap.length],st.cur.locals+1⟩:=FK (st:=st)
def FL (c:Nat):(st.plus d xs).items c=if c=st.heap.length then xs else st.items c:=by
 unfold Stp.plus mx;simp only [gT];rcases kn c st.heap.length with h|h|h
 . rw [gW h,At Ab]
 . subst h;simp
 . rw [At Ab,ic (by simp;omega),ic Ab]
def RU:(st.plus d xs).heap.length=st.heap.length+1:=by simp [Stp.plus]
def Good.plus (h:Good st) {d:VD} {x:Int} (M:d.kind=1\/d.kind=3) (O:E0 x) (U:BP d.name st.cur.vars=none):Good (st.plus d (if d.kind=1 then [x] else [])):=by
 obtain ⟨K,m,V⟩:=h.wf;obtain ⟨X,G⟩:=V.opens M x;rw [KZ x U] at G;refine ⟨⟨X,m+1,G⟩,λc=>?_,?_,?_,?_,?_,λf Y=>?_⟩
 . rw [FL];split
   . split
     . intro y N;rw [iu.1 N];exact O
     . intro y N;cases N
   . exact h.rng c
 . show (st.setCur _).tin.length<=4096;rw [setCur_tin];exact h.tin
 . show (st.setCur _).tout.length<=4096;rw [setCur_tout];exact h.tout
 . show RngL (st.setCur _).tin;rw [setCur_tin];exact h.tinR
 . show RngL (st.setCur _).tout;rw [setCur_tout];exact h.toutR
 . rcases MZ (st:=st) Y with rfl|Z
   . refine List.nodup_append.2 ⟨h.cur,AK,λc hc d M e=>?_⟩;have:=h.lt (Ix st) hc;rw [iu.1 M] at e;omega
   . exact h.nodup f Z
def OK {x:Int} {vs:List VD} {cs:List Nat} {n h:Nat} (G:st.cur=⟨vs++[d],cs++[h],n+1⟩) (M:vs.length=cs.length) (N:d.name=s) :
 st.closes s x=if d.kind=1/\(st.items h).getD 0 0≠x\/d.kind=3/\0<(st.items h).length then (16,st) else (0,st.setCur ⟨vs,cs,n⟩):=by
 unfold Stp.closes;rw [G];simp only [iq,gV,iG,iY,Nat.add_sub_cancel,gT,kw];rw [ik (ip _),M,ik (ip _)];simp only [jw,iw,kf];rw [At (by rw [N];simp)]
def Holds (d:VD) (x:Int) (xs:List Int):Prop:=xs=if d.kind=1 then [x] else []
def Tn {x:Int} {vs:List VD} {cs:List Nat} {n:Nat} (X:d.kind=1\/d.kind=3) (O:st.cur=⟨vs++[d],cs++[i],n+1⟩) (U:vs.length=cs.length) (V:d.name=s) (h:Holds d x (st.items i)) :
 st.closes s x=(0,st.setCur ⟨vs,cs,n⟩):=by
 rw [OK O U V,At];unfold Holds at h;rw [h];rintro (⟨N,G⟩|⟨N,G⟩)
 . rw [AH N] at G;exact G rfl
 . rw [At Ab] at G;simp at G
def RV {x:Int} {vs:List VD} {cs:List Nat} {n:Nat} (O:st.cur=⟨vs++[d],cs++[i],n+1⟩) (U:vs.length=cs.length) (V:d.name=s) (Z:d.kind=1\/d.kind=3) (X:d.kind=1->(st.items i).length=1)
 (h:(st.closes s x).1=0):Holds d x (st.items i)/\(st.closes s x).2=st.setCur ⟨vs,cs,n⟩:=by
 rw [OK O U V] at h ⊢;split at h
 . cases h
 rename_i G;rw [At G];refine ⟨?_,rfl⟩;unfold Holds;simp only [not_or,not_and,Decidable.not_not] at G;split
 . rename_i N;obtain ⟨y,Y⟩:=List.length_eq_one_iff.1 (X N);have:=G.1 N;rw [Y] at this ⊢;simp at this;rw [this]
 . exact jF (by have:=G.2 Ab;omega)
def Sim.plus {e:Nat} (h:Sim ρ a b) (hl:b.cur.vars.length=b.cur.cells.length) {d:VD} {xs:List Int} {N:Stp} (X:N.base=(b.setCur ⟨b.cur.vars++[d],b.cur.cells++[e],b.cur.locals+1⟩).base)
 (U:N.calls=(b.setCur ⟨b.cur.vars++[d],b.cur.cells++[e],b.cur.locals+1⟩).calls) (O:N.heap=b.heap) (aa:N.tin=b.tin) (Y:N.tout=b.tout) (he:e<b.heap.length) (hx:b.items e=xs) (hρ:∀c d,ρ c d->d≠e) :
 Sim (λc d=>ρ c d\/(c=a.heap.length/\d=e)) (a.plus d xs) N:=by
 have hf:FrmS (λc d=>ρ c d\/(c=a.heap.length/\d=e)) ⟨a.cur.vars++[d],a.cur.cells++[a.heap.length],a.cur.locals+1⟩ ⟨b.cur.vars++[d],b.cur.cells++[e],b.cur.locals+1⟩:=by
  have Z:=h.cur;refine ⟨by simp [Z.vars],by simp [Z.locals],by simp [Z.len],λi c d' G M=>?_⟩;simp only at G M;have ab:=Z.len;rcases it i b.cur.cells.length with hi|hi
  . rw [gW Ab] at G M;exact gP (Z.cell i c d' G M)
  . rw [ik Ab] at G M;have h3:=(List.getElem?_eq_some_iff.1 G).1;simp only [gV,iG] at h3;rw [show i-a.cur.cells.length=0 by omega] at G;rw [show i-b.cur.cells.length=0 by omega] at M;simp only [iw,gU] at G M;exact gQ ⟨G.symm,M.symm⟩
 have h0:Sim (λc d=>ρ c d\/(c=a.heap.length/\d=e)) { a with heap:=a.heap++[xs] } b:=by
  refine ⟨h.base.mono λc d _=>gP,h.nc,λi f g G M=>(h.call i f g G M).mono λc d _=>gP,h.tin,h.tout,λc d' V=>?_,λc d' V=>?_,λc d' c' ac G M=>?_⟩
  . have hi:∀c,({ a with heap:=a.heap++[xs] }:Stp).items c=(a.plus d xs).items c:=λc=>rfl
    rw [hi,FL];rcases V with V|⟨rfl,rfl⟩
    . have:=h.lt _ _ V;rw [At Ab,h.items _ _ V]
    . rw [AH rfl,hx]
  . simp only [iq,gV,iG];rcases V with V|⟨rfl,rfl⟩
    . have:=h.lt _ _ V;omega
    . omega
  . rcases G with G|⟨rfl,rfl⟩
    . rcases M with M|⟨rfl,rfl⟩
      . exact h.inj _ _ _ _ G M
      . have:=h.lt _ _ G;have:=hρ _ _ G;constructor<;>intro<;>omega
    . rcases M with M|⟨rfl,rfl⟩
      . have:=h.lt _ _ M;have:=hρ _ _ M;constructor<;>intro<;>omega
      . simp
 have G:=h0.setCur hf;have e2:({ a with heap:=a.heap++[xs] }:Stp).setCur ⟨a.cur.vars++[d],a.cur.cells++[a.heap.length],a.cur.locals+1⟩=a.plus d xs:=by
  unfold Stp.plus mp;by_cases Z:a.calls=[]<;>simp [Z]
 rw [e2] at G;have e3:N=b.setCur ⟨b.cur.vars++[d],b.cur.cells++[e],b.cur.locals+1⟩:=by
  refine Stp.eq_of X U (by rw [aa,setCur_tin]) (by rw [Y,setCur_tout]) (by rw [O,setCur_heapR]) λc=>?_
  rw [Ew];unfold mx;rw [O]
 rw [e3];exact G
def Sim.minus {e:Nat} (hG:Good b) (h:Sim (λc d=>ρ c d\/(c=e/\d=b.heap.length)) a (b.plus d xs)) (hρ:∀c d,ρ c d->d<b.heap.length) :
 ∃cs Y,a.cur=⟨b.cur.vars++[d],cs++[Y],b.cur.locals+1⟩/\b.cur.vars.length=cs.length/\a.items Y=xs/\Sim ρ (a.setCur ⟨b.cur.vars,cs,b.cur.locals⟩) b:=by
 have hc:=h.cur;rw [Kt] at hc;obtain ⟨va,ca,na⟩:∃va ca,∃na,a.cur=⟨va,ca,na⟩:=⟨_,_,_,rfl⟩;obtain ⟨na,M⟩:=na;have V:=hc.vars;have X:=hc.locals;have N:=hc.len;rw [M] at V X N;simp only [iq,gV,iG] at V X N;rcases i8 ca with rfl|⟨cs,Y,rfl⟩
 . simp at N
 rw [jp] at *;simp only [iq,gV,iG] at N;have G:=hc.cell;rw [M] at G;simp only at G;have ab:=hG.len;have h0:=G cs.length Y b.heap.length AK (by rw [show cs.length=b.cur.cells.length by omega,ik (ip _)];simp);have hf:FrmS (λc d=>ρ c d\/(c=e/\d=b.heap.length)) ⟨b.cur.vars,cs,b.cur.locals⟩ b.cur:=⟨rfl,rfl,by simp only;omega,λi c d' O Z=>by
  simp only at O;have hi:=(List.getElem?_eq_some_iff.1 O).1;exact G i c d' (by rw [gW hi];exact O) (by rw [gW Ab];exact Z)⟩
 have hS:=h.setCur hf;refine ⟨cs,Y,by rw [M,V,X],Ab,?_,?_⟩
 . have O:=h.items Y b.heap.length h0;rw [O,FL,AH rfl]
 . have hb:((b.plus d xs).setCur b.cur).base=b.base/\((b.plus d xs).setCur b.cur).calls=b.calls:=by
    have e1:=GD (a:=b.plus d xs) (b:=b.setCur ⟨b.cur.vars++[d],b.cur.cells++[b.heap.length],b.cur.locals+1⟩) (f:=b.cur) rfl rfl;have e2:=Ft (st:=b) (f:=⟨b.cur.vars++[d],b.cur.cells++[b.heap.length],b.cur.locals+1⟩) (g:=b.cur);have e3:=Ga (st:=b);exact ⟨e1.1.trans (e2.1.trans e3.1),e1.2.trans (e2.2.trans e3.2)⟩
   have aa:∀ {g:Frm},g∈b.base::b.calls -> ∀c d,d∈g.cells->(ρ c d\/(c=e/\d=b.heap.length))->ρ c d:=λ{g} hg c d hd U=>by
    rcases U with U|⟨-,rfl⟩
    . exact U
    . have:=hG.lt hg hd;omega
   refine ⟨?_,by rw [hS.nc,hb.2],λi f g O Z=>?_,?_,?_,λc d' U=>?_,λc d' U=>?_,λc d' c' ac O Z=>h.inj _ _ _ _ (gP O) (gP Z)⟩
   . have:=hS.base;rw [hb.1] at this;exact this.mono (aa AK)
   . exact (hS.call i f g O (by rw [hb.2];exact Z)).mono (aa (by simp [iF Z]))
   . rw [setCur_tin,h.tin];exact setCur_tin (st:=b)
   . rw [setCur_tout,h.tout];exact setCur_tout (st:=b)
   . rw [Ew,h.items _ _ (gP U),FL,At (by have:=hρ _ _ U;omega)]
   . rw [setCur_heapR];exact ⟨(h.lt _ _ (gP U)).1,hρ _ _ U⟩
end
end Bk
