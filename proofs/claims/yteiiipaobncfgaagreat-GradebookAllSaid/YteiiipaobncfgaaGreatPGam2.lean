/- Texts that the proofs of GradebookAll need. No condition. (Part 2 of 6.) -/
import Derived.Test.YteiiipaobncfgaaGreatPGam1
set_option linter.unusedSimpArgs false
set_option linter.unusedVariables false
set_option linter.defProp false
set_option maxRecDepth 100000
set_option maxHeartbeats 4000000
open Go.Proofs.Tryz
open Or renaming inl->iG,inr->iH
open Go.Result renaming andThen->iP
open Except renaming bind->i6
open Go renaming Calls->i9
open Go.Value renaming slice->jf,int->jz,ownBlock->km
open Nat renaming blt->jg,ble->jW,beq->ke
open Go.Region renaming ready->jj,binds->jN
open List renaming replicate->jn,range->jQ
open Go.Builtin renaming zeroCells->jG
open Go.IntKind renaming wrap->jP
open Array renaming replicate->jZ
open Go.Oper renaming wp->kh
open Go.Addr renaming add->ki
open Go.Sem renaming run->kG
namespace Bk
abbrev Ne:=@Ext.refl
abbrev mF:=@Nd.sits.fr
abbrev mG:=@Fr.of_ext
abbrev mH:=@Blk.fr
abbrev mI:=@Fr.refl
abbrev mJ:=@Row.ext
abbrev mK:=@Nd.sits.wide
abbrev mL:=@Fr.fr
abbrev mM:=@Blk.cell
abbrev mN:=@Blk.ext
abbrev mO:=@Row.at0
abbrev mQ:=@Ext.fr
abbrev mS:=@Blk.row
abbrev mT:=@Row.fr
abbrev mY:=@Own.fr
abbrev m5:=@Arr.get
abbrev m8:=@Ext.trans
abbrev nb:=@rowSits.fr
abbrev nd:=@VDs.fr
abbrev ng:=@Ext.alloc
abbrev nn:=@rowSits.ext
abbrev nq:=@CW.sub
abbrev ny:=@PG.sits.fr
abbrev nz:=@Nd.sits.ext
abbrev nB:=@Own.nil
abbrev nD:=@TB.blk
abbrev nG:=@VDs.wide
abbrev nJ:=@Row.at
end Bk
open Bk.Nd renaming size->mR,isBlock->mU,isPlace->mX,name->mZ,kind->m7,isExpr->ni,sits->nm
open Bk.Value renaming one->mW
namespace Bk
open Go Go.RowKit Go.Proofs
variable {w w':wD} {B n:Nat} {k:Int} {xs:List Int} {v:Value} {l:List Nd} {e:Ending} {zs:lV} {x:Nd} {S:nP} {vs:List VD} {a:oA} {ty:TypeId} {α:Type} {s:lB}
def FD:GT 199:=enters_of func199 AU rfl
def WR:GT 202:=enters_of func202 AU rfl
def UW:GT 171:=enters_of func171 AU rfl
def GU:GT 140:=enters_of func140 AU rfl
def FE (S:nP) (t:Nd) (h:t.wf):Ed S 200 ni t:=WQ S (t.size+1) t Ab h
def Gt (S:nP) (t:Nd) (h:t.wf):Ed S 199 mX t:=by
 have HE:=iF (FE S t h);intro a c w hs;obtain ⟨k,n,s,l⟩:=t;have hr:(Nd.mk k n s l).isPlace=((k==2||k==3)&&(Nd.mk k n s l).isExpr):=rfl
 have HR:=iF hr;clear hr
 have HSI:=iF hs;clear hs h
 simp only [m7,Nd.num,mZ,Nd.kids,Nd.val]
 by_cases h2:k=2\/k=3
 . rcases h2 with rfl|rfl
   all_goals go_enter func199,ntmps199
   all_goals go_wp2_with (go_at_call 200;refine (HE.out a c _ (HSI.out.ext LU)).mono ?_;rintro e w1 ⟨rfl,hx1⟩)
   all_goals go_ret
   all_goals rw [HR.out]
   all_goals exact ⟨AY (by simp),LU⟩
 . have d2:(k==2)=false:=by rw [beq_eq_false_iff_ne];omega
   have d3:(k==3)=false:=by rw [beq_eq_false_iff_ne];omega
   clear h2
   go_enter func199,ntmps199
   go_wp2_with fail
   go_ret
   rw [HR.out]
   exact ⟨AY (by simp [d2,d3]),(by refine ng ?_ _;exact Ne _)⟩
def Y5 (S:nP) (t:Nd) (h:t.wf):Ed S 202 Nd.isVar t:=by
 have HE:=iF (FE S t h);intro a c w hs;obtain ⟨k,n,s,l⟩:=t;have hr:(Nd.mk k n s l).isVar=(k==2&&(Nd.mk k n s l).isExpr):=rfl
 have HR:=iF hr;clear hr
 have HSI:=iF hs;clear hs h
 simp only [m7,Nd.num,mZ,Nd.kids,Nd.val]
 by_cases h2:k=2
 . subst h2
   go_enter func202,ntmps202
   go_wp2_with (go_at_call 200;refine (HE.out a c _ (HSI.out.ext (by refine ng ?_ _;exact Ne _))).mono ?_;rintro e w1 ⟨rfl,hx1⟩)
   go_ret
   rw [HR.out]
   exact ⟨AY (by simp),(by refine m8 ?_ ‹_›;refine ng ?_ _;exact Ne _)⟩
 . have d2:(k==2)=false:=by rw [beq_eq_false_iff_ne];omega
   clear h2
   go_enter func202,ntmps202
   go_wp2_with fail
   go_ret
   rw [HR.out]
   exact ⟨AY (by simp [d2]),(by refine ng ?_ _;exact Ne _)⟩
def UX (h:k=40\/k=41\/k=42\/k=56) (n:Int) (s:lB) (l:List Nd):(Nd.mk k n s l).isStmt=(plain n s&&Cj l [(199,mX),(200,ni)]):=by
 rcases h with rfl|rfl|rfl|rfl<;>rcases l with _|⟨x,_|⟨y,_|⟨z,_|⟨u,_|⟨v,l⟩⟩⟩⟩⟩<;>rw [Nd.isStmt.eq_def]<;>simp [Cj,ln]
def UY (hk:k=40\/k=41\/k=42\/k=56) (n:Int) (s:lB) (l:List Nd) (a:oA) (c:Nat) (S:nP) (w:wD)
 (hs:rowSits S w l a) (hsl:s.length<=9223372036854775807) (hll:l.length<=9223372036854775807) (hrw:C0 l) :
 Calls prog 171 #[.agg #[.int .u8 k,.int .i64 n,str s,.slice a l.length c]] w λe w'=>e = .returned (.bool (Nd.mk k n s l).isStmt)/\Ext w w':=by
 have HEX:=iF λt (ht:t∈l)=>FE S t (BD hrw t ht)
 have HPL:=iF λt (ht:t∈l)=>Gt S t (BD hrw t ht)
 have HSL:=iF hsl;clear hsl hrw
 have hr:=UX hk n s l
 have HR:=iF hr;clear hr
 cases hnm:plain n s
 all_goals have HNM:=iF hnm;clear hnm
 all_goals rcases hk with rfl|rfl|rfl|rfl
 all_goals go_enter func171,ntmps171
 all_goals go_wp2_with (first|(go_at_call 169;refine (GS _ _ _ _ _ _ _).mono ?_;rintro e w1 ⟨rfl,hx1⟩;have hc1:=hx1.cells;rw [HNM.out])|(go_at_call 198;refine (Gf _ _ _ l a c [(199,mX),(200,ni)] _ _ S _ hll (by decide) (hs.ext LU) (cJ (by go_simp) (by go_simp)) (UU FD DK) (UU HPL.out HEX.out)).mono ?_;rintro e w2 ⟨rfl,hx2⟩))
 all_goals go_ret
 all_goals rw [HR.out,HNM.out]
 all_goals exact ⟨AY (by simp),LU⟩
def UZ (h:k=43) (n:Int) (s:lB) (l:List Nd):(Nd.mk k n s l).isStmt=(plain n s&&Cj l [(199,mX),(199,mX)]):=by
 rcases h with rfl<;>rcases l with _|⟨x,_|⟨y,_|⟨z,_|⟨u,_|⟨v,l⟩⟩⟩⟩⟩<;>rw [Nd.isStmt.eq_def]<;>simp [Cj,ln]
def U0 (hk:k=43) (n:Int) (s:lB) (l:List Nd) (a:oA) (c:Nat) (S:nP) (w:wD)
 (hs:rowSits S w l a) (hsl:s.length<=9223372036854775807) (hll:l.length<=9223372036854775807) (hrw:C0 l) :
 Calls prog 171 #[.agg #[.int .u8 k,.int .i64 n,str s,.slice a l.length c]] w λe w'=>e = .returned (.bool (Nd.mk k n s l).isStmt)/\Ext w w':=by
 have HPL:=iF λt (ht:t∈l)=>Gt S t (BD hrw t ht)
 have HSL:=iF hsl;clear hsl hrw
 have hr:=UZ hk n s l
 have HR:=iF hr;clear hr
 cases hnm:plain n s
 all_goals have HNM:=iF hnm;clear hnm
 all_goals rcases hk with rfl
 all_goals go_enter func171,ntmps171
 all_goals go_wp2_with (first|(go_at_call 169;refine (GS _ _ _ _ _ _ _).mono ?_;rintro e w1 ⟨rfl,hx1⟩;have hc1:=hx1.cells;rw [HNM.out])|(go_at_call 198;refine (Gf _ _ _ l a c [(199,mX),(199,mX)] _ _ S _ hll (by decide) (hs.ext (by refine ng ?_ _;refine m8 ?_ ‹_›;refine ng ?_ _;exact Ne _)) (cJ (by go_simp) (by go_simp)) (UU FD FD) (UU HPL.out HPL.out)).mono ?_;rintro e w2 ⟨rfl,hx2⟩))
 all_goals go_ret
 all_goals rw [HR.out,HNM.out]
 all_goals exact ⟨AY (by simp),LU⟩
def U1 (h:k=44\/k=45) (n:Int) (s:lB) (l:List Nd):(Nd.mk k n s l).isStmt=(named n s&&Cj l [(199,mX)]):=by
 rcases h with rfl|rfl<;>rcases l with _|⟨x,_|⟨y,_|⟨z,_|⟨u,_|⟨v,l⟩⟩⟩⟩⟩<;>rw [Nd.isStmt.eq_def]<;>simp [Cj,ln]
def U2 (hk:k=44\/k=45) (n:Int) (s:lB) (l:List Nd) (a:oA) (c:Nat) (S:nP) (w:wD)
 (hs:rowSits S w l a) (hsl:s.length<=9223372036854775807) (hll:l.length<=9223372036854775807) (hrw:C0 l) :
 Calls prog 171 #[.agg #[.int .u8 k,.int .i64 n,str s,.slice a l.length c]] w λe w'=>e = .returned (.bool (Nd.mk k n s l).isStmt)/\Ext w w':=by
 have HPL:=iF λt (ht:t∈l)=>Gt S t (BD hrw t ht)
 have HSL:=iF hsl;clear hsl hrw
 have hr:=U1 hk n s l
 have HR:=iF hr;clear hr
 cases hnm:named n s
 all_goals have HNM:=iF hnm;clear hnm
 all_goals rcases hk with rfl|rfl
 all_goals go_enter func171,ntmps171
 all_goals go_wp2_with (first|(go_at_call 201;refine (Ir _ _ _ _ _ _ _ HSL.out).mono ?_;rintro e w1 ⟨rfl,hx1⟩;have hc1:=hx1.cells;rw [HNM.out])|(go_at_call 198;refine (Gf _ _ _ l a c [(199,mX)] _ _ S _ hll (by decide) (hs.ext LU) (WP (by go_simp)) (NQ FD) (NQ HPL.out)).mono ?_;rintro e w2 ⟨rfl,hx2⟩))
 all_goals go_ret
 all_goals rw [HR.out,HNM.out]
 all_goals exact ⟨AY (by simp),LU⟩
def U3 (h:k=46\/k=47\/k=48\/k=49) (n:Int) (s:lB) (l:List Nd):(Nd.mk k n s l).isStmt=(plain n s&&Cj l [(199,mX)]):=by
 rcases h with rfl|rfl|rfl|rfl<;>rcases l with _|⟨x,_|⟨y,_|⟨z,_|⟨u,_|⟨v,l⟩⟩⟩⟩⟩<;>rw [Nd.isStmt.eq_def]<;>simp [Cj,ln]
def U4 (hk:k=46\/k=47\/k=48\/k=49) (n:Int) (s:lB) (l:List Nd) (a:oA) (c:Nat) (S:nP) (w:wD)
 (hs:rowSits S w l a) (hsl:s.length<=9223372036854775807) (hll:l.length<=9223372036854775807) (hrw:C0 l) :
 Calls prog 171 #[.agg #[.int .u8 k,.int .i64 n,str s,.slice a l.length c]] w λe w'=>e = .returned (.bool (Nd.mk k n s l).isStmt)/\Ext w w':=by
 have HPL:=iF λt (ht:t∈l)=>Gt S t (BD hrw t ht)
 have HSL:=iF hsl;clear hsl hrw
 have hr:=U3 hk n s l
 have HR:=iF hr;clear hr
 cases hnm:plain n s
 all_goals have HNM:=iF hnm;clear hnm
 all_goals rcases hk with rfl|rfl|rfl|rfl
 all_goals go_enter func171,ntmps171
 all_goals go_wp2_with (first|(go_at_call 169;refine (GS _ _ _ _ _ _ _).mono ?_;rintro e w1 ⟨rfl,hx1⟩;have hc1:=hx1.cells;rw [HNM.out])|(go_at_call 198;refine (Gf _ _ _ l a c [(199,mX)] _ _ S _ hll (by decide) (hs.ext LU) (WP (by go_simp)) (NQ FD) (NQ HPL.out)).mono ?_;rintro e w2 ⟨rfl,hx2⟩))
 all_goals go_ret
 all_goals rw [HR.out,HNM.out]
 all_goals exact ⟨AY (by simp),LU⟩
def U5 (h:k=52\/k=53) (n:Int) (s:lB) (l:List Nd):(Nd.mk k n s l).isStmt=(plain n s&&Cj l [(200,ni),(140,mU),(140,mU),(200,ni)]):=by
 rcases h with rfl|rfl<;>rcases l with _|⟨x,_|⟨y,_|⟨z,_|⟨u,_|⟨v,l⟩⟩⟩⟩⟩<;>rw [Nd.isStmt.eq_def]<;>simp [Cj,ln]
def U6 (hk:k=52\/k=53) (n:Int) (s:lB) (l:List Nd) (a:oA) (c:Nat) (S:nP) (w:wD)
 (hs:rowSits S w l a) (hsl:s.length<=9223372036854775807) (hll:l.length<=9223372036854775807) (hrw:C0 l) (hb:∀t∈l,Ed S 140 mU t) :
 Calls prog 171 #[.agg #[.int .u8 k,.int .i64 n,str s,.slice a l.length c]] w λe w'=>e = .returned (.bool (Nd.mk k n s l).isStmt)/\Ext w w':=by
 have HBL:=iF hb;clear hb
 have HEX:=iF λt (ht:t∈l)=>FE S t (BD hrw t ht)
 have HSL:=iF hsl;clear hsl hrw
 have hr:=U5 hk n s l
 have HR:=iF hr;clear hr
 cases hnm:plain n s
 all_goals have HNM:=iF hnm;clear hnm
 all_goals rcases hk with rfl|rfl
 all_goals go_enter func171,ntmps171
 all_goals go_wp2_with (first|(go_at_call 169;refine (GS _ _ _ _ _ _ _).mono ?_;rintro e w1 ⟨rfl,hx1⟩;have hc1:=hx1.cells;rw [HNM.out])|(go_at_call 198;refine (Gf _ _ _ l a c [(200,ni),(140,mU),(140,mU),(200,ni)] _ _ S _ hll (by decide) (hs.ext LU) (gJ (by go_simp) (by go_simp) (by go_simp) (by go_simp)) (fB DK GU GU DK) (fB HEX.out HBL.out HBL.out HEX.out)).mono ?_;rintro e w2 ⟨rfl,hx2⟩))
 all_goals go_ret
 all_goals rw [HR.out,HNM.out]
 all_goals exact ⟨AY (by simp),LU⟩
def U7 (h:k=54) (n:Int) (s:lB) (l:List Nd):(Nd.mk k n s l).isStmt=(named n s&&Cj l [(200,ni),(140,mU),(200,ni)]):=by
 rcases h with rfl<;>rcases l with _|⟨x,_|⟨y,_|⟨z,_|⟨u,_|⟨v,l⟩⟩⟩⟩⟩<;>rw [Nd.isStmt.eq_def]<;>simp [Cj,ln]
def U8 (hk:k=54) (n:Int) (s:lB) (l:List Nd) (a:oA) (c:Nat) (S:nP) (w:wD)
 (hs:rowSits S w l a) (hsl:s.length<=9223372036854775807) (hll:l.length<=9223372036854775807) (hrw:C0 l) (hb:∀t∈l,Ed S 140 mU t) :
 Calls prog 171 #[.agg #[.int .u8 k,.int .i64 n,str s,.slice a l.length c]] w λe w'=>e = .returned (.bool (Nd.mk k n s l).isStmt)/\Ext w w':=by
 have HBL:=iF hb;clear hb
 have HEX:=iF λt (ht:t∈l)=>FE S t (BD hrw t ht)
 have HSL:=iF hsl;clear hsl hrw
 have hr:=U7 hk n s l
 have HR:=iF hr;clear hr
 cases hnm:named n s
 all_goals have HNM:=iF hnm;clear hnm
 all_goals rcases hk with rfl
 all_goals go_enter func171,ntmps171
 all_goals go_wp2_with (first|(go_at_call 201;refine (Ir _ _ _ _ _ _ _ HSL.out).mono ?_;rintro e w1 ⟨rfl,hx1⟩;have hc1:=hx1.cells;rw [HNM.out])|(go_at_call 198;refine (Gf _ _ _ l a c [(200,ni),(140,mU),(200,ni)] _ _ S _ hll (by decide) (hs.ext (by refine ng ?_ _;refine m8 ?_ ‹_›;refine ng ?_ _;exact Ne _)) (gI (by go_simp) (by go_simp) (by go_simp)) (fA DK GU DK) (fA HEX.out HBL.out HEX.out)).mono ?_;rintro e w2 ⟨rfl,hx2⟩))
 all_goals go_ret
 all_goals rw [HR.out,HNM.out]
 all_goals exact ⟨AY (by simp),LU⟩
def U9 (h:k=55) (n:Int) (s:lB) (l:List Nd):(Nd.mk k n s l).isStmt=(named n s&&Cj l [(140,mU)]):=by
 rcases h with rfl<;>rcases l with _|⟨x,_|⟨y,_|⟨z,_|⟨u,_|⟨v,l⟩⟩⟩⟩⟩<;>rw [Nd.isStmt.eq_def]<;>simp [Cj,ln]
def Va (hk:k=55) (n:Int) (s:lB) (l:List Nd) (a:oA) (c:Nat) (S:nP) (w:wD)
 (hs:rowSits S w l a) (hsl:s.length<=9223372036854775807) (hll:l.length<=9223372036854775807) (hrw:C0 l) (hb:∀t∈l,Ed S 140 mU t) :
 Calls prog 171 #[.agg #[.int .u8 k,.int .i64 n,str s,.slice a l.length c]] w λe w'=>e = .returned (.bool (Nd.mk k n s l).isStmt)/\Ext w w':=by
 have HBL:=iF hb;clear hb
 have HSL:=iF hsl;clear hsl hrw
 have hr:=U9 hk n s l
 have HR:=iF hr;clear hr
 cases hnm:named n s
 all_goals have HNM:=iF hnm;clear hnm
 all_goals rcases hk with rfl
 all_goals go_enter func171,ntmps171
 all_goals go_wp2_with (first|(go_at_call 201;refine (Ir _ _ _ _ _ _ _ HSL.out).mono ?_;rintro e w1 ⟨rfl,hx1⟩;have hc1:=hx1.cells;rw [HNM.out])|(go_at_call 198;refine (Gf _ _ _ l a c [(140,mU)] _ _ S _ hll (by decide) (hs.ext (by refine ng ?_ _;refine m8 ?_ ‹_›;refine ng ?_ _;exact Ne _)) (WP (by go_simp)) (NQ GU) (NQ HBL.out)).mono ?_;rintro e w2 ⟨rfl,hx2⟩))
 all_goals go_ret
 all_goals rw [HR.out,HNM.out]
 all_goals exact ⟨AY (by simp),LU⟩
def Vb (h:k=50\/k=51) (n:Int) (s:lB) (l:List Nd):(Nd.mk k n s l).isStmt=(named n s&&decide (l.length<=8)&&l.all Nd.isVar):=by
 rcases h with rfl|rfl<;>rw [Nd.isStmt.eq_def]<;>simp
def Vc (hk:k=50\/k=51) (n:Int) (s:lB) (l:List Nd) (a:oA) (c:Nat) (S:nP) (w:wD)
 (hs:rowSits S w l a) (hsl:s.length<=9223372036854775807) (hll:l.length<=9223372036854775807) (hrw:C0 l) :
 Calls prog 171 #[.agg #[.int .u8 k,.int .i64 n,str s,.slice a l.length c]] w λe w'=>e = .returned (.bool (Nd.mk k n s l).isStmt)/\Ext w w':=by
 have HVA:=iF λt (ht:t∈l)=>Y5 S t (BD hrw t ht)
 have HSL:=iF hsl;clear hsl hrw
 have hr:=Vb hk n s l
 have HR:=iF hr;clear hr
 cases hnm:named n s
 all_goals have HNM:=iF hnm;clear hnm
 all_goals by_cases h8:l.length<=8
 all_goals have d8:decide ((l.length:Int)<=8)=decide (l.length<=8):=by simp only [decide_eq_decide];omega
 all_goals first|rw [decide_eq_true h8] at d8|rw [decide_eq_false h8] at d8
 all_goals have H8:=iF h8;clear h8
 all_goals rcases hk with rfl|rfl
 all_goals go_enter func171,ntmps171
 all_goals go_wp2_with (first|(go_at_call 201;refine (Ir _ _ _ _ _ _ _ HSL.out).mono ?_;rintro e w1 ⟨rfl,hx1⟩;have hc1:=hx1.cells;rw [HNM.out])|(go_at_call 170;refine (T0 202 Nd.isVar WR l a c S _ hll (hs.ext LU) HVA.out).mono ?_;rintro e w2 ⟨rfl,hx2⟩))
 all_goals go_ret
 all_goals rw [HR.out,HNM.out]
 all_goals exact ⟨AY (by simp [H8.out]),LU⟩
def Qz (k n:Int) (s:lB) (l:List Nd) (h:k<40\/56<k):(Nd.mk k n s l).isStmt=false:=by
 rw [Nd.isStmt.eq_def];simp only [];rw [At Ab,At Ab,At Ab,At Ab,At Ab,At Ab,At Ab,At Ab]
def QA (k n:Int) (s:lB) (l:List Nd) (a:oA) (c:Nat) (w:wD) (h:k<40\/56<k) :
 Calls prog 171 #[.agg #[.int .u8 k,.int .i64 n,str s,.slice a l.length c]] w λe w'=>e = .returned (.bool (Nd.mk k n s l).isStmt)/\Ext w w':=by
 have hr:=Qz k n s l h
 have HR:=iF hr;clear hr
 have d40:(k==40)=false:=by rw [beq_eq_false_iff_ne];omega
 have d41:(k==41)=false:=by rw [beq_eq_false_iff_ne];omega
 have d42:(k==42)=false:=by rw [beq_eq_false_iff_ne];omega
 have d43:(k==43)=false:=by rw [beq_eq_false_iff_ne];omega
 have d44:(k==44)=false:=by rw [beq_eq_false_iff_ne];omega
 have d45:(k==45)=false:=by rw [beq_eq_false_iff_ne];omega
 have d46:(k==46)=false:=by rw [beq_eq_false_iff_ne];omega
 have d47:(k==47)=false:=by rw [beq_eq_false_iff_ne];omega
 have d48:(k==48)=false:=by rw [beq_eq_false_iff_ne];omega
 have d49:(k==49)=false:=by rw [beq_eq_false_iff_ne];omega
 have d50:(k==50)=false:=by rw [beq_eq_false_iff_ne];omega
 have d51:(k==51)=false:=by rw [beq_eq_false_iff_ne];omega
 have d52:(k==52)=false:=by rw [beq_eq_false_iff_ne];omega
 have d53:(k==53)=false:=by rw [beq_eq_false_iff_ne];omega
 have d54:(k==54)=false:=by rw [beq_eq_false_iff_ne];omega
 have d55:(k==55)=false:=by rw [beq_eq_false_iff_ne];omega
 have d56:(k==56)=false:=by rw [beq_eq_false_iff_ne];omega
 clear h
 go_enter func171,ntmps171
 go_wp2_with fail
 go_ret
 rw [HR.out]
 exact ⟨rfl,(by refine ng ?_ _;exact Ne _)⟩
def SF (k n:Int) (s:lB) (l:List Nd) (a:oA) (c:Nat) (S:nP) (w:wD)
 (O:rowSits S w l a) (G:s.length<=9223372036854775807) (M:l.length<=9223372036854775807) (N:C0 l) (U:∀t∈l,Ed S 140 mU t) :
 Calls prog 171 #[.agg #[.int .u8 k,.int .i64 n,str s,.slice a l.length c]] w λe w'=>e = .returned (.bool (Nd.mk k n s l).isStmt)/\Ext w w':=by
 by_cases h:k<40\/56<k
 . exact QA k n s l a c w h
 by_cases V:k=40\/k=41\/k=42\/k=56
 . exact UY V n s l a c S w O G M N
 by_cases X:k=43
 . exact U0 X n s l a c S w O G M N
 by_cases Y:k=44\/k=45
 . exact U2 Y n s l a c S w O G M N
 by_cases Z:k=46\/k=47\/k=48\/k=49
 . exact U4 Z n s l a c S w O G M N
 by_cases aa:k=52\/k=53
 . exact U6 aa n s l a c S w O G M N U
 by_cases ab:k=54
 . exact U8 ab n s l a c S w O G M N U
 by_cases ac:k=55
 . exact Va ac n s l a c S w O G M N U
 by_cases ad:k=50\/k=51
 . exact Vc ad n s l a c S w O G M N
 omega
def QB (k n:Int) (s:lB) (l:List Nd) (a:oA) (c:Nat) (S:nP) (w:wD)
 (hs:rowSits S w l a) (hll:l.length<=9223372036854775807) (ht:∀t∈l,Ed S 171 Nd.isStmt t) :
 Calls prog 140 #[.agg #[.int .u8 k,.int .i64 n,str s,.slice a l.length c]] w λe w'=>e = .returned (.bool (Nd.mk k n s l).isBlock)/\Ext w w':=by
 have hall:∀r:List Nd,D0 r=r.all Nd.isStmt:=by
  intro r
  induction r with
  | nil=>rfl
  | cons x r ih=>simp [D0,ih]
 have hr:(Nd.mk k n s l).isBlock=(k==57&&plain n s&&l.all Nd.isStmt):=by rw [mU,hall]
 have HR:=iF hr;clear hr hall
 have HT:=iF ht;clear ht
 by_cases h57:k=57
 . subst h57
   cases hnm:plain n s
   all_goals have HNM:=iF hnm;clear hnm
   all_goals go_enter func140,ntmps140
   all_goals go_wp2_with (first|(go_at_call 169;refine (GS _ _ _ _ _ _ _).mono ?_;rintro e w1 ⟨rfl,hx1⟩;have hc1:=hx1.cells;rw [HNM.out])|(go_at_call 170;refine (T0 171 Nd.isStmt UW l a c S _ hll (hs.ext (by refine m8 ?_ ‹_›;refine ng ?_ _;exact Ne _)) HT.out).mono ?_;rintro e w2 ⟨rfl,hx2⟩))
   all_goals go_ret
   all_goals rw [HR.out,HNM.out]
   all_goals exact ⟨AY (by simp),LU⟩
 . have d57:(k==57)=false:=by rw [beq_eq_false_iff_ne];omega
   clear h57
   go_enter func140,ntmps140
   go_wp2_with fail
   go_ret
   rw [HR.out]
   exact ⟨AY (by simp [d57]),(by refine ng ?_ _;exact Ne _)⟩
def IV (S:nP) (N:Nat):(∀t:Nd,t.size<N->t.wf->Ed S 171 Nd.isStmt t)/\(∀t:Nd,t.size<N->t.wf->Ed S 140 mU t):=by
 induction N with
 | zero=>exact ⟨λt h=>absurd h (Nat.not_lt_zero _),λt h=>absurd h (Nat.not_lt_zero _)⟩
 | succ N U=>
  refine ⟨?_,?_⟩
  . rintro ⟨k,n,s,l⟩ V G a c w O;simp only [Nd.wf,mR,nm] at *;exact SF k n s l a c S w O G.2.2.2.2.1 G.2.2.2.2.2.1 G.2.2.2.2.2.2 (λt M=>U.2 t (by have:=Ej M;omega) (BD G.2.2.2.2.2.2 t M))
  . rintro ⟨k,n,s,l⟩ V G a c w O;simp only [Nd.wf,mR,nm] at *;exact QB k n s l a c S w O G.2.2.2.2.2.1 (λt M=>U.1 t (by have:=Ej M;omega) (BD G.2.2.2.2.2.2 t M))
def WS (S:nP) (t:Nd) (h:t.wf):Ed S 171 Nd.isStmt t:=(IV S (t.size+1)).1 t Ab h
def Vd (S:nP) (t:Nd) (h:t.wf):Ed S 140 mU t:=(IV S (t.size+1)).2 t Ab h
attribute [local irreducible] Go.Calls
mutual
def Ch {S:nP} {w:wD}:∀(l:List Nd) (a:oA),rowSits S w l a->rowSits (· < w.heap.size) w l a
 | [],_,_=>by simp [rowSits]
 | t::r,a,h=>by
  simp only [rowSits] at h ⊢;obtain ⟨b,o,a',c,rfl,hb,h0,h1,h2,h3,hs,hr⟩:=h;exact ⟨b,o,a',c,rfl,Cs h0,h0,h1,h2,h3,Cd t a' hs,Ch r _ hr⟩
def Cd {S:nP} {w:wD}:∀(t:Nd) (a:oA),t.sits S w a->t.sits (· < w.heap.size) w a
 | .mk _ _ _ l,a,h=>by
  simp only [nm] at h ⊢;exact Ch l a h
end
def CP:∀ {l:List Nd} {x:Nd},x∈l->x.size<=AV l
 | [],x,h=>by cases h
 | t::r,x,h=>by
  simp only [AV];rcases iU.1 h with rfl|h
  . omega
  . have:=CP h;omega
def Cz (l:List Nd):l.length<=AV l:=by
 induction l with
 | nil=>simp [AV]
 | cons x r h=>
  have:1<=x.size:=by cases x;simp only [mR];omega
  simp only [AV,iM];omega
abbrev AZ (xs:List Int):lV:=xs.map (.int .i64 ·)
def IntsAt (w:wD) (xs:List Int) (a:oA):Prop:=Rows (λ_=>True) w (AZ xs) a
def IntsAt.ext {w w':wD} {xs:List Int} {a:oA} (h:IntsAt w xs a) (x:Ext w w'):IntsAt w' xs a:=Rows.ext h x
instance:LfE w w' (IntsAt w xs a) (IntsAt w' xs a):=⟨λx h=>Bk.IntsAt.ext h x⟩
def IntsAt.get (h:IntsAt w xs a) (G:xs≠[]):∃b o,a=some ⟨b,o,none⟩/\Row w ⟨b,o,none⟩ (AZ xs):=by
 rcases h with h|⟨b,o,M,-,N⟩
 . exact absurd (List.map_eq_nil_iff.1 h) G
 . exact ⟨b,o,M,N⟩
def IntsAt.at {w:wD} {xs:List Int} {b o:Nat} (h:Row w ⟨b,o,none⟩ (AZ xs)) {i:Nat} (M:i<xs.length):Row w ⟨b,o+i*1,none⟩ [.int .i64 (xs.getD i 0)]:=by
 intro j v G
 match j,G with
 | 0,G=>
  simp only [ja,iL] at G;subst G;have:=h.at (i:=i) (v:=.int .i64 (xs.getD i 0)) (by simp [AZ,jl,iE M,iK]);simpa [ki] using this
def LookR (xs:List Int) (q:Bool) (w:wD):Ending->wD->Prop:=λe w'=> ∃a c,e = .returned (.tuple #[.slice a xs.length c,.bool q])/\IntsAt w' xs a/\xs.length<=1000000/\Ext w w'
def LookR.ret {q:Bool} (h:LookR xs q w e w'):∃v,e = .returned v:=by
 obtain ⟨_,_,h,-⟩:=h;exact ⟨_,h⟩
structure Keep (I:wD->Prop) (w:wD):Prop where
 h:I w
 s:∀w1 w2,I w1->Ext w1 w2->I w2
def Keep.ext {I:wD->Prop} (h:Keep I w) (x:Ext w w'):Keep I w':=⟨h.s _ _ h.h x,h.s⟩
instance {I:wD->Prop}:LfE w w' (Keep I w) (Keep I w'):=⟨λx h=>Bk.Keep.ext h x⟩
def Li (at_:lB->Option (List Int)) (f:FuncId) (fi:lV) (I:wD->Prop):Prop:= ∀(s:lB) (w:wD),Keep I w->Calls prog f (fi++[str s]++[]).toArray w (LookR ((at_ s).getD []) (at_ s).isSome w)
def eL (r:Int×Int) (w:wD):Ending->wD->Prop:=λe w'=>e = .returned (.tuple #[.int .i64 r.1,.int .i64 r.2])/\Ext w w'
inductive ExprSh:Nd->Prop where
 | num {n:Int}:ExprSh (.mk 1 n [] [])
 | ref {k:Int} {s:lB}:(k=2\/k=4\/k=5)->Cv s=true->ExprSh (.mk k 0 s [])
 | item {s:lB} {x:Nd}:Cv s=true->x.isExpr=true->ExprSh (.mk 3 0 s [x])
 | un {k:Int} {x:Nd}:(k=6\/k=7)->x.isExpr=true->ExprSh (.mk k 0 [] [x])
 | bin {k:Int} {x y:Nd}:8<=k/\k<=23->x.isExpr=true->y.isExpr=true->ExprSh (.mk k 0 [] [x,y])
def Mo {t:Nd} (h:t.isExpr=true):ExprSh t:=by
 obtain ⟨k,n,s,l⟩:=t;unfold ni at h;by_cases M:k=1
 . rw [AG M] at h;simp only [iJ,jT,decide_eq_true_eq] at h;obtain ⟨⟨Y,rfl⟩,rfl⟩:=h;subst M;exact .num
 rw [At M] at h;by_cases N:k=2\/k=4\/k=5
 . rw [AG N] at h;simp only [iJ,named,beq_iff_eq,jT] at h;obtain ⟨⟨rfl,O⟩,rfl⟩:=h;exact .ref N O
 rw [At N] at h;by_cases U:k=3
 . rw [AG U] at h;simp only [iJ,named,beq_iff_eq] at h;obtain ⟨⟨rfl,O⟩,G⟩:=h;subst U;split at G
   . exact .item O G
   . cases G
 rw [At U] at h;by_cases V:k=6\/k=7
 . rw [AG V] at h;simp only [iJ,plain,beq_iff_eq,jT] at h;obtain ⟨⟨rfl,rfl⟩,G⟩:=h;split at G
   . exact .un V G
   . cases G
 rw [At V] at h;by_cases X:8<=k/\k<=23
 . rw [AG X] at h;simp only [iJ,plain,beq_iff_eq,jT] at h;obtain ⟨⟨rfl,rfl⟩,G⟩:=h;split at G
   . simp only [iJ] at G;exact .bin X G.1 G.2
   . cases G
 rw [At X] at h;cases h
def Pm (k:Int) (o:Option (List Int)):Int×Int:=match o with
 | none=>(0,6)
 | some c=>if k=2 then if c.length=1 then (c.getD 0 0,0) else (0,7) else if k=4 then if c.length=0 then (0,13) else (c.getD (c.length-1) 0,0) else (c.length,0)
def Ve {at_:lB->Option (List Int)} (h:k=2\/k=4\/k=5):AW at_ (.mk k 0 s [])=Pm k (at_ s):=by
 unfold AW Pm;rcases h with rfl|rfl|rfl
 . simp only [show ¬((2:Int)=1) by decide,if_false,if_true];all_goals (cases at_ s<;>rfl)
 . simp only [show ¬((4:Int)=1) by decide,show ¬((4:Int)=2) by decide,show ¬((4:Int)=3) by decide,if_false,if_true];all_goals (cases at_ s<;>rfl)
 . simp only [show ¬((5:Int)=1) by decide,show ¬((5:Int)=2) by decide,show ¬((5:Int)=3) by decide,show ¬((5:Int)=4) by decide,if_false,if_true];all_goals (cases at_ s<;>rfl)
def Lj (o:Option (List Int)) (r:Int×Int):Int×Int:=match o with
 | none=>(0,6)
 | some c=>if r.2≠0 then (0,r.2) else if r.1<0\/(c.length:Int)<=r.1 then (0,12) else (c.getD r.1.toNat 0,0)
def SG {at_:lB->Option (List Int)}:AW at_ (.mk 3 0 s [x])=Lj (at_ s) (AW at_ x):=by
 conv=>lhs;unfold AW
 unfold Lj;simp only [show ¬((3:Int)=1) by decide,show ¬((3:Int)=2) by decide,if_false,if_true];all_goals (cases at_ s<;>rfl)
def WT {at_:lB->Option (List Int)} (hk:k=6\/k=7):AW at_ (.mk k 0 [] [x])=if (AW at_ x).2≠0 then (0,(AW at_ x).2) else EJ k (AW at_ x).1:=by
 conv=>lhs;unfold AW
 rw [At Ab,At Ab,At Ab,At Ab,At Ab]
def Vf {at_:lB->Option (List Int)} {y:Nd} (hk:8<=k/\k<=23):AW at_ (.mk k 0 [] [x,y])=if (AW at_ x).2≠0 then (0,(AW at_ x).2) else if (AW at_ y).2≠0 then (0,(AW at_ y).2) else EI k (AW at_ x).1 (AW at_ y).1:=by
 conv=>lhs;unfold AW
 rw [At Ab,At Ab,At Ab,At Ab,At Ab]
def QC {at_:List UInt8->Option (List Int)} {f:FuncId} {fi:List Value} {I:World->Prop} (hf:B0 prog f=true) (HL:Li at_ f fi I) {n:Int} (hk:k=2\/k=4\/k=5) (s:List UInt8) (a:Option Addr) (m c:Nat) (w:World) (hI:Keep I w) :
 Calls prog 241 #[.agg #[.int .u8 k,.int .i64 n,str s,.slice a m c],.func (.func f) fi.toArray #[]] w (eL (Pm k (at_ s)) w):=by
 have X:=Ne w;have HA:=iF (HL s)
 generalize at_ s=o at *
 cases o with
 | none=>
  simp only [Option.getD_none,Option.isSome_none] at HA;refine Ad func241 ntmps241 rfl rfl ?_
  refine cS (eB [_,_,_,_] ?_);intro b1 w2 h4 x5 _ _;revert hI X;refine eE x5 ?_;intro hI X;refine C1 Pa (C1 Pa (cN (C1 Mv (C1 Pf (C1 (Pl h4) (Aw (A9 (ca:=[]) hf rfl rfl (HA.out _ Ae) (λ_ _ h=>h.ret)) rfl ?_ aFh))))));rintro _ ae ⟨a8,c9,⟨⟩,af,ag,aa⟩;replace X:=X.ext aa;refine C1 Mv (C1 Px (C1 Px (C1 Pa (C1 Pa (cT (Aj (cS (C1 Mv (C1 Pt (cT (BP rfl (cS (C1 Pa (C1 Pa (cT (AR (As (Bc rfl rfl rfl ?_))))))))))))))))))
  exact ⟨rfl,X⟩
 | some xs=>
  simp only [kY,Option.isSome_some] at HA;refine Ad func241 ntmps241 rfl rfl ?_
  focus
   refine cS (eB [_,_,_,_] ?_);intro ah ai G ab _ _;revert hI X;refine eE ab ?_;intro hI X;refine C1 Pa (C1 Pa (cN (C1 Mv (C1 Pf (C1 (Pl G) (Aw (A9 (ca:=[]) hf rfl rfl (HA.out _ Ae) (λ_ _ h=>h.ret)) rfl ?_ aFh))))));rintro _ ac ⟨aj,ak,⟨⟩,M,ad,O⟩;revert G X;refine eE O ?_;intro G X;refine C1 Mv (C1 Px (C1 Px (C1 Pa (C1 Pa (cT (Aj (cS (C1 Mv (C1 Pt (cT (Ba rfl (Ao (Ai (Aj (cS (C1 Pg (C1 (Pl G) (cT (Au (cS (C1 V1 (C1 Pa (cT (Az rfl (λU=>?_) (λU=>?_)))))))))))))))))))))))));refine Aj (cS (C1 Mv (C1 Pz (C1 V2 (cT (BT rfl (λV=>?_) (λV=>?_)))))));refine cS (C1 Pa (C1 Pa (cT (AR (As (AJ (As (Bc rfl rfl rfl ?_))))))));rotate_left;refine Ao (Ai ?_);rotate_left;refine cS (C1 V1 (C1 Pa (cT (DA (cS (C1 V1 (C1 Pa (cT (Az rfl (λY=>?_) (λY=>?_))))))))));refine Aj (cS (C1 Mv (C1 Pz (C1 V1 (cT (Az rfl (λZ=>?_) (λZ=>?_)))))));refine cS (C1 Pa (C1 Pa (cT (AR (As (AJ (As (Bc rfl rfl rfl ?_))))))));rotate_left;refine Ao (Ai ?_);rotate_left;refine Ao (Ah (Ai (cS (C1 Mv (C1 Pz (C1 Pa (C1 Pa (cT (AR (Bc rfl rfl rfl ?_))))))))));rotate_left
  . exact ⟨by rw [Pm,AG Ae,At Ab],X⟩
  . have N:xs≠[]:=by rintro rfl;simp at *
    obtain ⟨gb,go,rfl,hr⟩:=M.get N;have r1:=IntsAt.at hr (i:=0) Ab
    generalize hv:xs.getD 0 0=v at *
    refine cS (C1 Mv (C1 Pi (C1 (Pw r1) (C1 Pa (C1 Pa (cT (AR (AJ (As (Bc rfl rfl rfl ?_))))))))))
    exact ⟨by rw [Pm,AG Ae,AG Ab,hv],X⟩
  . exact ⟨by rw [Pm,At Ab,AG Ae,AG Ab],X⟩
  . have N:xs≠[]:=by rintro rfl;simp at *
    obtain ⟨gb,go,rfl,hr⟩:=M.get N;have r1:=IntsAt.at hr (i:=((xs.length:Int)-1).toNat) Ab
    have hj:((xs.length:Int)-1).toNat=xs.length-1:=by omega
    generalize hv:xs.getD ((xs.length:Int)-1).toNat 0=v at *
    rw [hj] at hv
    refine cS (C1 Mv (C1 Mv (C1 Pz (C1 (AL rfl rfl (iO _ Ab)) (C1 Pi (C1 (UK r1) (C1 Pa (C1 Pa (cT (AR (AJ (As (Bc rfl rfl rfl ?_)))))))))))))
    exact ⟨by rw [Pm,At Ab,AG Ae,At Ab,hv],X⟩
  . focus
     rotate_left
    exact ⟨by rw [Pm,At Ab,At Ab],X⟩
def WU (h:rowSits S w [x] a):∃b o xa xc,a=some ⟨b,o,none⟩/\S b/\Row w ⟨b,o+0*4,none⟩ (x.cells xa xc)/\x.sits S w xa:=by
 obtain ⟨b,o,e,G,M⟩:=BI h AN;obtain ⟨xa,xc,r,s⟩:=M 0 x rfl;exact ⟨b,o,xa,xc,e,G,r,s⟩
def cK {y:Nd} (h:rowSits S w [x,y] a):∃b o xa xc ya yc,a=some ⟨b,o,none⟩/\S b/\Row w ⟨b,o+0*4,none⟩ (x.cells xa xc)/\x.sits S w xa/\Row w ⟨b,o+1*4,none⟩ (y.cells ya yc)/\y.sits S w ya:=by
 obtain ⟨b,o,e,M,G⟩:=BI h AN;obtain ⟨xa,xc,r,s⟩:=G 0 x rfl;obtain ⟨ya,yc,N,O⟩:=G 1 y rfl;exact ⟨b,o,xa,xc,ya,yc,e,M,r,s,N,O⟩
def cL (at_:lB->Option (List Int)) (f:FuncId) (fi:lV) (I:wD->Prop) (t:Nd):Prop:= ∀(S:nP) (a:oA) (c:Nat) (w:wD),t.sits S w a->Keep I w->Calls prog 234 #[t.val a c,.func (.func f) fi.toArray #[]] w (eL (AW at_ t) w)
def QD {at_:List UInt8->Option (List Int)} {f:FuncId} {fi:List Value} {I:World->Prop} (hf:B0 prog f=true) (HL:Li at_ f fi I) {n:Int} (s:List UInt8) (HX:cL at_ f fi I x) (S:Nat->Prop) (a:Option Addr) (c:Nat) (w:World) (hs:rowSits S w [x] a) (N:Keep I w) :
 Calls prog 241 #[.agg #[.int .u8 3,.int .i64 n,str s,.slice a 1 c],.func (.func f) fi.toArray #[]] w (eL (Lj (at_ s) (AW at_ x)) w):=by
 have X:=Ne w;have HA:=iF (HL s)
 unfold cL at HX
 replace HX:=iF HX;obtain ⟨kb,ko,xa,xc,rfl,-,U,O⟩:=WU hs;replace O:=Cd _ _ O
 generalize AW at_ x=r at *
 generalize at_ s=o at *
 cases o with
 | none=>
  simp only [Option.getD_none,Option.isSome_none] at HA;refine Ad func241 ntmps241 rfl rfl ?_
  refine cS (eB [_,_,_,_] ?_);intro b1 w2 h4 x5 _ _;revert N X;refine eE x5 ?_;intro N X;refine C1 Pa (C1 Pa (cN (C1 Mv (C1 Pf (C1 (Pl h4) (Aw (A9 (ca:=[]) hf rfl rfl (HA.out _ Ae) (λ_ _ h=>h.ret)) rfl ?_ aFh))))));rintro _ aj ⟨a8,c9,⟨⟩,ak,al,ac⟩;replace X:=X.ext ac;refine C1 Mv (C1 Px (C1 Px (C1 Pa (C1 Pa (cT (Aj (cS (C1 Mv (C1 Pt (cT (BP rfl (cS (C1 Pa (C1 Pa (cT (AR (As (Bc rfl rfl rfl ?_))))))))))))))))))
  exact ⟨rfl,X⟩
 | some xs=>
  simp only [kY,Option.isSome_some] at HA;refine Ad func241 ntmps241 rfl rfl ?_
  focus
   refine cS (eB [_,_,_,_] ?_);intro am an G ad _ _;revert N X U O;refine eE ad ?_;intro N X U O;refine C1 Pa (C1 Pa (cN (C1 Mv (C1 Pf (C1 (Pl G) (Aw (A9 (ca:=[]) hf rfl rfl (HA.out _ Ae) (λ_ _ h=>h.ret)) rfl ?_ aFh))))));rintro _ ag ⟨ao,ap,⟨⟩,M,ah,V⟩;revert G N X U O;refine eE V ?_;intro G N X U O;refine C1 Mv (C1 Px (C1 Px (C1 Pa (C1 Pa (cT (Aj (cS (C1 Mv (C1 Pt (cT (Ba rfl (Ao (Ai (Aj (cS (C1 Pg (C1 (Pl G) (cT (Au (cS (C1 V1 (C1 Pa (cT (LT (cS (C1 V1 (C1 Pa (cT (WB (cS (C1 Pf (C1 (Pl G) (C1 Pi (BU [_,_,_,_] Ac rfl rfl rfl U rfl rfl rfl (C1 Mv (cC rfl (HX.out _ _ _ _ Ae Ae) ?_))))))))))))))))))))))))))))))))))));rintro _ ai ⟨⟨⟩,Y⟩;revert M X;refine eE Y ?_;intro M X;refine C1 Mv (C1 Px (C1 Px (C1 Pa (C1 Pa (cT (Aj (cS (C1 Mv (C1 V2 (cT (BT rfl (λZ=>?_) (λZ=>?_))))))))))));refine cS (C1 Mv (C1 Pa (C1 Pa (cT (AR (As (AJ (As (Bc rfl rfl rfl ?_)))))))));rotate_left;refine Ao (Ai (Aj (cS (C1 Mv (C1 V3 (C1 Mv (B8 rfl rfl rfl (λaa=>?_) (λaa=>?_))))))));refine FR (FR (FR (FR (C1 TR (cT (BP rfl (cS (C1 Pa (C1 Pa (cT (AR (As (AJ (As (Bc rfl rfl rfl ?_)))))))))))))))
   rotate_left;refine FQ (C1 Mv (FQ (C1 Mv (FQ (C1 Pz (FQ (C1 V6 (C1 Ss (cT (Az rfl (λab=>?_) (λab=>?_)))))))))));refine cS (C1 Pa (C1 Pa (cT (AR (As (AJ (As (Bc rfl rfl rfl ?_))))))));rotate_left;refine Ao (Ai ?_);rotate_left
  . exact ⟨by rw [Lj,AG Ab],X⟩
  . exact ⟨by rw [Lj,At Ab,AG (iG Ab)],X⟩
  . exact ⟨by rw [Lj,At Ab,AG (iH Ab)],X⟩
  . have ae:xs≠[]:=by rintro rfl;simp at *;omega
    obtain ⟨gb,go,rfl,af⟩:=M.get ae;have r1:=IntsAt.at af (i:=r.1.toNat) Ab
    generalize hv:xs.getD r.1.toNat 0=v at *
    refine cS (C1 Mv (C1 Mv (C1 Pi (C1 (UK r1) (C1 Pa (C1 Pa (cT (AR (AJ (As (Bc rfl rfl rfl ?_)))))))))))
    exact ⟨by rw [Lj,At Ab,At Ab,hv],X⟩
def QE {at_:List UInt8->Option (List Int)} {f:FuncId} {fi:List Value} {I:World->Prop} (hf:B0 prog f=true) (HL:Li at_ f fi I) (N:Nat):∀(t:Nd),t.size<N->t.isExpr=true->cL at_ f fi I t:=by
 induction N with
 | zero=>intro t h;omega
 | succ N ih=>
  intro t hN G;have ar:=Mo G;clear G;intro S a c w Y M;have X:=Ne w
  cases ar with
  | num=>
   rename_i n
   have e:AW at_ (.mk 1 n [] [])=(n,0):=by unfold AW;rw [AG rfl]
   rw [e]
   change Calls prog 234 #[.agg #[.int .u8 1,.int .i64 n,str [],.slice a 0 c],.func (.func f) fi.toArray #[]] w _
   refine Ad func234 ntmps234 rfl rfl ?_
   refine cS (eB [_,_,_,_] ?_);intro b1 w2 h4 x5 _ _;revert M X Y;refine eE x5 ?_;intro M X Y;clear x5;refine C1 Pa (C1 Pa (cT (Aj (cS (C1 Pg (C1 (Pl h4) (cT (Au (cS (C1 V1 (C1 Pa (cT (WB (cS (C1 Pf (C1 (Pl h4) (C1 Pa (C1 Pa (cT (AR (AJ (As (Bc rfl rfl rfl ?_)))))))))))))))))))))))
   exact ⟨rfl,X⟩
  | ref hk hn=>
   rename_i k s
   rw [Ve hk];have HV:=iF (QC hf HL (n:=0) hk s a 0 c);clear HL ih Y
   generalize Pm k (at_ s)=r at *
   change Calls prog 234 #[.agg #[.int .u8 k,.int .i64 0,str s,.slice a 0 c],.func (.func f) fi.toArray #[]] w _
   refine Ad func234 ntmps234 rfl rfl ?_
   focus
    refine cS (eB [_,_,_,_] ?_);intro a1 a2 O ag _ _;revert M X;refine eE ag ?_;intro M X;clear ag;refine C1 Pa (C1 Pa (cT (Aj (cS (C1 Pg (C1 (Pl O) (cT (Au (cS (C1 V1 (C1 Pa (cT (DA (Aj (cS (C1 V1 (C1 Pa (cT (Az rfl (λau=>?_) (λau=>?_))))))))))))))))))));refine Ao (Ai (YO (cS (A3 [_,_,_,_] Ac rfl rfl rfl O rfl rfl rfl (C1 Mv (cC rfl (HV.out _ Ae) ?_))))));rintro _ av ⟨⟨⟩,ah⟩;revert O M X;refine eE ah ?_;intro O M X;clear ah;refine C1 Px (C1 Px (C1 Pa (C1 Pa (cT (AR (AJ (As (Bc rfl rfl rfl ?_))))))));rotate_left;refine cS (C1 V1 (C1 Pa (cT (DA (cS (C1 V1 (C1 Pa (cT (Az rfl (λai=>?_) (λai=>?_))))))))));refine Ao (Ai (YO (cS (A3 [_,_,_,_] Ac rfl rfl rfl O rfl rfl rfl (C1 Mv (cC rfl (HV.out _ Ae) ?_))))));rintro _ aw ⟨⟨⟩,ac⟩;revert O M X;refine eE ac ?_;intro O M X;clear ac;refine C1 Px (C1 Px (C1 Pa (C1 Pa (cT (AR (AJ (As (Bc rfl rfl rfl ?_))))))));rotate_left;refine Al (C1 V1 (C1 Pa (cT (TS (cS (A3 [_,_,_,_] Ac rfl rfl rfl O rfl rfl rfl (C1 Mv (cC rfl (HV.out _ Ae) ?_))))))));rintro _ ax ⟨⟨⟩,ad⟩;revert O M X;refine eE ad ?_;intro O M X;clear ad;refine C1 Px (C1 Px (C1 Pa (C1 Pa (cT (AR (AJ (As (Bc rfl rfl rfl ?_))))))))
    rotate_left
   all_goals exact ⟨rfl,X⟩
  | item hn G=>
   rename_i s x
   rw [SG];simp only [mR,AV] at hN;have HV:=iF (QD hf HL (n:=0) s (ih x Ab G) S a c);clear HL ih
   generalize Lj (at_ s) (AW at_ x)=r at *
   have Y:rowSits S w [x] a:=Y
   change Calls prog 234 #[.agg #[.int .u8 3,.int .i64 0,str s,.slice a 1 c],.func (.func f) fi.toArray #[]] w _
   refine Ad func234 ntmps234 rfl rfl ?_
   refine cS (eB [_,_,_,_] ?_);intro a3 a4 ab af _ _;revert M X;refine eE af ?_;intro M X;clear Y;replace Y:=nn Y af;clear af;refine C1 Pa (C1 Pa (cT (Aj (cS (C1 Pg (C1 (Pl ab) (cT (Au (cS (C1 V1 (C1 Pa (cT (LT (Aj (cS (C1 V1 (C1 Pa (cT (LT (cS (C1 V1 (C1 Pa (cT (WB (Ao (Ai (WB (cS (A3 [_,_,_,_] Ac rfl rfl rfl ab rfl rfl rfl (C1 Mv (cC rfl (HV.out _ Ae Ae) ?_)))))))))))))))))))))))))))))));rintro _ a5 ⟨⟨⟩,aj⟩;revert ab M X Y;refine eE aj ?_;intro ab M X Y;clear aj;refine C1 Px (C1 Px (C1 Pa (C1 Pa (cT (AR (AJ (As (Bc rfl rfl rfl ?_))))))))
   exact ⟨rfl,X⟩
  | un hk G=>
   rename_i k x
   rw [WT hk];simp only [mR,AV] at hN;have HX:=ih x Ab G
   unfold cL at HX
   replace HX:=iF HX;obtain ⟨kb,ko,xa,xc,rfl,-,Z,G⟩:=WU Y;replace G:=Cd _ _ G;clear HL ih Y
   generalize AW at_ x=r at *
   change Calls prog 234 #[.agg #[.int .u8 k,.int .i64 0,str [],.slice (some ⟨kb,ko,none⟩) 1 c],.func (.func f) fi.toArray #[]] w _
   refine Ad func234 ntmps234 rfl rfl ?_
   focus
    refine cS (eB [_,_,_,_] ?_);intro a6 a7 aa ak _ _;revert M X Z G;refine eE ak ?_;intro M X Z G;clear ak;refine C1 Pa (C1 Pa (cT (Aj (cS (C1 Pg (C1 (Pl aa) (cT (Au (cS (C1 V1 (C1 Pa (cT (DA (Aj (cS (C1 V1 (C1 Pa (cT (DA (cS (C1 V1 (C1 Pa (cT (DA (cS (C1 V1 (C1 Pa (cT (DA (Al (C1 V1 (C1 Pa (cT (DA (Ao (Ah (Ai (cS (C1 Pf (C1 (Pl aa) (C1 Pi (BU [_,_,_,_] Ac rfl rfl rfl Z rfl rfl rfl (C1 Mv (cC rfl (HX.out _ _ _ _ Ae Ae) ?_))))))))))))))))))))))))))))))))))))))))))));rintro _ a8 ⟨⟨⟩,al⟩;revert aa M X Z G;refine eE al ?_;intro aa M X Z G;clear al;refine C1 Mv (C1 Px (C1 Px (C1 Pa (C1 Pa (cT (Aj (cS (C1 Mv (C1 V2 (cT (BT rfl (λam=>?_) (λam=>?_))))))))))));refine cS (C1 Mv (C1 Pa (C1 Pa (cT (AR (As (Bc rfl rfl rfl ?_)))))));rotate_left;refine Ao (Ai (Aj (cS (C1 Pf (C1 (Pl aa) (C1 Pz (C1 V1 (cT (WB (cS (C1 Pg (C1 (Pl aa) (C1 Mv (cC rfl (Pc _ _ _) ?_))))))))))))));rintro _ ay ⟨⟨⟩,rfl⟩;refine C1 Px (C1 Px (C1 Pa (C1 Pa (cT (AR (As (Bc rfl rfl rfl ?_)))))));rotate_left
   . exact ⟨by rw [AG Ab],X⟩
   . exact ⟨by rw [At Ab],X⟩
  | bin hk G hy=>
   rename_i k x y
   rw [Vf hk];simp only [mR,AV] at hN;have HX:=ih x Ab G;have HY:=ih y Ab hy
   unfold cL at HX HY
   replace HX:=iF HX;replace HY:=iF HY;obtain ⟨kb,ko,xa,xc,ya,yc,rfl,-,Z,G,V,hy⟩:=cK Y;replace G:=Cd _ _ G;replace hy:=Cd _ _ hy;clear HL ih Y
   generalize AW at_ x=r at *
   generalize AW at_ y=r' at *
   change Calls prog 234 #[.agg #[.int .u8 k,.int .i64 0,str [],.slice (some ⟨kb,ko,none⟩) 2 c],.func (.func f) fi.toArray #[]] w _
   refine Ad func234 ntmps234 rfl rfl ?_
   focus
    refine cS (eB [_,_,_,_] ?_);intro a9 ba U an _ _;revert M X Z V G hy;refine eE an ?_;intro M X Z V G hy;clear an;refine C1 Pa (C1 Pa (cT (Aj (cS (C1 Pg (C1 (Pl U) (cT (Au (cS (C1 V1 (C1 Pa (cT (DA (Aj (cS (C1 V1 (C1 Pa (cT (DA (cS (C1 V1 (C1 Pa (cT (DA (cS (C1 V1 (C1 Pa (cT (DA (Al (C1 V1 (C1 Pa (cT (DA (Ao (Ah (Ai (cS (C1 Pf (C1 (Pl U) (C1 Pi (BU [_,_,_,_] Ac rfl rfl rfl Z rfl rfl rfl (C1 Mv (cC rfl (HX.out _ _ _ _ Ae Ae) ?_))))))))))))))))))))))))))))))))))))))))))));rintro _ bb ⟨⟨⟩,ao⟩;revert U M X Z V G hy;refine eE ao ?_;intro U M X Z V G hy;clear ao;refine C1 Mv (C1 Px (C1 Px (C1 Pa (C1 Pa (cT (Aj (cS (C1 Mv (C1 V2 (cT (BT rfl (λap=>?_) (λap=>?_))))))))))));refine cS (C1 Mv (C1 Pa (C1 Pa (cT (AR (As (Bc rfl rfl rfl ?_)))))));rotate_left;refine Ao (Ai (Aj (cS (C1 Pf (C1 (Pl U) (C1 Pz (C1 V1 (cT (LT (Ao (Ai (cS (C1 Pf (C1 (Pl U) (C1 Pi (C1 (YZ V) (C1 Mv (cC rfl (HY.out _ _ _ _ Ae Ae) ?_))))))))))))))))));rintro _ az ⟨⟨⟩,ae⟩;revert U M X Z V G hy;refine eE ae ?_;intro U M X Z V G hy;clear ae;refine C1 Mv (C1 Px (C1 Px (C1 Pa (C1 Pa (cT (Aj (cS (C1 Mv (C1 V2 (cT (BT rfl (λaq=>?_) (λaq=>?_))))))))))))
    refine cS (C1 Mv (C1 Pa (C1 Pa (cT (AR (As (Bc rfl rfl rfl ?_)))))));rotate_left;refine Ao (Ai (cS (C1 Pg (C1 (Pl U) (C1 Mv (C1 Mv (cC rfl (TV _ _ _ _) ?_)))))));rintro _ a0 ⟨⟨⟩,rfl⟩;refine C1 Px (C1 Px (C1 Pa (C1 Pa (cT (AR (Bc rfl rfl rfl ?_))))));rotate_left
   . exact ⟨by rw [AG Ab],X⟩
   . exact ⟨by rw [At Ab,AG Ab],X⟩
   . exact ⟨by rw [At Ab,At Ab],X⟩
def OwnI (w:wD) (B:Nat) (v:Value) (xs:List Int):Prop:=Own w B 3 1 v xs.length (AZ xs)
def OwnI.ext {w w':wD} {B:Nat} {v:Value} {xs:List Int} (h:OwnI w B v xs) (x:Ext w w'):OwnI w' B v xs:=Own.ext h x
instance:LfE w w' (OwnI w B v xs) (OwnI w' B v xs):=⟨λx h=>Bk.OwnI.ext h x⟩
def OwnI.fr (h:OwnI w B v xs) (x:Fr S w w') (G:∀k,v.ownBlock=some k -> ¬S k):OwnI w' B v xs:=mY h x G
instance:LfF S w w' (OwnI w B v xs) (∀k,v.ownBlock=some k -> ¬S k) (OwnI w' B v xs):=⟨λx s h=>Bk.OwnI.fr h x s⟩
def OwnI.open (h:OwnI w B v xs):(v = .slice none 0 0/\xs=[]) \/ ∃g cap zs,v = .slice (some ⟨g,0,none⟩) xs.length cap/\B<=g/\TB w g (AZ xs++zs) 3/\xs.length+zs.length=cap/\cap<=maxLen:=by
 obtain ⟨-,⟨G,M⟩|⟨g,cap,cur,G,M,N,V,O,X,U⟩⟩:=h
 . exact iG ⟨G,List.length_eq_zero_iff.1 M⟩
 . refine iH ⟨g,cap,cur.toList.drop xs.length,G,M,?_,?_,O⟩
   . unfold TB;rw [N,<-U,lf,jA]
   . simp only [kV,kd];omega
def OwnI.mk {g:Nat} (G:B<=g) (h:TB w g (AZ xs++zs) 3) (M:xs.length+zs.length<=maxLen):OwnI w B (.slice (some ⟨g,0,none⟩) xs.length (xs.length+zs.length)) xs:=by
 refine ⟨by simp [AZ],iH ⟨g,_,(AZ xs++zs).toArray,rfl,G,h,Ab,M,by simp [AZ],?_⟩⟩;have e:xs.length*1=(AZ xs).length:=by simp [AZ]
 rw [e];simp
def OwnI.nil:OwnI w B (.slice none 0 0) []:=nB
def OwnI.shape (h:OwnI w B v xs):∃a c,v = .slice a xs.length c:=by
 rcases h.open with ⟨G,M⟩|⟨g,cap,zs,G,-⟩
 . exact ⟨none,0,by rw [G,M];rfl⟩
 . exact ⟨_,_,G⟩
def OwnI.at {w:wD} {B:Nat} {a:oA} {n c:Nat} {xs:List Int} (h:OwnI w B (.slice a n c) xs):IntsAt w xs a:=by
 rcases h.open with ⟨G,U⟩|⟨g,cap,zs,G,-,V,-⟩
 . exact iG (by rw [U];rfl)
 . simp only [jm] at G;obtain ⟨rfl,-⟩:=G;refine iH ⟨g,0,rfl,trivial,λi v M=>?_⟩;have N:i<(AZ xs).length:=by
    rcases i7 i (AZ xs).length with O|O
    . exact O
    . rw [iR O] at M;cases M
   exact V.blk.row i v (by rw [iN N];exact M)
def OwnI.low (h:OwnI w B v xs) (M:∀k,v.ownBlock=some k->n<=k):OwnI w n v xs:=by
 obtain ⟨k1,N|⟨g,cap,cur,rfl,U,O⟩⟩:=h
 . exact ⟨k1,iG N⟩
 . exact ⟨k1,iH ⟨g,cap,cur,rfl,M g rfl,O⟩⟩
def OwnI.lt (h:OwnI w B v xs) {k:Nat} (G:v.ownBlock=some k):B<=k/\k<w.heap.size:=Own.blk h G
def Vg (w:wD) (q:Nat):Ext w (w.drewN q):=by
 induction q with
 | zero=>exact Ne w
 | succ q h=>exact h.drew
def Oa (w:wD) (q:Nat):Ext w (Sort.ahead w q):=by
 induction q with
 | zero=>exact Ne w
 | succ q h=>exact h.drew
def Ee {e:TypeId} {b:Nat}:∀(us pre G post:lV) (w:wD),us.length=G.length->TB w b (pre++G++post) e->TB (w.setCells b pre.length us) b (pre++us++post) e
 | [],pre,G,post,w,M,h=>by
  obtain rfl:G=[]:=List.length_eq_zero_iff.1 M.symm;exact h
 | u::us,pre,[],post,w,M,h=>by simp at M
 | u::us,pre,m::G,post,w,M,h=>by
  have N:=TB.set (i:=pre.length) h u;have U:(pre++m::G++post).set pre.length u=(pre++[u])++G++post:=by simp
  rw [U] at N;have O:=Ee us (pre++[u]) G post _ (by simpa using M) N;rw [show pre++u::us++post=(pre++[u])++us++post by simp];rw [iX,kn] at O;exact O
def Ef (b:Nat):∀(us:lV) (o:Nat) (w:wD),Fr (· = b) w (w.setCells b o us)
 | [],o,w=>mI _ w
 | u::us,o,w=>(Fr.setCell (S:=(· = b)) (mI _ w) ⟨b,o,none⟩ u (iG rfl)).trans (Ef b us (o+1) _)
def Vh {b n:Nat} {e:TypeId} {ys:List Int} (h:TB w b (AZ xs++zs) e) (N:ys.length=xs.length):TB (Sort.putRow (jz .i64) w b 0 ys.toArray) b (AZ ys++zs) e/\Fr (· = b) w (Sort.putRow (jz .i64) w b 0 ys.toArray):=by
 refine ⟨?_,?_⟩
 . unfold TB at h ⊢;unfold Sort.putRow Sort.mapBlock;simp only [kE,if_true,h,ky];unfold Sort.onCells;simp only [iL,Obj.cells.injEq,and_true];apply lS;simp only [Sort.putCells,Array.toList_mapIdx];apply kw;intro i;simp only [List.getElem?_mapIdx,iT,true_and,jC,lW,kD];by_cases M:i<ys.length
   . have G:i<xs.length:=by omega
     rw [iN (by simpa [AZ] using G),iN (by simpa [AZ] using M)];simp [AZ,jl,iE M,iE G,M]
   . rw [iY (by simp [AZ];omega),iY (by simp [AZ];omega)];simp only [AZ,kz,N];cases zs[i-xs.length]? with
     | none=>rfl
     | some v=>rw [ky,At Ab]
 . refine ⟨rfl,rfl,rfl,by simp [Sort.putRow,Sort.mapBlock],λk U O=>?_⟩;unfold Sort.putRow Sort.mapBlock;simp only [kE];rw [At (λe=>O e.symm)]
def CloneR (xs:List Int) (w:wD):Ending->wD->Prop:=λe w'=> ∃a c,e = .returned (.slice a xs.length c)/\OwnI w' w.heap.size (.slice a xs.length c) xs/\(∀k,(jf a xs.length c).ownBlock=some k->w.heap.size<=k/\k<w'.heap.size)/\Ext w w'
def CloneR.ret (h:CloneR xs w e w'):∃v,e = .returned v:=by
 obtain ⟨_,_,h,-⟩:=h;exact ⟨_,h⟩
def FF (xs:List Int) (hx:xs.length<=1000000) (a:oA) (c:Nat) (w:wD) (h:IntsAt w xs a):Calls prog 88 #[.slice a xs.length c] w (CloneR xs w):=by
 have key:∀(v:Value) (w':wD),w'.ownsRow w.heap.size 3 1 v xs.length (AZ xs)->Ext w w'->CloneR xs w (.returned v) w':=λv w' G M=>by
  have G:OwnI w' w.heap.size v xs:=G;obtain ⟨U,V,rfl⟩:=G.shape;exact ⟨U,V,rfl,G,λk X=>G.lt X,M⟩
 cases a with
 | none=>
  obtain rfl:xs=[]:=by
   rcases h with h|⟨b,o,h,-⟩
   . simpa [AZ] using h
   . cases h
  have N:=Any.slices_Clone_int_nil Tryz.lays2n15 0 c w;refine jE N ?_;rintro e w' ⟨rfl,rfl⟩;exact key _ _ nB (Ne _)
 | some p=>
  by_cases O:xs=[]
  . subst O;have N:=Any.slices_Clone_int_zero Tryz.lays2n15 p c w;refine jE N ?_;rintro e w' ⟨v,rfl,G,-,M⟩;exact key _ _ G M
  . obtain ⟨b,o,Y,Z⟩:=h.get O;cases Y;have N:=Any.slices_Clone_int Tryz.lays2n15 b o xs.length c xs w (iW _) Ab (λj hj=>by
     have:=Z.at (i:=j) (v:=.int .i64 (xs.getD j 0)) (by simp [AZ,jl,iE hj,iK]);exact this)
    refine jE N ?_;rintro e w' ⟨v,rfl,G,-,M⟩;rw [iZ] at G;exact key _ _ G M
def PutR (v:Value) (ys:List Int) (B:Nat) (w:wD):Ending->wD->Prop:=λe w'=> ∃a c,e = .returned (.slice a ys.length c)/\OwnI w' B (.slice a ys.length c) ys/\(∀k,(jf a ys.length c).ownBlock=some k->v.ownBlock=some k\/w.heap.size<=k)/\Fr (λk=>v.ownBlock=some k) w w'
def PutR.ret {ys:List Int} (h:PutR v ys B w e w'):∃u,e = .returned u:=by
 obtain ⟨_,_,h,-⟩:=h;exact ⟨_,h⟩
def Mp {g:Nat} {vs:lV} {e:TypeId} (h:TB w g vs e):Row w ⟨g,0,none⟩ vs:=h.blk.row
def QF (xs:List Int):∀v∈AZ xs,v.oneCell'=true:=λv h=>by
 obtain ⟨x,-,rfl⟩:=List.mem_map.1 h;rfl
def Ht (xs ys:List Int):AZ (xs++ys)=AZ xs++AZ ys:=by simp [AZ]
def FG:maxLen=9223372036854775807:=rfl
def Mq (xs:List Int) (hx:xs.length<=1000000) (B:Nat) (v:Value) (x:Int) (V:Nat) (w:wD) (hB:B<=w.heap.size) (h:OwnI w B v xs) (hv:Row w ⟨V,0,none⟩ [.int .i64 x]) :
 Calls prog 247 #[v,.int .i64 xs.length,.slice (some ⟨V,0,none⟩) 1 1] w (PutR v (xs++[x]) B w):=by
 have Z:∀(j:Nat) (u:Value),[jz .i64 x][j]? = some u->w.cell? ⟨V,0+j,none⟩=some u:=λj u M=>by
  have:=hv.at (i:=j) M;simpa using this
 have grow:∀(a:oA) (c:Nat),v = .slice a xs.length c->c<xs.length+1->xs.length<=c->(a=none->xs.length=0)->(∀q,a=some q -> ∀(j:Nat) (u:Value),(AZ xs)[j]? = some u->w.cell? (q.add j)=some u) ->
  Calls prog 247 #[v,.int .i64 xs.length,.slice (some ⟨V,0,none⟩) 1 1] w (PutR v (xs++[x]) B w):=λa c ab h1 h2 X h4=>by
  subst ab;have hc:=Any2.slices_Insert_int_end_grow Tryz.lays2n21 a xs.length c V 0 1 1 (AZ xs) [.int .i64 x] w B9 h2 h1 Ab (by simp [AZ]) rfl X h4 Z (by simp [Value.oneCell']);refine jE hc ?_;rintro e w' ⟨rfl,rfl⟩;change PutR _ _ _ _ (.returned (.slice (some ⟨w.heap.size,0,none⟩) (xs.length+1) (grownCap w (xs.length+1) c 3))) (w.drew.alloc (.cells ((AZ xs++[jz .i64 x]).toArray++jG (jz .i64 0).cells (grownCap w (xs.length+1) c 3-(xs.length+1))) 3));have g1:=grownCap_ge w (xs.length+1) c 3;have g2:=grownCap_le_maxLen w (xs.length+1) c 3 (by rw [FG];omega);generalize grownCap w (xs.length+1) c 3=G at *;have ez:(jG (jz .i64 0).cells (G-(xs.length+1))).toList.length=G-(xs.length+1):=by
   rw [kd,size_zeroCells];show (G-(xs.length+1))*1=_;omega
  have hT:TB (w.drew.alloc (.cells ((AZ xs++[jz .i64 x]).toArray++jG (jz .i64 0).cells (G-(xs.length+1))) 3)) w.heap.size (AZ (xs++[x])++(jG (jz .i64 0).cells (G-(xs.length+1))).toList) 3:=by
   have:=JI w.drew (AZ (xs++[x])++(jG (jz .i64 0).cells (G-(xs.length+1))).toList) 3;rw [Ht];rw [Ht] at this;have e1:((AZ xs++[jz .i64 x]).toArray++jG (jz .i64 0).cells (G-(xs.length+1)))=(AZ xs++AZ [x]++(jG (jz .i64 0).cells (G-(xs.length+1))).toList).toArray:=by
    apply lS;simp [AZ]
   rw [e1];exact this
  have hO:=OwnI.mk (B:=B) hB hT (by rw [ez,iX,kn];omega);have N:(xs++[x]).length=xs.length+1:=by simp
  rw [ez,N,show xs.length+1+(G-(xs.length+1))=G by omega] at hO;refine ⟨some ⟨w.heap.size,0,none⟩,G,by rw [N],by rw [N];exact hO,λk hk=>?_,.of_ext ((Ne w).drew.alloc _)⟩;simp only [km,iL] at hk;exact iH Ab
 rcases h.open with ⟨rfl,rfl⟩|⟨g,cap,zs,rfl,h2,X,h4,h5⟩
 . exact grow none 0 rfl AN AN (λ_=>rfl) (λq hq=>by cases hq)
 . have hr:∀q,some (⟨g,0,none⟩:Addr)=some q -> ∀(j:Nat) (u:Value),(AZ xs)[j]? = some u->w.cell? (q.add j)=some u:=λq hq j u M=>by
    cases hq;have ac:j<(AZ xs).length:=by
     rcases i7 j (AZ xs).length with h'|h'
     . exact h'
     . rw [iR h'] at M;cases M
    exact Mp X j u (by rw [iN ac];exact M)
   by_cases hc:cap<xs.length+1
   . exact grow _ cap rfl hc Ab (λh=>by cases h) hr
   . obtain ⟨z,Y,rfl⟩:∃z Y,zs=z::Y:=by
      cases zs with
      | nil=>simp at h4;omega
      | cons z Y=>exact ⟨z,Y,rfl⟩
     have O:w.cell? ⟨g,0+xs.length,none⟩=some z:=(Mp X).at (i:=xs.length) (by rw [iY (by simp [AZ])];simp [AZ]);have ad:∀j,j<1->(w.cell? ⟨g,0+xs.length+j,none⟩).isSome=true:=λj M=>by
      obtain rfl:j=0:=by omega
      rw [kK,O];rfl
     have U:xs.length+1<=cap:=by omega
     have aa:cap<=9223372036854775807:=by rw [FG] at h5;exact h5
     have ae:∀j,j<1->w.frozen? ⟨g,0+xs.length+j,none⟩=false:=λj M=>X.blk.free
     have af:=Any2.slices_Insert_int_end_room Tryz.lays2n21 g 0 xs.length cap V 0 1 1 [.int .i64 x] w B9 U aa rfl ad ae Z (by simp [Value.oneCell']);refine jE af ?_;rintro e w' ⟨rfl,rfl⟩;have e0:0+xs.length=(AZ xs).length:=by simp [AZ]
     rw [e0];have hT:=Ee [.int .i64 x] (AZ xs) [z] Y w rfl (by simpa using X);have hF:=Ef g [.int .i64 x] (AZ xs).length w;rw [show AZ xs++[jz .i64 x]=AZ (xs++[x]) by simp [AZ]] at hT;have hO:=OwnI.mk (B:=B) h2 hT (by simp at h4 ⊢;omega);have N:(xs++[x]).length=xs.length+1:=by simp
     rw [N,show xs.length+1+Y.length=cap by simp at h4;omega] at hO;exact ⟨some ⟨g,0,none⟩,cap,by rw [N],by rw [N];exact hO,λk hk=>iG hk,hF.weaken λb hb=>by subst hb;rfl⟩
def Po {g:Nat} {vs:lV} {e:TypeId} (h:TB w g vs e):TB w.drew g vs e:=h.ext (Ne w).drew
def Ob {b:Nat} {vs:lV} (h:Blk w b vs):(∃t,w.shape? b=some (t,vs.length)) /\ ∀o,w.frozen? ⟨b,o,none⟩=false:=by
 obtain ⟨ty,h⟩:=h;refine ⟨⟨ty,by unfold World.shape?;rw [h];simp⟩,λo=>?_⟩;unfold World.frozen?;rw [h];simp
def QG (n:Nat):(jG (jz .i64 0).cells n).toList.length=n:=by
 rw [kd,size_zeroCells];show n*1=_;omega
def SH (xs:List Int) (hx:xs.length<=1000000) (Y:xs≠[]) (B:Nat) (v:Value) (x:Int) (V:Nat) (w:wD) (hB:B<=w.heap.size) (h:OwnI w B v xs) (hv:Blk w V [.int .i64 x]) (ae:v.ownBlock≠some V) :
 Calls prog 247 #[v,.int .i64 0,.slice (some ⟨V,0,none⟩) 1 1] w (PutR v (x::xs) B w):=by
 have aa:∀(j:Nat) (u:Value),[jz .i64 x][j]? = some u->w.cell? ⟨V,0+j,none⟩=some u:=λj u X=>by
  have:=hv.row.at (i:=j) X;simpa using this
 have hn:0<xs.length:=by
  cases xs with
  | nil=>exact absurd rfl Y
  | cons y ys=>simp
 have ab:∀u∈[jz .i64 x],u.oneCell'=true:=by simp [Value.oneCell']
 have O:(x::xs).length=xs.length+1:=by simp
 rcases h.open with ⟨rfl,rfl⟩|⟨g,cap,zs,rfl,h2,h3,h4,h5⟩
 . exact absurd rfl Y
 have ac:∀(j:Nat) (u:Value),(AZ xs)[j]? = some u->w.cell? ⟨g,0+j,none⟩=some u:=λj u X=>by
  have af:j<(AZ xs).length:=by
   rcases i7 j (AZ xs).length with h'|h'
   . exact h'
   . rw [iR h'] at X;cases X
  exact (Mp h3).at (i:=j) (by rw [iN af];exact X)
 by_cases hc:cap<xs.length+1
 . have U:=Any2.slices_Insert_int_grow Tryz.lays2n21 g 0 xs.length cap 0 V 0 1 1 (AZ xs) [.int .i64 x] w hn B9 Ab hc Ab (by simp [AZ]) rfl ac aa (QF xs) ab;refine jE U ?_;rintro e w' ⟨rfl,rfl⟩;change PutR _ _ _ _ (.returned (.slice (some ⟨w.heap.size,0,none⟩) (xs.length+1) (grownCap w (xs.length+1) cap 3))) ((((w.alloc (.cells (((AZ xs).take 0).toArray++jG (jz .i64 0).cells (xs.length+1-0)++jG (jz .i64 0).cells (grownCap w (xs.length+1) cap 3-(xs.length+1))) 3)).drew.setCells w.heap.size 0 [jz .i64 x]).drew).setCells w.heap.size (0+1) ((AZ xs).drop 0));have g1:=grownCap_ge w (xs.length+1) cap 3;have g2:=grownCap_le_maxLen w (xs.length+1) cap 3 (by rw [FG];omega);generalize grownCap w (xs.length+1) cap 3=N at *;have z1:=QG (xs.length+1-0);have z2:=QG (N-(xs.length+1));have ag:=JI w ((jG (jz .i64 0).cells (xs.length+1-0)).toList++(jG (jz .i64 0).cells (N-(xs.length+1))).toList) 3;have ea:(((AZ xs).take 0).toArray++jG (jz .i64 0).cells (xs.length+1-0)++jG (jz .i64 0).cells (N-(xs.length+1)))=((jG (jz .i64 0).cells (xs.length+1-0)).toList++(jG (jz .i64 0).cells (N-(xs.length+1))).toList).toArray:=by
    apply lS;simp
   rw [ea];generalize (jG (jz .i64 0).cells (xs.length+1-0)).toList=Z1 at *;generalize (jG (jz .i64 0).cells (N-(xs.length+1))).toList=Z2 at *;obtain ⟨z,Z,rfl⟩:∃z Z,Z1=z::Z:=by
    cases Z1 with
    | nil=>simp at z1
    | cons z Z=>exact ⟨z,Z,rfl⟩
   have t1:=Ee [.int .i64 x] [] [z] (Z++Z2) _ rfl (Po (by simpa using ag));have t2:=Ee (AZ xs) [.int .i64 x] Z Z2 _ (by simp [AZ] at z1 ⊢;omega) (Po (by simpa using t1));rw [show [jz .i64 x]++AZ xs=AZ (x::xs) by simp [AZ]] at t2;have hO:=OwnI.mk (B:=B) hB t2 (by rw [z2,O];omega);rw [z2,O,show xs.length+1+(N-(xs.length+1))=N by omega] at hO;have hF:Fr (λk=>k=w.heap.size) w ((((w.alloc (.cells (z::Z++Z2).toArray 3)).drew.setCells w.heap.size 0 [jz .i64 x]).drew).setCells w.heap.size (0+1) (AZ xs)):=
    (mG ((Ne w).alloc _).drew).trans ((Ef _ _ _ _).trans ((mG (Ne _).drew).trans (Ef _ _ _ _)))
   refine ⟨some ⟨w.heap.size,0,none⟩,N,by rw [O],by rw [O];exact hO,λk hk=>?_,?_⟩
   . simp only [km,iL] at hk;exact iH Ab
   . have hE:=(Ne w).fr hF (λk hk=>by omega);exact .of_ext hE
 . obtain ⟨z,M,rfl⟩:∃z M,zs=z::M:=by
    cases zs with
    | nil=>simp at h4;omega
    | cons z M=>exact ⟨z,M,rfl⟩
   obtain ⟨⟨tA,ah⟩,ad⟩:=Ob hv;obtain ⟨⟨tB,ai⟩,aj⟩:=Ob h3.blk;have ak:∀j,j<xs.length+1->(w.cell? ⟨g,0+j,none⟩).isSome=true:=λj X=>by
    have hl:j<(AZ xs++z::M).length:=by simp [AZ];omega
    rw [(Mp h3).at (i:=j) (iE hl)];rfl
   have U:=Any2.slices_Insert_int_shift Tryz.lays2n21 g 0 xs.length cap 0 V 0 1 1 (AZ xs) [.int .i64 x] w hn B9 Ab (by rw [FG] at h5;exact h5) (λe=>ae (by rw [e];rfl)) (by simp [AZ]) rfl ac ak (λj _=>aj _) aa (QF xs) ab
    tA tB 1 (AZ xs++z::M).length ah ai AN (ad _) (ad _)
   refine jE U ?_;rintro e w' ⟨rfl,rfl⟩;change PutR _ _ _ _ (.returned (.slice (some ⟨g,0,none⟩) (xs.length+1) cap)) ((w.drew.setCells g 1 (AZ xs)).setCells g 0 [jz .i64 x]);obtain ⟨a,G,hm,al⟩:∃a G,AZ xs++[z]=a::G/\G.length=(AZ xs).length:=by
    cases hq:AZ xs++[z] with
    | nil=>simp at hq
    | cons a G=>
     refine ⟨a,G,rfl,?_⟩;have h8:=congrArg List.length hq;rw [iX,kn,iM] at h8;omega
   have t0:TB w.drew g ([a]++G++M) 3:=by
    have:=Po h3;rw [show AZ xs++z::M=(AZ xs++[z])++M by simp,hm] at this;simpa using this
   have t1:=Ee (AZ xs) [a] G M _ al.symm t0;have t2:=Ee [.int .i64 x] [] [a] (AZ xs++M) _ rfl (by simpa using t1);rw [show []++[jz .i64 x]++(AZ xs++M)=AZ (x::xs)++M by simp [AZ]] at t2;have hO:=OwnI.mk (B:=B) h2 t2 (by simp at h4 ⊢;omega);rw [O,show xs.length+1+M.length=cap by simp at h4;omega] at hO;have hF:Fr (λk=>k=g) w ((w.drew.setCells g 1 (AZ xs)).setCells g 0 [jz .i64 x]):=(mG (Ne w).drew).trans ((Ef _ _ _ _).trans (Ef _ _ _ _));exact ⟨some ⟨g,0,none⟩,cap,by rw [O],by rw [O];exact hO,λk hk=>iG hk,hF.weaken λb hb=>by subst hb;rfl⟩
def Oc (xs:List Int) (hx:xs.length<=1000000) (i:Nat) (M:i<xs.length) (B:Nat) (v:Value) (w:wD) (h:OwnI w B v xs) :
 Calls prog 246 #[v,.int .i64 i,.int .i64 ((i:Int)+1)] w (PutR v (xs.eraseIdx i) B w):=by
 rcases h.open with ⟨rfl,rfl⟩|⟨g,cap,zs,rfl,Y,N,h4,U⟩
 . simp at M
 have Z:Sort.Holds (jz .i64) w g 0 xs.toArray:=λj G=>by
  have G:j<xs.length:=by simpa using G
  refine ⟨?_,N.blk.free⟩;have:=(Mp N).at (i:=j) (v:=.int .i64 xs[j]) (by rw [iN (by simpa [AZ] using G)];simp [AZ,iE G]);rw [this];simp [G]
 have O:=Any.slices_Delete_int Tryz.lays2n23 g 0 cap i (i+1) xs w Z Ab (by rw [FG] at U;exact U) Ab Ab;refine jE O ?_;rintro e w' ⟨rfl,q,rfl⟩;have ee:xs.take i++xs.drop (i+1)++jn (i+1-i) 0=xs.eraseIdx i++[0]:=by
  rw [show i+1-i=1 by omega,List.eraseIdx_eq_take_drop_succ];simp
 rw [ee];have hl:(xs.eraseIdx i++[0]).length=xs.length:=by
  rw [iX,List.length_eraseIdx_of_lt M,kn];omega
 obtain ⟨V,f1⟩:=Vh (n:=0) (N.ext (Oa w q)) hl;rw [Ht,jk] at V;have e2:(xs.eraseIdx i).length=xs.length-(i+1-i):=by rw [List.length_eraseIdx_of_lt M];omega
 have X:=OwnI.mk (B:=B) Y V (by simp [AZ];omega);have e3:(xs.eraseIdx i).length+(AZ [0]++zs).length=cap:=by simp [AZ];omega
 rw [e3] at X;refine ⟨some ⟨g,0,none⟩,cap,by rw [e2],X,λk hk=>iG hk,?_⟩;exact ((mG (Oa w q)).trans f1).weaken λb hb=>by subst hb;rfl
def Mr (xs ys:List Int) (hx:xs.length<=1000000) (hy:ys.length<=1000000) (a N:oA) (c O:Nat) (w:wD) (h:IntsAt w xs a) (Z:IntsAt w ys N) :
 Calls prog 124 #[.slice a xs.length c,.slice N ys.length O] w λe w'=>e = .returned (.bool (decide (xs=ys)))/\Ext w w':=by
 by_cases G:xs=[]
 . subst G;have U:=Any.slices_Equal_int_empty Tryz.laysn111 a N c ys.length O w Ab;refine jE U ?_;rintro e w' ⟨rfl,rfl⟩;refine ⟨?_,Ne _⟩;cases ys<;>simp
 . by_cases M:ys=[]
   . subst M;have X:=Ne w;have hn:(xs.length:Int)≠0:=by
      cases xs with
      | nil=>exact absurd rfl G
      | cons z r=>simp;omega
     have ed:decide (xs=([]:List Int))=false:=decide_eq_false G;rw [ed];refine Ad func124 ntmps124 rfl rfl (kR ?_);exact ⟨rfl,X⟩
   . obtain ⟨b,o,rfl,hr⟩:=h.get G;obtain ⟨b',o',rfl,V⟩:=Z.get M;have U:=Any.slices_Equal_int Tryz.laysn111 b o xs.length c b' o' ys.length O xs ys w (iW _) (iW _) Ab Ab (λj Y=>hr.at (i:=j) (v:=.int .i64 (xs.getD j 0)) (by simp [AZ,jl,iE Y,iK]))
      (λj Y=>V.at (i:=j) (v:=.int .i64 (ys.getD j 0)) (by simp [AZ,jl,iE Y,iK]))
     refine jE U ?_;rintro e w' ⟨rfl,q,rfl⟩;rw [iZ,iZ];exact ⟨by rw [FW],Vg w q⟩
structure SV where
 cells:List (List Int)
 tin:List Int
 tout:List Int
def bE (S:nP) (w:wD) (b o:Nat) (xs:List Int):Prop:= ∃a c,Row w ⟨b,o,none⟩ [.slice a xs.length c]/\Rows S w (AZ xs) a
def ICs (S:nP) (w:wD) (l:List (List Int)) (a:oA):Prop:=Arr S 1 (bE S) w l a
abbrev SV.row (s:SV) (a:oA) (c:Nat) (ta:oA) (tc:Nat) (oa:oA) (oc:Nat):lV:=[.slice a s.cells.length c,.slice ta s.tin.length tc,.slice oa s.tout.length oc]
structure SV.sits (S:nP) (w:wD) (s:SV) (a ta oa:oA):Prop where
 cells:ICs S w s.cells a
 tin:Rows S w (AZ s.tin) ta
 tout:Rows S w (AZ s.tout) oa
section
variable {S' T:nP} {l:List (List Int)} {ta oa:oA} {s:SV}
def ICs.ext (h:ICs S w l a) (x:Ext w w'):ICs S w' l a:=h.mono aFh (λ_ _ _ _ _ ⟨a,c,h1,h2⟩=>⟨a,c,h1.ext x,h2.ext x⟩)
instance  : LfE w w' (ICs S w l a) (ICs S w' l a):=⟨λx h=>Bk.ICs.ext h x⟩
def ICs.fr (h:ICs S w l a) (x:Fr T w w') (G:∀b,S b -> ¬T b):ICs S w' l a:=h.mono aFh (λb _ _ _ M ⟨a,c,h1,h2⟩=>⟨a,c,h1.fr x (G b M),h2.fr x G⟩)
instance  : LfF T w w' (ICs S w l a) (∀b,S b -> ¬T b) (ICs S w' l a):=⟨λx s h=>Bk.ICs.fr h x s⟩
def ICs.wide (h:ICs S w l a) (G:∀b,S b->S' b):ICs S' w l a:=h.mono G (λ_ _ _ _ _ ⟨a,c,h1,h2⟩=>⟨a,c,h1,h2.wide G⟩)
def ICs.ltA (h:ICs S w l a):ICs (· < w.heap.size) w l a:=by
 rcases h with h|⟨b,o,N,V,M⟩
 . exact iG h
 . cases l with
   | nil=>exact iG rfl
   | cons v r=>
    refine iH ⟨b,o,N,?_,λi x O=>?_⟩
    . obtain ⟨a,c,G,-⟩:=M 0 v rfl;exact Cs (mO G rfl)
    . obtain ⟨a,c,G,U⟩:=M i x O;exact ⟨a,c,G,U.ltA⟩
def ICs.get (h:ICs S w l a) (G:l≠[]):∃b o,a=some ⟨b,o,none⟩/\S b /\ ∀i x,l[i]? = some x->bE S w b (o+i*1) x:=by
 rcases h with h|⟨b,o,M,N,O⟩
 . exact absurd h G
 . exact ⟨b,o,M,N,λi v U=>O i v U⟩
def SV.sits.ext (h:s.sits S w a ta oa) (x:Ext w w'):s.sits S w' a ta oa:=⟨h.cells.ext x,h.tin.ext x,h.tout.ext x⟩
instance  : LfE w w' (s.sits S w a ta oa) (s.sits S w' a ta oa):=⟨λx h=>Bk.SV.sits.ext h x⟩
def SV.sits.fr (h:s.sits S w a ta oa) (x:Fr T w w') (G:∀b,S b -> ¬T b):s.sits S w' a ta oa:=⟨h.cells.fr x G,h.tin.fr x G,h.tout.fr x G⟩
instance  : LfF T w w' (s.sits S w a ta oa) (∀b,S b -> ¬T b) (s.sits S w' a ta oa):=⟨λx s h=>Bk.SV.sits.fr h x s⟩
def SV.sits.wide (h:s.sits S w a ta oa) (G:∀b,S b->S' b):s.sits S' w a ta oa:=⟨h.cells.wide G,h.tin.wide G,h.tout.wide G⟩
def SV.sits.ltA (h:s.sits S w a ta oa):s.sits (· < w.heap.size) w a ta oa:=⟨h.cells.ltA,h.tin.ltA,h.tout.ltA⟩
end
def IL (v:VD):Prop:=((v.kind=1\/v.kind=3)/\v.len=0)\/(v.kind=2/\1<=v.len/\v.len<=16)
def C5 (l:List VD):Prop:=l.length<=32 /\ ∀v∈l,IL v
def CV (v:VD):Int:=if v.kind=1 then 1 else v.len
def Ms (v:VD) (xs:List Int):Prop:=if v.kind=3 then xs.length<=1000 else (xs.length:Int)=CV v
def FitsP (l:List VD) (s:SV):Prop:=C5 l/\s.cells.length=l.length/\s.tin.length<=4096/\s.tout.length<=4096 /\ ∀(i:Nat) (v:VD) (xs:List Int),l[i]? = some v->s.cells[i]? = some xs->Ms v xs
def Pp (l:List VD) (hl:l.length<=1000000) (S:nP) (a:oA) (c:Nat) (w:wD) (N:VDs S w l a) :
 Calls prog 152 #[.slice a l.length c] w λe w'=> ∃q,e = .returned (.bool q)/\(q=true↔C5 l)/\Ext w w':=by
 have X:=Ne w;refine Ad func152 ntmps152 rfl rfl ?_;by_cases V:l.length<=32
 . refine cS (C1 Pa (cT (Aj (cS (C1 Mv (C1 Pz (C1 V5 (cT (DA (Ao (Ai ?_)))))))))));refine Aj (cS (C1 Mv (C1 Pz (C1 Mv (cT ?_)))));refine Au ?_;refine AP (ι:=Nat) (λj=>[(2,.bool false),(8,.slice a l.length c),(9,.int .i64 l.length),(10,.int .i64 j)])
    (λj w'=>j<=l.length/\(∀v∈l.take j,IL v)/\VDs S w' l a/\Ext w w') (λj=>l.length-j) 0 sB ⟨iT _,AN,N,X⟩ ?_
   rintro j w1 ⟨hj,O,N,X⟩;by_cases U:j<l.length
   . obtain ⟨kb,ko,rfl,kS,hk⟩:=m5 N Ab;have rx:=hk j _ (iE U);have G:¬IL l[j] -> ¬C5 l:=λh h2=>h (h2.2 _ (iS U))
     have M:IL l[j] -> ∀v∈l.take (j+1),IL v:=λh v hv=>by
      rw [iI U,jD,i8] at hv;rcases hv with hv|rfl
      . exact O v hv
      . exact h
     generalize l[j]=x at *;obtain ⟨xn,xk,xl⟩:=x;replace rx:Row w1 ⟨kb,ko+j*3,none⟩ [str xn,.int .u8 xk,.int .i64 xl]:=rx;simp only [IL] at G M
     focus
      refine eK ?_;refine xA [_,_,_] ?_;intro ah ai ae;refine eI [_,_,_] ae ?_;intro aj ak af _ _;revert X N;refine eE af ?_;intro X N;refine eK ?_;refine Az rfl (λag=>?_) (λag=>?_);refine eK ?_;refine BT rfl (λY=>?_) (λY=>?_);refine kR ?_;rotate_left;refine Ao (Ah (Ah (Ai (Al (C1 V7 (C1 Mv (Ak ?_)))))));rotate_left;refine eK ?_;refine Az rfl (λZ=>?_) (λZ=>?_);refine eK ?_;refine BT rfl (λaa=>?_) (λaa=>?_);refine kR ?_;rotate_left;refine Ao (Ah (Ah (Ai (Al (C1 V7 (C1 Mv (Ak ?_)))))));rotate_left;refine eK ?_;refine Az rfl (λab=>?_) (λab=>?_);refine eK ?_;refine B8 rfl rfl rfl (λac=>?_) (λac=>?_);refine kR ?_;rotate_left;refine eK ?_;refine Az rfl (λad=>?_) (λad=>?_);refine kR ?_;rotate_left;refine Ao (Ah (Ah (Ai (Al (C1 V7 (C1 Mv (Ak ?_)))))));rotate_left;refine kR ?_;rotate_left
     . exact ⟨false,rfl,⟨λh=>(by cases h),λh=>absurd h (G Ab)⟩,X⟩
     . exact AA (j+1) sB ⟨Ab,M Ab,N,X⟩ Ab
     . exact ⟨false,rfl,⟨λh=>(by cases h),λh=>absurd h (G Ab)⟩,X⟩
     . exact AA (j+1) sB ⟨Ab,M Ab,N,X⟩ Ab
     . exact ⟨false,rfl,⟨λh=>(by cases h),λh=>absurd h (G Ab)⟩,X⟩
     . exact ⟨false,rfl,⟨λh=>(by cases h),λh=>absurd h (G Ab)⟩,X⟩
     . exact AA (j+1) sB ⟨Ab,M Ab,N,X⟩ Ab
     . exact ⟨false,rfl,⟨λh=>(by cases h),λh=>absurd h (G Ab)⟩,X⟩
   . obtain rfl:j=l.length:=by omega
     rw [iZ] at O;refine kR ?_;exact ⟨true,rfl,⟨λ_=>⟨V,O⟩,λ_=>rfl⟩,X⟩
 . refine kR ?_;exact ⟨false,rfl,⟨λh=>(by cases h),λh=>absurd h.1 V⟩,X⟩
def T1 (v:VD) (w:wD):Calls prog 153 #[v.val] w λe w'=>e = .returned (.int .i64 (CV v))/\Ext w w':=by
 have X:=Ne w;obtain ⟨O,G,U⟩:=v;unfold CV;by_cases M:G=1
 . subst M;refine Ad func153 ntmps153 rfl rfl (cS (Du [_,_,_] rfl rfl rfl ?_));intro b1 w2 N;have V:=N.blk;dsimp only at V;have Y:=N.ext;have X:=X.ext Y;refine kR ?_;exact ⟨rfl,X⟩
 . change Calls prog _ #[.agg #[str O,.int .u8 G,.int .i64 U]] w _;simp only [At M];refine Ad func153 ntmps153 rfl rfl (cS (eB [_,_,_] ?_));intro Z aa ab h _ _;have X:=X.ext h;refine kR ?_;exact ⟨rfl,X⟩
def cM (l:List VD) (hl:l.length<=1000000) (s:SV) (S:nP) (a ca ta oa:oA) (c cc tc oc:Nat) (w:wD) (hn:s.cells.length<=1000000) (G:VDs S w l a) (hv:s.sits S w ca ta oa) :
 Calls prog 156 #[.slice a l.length c,.agg (s.row ca cc ta tc oa oc).toArray] w λe w'=> ∃q,e = .returned (.bool q)/\(q=true↔FitsP l s)/\Ext w w':=by
 have X:=Ne w;replace G:VDs (· < w.heap.size) w l a:=G.lt2.wide λ_ h=>h.2
 have hv:=hv.ltA;have HV:=iF (λw1 h=>Pp l hl (· < w.heap.size) a c w1 h);obtain ⟨cells,tin,tout⟩:=s;obtain ⟨M,-,-⟩:=hv;simp only at M hn;change Calls prog _ #[_,.agg #[.slice ca cells.length cc,.slice ta tin.length tc,.slice oa tout.length oc]] w _;have hf:¬FitsP l ⟨cells,tin,tout⟩ -> ∀w',Ext w w' -> ∃q,Ending.returned (.bool false) = .returned (.bool q)/\(q=true↔FitsP l ⟨cells,tin,tout⟩)/\Ext w w':=λh w' x=>⟨false,rfl,⟨λh=>(by cases h),λU=>absurd U h⟩,x⟩
 by_cases e1:C5 l
 . have V:Hid (∀w1,VDs (· < w.heap.size) w1 l a->Calls prog 152 #[.slice a l.length c] w1 λe w'=>e = .returned (.bool true)/\Ext w1 w'):=iF λw1 h=>(HV.out w1 h).mono λe w' ⟨q,h1,U,h3⟩=>⟨by rw [h1,U.2 e1],h3⟩
   clear HV;by_cases e2:cells.length=l.length
   . by_cases e3:tin.length<=4096
     . by_cases e4:tout.length<=4096
       . refine Ad func156 ntmps156 rfl rfl ?_;refine cS (eB [_,_,_] ?_);intro b1 w2 N x5 p6 z7;revert X G M;refine eE x5 ?_;intro X G M;refine kC (V.out _ Ae) ?_;rintro _ w9 ⟨⟨⟩,x8⟩;revert N X G M;refine eY x8 ?_;intro bc N X G M;refine C1 Pt (C1 Mv (Bn rfl rfl rfl (rfl) (C1 Pg (Bn rfl rfl rfl (rfl) (C1 (Pl N) (Bn rfl rfl rfl (rfl) (C1 Pz (Bn rfl rfl rfl (rfl) (C1 Mv (Bn rfl rfl rfl (rfl) (C1 Pz ?_)))))))))));refine Bn rfl rfl rfl (rfl) (C1 V2 (C1 (BZ rfl rfl rfl) (C1 Mv (EG (C1 Pf (EG (C1 (Pl N) (EG (C1 Pz (EG (C1 V5 ?_)))))))))));refine C1 N2 (C1 Mv (EG (C1 Pf (EG (C1 (Pl N) (EG (C1 Pz (EG (C1 V5 (C1 N2 (cT ?_)))))))))));refine DA (Ao (Ai (Aj (cS (C1 Mv (C1 Pz (C1 Mv (cT ?_))))))));refine Au ?_;refine AP (ι:=Nat) (λj=>[(3,pt b1),(4,.bool false),(30,.slice a l.length c),(31,.int .i64 l.length),(32,.int .i64 j)])
          (λj w'=>j<=l.length/\(∀(i:Nat) (v:VD) (xs:List Int),i<j->l[i]? = some v->cells[i]? = some xs->Ms v xs)/\Blk w' b1 [.slice ca cells.length cc,.slice ta tin.length tc,.slice oa tout.length oc]/\VDs (· < w.heap.size) w' l a/\ICs (· < w.heap.size) w' cells ca/\Ext w w'/\b1+1<=w'.heap.size) (λj=>l.length-j) 0 sB ⟨iT _,λi v xs h=>by omega,N,G,M,X,Ab⟩ ?_
         clear N G M X;rintro j w1 ⟨hj,ac,N,G,M,X,hz⟩;by_cases ad:j<l.length
         . obtain ⟨kb,ko,rfl,kS,hk⟩:=m5 G Ab;obtain ⟨db,bd,rfl,dS,hd⟩:=M.get (by intro e;rw [e] at e2;simp at e2;omega);have rx:=hk j _ (iE ad);obtain ⟨xa,xc,ry,-⟩:=hd j _ (iE Ab);have Y:¬Ms l[j] cells[j] -> ¬FitsP l ⟨cells,tin,tout⟩:=λh U=>h (U.2.2.2.2 j _ _ (iE ad) (iE (show j<cells.length by omega)))
           have Z:Ms l[j] cells[j] -> ∀(i:Nat) (v:VD) (xs:List Int),i<j+1->l[i]? = some v->cells[i]? = some xs->Ms v xs:=λh i v xs hi h1 U=>by
            by_cases e:i=j
            . subst e;rw [iE ad] at h1;rw [iE Ab] at U;rw [<-iQ h1,<-iQ U];exact h
            . exact ac i v xs Ab h1 U
           have HX:=iF (λw1=>T1 l[j] w1);clear hk hd ac;generalize l[j]=x at *;generalize cells[j]=xs at *;obtain ⟨xn,xk,xl⟩:=x;replace rx:Row w1 ⟨kb,ko+j*3,none⟩ [str xn,.int .u8 xk,.int .i64 xl]:=rx;unfold VD.val at HX;unfold Ms at Y Z;dsimp only at Y Z HX;by_cases ae:xk=3
           . rw [AG ae] at Y Z
             focus
              refine eK ?_;refine eA [_,_,_] ?_;intro be bf ar au bg bh;revert X G N M ry;refine eE au ?_;intro X G N M ry;refine C1 Pa (eS [_,_,_] ar ?_);intro bi a5 af a6;revert X G N M ry;refine eF af ?_;intro X G N M ry;refine eK ?_;refine Az rfl (λag=>?_) (λag=>?_);refine kR ?_;rotate_left;refine Ao (Ah (Ai (Al (C1 V7 (C1 Mv (Ak ?_))))));rotate_left
             . exact hf (Y Ab) _ X
             . exact AA (j+1) sB ⟨Ab,Z Ab,N,G,M,X,Ab⟩ Ab
           . rw [At ae] at Y Z
             focus
              refine eK ?_;refine eA [_,_,_] ?_;intro bj bk av aw bl bm;revert X G N M ry;refine eE aw ?_;intro X G N M ry;refine C1 Pa (eS [_,_,_] av ?_);intro ah ai aj a7;revert X G N M ry;refine eF aj ?_;intro X G N M ry;refine eK ?_;refine Aq (λwz=>Ext ah wz) 8 (.pure 0 (.pure 1 (.pure 2 (.pure 3 (.pure 4 (.pure 5 (.pure 6 (.fork 7 .tail .none)))))))) mixed AU (Aa (Af (Aa (Aa (Af (Aa Ag)))))) ?_;intro ak ab _;have O:(λwz=>Ext ah wz) ak:=ab;simp only at O;have aa:=ai;have a8:=N;have al:=ry;revert X G N M;refine eY ab ?_;intro a9 X G N M;refine ⟨O,?_⟩;refine eT ?_;refine Tq rfl (Ap Ac rfl rfl rfl (λwz hz=>mO (mJ al hz) rfl)) (Tq rfl Pz (Tq rfl (xL [_,_,_] (λwz hz=>(mN aa hz))) ?_));refine tC rfl rfl (HX.out _) ?_;rintro _ ba ⟨⟨⟩,am⟩;revert O X G N M;refine eY am ?_;intro bb O X G N M;refine ⟨O,?_⟩;refine Ar rfl ?_;refine eK ?_;refine BT rfl (λan=>?_) (λan=>?_);refine kR ?_;rotate_left;refine Ao (Ah (Ai (Al (C1 V7 (C1 Mv (Ak ?_))))));rotate_left
             . exact hf (Y Ab) _ X
             . exact AA (j+1) sB ⟨Ab,Z Ab,N,G,M,X,Ab⟩ Ab
         . obtain rfl:j=l.length:=by omega
           refine kR ?_;exact ⟨true,rfl,⟨λ_=>⟨e1,e2,e3,e4,λi v xs h1 U=>ac i v xs (by have:=List.getElem?_eq_some_iff.1 h1;exact this.1) h1 U⟩,λ_=>rfl⟩,X⟩
       . refine Ad func156 ntmps156 rfl rfl ?_;refine cS (eB [_,_,_] ?_);intro bn bo ao ax _ _;revert X G;refine eE ax ?_;intro X G;refine kC (V.out _ Ae) ?_;rintro _ bp ⟨⟨⟩,ay⟩;revert ao X;refine eE ay ?_;intro ao X;refine kR ?_;exact hf (λh=>e4 h.2.2.2.1) _ X
     . refine Ad func156 ntmps156 rfl rfl ?_;refine cS (eB [_,_,_] ?_);intro bq br ap az _ _;revert X G;refine eE az ?_;intro X G;refine kC (V.out _ Ae) ?_;rintro _ bs ⟨⟨⟩,a0⟩;revert ap X;refine eE a0 ?_;intro ap X;refine kR ?_;exact hf (λh=>e3 h.2.2.1) _ X
   . refine Ad func156 ntmps156 rfl rfl ?_;refine cS (eB [_,_,_] ?_);intro bt bu aq a1 _ _;revert X G;refine eE a1 ?_;intro X G;refine kC (V.out _ Ae) ?_;rintro _ bv ⟨⟨⟩,a2⟩;revert aq X;refine eE a2 ?_;intro aq X;refine kR ?_;exact hf (λh=>e2 h.2.1) _ X
 . have V:Hid (∀w1,VDs (· < w.heap.size) w1 l a->Calls prog 152 #[.slice a l.length c] w1 λe w'=>e = .returned (.bool false)/\Ext w1 w'):=iF λw1 h=>(HV.out w1 h).mono λe w' ⟨q,h1,U,h3⟩=>⟨by rw [h1,show q=false by cases q with|false=>rfl|true=>exact absurd (U.1 rfl) e1],h3⟩
   clear HV;refine Ad func156 ntmps156 rfl rfl ?_;refine cS (eB [_,_,_] ?_);intro bw bx _ a3 _ _;revert X G;refine eE a3 ?_;intro X G;refine kC (V.out _ Ae) ?_;rintro _ bz ⟨⟨⟩,a4⟩;have X:=X.ext a4;refine kR ?_;exact hf (λh=>e1 h.1) _ X
structure BoxV where
 v:Int
 l:Int
 i:Int
 deriving DecidableEq
def BoxV.ok (b:BoxV):Prop:=(0<=b.v/\b.v<=1000)/\(0<=b.l/\b.l<=1000)/\0<=b.i/\b.i<=1000
instance (b:BoxV):Decidable b.ok:=by unfold BoxV.ok;infer_instance
instance (v:VD):Decidable (IL v):=by unfold IL;infer_instance
instance (l:List VD):Decidable (C5 l):=by unfold C5;infer_instance
def JX (b:BoxV) (v:VD):Int×Int:=if v.kind=3 then (0,b.l) else (CV v,CV v)
def CY (vs:List VD) (b:BoxV):List (Int×Int):=vs.map (JX b)++[(0,b.i)]
def FZ (x y:Int):Int:=if 1099511627776/y<x then 1099511627777 else x*y
def Mt (least y:Int):Nat->Int×Int
 | 0=>(0,1)
 | n+1=>(if least<=n then min ((Mt least y n).1+(Mt least y n).2) 1099511627777 else (Mt least y n).1,FZ (Mt least y n).2 y)
def Mu (p:Int×Int) (y:Int):Int:=(Mt p.1 y (p.2+1).toNat).1
def DL (l:List (Int×Int)) (y:Int):Int:=l.foldl (λs p=>FZ s (Mu p y)) 1
def Hu (vs:List VD) (b:BoxV):Int×Int:=
 if b.ok/\C5 vs then (if 1099511627776<DL (CY vs b) (2*b.v+1) then (0,5) else (DL (CY vs b) (2*b.v+1),0)) else (0,1)
def Pq {x:Int} (G:1<=x) (M:x<=1099511627777) (N:1<=k):1<=FZ x k/\FZ x k<=1099511627777:=by
 unfold FZ;split
 . omega
 . rename_i h;have O:x<=1099511627776/k:=by omega
   have U:x*k<=1099511627776/k*k:=Int.mul_le_mul_of_nonneg_right O Ab;have V:=Int.ediv_mul_le 1099511627776 (b:=k) Ab;have X:1*1<=x*k:=Int.mul_le_mul G N Ab Ab;omega
def Pr (G y:Int) (M:1<=y):∀n,1<=(Mt G y n).2/\(Mt G y n).2<=1099511627777
 | 0=>by simp [Mt]
 | n+1=>by
  have h:=Pr G y M n;simp only [Mt];exact Pq h.1 h.2 M
def Ps (G y:Int) (M:1<=y):∀n:Nat,0<=(Mt G y n).1/\(Mt G y n).1<=1099511627777/\(G<(n:Int)->1<=(Mt G y n).1\/G<0/\n=0)
 | 0=>by simp [Mt]
 | n+1=>by
  have h:=Ps G y M n;have N:=Pr G y M n;simp only [Mt];split
  . refine ⟨Ab,Ab,λ_=>iG Ab⟩
  . exact ⟨h.1,h.2.1,λO=>by omega⟩
def WV {p:Int×Int} (G:1<=k) (M:0<=p.1) (N:p.1<=p.2):1<=Mu p k/\Mu p k<=1099511627777:=by
 have h:=Ps p.1 k G (p.2+1).toNat;unfold Mu;refine ⟨?_,h.2.1⟩;rcases h.2.2 Ab with h|h
 . exact h
 . omega
def Od:∀(l:List (Int×Int)) (s y:Int),1<=y->(∀p∈l,0<=p.1/\p.1<=p.2)->1<=s->s<=1099511627777->1<=l.foldl (λs p=>FZ s (Mu p y)) s/\l.foldl (λs p=>FZ s (Mu p y)) s<=1099511627777
 | [],s,y,_,_,G,M=>⟨G,M⟩
 | p::l,s,y,N,O,G,M=>by
  have U:=O p AN;have h:=Pq G M (WV N U.1 U.2).1;exact Od l _ y N (λq V=>O q (by simp [V])) h.1 h.2
def WW {b:BoxV} (h:b.ok) {v:VD} (G:IL v):0<=(JX b v).1/\(JX b v).1<=(JX b v).2/\(JX b v).2<=1000:=by
 unfold JX;obtain ⟨-,M,-⟩:=h;split
 . simp only;omega
 . rename_i N;unfold CV;unfold IL at G;split<;>omega
def Pu {b:BoxV} (M:b.ok) (O:C5 vs):∀p∈CY vs b,0<=p.1/\p.1<=p.2/\p.2<=1000:=by
 intro p G;unfold CY at G;rw [jD,List.mem_map,i8] at G;rcases G with ⟨v,h,rfl⟩|rfl
 . exact WW M (O.2 v h)
 . obtain ⟨-,-,N⟩:=M;exact ⟨AN,N.1,N.2⟩
def KL (vs:List VD) (b:BoxV):(CY vs b).length=vs.length+1:=by simp [CY]
def Lk:∀(us p q r:lV),us.length=q.length->A8 (p++q++r) p.length us=p++us++r
 | [],p,[],r,_=>by simp [A8]
 | u::us,p,v::q,r,h=>by
  simp only [iM,Nat.add_right_cancel_iff] at h;have e:(p++v::q++r).set p.length u=(p++[u])++q++r:=by
   rw [jk,kp,lj _ _ (iW _),kf,lT];simp
  rw [A8,e];have:=Lk us (p++[u]) q r h;rw [iX,iM,ji,jC] at this;rw [this];simp
def FH {G:List lV} {j:Nat} (h:∀cs∈G,cs.length=n) (O:j<G.length):G.flatten=(G.take j).flatten++G[j]++(G.drop (j+1)).flatten/\(G.take j).flatten.length=j*n:=by
 constructor
 . have N:=(jA j G).symm;rw [jd O] at N;refine (congrArg List.flatten N).trans ?_;rw [lz,kJ,jk]
 . rw [Em (λcs M=>h cs (jY M)),jp];congr 1;omega
def SI {G:List lV} {j:Nat} {us:lV} (h:∀cs∈G,cs.length=n) (M:j<G.length) (U:us.length=n):A8 G.flatten (j*n) us=(G.set j us).flatten:=by
 obtain ⟨N,O⟩:=FH h M;have V:G[j].length=n:=h _ (iS M);rw [N,<-O,Lk us _ _ _ Ab];have e:G.set j us=G.take j++us::G.drop (j+1):=by rw [List.set_eq_take_append_cons_drop,AG M]
 rw [e,lz,kJ,jk]
structure ArrS {α:Type} (sh:Shape α) (C D:Nat) (w:wD) (g:Nat) (xs:List α):Prop where
 ex:∃css:List lV,Blk w g css.flatten/\css.length=xs.length /\ ∀(i:Nat) (x:α) (cs:lV),xs[i]? = some x->css[i]? = some cs->sh.rep w (λb=>C<=b/\b<D) x cs
section
variable {sh:Shape α} {C D g:Nat} {xs:List α}
def ArrS.lt (h:ArrS sh C D w g xs):g<w.heap.size:=by
 obtain ⟨G,M,-⟩:=h.ex;exact M.lt
def ArrS.fr {T:nP} (h:ArrS sh C D w g xs) (x:Fr T w w') (N:∀k,T k->(k<C\/D<=k)/\k≠g):ArrS sh C D w' g xs:=by
 obtain ⟨G,O,U,V⟩:=h.ex;exact ⟨G,O.fr x (λM=>(N g M).2 rfl),U,λi y cs X Y=>sh.mono (V i y cs X Y) aFh (λb o u hb Z=>x.keep (λM=>by have:=(N b M).1;omega) Z)⟩
instance {T:nP}:LfF T w w' (ArrS sh C D w g xs) (∀k,T k->(k<C\/D<=k)/\k≠g) (ArrS sh C D w' g xs):=⟨λx s h=>Bk.ArrS.fr h x s⟩
def ArrS.ext (h:ArrS sh C D w g xs) (x:Ext w w'):ArrS sh C D w' g xs:=by
 obtain ⟨G,M,N,O⟩:=h.ex;exact ⟨G,M.ext x,N,λi y cs U V=>sh.mono (O i y cs U V) aFh (λb o u Y X=>x.keep X)⟩
instance  : LfE w w' (ArrS sh C D w g xs) (ArrS sh C D w' g xs):=⟨λx h=>Bk.ArrS.ext h x⟩
def ArrS.wide (h:ArrS sh C D w g xs) (Y:D<=B):ArrS sh C B w g xs:=by
 obtain ⟨G,N,O,U⟩:=h.ex;exact ⟨G,N,O,λi y cs V X=>sh.mono (U i y cs V X) (λ_ h=>⟨h.1,Ab⟩) (λ_ _ _ _ h=>h)⟩
def ArrS.lens (h:ArrS sh C D w g xs) {G:List lV} (U:G.length=xs.length) (N:∀(i:Nat) (x:α) (cs:lV),xs[i]? = some x->G[i]? = some cs->sh.rep w (λb=>C<=b/\b<D) x cs):∀cs∈G,cs.length=sh.sz:=λcs M=>by
 obtain ⟨k,O,rfl⟩:=List.mem_iff_getElem.1 M;exact sh.len (N k xs[k] G[k] (iE Ab) (iE O))
def ArrS.row (h:ArrS sh C D w g xs) {j:Nat} {x:α} (N:xs[j]? = some x):∃cs,Row w ⟨g,0+j*sh.sz,none⟩ cs/\sh.rep w (λb=>C<=b/\b<D) x cs:=by
 obtain ⟨G,X,Y,V⟩:=h.ex;have Z:j<xs.length:=by
  rcases i7 j xs.length with h|h
  . exact h
  . rw [iR h] at N;cases N
 have hc:G[j]? = some G[j]:=iE Ab;obtain ⟨e1,e2⟩:=FH (h.lens Y V) (show j<G.length by omega);refine ⟨G[j],λi v O=>?_,V j x _ N hc⟩;have U:i<G[j].length:=by
  rcases i7 i G[j].length with h|h
  . exact h
  . rw [iR h] at O;cases O
 have M:G.flatten[j*sh.sz+i]? = some v:=by
  rw [e1,jk,iY Ab,e2,lZ,iN U];exact O
 have:=X.cell M;have e:(⟨g,0+j*sh.sz,none⟩:Addr).add i=⟨g,j*sh.sz+i,none⟩:=by unfold ki;by_cases h0:i=0<;>simp [h0]
 rw [e];exact this
def ArrS.made {z:α} (M:Blk w g (jn n zs).flatten) (N:∀w S,sh.rep w S z zs):ArrS sh C D w g (jn n z):=by
 refine ⟨jn n zs,M,AN,λi x cs O U=>?_⟩;have h:=jh O;have G:=jh U;rw [List.mem_replicate] at h G;rw [h.2,G.2];exact N _ _
def T2 {j:Nat} {x:α} {us:lV} {w1:wD} {h:List lV} (Y:h.length=xs.length) (V:∀(i:Nat) (x:α) (cs:lV),xs[i]? = some x->h[i]? = some cs->sh.rep w (λb=>C<=b/\b<D) x cs) (Z:j<xs.length) (hg:g<C\/D<=g) (X:sh.rep w (λb=>C<=b/\b<D) x us) (O:Put w w1 g (A8 h.flatten (j*sh.sz) us)):ArrS sh C D w1 g (xs.set j x):=by
 have hl:∀cs∈h,cs.length=sh.sz:=λcs U=>by
  obtain ⟨k,hk,rfl⟩:=List.mem_iff_getElem.1 U;exact sh.len (V k xs[k] h[k] (iE Ab) (iE hk))
 rw [SI hl Ab (sh.len X)] at O;refine ⟨h.set j us,O.blk,by simp [Y],λi y cs M N=>?_⟩;have key:sh.rep w (λb=>C<=b/\b<D) y cs:=by
  by_cases G:i=j
  . subst G;rw [jS Z] at M;rw [jS Ab] at N;rw [<-iQ M,<-iQ N];exact X
  . rw [jy (λe=>G e.symm)] at M N;exact V i y cs M N
 exact sh.mono key aFh (λb o u hb hu=>O.fr.keep (λe=>by omega) hu)
end
section
variable {P:Program} {l:Sl} {tab:Tab} {zt:EA} {sh:Shape α}
def GV (K:wD->Prop):Option Value->wD->Prop
 | none,w=>K w
 | some _,_=>False
def Oe {zs:lV} {k:Nat} (h:zs.length=k):∀N:Nat,(jQ (N*k)).map (λi=>zs.toArray[i%k]!)=(jn N zs).flatten
 | 0=>by simp
 | N+1=>by
  rw [kH,Nat.one_mul,List.range_add,jJ,Oe h N,mg,lz];congr 1;simp only [kJ,List.flatten_nil,lE,List.map_map];apply lL
  . simp [h]
  . intro i G M;simp only [kz,mw] at G;simp only [lx,List.getElem_range,Function.comp];have:(N*k+i)%k=i:=by rw [Nat.mul_comm,Nat.mul_add_mod,Nat.mod_eq_of_lt G]
    rw [this];simp [M]
def BJ {K X:wD->Prop} (h:∀(_:Unit) w1,K w1->X w1):∀v w1,GV K v w1->X w1:=λv w1 G=>by
 cases v with
 | none=>exact h () w1 G
 | some v=>exact G.elim
def Dq {t e sz C D:Nat} {sE:Sk} {x y:Operand} {N:Nat} {z:α} (T:TabOk P tab) (Z:Ct P zt) (ht:AD tab t=some (.slice e,B)) (hE:AD tab e=some (sE,sz)) (hz:CS zt e=some zs) (hzl:zs.length=sz)
 (hby:Dt P e=true) (hx:ev l x=some (.int .i64 (N:Int))) (hy:ev l y=some (.int .i64 (N:Int))) (hN:N<=100000000000) (hz0:∀w S,sh.rep w S z zs) :
 BG P n l (.makeSlice t x y) ty w (Ge λo w'=> ∃g,o = .slice (some ⟨g,0,none⟩) N N/\ArrS sh C D w' g (jn N z)/\g=w.heap.size/\w'.heap.size=g+1/\Ext w w'):=by
 unfold BG;intro a dst pos after gd next Q ha hn _;obtain ⟨i,v0,z1,z2,z3⟩:=E8 Z hz;obtain ⟨i',hi',hs'⟩:=(T _ _ _ hE).info;rw [z1] at hi';obtain rfl:=iQ hi';have hbb:i.bytes<=1000:=by
  unfold Dt at hby;rw [z1] at hby;exact jc hby
 have hu:=(T _ _ _ ht).under;have b:(i.bytes:Int)*(N:Int)<=281474976710656:=by
  have:i.bytes*N<=1000*100000000000:=mC hbb hN;have h2:((i.bytes*N:Nat):Int)<=281474976710656:=by omega
  rwa [Int.natCast_mul] at h2
 have hr:=run_make (P:=P) w t e i v0 hu z1 z2 .i64 .i64 N N Ab (mh _) b Ab;simp only [Int.toNat_natCast] at hr;have e2:(execOp a.eval ⟨dst,.makeSlice t x y,ty,pos,after,gd⟩).run P w = .ok (.value (.slice (some ⟨w.heap.size,0,none⟩) N N)) (w.alloc (.cells (madeCells v0.cells (N*i.size)) e)):=by
  simp only [execOp,ha.ev hx,ha.ev hy,iV,hr,jV,je]
 have ecell:madeCells v0.cells (N*i.size)=(jn N zs).flatten.toArray:=by
  rw [z3];have hsz:zs.length=i.size:=by omega
  apply lS;simp only [madeCells,Array.toList_map,Array.toList_range,lW];rw [hsz];exact Oe hsz N
 unfold kh;rw [e2,ecell];have hnew:=EC w (jn N zs).flatten e;exact hn _ _ ⟨w.heap.size,rfl,.made hnew.blk hz0,rfl,hnew.size,hnew.ext⟩
def Ci {x y:Operand} {t sz C D g j:Nat} {s:Sk} {us:lV} {xs:List α} {z:α} (T:TabOk P tab) (ht:AD tab t=some (s,sz)) (hx:ev l x=some (.pointer (some ⟨g,0+j*sh.sz,none⟩))) (hy:ev l y=some v) (hv:v.cells=us.toArray) (hl:us.length=sz) (h1:us.all mW=true)
 (hA:ArrS sh C D w g xs) (hj:j<xs.length) (hg:g<C\/D<=g) (hr:sh.rep w (λb=>C<=b/\b<D) z us) :
 BG P n l (.store t x y) ty w (GV λw'=>ArrS sh C D w' g (xs.set j z)/\Fr (· = g) w w'/\w'.heap.size=w.heap.size):=by
 obtain ⟨css,c1,c2,c3⟩:=hA.ex;have hfl:=Em (hA.lens c2 c3);have hus:=sh.len hr;have hjs:j*sh.sz+sh.sz<=css.flatten.length:=by
  rw [hfl,c2,<-Nat.succ_mul];exact kq _ hj
 have hd:=D2 (P:=P) (n:=n) (l:=l) (ty:=ty) T ht hx hy hv hl h1 c1 (by rw [mq];omega);unfold BG at hd ⊢;intro a dst pos after gd next Q ha hn c;refine hd a dst pos after gd next Q ha (λv' w' h=>h.elim) (λw' hP=>c w' ?_);have hP':Put w w' g (A8 css.flatten (j*sh.sz) us):=by rw [show j*sh.sz=0+j*sh.sz by omega];exact hP
 exact ⟨T2 c2 c3 hj hg hr hP',hP'.fr,hP'.size⟩
def F0 {x y:Operand} {t sz C D g j:Nat} {s:Sk} {us:lV} {xs:List α} {z:α} (T:TabOk P tab) (h:AD tab t=some (s,sz)) (G:ev l x=some (.pointer (some ⟨g,0+j*sh.sz,none⟩))) (M:ev l y=some v) (N:v.cells=us.toArray) (O:us.length=sz) (U:us.all mW=true)
 (V:ArrS sh C D w g xs) (X:j<xs.length) (Y:g<C) (Z:D<=w.heap.size) (hr:sh.rep w (λb=>C<=b) z us) :
 BG P n l (.store t x y) ty w (GV λw'=>ArrS sh C w.heap.size w' g (xs.set j z)/\Fr (· = g) w w'/\w'.heap.size=w.heap.size):=
 Ci T h G M N O U (V.wide Z) X (iG Y) (sh.lt hr)
end
section
variable {P:Program} {l:Sl} {tab:Tab} {zt:EA}
end
def E2 {P:Program} {l:Sl} {Q:Exit->Act->wD->Prop} {x y:Code} {ι:Type} (L:ι->Sl) (I:ι->wD->Prop) (h:CW P n x (Exit.then (λa w=> ∃i,Env n (L i) a/\I i w) Q) l w) (k:∀i w,I i w->CW P n y Q (L i) w):CW P n (.seq x y) Q l w:=
 cB _ h (λa w ⟨i,he,hi⟩=>by have:=k i w hi;unfold CW at this;exact this a he)
def BQ {l:Sl} {Q:Exit->Act->wD->Prop} {ι:Type} {L:ι->Sl} {I:ι->wD->Prop} (i:ι) (G:TN (L i) l) (h:I i w):QW n (Exit.then (λa w=> ∃i,Env n (L i) a/\I i w) Q) .normal l w:=
 UC λ_ M=>⟨i,M.sub G,h⟩
mutual
def Mw {S:nP} {w:wD}:∀(l:List Nd) (a:oA),rowSits S w l a->rowSits (· < w.heap.size) w l a
 | [],_,_=>by simp [rowSits]
 | t::r,a,h=>by
  simp only [rowSits] at h ⊢;obtain ⟨b,o,a',c,rfl,hb,h0,h1,h2,h3,hs,hr⟩:=h;exact ⟨b,o,a',c,rfl,Cs h0,h0,h1,h2,h3,Y6 t a' hs,Mw r _ hr⟩
def Y6 {S:nP} {w:wD}:∀(t:Nd) (a:oA),t.sits S w a->t.sits (· < w.heap.size) w a
 | .mk _ _ _ l,a,h=>by
  simp only [nm] at h ⊢;exact Mw l a h
end
mutual
def Ll {S:nP} {w:wD}:∀(l:List Nd) (a:oA),rowSits S w l a->rowSits (λb=>S b/\b<w.heap.size) w l a
 | [],_,_=>by simp [rowSits]
 | t::r,a,h=>by
  simp only [rowSits] at h ⊢;obtain ⟨b,o,a',c,rfl,hb,h0,h1,h2,h3,hs,hr⟩:=h;exact ⟨b,o,a',c,rfl,⟨hb,Cs h0⟩,h0,h1,h2,h3,QH t a' hs,Ll r _ hr⟩
def QH {S:nP} {w:wD}:∀(t:Nd) (a:oA),t.sits S w a->t.sits (λb=>S b/\b<w.heap.size) w a
 | .mk _ _ _ l,a,h=>by
  simp only [nm] at h ⊢;exact Ll l a h
end
def Hv (k:Int) (w:wD) (h0:0<=k) (h1:k<=255):Calls prog 151 #[.int .u8 k] w λe w'=>e = .returned (.int .u8 (Bb k))/\w=w':=by
 refine Ad func151 ntmps151 rfl rfl ?_
 focus
  refine eK ?_;refine Az rfl (λG=>?_) (λG=>?_);refine kR ?_;rotate_left;refine eK ?_;refine Az rfl (λM=>?_) (λM=>?_);refine kR ?_;rotate_left;refine eK ?_;refine Az rfl (λN=>?_) (λN=>?_);refine kR ?_;rotate_left;refine eK ?_;refine Az rfl (λO=>?_) (λO=>?_);refine kR ?_;rotate_left;refine eK ?_;refine Az rfl (λU=>?_) (λU=>?_);refine kR ?_;rotate_left;refine eK ?_;refine Az rfl (λV=>?_) (λV=>?_);refine kR ?_;rotate_left;refine eK ?_;refine Az rfl (λX=>?_) (λX=>?_);refine kR ?_;rotate_left;refine eK ?_;refine Az rfl (λY=>?_) (λY=>?_);refine kR ?_;rotate_left;refine eK ?_;refine Az rfl (λZ=>?_) (λZ=>?_);refine kR ?_;rotate_left;refine eK ?_;refine Az rfl (λh=>?_) (λh=>?_);refine kR ?_;rotate_left;refine kR ?_;rotate_left
 all_goals (refine ⟨congrArg (λx=>Ending.returned (.int .u8 x)) ?_,rfl⟩;unfold Bb;(repeat' split)<;>omega)
def CopyR (u:Nd) (w:wD):Ending->wD->Prop:=λe w'=> ∃a c,e = .returned (u.val a c)/\u.sits (λb=>w.heap.size<=b/\b<w'.heap.size) w' a/\Ext w w'
def CopyR.ret {u:Nd} (h:CopyR u w e w'):∃v,e = .returned v:=by
 obtain ⟨_,_,h,-⟩:=h;exact ⟨_,h⟩
def CopyC (u:Nd) (w:wD):Ending->wD->Prop:=λe w'=> ∃a c,e = .returned (u.val a c)/\u.sits (λb=>w.heap.size<=b/\b<w'.heap.size) w' a/\Ext w w'/\u.kids.length<=c
def CopyC.ret {u:Nd} (h:CopyC u w e w'):∃v,e = .returned v:=by
 obtain ⟨_,_,h,-⟩:=h;exact ⟨_,h⟩
def CopyC.copy {u:Nd} (h:CopyC u w e w'):CopyR u w e w':=by
 obtain ⟨a,c,G,M,N,-⟩:=h;exact ⟨a,c,G,M,N⟩
def T3 {b e sz c:Nat} {cs:lV} (h:Own w b e sz (.slice a n c) n cs):n<=c:=by
 rcases h.2 with ⟨G,-⟩|⟨g',M,cur,G,-,-,N,-⟩
 . simp only [jm] at G;omega
 . simp only [jm] at G;obtain ⟨-,-,rfl⟩:=G;exact N
def EL {n:Int} (h:(Nd.mk k n s l).sits S w a):rowSits S w l a:=h
def Y7 (N:Nat):∀(t:Nd) (S:nP) (a:oA) (c:Nat) (w:wD),t.size<N->t.size<=1000000->t.sits S w a->Calls prog 59 #[t.val a c] w (CopyC t w):=by
 induction N with
 | zero=>intro t S a c w h;omega
 | succ N ih=>
  rintro ⟨k,n,s,l⟩ S a c w hN hM U;have aq:=Cz l;simp only [mR] at hN hM;have hC:∀x∈l,∀(S:nP) (a:oA) (c:Nat) (w:wD),x.sits S w a->Calls prog 59 #[x.val a c] w (CopyC x w):=λx hx S a c w h=>by
   have:=CP hx;exact ih x S a c w Ab Ab h
  have HC:=iF hC;have U:=Ch _ _ (EL U);have X:=Ne w;refine Ad func59 ntmps59 rfl rfl (cS (eB [_,_,_,_] ?_));intro b1 w2 h4 x5 p6 z7;revert U X;refine eE x5 ?_;intro U X;refine eA [_,_,_,_] ?_;intro b8 w9 aj ak a7 a8;revert h4 U X;refine eE ak ?_;intro h4 U X;refine eK ?_;refine AP (ι:=Nat×List Nd×oA×Nat) (λx=>[(1,pt b1),(2,pt b8),(3,.slice x.2.2.1 x.2.1.length x.2.2.2),(7,.slice a l.length c),(8,.int .i64 l.length),(9,.int .i64 x.1)])
   (λx w'=>OwnL ndShape w' (b8+1) 29 (.slice x.2.2.1 x.2.1.length x.2.2.2) x.2.1/\x.1<=l.length/\x.2.1=l.take x.1/\rowSits (· < w.heap.size) w' l a/\Blk w' b1 [.int .u8 k,.int .i64 n,str s,.slice a l.length c]/\Blk w' b8 [.int .u8 0,.int .i64 0,str [],.slice none 0 0]/\Ext w w'/\b8+1<=w'.heap.size)
   (λx=>l.length-x.1) (0,[],none,0) sB ⟨OwnL.nil,iT _,rfl,U,h4,aj,X,Ab⟩ ?_
  rintro ⟨j,xs,ra,rc⟩ w1 ⟨G,hj,Y,U,O,M,X,hg⟩;simp only at G hj Y U O M X hg;have al:∀g,(jf ra xs.length rc).ownBlock=some g->g<w1.heap.size:=λg h=>G.lt h
  have a9:xs.length<=l.length:=by rw [Y,jp];omega
  refine nq (m:=[(1,pt b1),(2,pt b8),(3,.slice ra xs.length rc),(7,.slice a l.length c),(8,.int .i64 l.length),(9,.int .i64 j)]) ?_ sB;by_cases Z:j<l.length
  . obtain ⟨kb,ko,rfl,kS,ad⟩:=BI U (by intro e;subst e;simp at Z);obtain ⟨xa,xc,rx,sx⟩:=ad j l[j] (iE Z);have HX:=iF (HC.out l[j] (iS Z));have ac:xs++[l[j]]=l.take (j+1):=by rw [Y,iI Z]
    generalize l[j]=x at *;refine eK ?_;refine xA [_,_,_,_] ?_;intro ba bb am;refine eI [_,_,_,_] am ?_;intro bc bd an be bf;revert G M X U O sx;refine eE an ?_;intro G M X U O sx;refine kQ (HX.out _ _ _ _ Ae) ?_;rintro _ ar ⟨bg,au,⟨⟩,aa,ae,av⟩;revert G M X U O;refine eY ae ?_;intro aw G M X U O;refine Aw (xS [_,_,_,_]) rfl ?_ aFh;rintro _ ax ⟨ay,rfl,V,az⟩;have a0:=V.blk;have af:=V.ext;have a1:=V.pos;have a2:=V.size;revert aa G M X U O;refine eE af ?_;intro aa G M X U O;refine SA (sh:=ndShape) (z:=x) Ac CC rfl rfl rfl rfl AU rfl rfl rfl G (mS Ae) ⟨_,_,rfl,mK Ae (λb h=>⟨Ab,λe=>by have:=al _ e;omega⟩)⟩ Ab Ab rfl ?_;rintro a3 ag a4 a5 ab;have a6:=ab.size;revert M X U O;refine eF ab ?_;intro M X U O;refine eK ?_;refine AA (j+1,xs++[x],some ⟨_,0,none⟩,_) sB ⟨Ae,by simp only;omega,ac,U,O,M,X,Ab⟩ Ab
  . obtain rfl:j=l.length:=by omega
    rw [iZ] at Y;subst Y;refine eK ?_;refine eV [_] [_,_,_,_] O ?_;intro bh bi ao _;revert G M X;refine eF ao ?_;intro G M X;refine eK ?_;refine eS [_,_,_,_] M ?_;intro bj ah ap _;revert G X;refine eF ap ?_;intro G X;refine kX ah ?_;have ai:=T3 G.ex.choose_spec.1;exact ⟨ra,rc,rfl,QH (Nd.mk k n s xs) ra (TX (G.sits (S:=λb=>w.heap.size<=b) (λb h=>by omega))),X,ai⟩
def T4 (t:Nd) (h:t.size<=1000000) (S:nP) (a:oA) (c:Nat) (w:wD) (G:t.sits S w a):Calls prog 59 #[t.val a c] w (CopyC t w):=Y7 (t.size+1) t S a c w Ab h G
def JY (t:Nd) (G:t.size<=1000000) (S:nP) (a:oA) (c:Nat) (w:wD) (M:t.sits S w a):Calls prog 59 #[t.val a c] w (CopyR t w):=jE (T4 t G S a c w M) (λ_ _ h=>h.copy)
def QI (xs ys:List Nd) (i:Nat):Prop:=ys.length=xs.length /\ ∀k,k<xs.length->ys[k]? = if k<i\/xs.length-i<=k then xs[xs.length-1-k]? else xs[k]?
def Y8 (xs:List Nd):QI xs xs 0:=⟨rfl,λk h=>by rw [At Ab]⟩
def Vi {xs ys:List Nd} {i:Nat} (h:QI xs ys i) (M:xs.length<=2*i+1):ys=xs.reverse:=by
 apply kw;intro k;by_cases G:k<xs.length
 . rw [h.2 k G,List.getElem?_reverse G];split
   . rfl
   . have:xs.length-1-k=k:=by omega
     rw [this]
 . rw [iR (by rw [h.1];omega),iR (by rw [List.length_reverse];omega)]
def SJ {xs ys:List Nd} {i:Nat} (h:QI xs ys i) (X:2*i+1<xs.length) {y:Nd} (G:ys[i]? = some x) (M:ys[xs.length-1-i]? = some y):QI xs ((ys.set i y).set (xs.length-1-i) x) (i+1):=by
 refine ⟨by simp [h.1],λk V=>?_⟩;have Y:=h.1;rw [h.2 i Ab,At Ab] at G;rw [h.2 (xs.length-1-i) Ab,At Ab] at M;by_cases N:k=xs.length-1-i
 . subst N;rw [jS (by simp [h.1];omega),AG Ab,show xs.length-1-(xs.length-1-i)=i by omega,G]
 . rw [jy (λe=>N e.symm)];by_cases O:k=i
   . subst O;rw [jS Ab,AG Ab,M]
   . rw [jy (λe=>O e.symm),h.2 k V];by_cases U:k<i\/xs.length-i<=k
     . rw [AG U,AG Ab]
     . rw [At U,At Ab]
def Vj (C D g cap:Nat) (xs:List Nd) (w:wD) (G:ArrS ndShape C D w g xs) (hg:g<C\/D<=g) (hl:xs.length<=1000000):Calls prog 150 #[.slice (some ⟨g,0,none⟩) xs.length cap] w λe w'=>e = .returned (.tuple #[])/\ArrS ndShape C D w' g xs.reverse/\Fr (· = g) w w':=by
 have X:=mI (· = g) w;by_cases hn:xs.length=0
 . have e0:xs=[]:=kv hn;subst e0;refine Ad func150 ntmps150 rfl rfl (eK ?_);refine C1 (AL rfl rfl (iO _ Ab)) (eK ?_);refine AP (ι:=Unit) (λ_=>[(2,.int .i64 0),(3,.int .i64 (-1))]) (λ_ w'=>ArrS ndShape C D w' g []/\Fr (· = g) w w') (λ_=>0) () sB ⟨G,X⟩ ?_;rintro _ w1 ⟨G,X⟩;refine Aj (cS (C1 Mv (C1 Mv (C1 V3 (cT (LT (Ca (AB (AB (A0 (Bm rfl ?_)))))))))));exact ⟨rfl,G,X⟩
 refine Ad func150 ntmps150 rfl rfl (eK ?_);refine C1 (AL rfl rfl (iO _ Ab)) (eK ?_);obtain ⟨m0,ad⟩:∃m:Nat,((xs.length:Int)-1)=(m:Int):=⟨xs.length-1,Ab⟩;rw [ad];refine AP (ι:=Nat×Nat×List Nd) (λx=>[(0,.slice (some ⟨g,0,none⟩) xs.length cap),(2,.int .i64 x.1),(3,.int .i64 x.2.1)]) (λx w'=>ArrS ndShape C D w' g x.2.2/\QI xs x.2.2 x.1/\x.1+x.2.1+1=xs.length/\Fr (· = g) w w') (λx=>x.2.1) (0,m0,xs) sB ⟨G,Y8 xs,by simp only;omega,X⟩ ?_;rintro ⟨i,m,ys⟩ w1 ⟨G,hR,hm,X⟩;simp only at G hR hm;refine nq (m:=[(0,.slice (some ⟨g,0,none⟩) xs.length cap),(2,.int .i64 i),(3,.int .i64 m)]) ?_ sB;have ah:=hR.1;by_cases ai:i<m
 . obtain ⟨x,hx⟩:∃x,ys[i]? = some x:=⟨_,iE Ab⟩;obtain ⟨y,hy⟩:∃y,ys[m]? = some y:=⟨_,iE Ab⟩;obtain ⟨_,r1,xa,xc,rfl,sx⟩:=G.row hx;obtain ⟨_,r2,ya,yc,rfl,sy⟩:=G.row hy;have U:=SJ hR Ab hx (show ys[xs.length-1-i]? = some y by rw [show xs.length-1-i=m by omega];exact hy);rw [show xs.length-1-i=m by omega] at U;replace r1:Row w1 ⟨g,0+i*4,none⟩ _:=r1;replace r2:Row w1 ⟨g,0+m*4,none⟩ _:=r2;refine eK ?_;refine E9 (λN=>Ext w1 N) (λN=>Fr (λx=>x=g) w1 N) [2,3,13,14,15] [2,3] 13 14 (.free 2 (.free 3 (.pure 0 (.pure 1 (.pure 4 (.pure 5 (.pure 6 (.pure 7 (.pure 8 (.pure 9 (.pure 10 (.pure 11 (.pure 12 (.put 13 (.tail 14))))))))))))))) (λ_ h=>mG h) mixed AU (Af (Aa (Aa (Af Ag)))) ?_;intro V O _;have Y:(λN=>Ext w1 N) V:=O;simp only at Y;have M:(λN=>Fr (λx=>x=g) w1 N) V:=mG O;simp only at M;have Z:=r1;have aa:=r2;revert G X sx sy;refine eE O ?_;intro G X sx sy;refine Bp Ae rfl (Av rfl) rfl (Bp Ae rfl (Av rfl) rfl (Am Ae rfl (Av rfl) rfl (Am Ae rfl (Av rfl) rfl (Am Ae rfl (Av rfl) rfl (Am Ae rfl (Av rfl) rfl (Am Ae rfl (AK Ac rfl rfl rfl rfl Ab Ab) rfl (Am Ae rfl (BE Ac rfl rfl rfl (λN hz=>(mJ aa hz)) rfl) rfl (Am Ae rfl (Av rfl) rfl (Am Ae rfl (Av rfl) rfl (Am Ae rfl (AK Ac rfl rfl rfl rfl Ab Ab) rfl (Am Ae rfl (BE Ac rfl rfl rfl (λN hz=>(mJ Z hz)) rfl) rfl (Am Ae rfl (AK Ac rfl rfl rfl rfl Ab Ab) rfl (DD rfl (Ci (sh:=ndShape) (j:=i) (z:=y) (us:=[_,_,_,_]) Ac rfl rfl rfl rfl rfl rfl G Ab hg ⟨_,_,rfl,Ae⟩) (BJ ?_))))))))))))))
   rintro _ aj ⟨ak,ab,al⟩;have M:=M.fr ab Ab;revert X sx;refine eF ab ?_;intro X sx;refine ⟨Ae,(DB rfl (C1 Pi (A7 (Ci (sh:=ndShape) (j:=m) (z:=x) (us:=[_,_,_,_]) Ac rfl rfl rfl rfl rfl rfl Ae (by rw [kg];omega) hg ⟨_,_,rfl,Ae⟩) (BJ ?_))))⟩;rintro _ ae ⟨af,ac,ag⟩;have X:=X.fr ac Ab;refine eK ?_;refine C1 (AL rfl rfl (iO _ Ab)) (eK ?_);refine AA (i+1,m-1,(ys.set i y).set m x) (by (refine An rfl ?_;refine An rfl ?_;refine B4 rfl (by go_num) ?_;exact BL)) ⟨Ae,U,by simp only;omega,X⟩ (by simp only;omega)
 . have e:=Vi hR Ab;subst e;refine Aj (cS (C1 Mv (C1 Mv (C1 V3 (cT (DA (Ca (AB (AB (A0 (Bm rfl ?_)))))))))));exact ⟨rfl,G,X⟩
def Di (q:Bool) (k:Int) (x:Nd):Nd:=if k=57\/x.kind=57 then x.inv q else x
def SK (q:Bool) (l:List Nd):Cc q l=l.map (Di q 57):=by
 induction l with
 | nil=>rfl
 | cons t r h=>simp only [Cc,jo,h,Di,true_or,if_true]
def QJ (q:Bool) (h:k≠57) (l:List Nd):Dv q l=l.map (Di q k):=by
 induction l with
 | nil=>rfl
 | cons t r G=>simp only [Dv,jo,G,Di,h,false_or]
def Gg (f:Nd->Nd) (l:List Nd) (j:Nat):List Nd:=(l.take j).map f++jn (l.length-j) BX
def SL (f:Nd->Nd) (l:List Nd) (j:Nat) (h:j<=l.length):(Gg f l j).length=l.length:=by
 simp only [Gg,iX,kz,jp,List.length_replicate];omega
def SM (f:Nd->Nd) (l:List Nd) (j:Nat) (h:j<l.length):(Gg f l j).set j (f l[j])=Gg f l (j+1):=by
 unfold Gg;have G:((l.take j).map f).length=j:=by simp;omega
 rw [lj _ _ Ab,G,kf,show l.length-j=(l.length-(j+1))+1 by omega,mi,lT,iI h,jJ,jk];rfl
def SN (f:Nd->Nd) (l:List Nd):Gg f l l.length=l.map f:=by simp [Gg]
def SO {n:Int} (h:(Nd.mk k n s l).isStmt=true\/(Nd.mk k n s l).isBlock=true):(∀x∈l,k=57\/x.kind=57->x.isStmt=true\/x.isBlock=true)/\(k=52\/k=53\/k=54->l≠[])/\40<=k/\k<=57:=by
 rcases h with h|h
 . have X:=N4 h;simp only [m7] at X;have G:∀x:Nd,x.isExpr=true -> ¬x.kind=57:=λx G=>by have:=Gq G;omega
   have key:∀x∈l,x.isBlock=true\/x.isExpr=true:=by
    cases B3 h with
    | call _ _ _ Y=>intro x G;exact iH (GO (jr.1 Y x G))
    | upd _ M O=>intro x G;simp only [iU,jB,or_false] at G;rcases G with rfl|rfl<;>first|exact iH (Be Ae)|exact iH Ae
    | swap M O=>intro x G;simp only [iU,jB,or_false] at G;rcases G with rfl|rfl<;>exact iH (Be Ae)
    | stack _ _ M=>intro x G;simp only [iU,jB,or_false] at G;rw [G];exact iH (Be M)
    | tape _ M=>intro x G;simp only [iU,jB,or_false] at G;rw [G];exact iH (Be M)
    | branch _ M O Z h4=>intro x G;simp only [iU,jB,or_false] at G;rcases G with rfl|rfl|rfl|rfl<;>first|exact iH Ae|exact iG Ae
    | local_ _ M O Z=>intro x G;simp only [iU,jB,or_false] at G;rcases G with rfl|rfl|rfl<;>first|exact iH Ae|exact iG Ae
    | lstack _ M=>intro x G;simp only [iU,jB,or_false] at G;rw [G];exact iG M
   refine ⟨λx U N=>?_,λN=>?_,Ab,Ab⟩
   . rcases N with rfl|N
     . omega
     . rcases key x U with hb|he
       . exact iH hb
       . exact absurd N (G x he)
   . rintro rfl;cases B3 h with
     | call aa=>omega
 . obtain ⟨e,V⟩:=D5 h;simp only [Nd.kids,Nd.mk.injEq,and_true] at e V;obtain ⟨rfl,-,-⟩:=e;exact ⟨λx G _=>iG (rowStmt_iff.1 V x G),λN=>by omega,Ab,Ab⟩
def QK (q:Bool) {n:Int} (hk:¬k=57):(Nd.mk k n s l).inv q=if k=52\/k=53\/k=54 then .mk k n s (Gr (l.map (Di q k))) else .mk (if k=50\/k=51 then (if q then k else Bb k) else Bb k) n s (l.map (Di q k)):=by
 conv=>lhs;unfold Nd.inv
 rw [At hk,QJ q hk];by_cases h1:k=52\/k=53\/k=54
 . rw [AG h1,AG h1]
 . rw [At h1,At h1];by_cases h2:k=50\/k=51
   . rw [AG h2,AG h2]
   . rw [At h2,At h2]
def QL (w:wD) (S:nP):ndShape.rep w S BX [.int .u8 0,.int .i64 0,.string ⟨#[]⟩,.slice none 0 0]:=⟨none,0,rfl,WK⟩
def ArrS.sits {C D g:Nat} {xs:List Nd} (h:ArrS ndShape C D w g xs) (M:S g) (N:∀b,C<=b->b<D->S b):rowSits S w xs (some ⟨g,0,none⟩):=
 Jh M xs 0 (λi x O=>by
  obtain ⟨cs,U,a,c,rfl,V⟩:=h.row O;exact ⟨a,c,U,mK V (λb G=>N b G.1 G.2)⟩)
def DM {C g:Nat} {n:Int} {xs:List Nd} {m:Nat} (M:xs.length=m) (h:ArrS ndShape C w'.heap.size w' g xs) (N:w.heap.size<=g) (U:w.heap.size<=C) (X:Ext w w'):CopyR (.mk k n s xs) w (.returned (.agg #[.int .u8 k,.int .i64 n,str s,.slice (some ⟨g,0,none⟩) m m])) w':=by
 subst M;exact ⟨some ⟨g,0,none⟩,xs.length,rfl,TX (h.sits ⟨N,h.lt⟩ (λb O G=>⟨Ab,G⟩)),X⟩
def WX (q:Bool) (N:Nat):∀(t:Nd) (S:nP) (a:oA) (c:Nat) (w:wD),t.size<N->t.size<=1000000->(t.isStmt=true\/t.isBlock=true)->t.sits S w a->Calls prog 111 #[t.val a c,.bool q] w (CopyR (t.inv q) w):=by
 induction N with
 | zero=>intro t S a c w h;omega
 | succ N ih=>
  rintro ⟨k,n,s,l⟩ S a c w hN hM hv hs;have hlen:=Cz l;simp only [mR] at hN hM;obtain ⟨v1,v2,v3,v4⟩:=SO hv;clear hv;have hC:∀x∈l,(k=57\/x.kind=57) -> ∀(S:nP) (a:oA) (c:Nat) (w:wD),x.sits S w a->Calls prog 111 #[x.val a c,.bool q] w (CopyR (x.inv q) w):=λx hx hk S a c w h=>by
   have:=CP hx;exact ih x S a c w Ab Ab (v1 x hx hk) h
  clear ih v1;have HC:=iF hC;clear hC;have hs:=Ch _ _ (EL hs);have X:=Ne w;refine Ad func111 ntmps111 rfl rfl ?_;refine cS (eB [_,_,_,_] ?_);intro b1 w2 h4 x5 p6 z7;revert hs X;refine eE x5 ?_;intro hs X;refine eA [_,_,_,_] ?_;intro b8 w9 r cd et eu;revert h4 hs X;refine eE cd ?_;intro h4 hs X;refine cT ?_;refine E2 (ι:=Nat×Nat) (λx=>[(1,.bool q),(2,pt b1),(4,pt b8),(5,pt x.1)])
   (λx w'=>ArrS ndShape (b1+4) (b1+4) w' x.2 (jn l.length BX)/\Blk w' x.1 [.int .u8 k,.int .i64 n,str s,.slice (some ⟨x.2,0,none⟩) l.length l.length]/\b8<x.1/\b8<x.2/\x.1≠x.2/\x.1<b1+4/\x.2<b1+4/\Blk w' b1 [.int .u8 k,.int .i64 n,str s,.slice a l.length c]/\Blk w' b8 [.int .u8 0,.int .i64 0,str [],.slice none 0 0]/\rowSits (· < w.heap.size) w' l a/\Ext w w'/\w'.heap.size=b1+4) ?_ ?_
  . focus
     refine Aq (λwz=>Ext w9 wz) 12 (.pure 0 (.pure 1 (.pure 2 (.pure 3 (.pure 4 (.pure 5 (.pure 6 (.pure 7 (.pure 8 (.fork 9 (.pure 10 (.fork 11 .tail .none)) (.fork 11 (.fork 9 (.pure 10 .tail) .none) .none))))))))))) mixed AU (Aa Ag) ?_;intro aw a4 _;have o:(λwz=>Ext w9 wz) aw:=a4;simp only at o;have ce:=r;have cw:=h4;have T:=hs;revert r h4 hs X;refine eY a4 ?_;intro ev r h4 hs X;refine ⟨o,?_⟩;refine eT ?_;refine AC rfl (Dq (sh:=ndShape) (C:=b1+4) (D:=b1+4) (N:=l.length) (z:=BX) Ac CC rfl rfl rfl rfl AU rfl rfl Ab QL) rfl ?_ aFh ?kra5;rintro _ cx ⟨cf,rfl,U,ew,ex,a5⟩;revert o r h4 hs X;refine eY a5 ?_;intro cy o r h4 hs X;refine ⟨o,?_⟩;refine Tq rfl (xB [_,_,_,_]) ?_;refine AC rfl (A2 CC rfl) rfl ?_ aFh Ay;rintro _ cz ⟨a6,rfl,O⟩;have ac:=O.blk;dsimp only at ac;have a7:=O.ext;have c0:=O.pos;have c1:=O.size;revert U o r h4 hs X;refine eE a7 ?_;intro U o r h4 hs X;refine ⟨o,?_⟩;refine Ar rfl (eS [_,_,_,_] ac ?_);intro c2 a8 a9 c3;revert U r h4 hs X;refine eF a9 ?_;intro U r h4 hs X;refine Ak ?_;rotate_left;refine AC rfl (A2 CC rfl) rfl ?_ aFh Ay;rintro _ c4 ⟨ba,rfl,Q⟩;have R:=Q.blk;dsimp only at R;have bb:=Q.ext;have c5:=Q.pos;have c6:=Q.size;revert o r h4 hs X;refine eE bb ?_;intro o r h4 hs X;refine ⟨o,?_⟩;refine AC rfl (Dq (sh:=ndShape) (C:=b1+4) (D:=b1+4) (N:=l.length) (z:=BX) Ac CC rfl rfl rfl rfl AU rfl rfl Ab QL) rfl ?_ aFh Ay;rintro _ c7 ⟨bc,rfl,V,c8,c9,bd⟩;revert R o r h4 hs X;refine eY bd ?_;intro da R o r h4 hs X;refine ⟨o,?_⟩;refine Tq rfl (xB [_,_,_,_]) ?_;refine Ar rfl (eS [_,_,_,_] R ?_);intro db be bf dc;revert V r h4 hs X;refine eF bf ?_;intro V r h4 hs X;refine Ak ?_;rotate_left
    . have hq:aw.heap.size=w9.heap.size:=congrArg Array.size Ae;exact BQ (a6,cf) sB ⟨U,a8,by simp only;omega,by simp only;omega,by simp only;omega,by simp only;omega,by simp only;omega,h4,r,hs,X,Ab⟩
    . have hq:aw.heap.size=w9.heap.size:=congrArg Array.size Ae;exact BQ (ba,bc) sB ⟨V,be,by simp only;omega,by simp only;omega,by simp only;omega,by simp only;omega,by simp only;omega,h4,r,hs,X,Ab⟩
  . clear h4 r hs X;rintro ⟨bm,g⟩ w1 ⟨hA,hbm,o1,o2,o3,o4,o5,d,f,hs,X,hz⟩;simp only at hA hbm o1 o2 o3 o4 o5;refine nq (m:=[(1,.bool q),(2,pt b1),(4,pt b8),(5,pt bm)]) ?_ sB;have e0:jn l.length BX=Gg (Di q k) l 0:=by simp [Gg]
    rw [e0] at hA;refine E2 (ι:=Unit) (λ_=>[(1,.bool q),(2,pt b1),(4,pt b8),(5,pt bm)])
     (λ_ w'=>ArrS ndShape (b1+4) w'.heap.size w' g (l.map (Di q k))/\Blk w' bm [.int .u8 k,.int .i64 n,str s,.slice (some ⟨g,0,none⟩) l.length l.length]/\Blk w' b1 [.int .u8 k,.int .i64 n,str s,.slice a l.length c]/\Blk w' b8 [.int .u8 0,.int .i64 0,str [],.slice none 0 0]/\Ext w w'/\b1+4<=w'.heap.size) ?_ ?_
    . refine cS (C1 Pf (C1 (Pl d) (C1 Pz (C1 Mv (cT ?_)))));refine Au ?_;refine AP (ι:=Nat) (λj=>[(1,.bool q),(2,pt b1),(4,pt b8),(5,pt bm),(21,.slice a l.length c),(22,.int .i64 l.length),(23,.int .i64 j)])
       (λj w'=>j<=l.length/\ArrS ndShape (b1+4) w'.heap.size w' g (Gg (Di q k) l j)/\Blk w' bm [.int .u8 k,.int .i64 n,str s,.slice (some ⟨g,0,none⟩) l.length l.length]/\Blk w' b1 [.int .u8 k,.int .i64 n,str s,.slice a l.length c]/\Blk w' b8 [.int .u8 0,.int .i64 0,str [],.slice none 0 0]/\rowSits (· < w.heap.size) w' l a/\Ext w w'/\b1+4<=w'.heap.size)
       (λj=>l.length-j) 0 sB ⟨iT _,hA.wide Ab,hbm,d,f,hs,X,Ab⟩ ?_
      clear hA hbm d f hs X hz e0;rintro j w2 ⟨hj,hA,hbm,d,f,hs,X,hz⟩;by_cases hlt:j<l.length
      . obtain ⟨kb,ko,rfl,kS,hkid⟩:=BI hs (by intro e;subst e;simp at hlt);obtain ⟨xa,xc,rx,sx⟩:=hkid j l[j] (iE hlt);have HX:=iF (HC.out l[j] (iS hlt));have hxz:=CP (iS hlt);have hnext:=SM (Di q k) l j hlt;have hdl:=SL (Di q k) l j hj;clear hkid HC;by_cases hk:k=57\/(l[j]).kind=57
        . have HX2:=iF (HX.out hk);have hfx:Di q k l[j]=(l[j]).inv q:=by unfold Di;rw [AG hk]
          rw [hfx] at hnext;clear HX hfx;generalize l[j]=x at *
          focus
           refine eK ?_;refine eA [_,_,_,_] ?_;intro ey ez cg ch e1 e2;revert hA hbm f X d hs rx sx;refine eE ch ?_;intro hA hbm f X d hs rx sx;refine C1 Pa (eS [_,_,_,_] cg ?_);intro aa p bg dd;revert hA hbm f X d hs rx sx;refine eF bg ?_;intro hA hbm f X d hs rx sx;refine eK ?_;refine B8 rfl rfl rfl (λbh=>?_) (λbh=>?_);refine eK ?_;refine Aq (λwz=>Ext aa wz) 6 (.pure 0 (.pure 1 (.pure 2 (.pure 3 (.pure 4 (.fork 5 .tail .none)))))) mixed AU (Af (Aa (Aa (Af (Aa Ag))))) ?_;intro bi ad _;have u:(λwz=>Ext aa wz) bi:=ad;simp only at u;have G:=p;have I:=hA;have i:=hbm;have v:=f;have A:=d;have T:=hs;have ae:=rx;have J:=sx;revert p hA hbm f X d hs rx sx;refine eY ad ?_;intro de p hA hbm f X d hs rx sx;refine ⟨u,?_⟩;refine eT ?_;refine Tq rfl (xL [_,_,_,_] (λwz hz=>(mN G hz))) (Tq rfl Mv ?_);refine tC rfl rfl (HX2.out _ _ _ _ Ae) ?_;rintro _ df ⟨dg,dh,⟨⟩,af,bj⟩;revert u p hA hbm f X d hs rx sx;refine eY bj ?_;intro di u p hA hbm f X d hs rx sx;refine ⟨u,?_⟩;refine Ar rfl (C1 Pi (A7 (F0 (sh:=ndShape) (j:=j) (z:=x.inv q) (us:=[_,_,_,_]) Ac rfl rfl rfl rfl rfl rfl Ae Ab Ab Ab ⟨_,_,rfl,mK Ae (λb h=>by omega)⟩) (BJ ?_)));rintro _ dj ⟨dk,ag,dl⟩;revert af p;refine eZ ag ?_;intro dm af p;clear hA;revert hbm f X d hs rx sx;refine eF ag ?_;intro hbm f X d hs rx sx;refine Ak (Ah (Ai (Al (C1 V7 (C1 Mv (Ak ?_))))));rotate_left;refine eK ?_;refine Aq (λwz=>Ext aa wz) 6 (.pure 0 (.pure 1 (.pure 2 (.pure 3 (.pure 4 (.fork 5 .tail .none)))))) mixed AU (Af (Aa (Aa (Af (Aa Ag))))) ?_;intro bk ah _;have B:(λwz=>Ext aa wz) bk:=ah;simp only at B;have G:=p;have I:=hA;have i:=hbm;have v:=f;have A:=d;have T:=hs;have ae:=rx;have J:=sx;revert p hA hbm f X d hs rx sx;refine eY ah ?_;intro dn p hA hbm f X d hs rx sx;refine ⟨B,?_⟩;refine eT ?_;refine Tq rfl (xL [_,_,_,_] (λwz hz=>(mN G hz))) (Tq rfl Mv ?_);refine tC rfl rfl (HX2.out _ _ _ _ Ae) ?_
           rintro _ dp ⟨dq,dr,⟨⟩,ai,bl⟩;revert B p hA hbm f X d hs rx sx;refine eY bl ?_;intro ds B p hA hbm f X d hs rx sx;refine ⟨B,?_⟩;refine Ar rfl (C1 Pi (A7 (F0 (sh:=ndShape) (j:=j) (z:=x.inv q) (us:=[_,_,_,_]) Ac rfl rfl rfl rfl rfl rfl Ae Ab Ab Ab ⟨_,_,rfl,mK Ae (λb h=>by omega)⟩) (BJ ?_)));rintro _ dt ⟨du,aj,dv⟩;revert ai p;refine eZ aj ?_;intro dw ai p;clear hA;revert hbm f X d hs rx sx;refine eF aj ?_;intro hbm f X d hs rx sx;refine Ak (Ah (Ai (Al (C1 V7 (C1 Mv (Ak ?_))))));rotate_left
          all_goals exact AA (j+1) sC ⟨Ab,by rw [<-hnext];exact ArrS.wide Ae Ab,hbm,d,f,hs,X,Ab⟩ Ab
        . have hfx:Di q k l[j]=l[j]:=by unfold Di;rw [At hk]
          rw [hfx] at hnext;clear HX hfx;generalize l[j]=x at *;have e3:¬k=57:=λe=>hk (iG e)
          have e4:¬x.kind=57:=λe=>hk (iH e)
          have HX2:=iF (JY x Ab);refine eK ?_;refine eA [_,_,_,_] ?_;intro e5 e6 ci cj e7 e8;revert hA hbm f X d hs rx sx;refine eE cj ?_;intro hA hbm f X d hs rx sx;refine C1 Pa (eS [_,_,_,_] ci ?_);intro bn E bo dx;revert hA hbm f X d hs rx sx;refine eF bo ?_;intro hA hbm f X d hs rx sx;refine eK ?_;refine Aq (λwz=>Ext bn wz) 5 (.pure 0 (.pure 1 (.pure 2 (.pure 3 (.fork 4 .tail .none))))) mixed AU (Af (Aa (Aa (Af (Aa Ag))))) ?_;intro bp ak _;have F:(λwz=>Ext bn wz) bp:=ak;simp only at F;have ab:=E;have I:=hA;have i:=hbm;have v:=f;have A:=d;have T:=hs;have ae:=rx;have J:=sx;revert E hA hbm f X d hs rx sx;refine eY ak ?_;intro dy E hA hbm f X d hs rx sx;refine ⟨F,?_⟩;refine eT ?_;refine Tq rfl (xL [_,_,_,_] (λwz hz=>(mN ab hz))) ?_;refine tC rfl rfl (HX2.out _ _ _ _ Ae) ?_;rintro _ dz ⟨d0,d1,⟨⟩,al,bq⟩;revert F E hA hbm f X d hs rx sx;refine eY bq ?_;intro d2 F E hA hbm f X d hs rx sx;refine ⟨F,?_⟩;refine Ar rfl (C1 Pi (A7 (F0 (sh:=ndShape) (j:=j) (z:=x) (us:=[_,_,_,_]) Ac rfl rfl rfl rfl rfl rfl Ae Ab Ab Ab ⟨_,_,rfl,mK Ae (λb h=>by omega)⟩) (BJ ?_)));rintro _ d3 ⟨d4,am,d5⟩;revert al E;refine eZ am ?_;intro d6 al E;clear hA;revert hbm f X d hs rx sx;refine eF am ?_;intro hbm f X d hs rx sx;refine Ak (Ah (Ai (Al (C1 V7 (C1 Mv (Ak ?_))))))
          all_goals exact AA (j+1) sB ⟨Ab,by rw [<-hnext];exact ArrS.wide Ae Ab,hbm,d,f,hs,X,Ab⟩ Ab
      . obtain rfl:j=l.length:=by omega
        rw [SN] at hA;refine cS (C1 V3 (cT (Aj (DA (Ca (AB (AB (A0 ?_))))))));exact BQ () sB ⟨hA,hbm,d,f,X,hz⟩
    . clear hA hbm d f hs X hz e0 HC;rintro _ w3 ⟨hA,hbm,d,f,X,hz⟩;have hxl:(l.map (Di q k)).length=l.length:=by simp
      by_cases k57:k=57
      . subst k57;have ht:(Nd.mk 57 n s l).inv q = .mk 57 n s (Cc q l).reverse:=by
         conv=>lhs;unfold Nd.inv
         rw [AG rfl]
        rw [ht,SK];generalize l.map (Di q 57)=xs at *;rw [<-hxl] at hbm;refine eK ?_;refine C1 (AL rfl rfl (iO _ Ab)) ?_;refine eK ?_;refine cC rfl (Vj (b1+4) _ _ _ _ _ Ae (iG Ab) Ab) ?_;rintro _ e9 ⟨⟨⟩,ax,br⟩;revert f X d hbm;refine eZ br ?_;intro fa f X d hbm;clear hA br;refine eK ?_;refine eS [_,_,_,_] f ?_;intro fb ck cl fc;revert ax X d hbm;refine eF cl ?_;intro ax X d hbm;refine eK ?_;refine xC ck ?_;exact DM AN (ax.wide Ab) Ab Ab X
      rw [QK q k57];by_cases k5:k=52\/k=53\/k=54
      . rw [AG k5];have hne:=v2 k5;generalize l.map (Di q k)=xs at *;have hpos:0<xs.length:=by rw [hxl];exact List.length_pos_iff.2 hne
        obtain ⟨x,hx⟩:∃x,xs[0]? = some x:=⟨_,iE hpos⟩;obtain ⟨y,hy⟩:∃y,xs[xs.length-1]? = some y:=⟨_,iE Ab⟩;obtain ⟨_,r1,xa,xc,rfl,sx⟩:=hA.row hx;obtain ⟨_,r2,ya,yc,rfl,sy⟩:=hA.row hy;have em:((xs.length:Int)-1).toNat=xs.length-1:=by omega
        have hsw:Gr xs=(xs.set 0 y).set ((xs.length:Int)-1).toNat x:=by
         unfold Gr;rw [em,iK,iK,hx,hy];rfl
        rw [hsw];have hsl:((xs.set 0 y).set ((xs.length:Int)-1).toNat x).length=xs.length:=by simp
        replace r1:Row w3 ⟨g,0+0*4,none⟩ (x.cells xa xc):=r1;replace r2:Row w3 ⟨g,0+((xs.length:Int)-1).toNat*4,none⟩ (y.cells ya yc):=by rw [em];exact r2
        rw [<-hxl] at hbm;clear hx hy hsw;rcases k5 with rfl|rfl|rfl
        . focus
           refine eK ?_;refine C1 (AL rfl rfl (iO _ Ab)) ?_;refine eK ?_;refine E9 (λwz=>Ext w3 wz) (λwz=>Fr (λx=>x=g) w3 wz) [2,3,4,15,16,17] [2,3,4] 15 16 (.free 2 (.free 3 (.free 4 (.pure 0 (.pure 1 (.pure 5 (.pure 6 (.pure 7 (.pure 8 (.pure 9 (.pure 10 (.pure 11 (.pure 12 (.pure 13 (.pure 14 (.put 15 (.tail 16))))))))))))))))) (λ_ h=>mG h) mixed AU (Af (Aa Ag)) ?_;intro bs ay _;have bt:(λwz=>Ext w3 wz) bs:=ay;simp only at bt;have W:(λwz=>Fr (λx=>x=g) w3 wz) bs:=mG ay;simp only at W;have v:=f;have I:=hA;have J:=sx;have an:=sy;have L:=r1;have M:=r2;have A:=d;have i:=hbm;revert f X hA sx sy r1 r2 d hbm;refine eY ay ?_;intro fd f X hA sx sy r1 r2 d hbm;refine Bp Ae rfl (AX Ac rfl rfl rfl) rfl (Bp Ae rfl (Ap Ac rfl rfl rfl (λwz hz=>mM (mH i hz Ab) rfl)) rfl (Bp Ae rfl (Av rfl) rfl (Am Ae rfl (AX Ac rfl rfl rfl) rfl (Am Ae rfl (Ap Ac rfl rfl rfl (λwz hz=>mM (mN i hz) rfl)) rfl (Am Ae rfl (AX Ac rfl rfl rfl) rfl (Am Ae rfl (Ap Ac rfl rfl rfl (λwz hz=>mM (mN i hz) rfl)) rfl (Am Ae rfl (Av rfl) rfl (Am Ae rfl (AK Ac rfl rfl rfl rfl Ab Ab) rfl (Am Ae rfl (BE Ac rfl rfl rfl (λwz hz=>(mJ M hz)) rfl) rfl (Am Ae rfl (AX Ac rfl rfl rfl) rfl (Am Ae rfl (Ap Ac rfl rfl rfl (λwz hz=>mM (mN i hz) rfl)) rfl ?_)))))))))))
           refine Am Ae rfl (AK Ac rfl rfl rfl rfl Ab Ab) rfl (Am Ae rfl (Dy [_,_,_,_] Ac rfl rfl rfl (λwz hz=>(mJ L hz)) rfl rfl) rfl (Am Ae rfl (AK Ac rfl rfl rfl rfl Ab Ab) rfl (DD rfl (Ci (sh:=ndShape) (j:=0) (z:=y) (us:=[_,_,_,_]) Ac rfl rfl rfl rfl rfl rfl Ae Ab (iG Ab) ⟨_,_,rfl,Ae⟩) (BJ ?_))));rintro _ fe ⟨ff,az,fg⟩;revert W f X;refine eZ az ?_;intro d7 W f X;clear hA;revert sx sy;refine eF az ?_;intro sx sy;revert d hbm;refine eF az ?_;intro d hbm;refine ⟨Ae,?_⟩;refine DB rfl (C1 Pi (A7 (Ci (sh:=ndShape) (j:=((xs.length:Int)-1).toNat) (z:=x) (us:=[_,_,_,_]) Ac rfl rfl rfl rfl rfl rfl Ae (by rw [kg];omega) (iG Ab) ⟨_,_,rfl,Ae⟩) (BJ ?_)));rintro _ d8 ⟨ao,ap,d9⟩;have ea:=ap.size;revert f X sx sy d hbm;refine eF ap ?_;intro f X sx sy d hbm;refine eK ?_;refine eS [_,_,_,_] f ?_;intro eb bu bv ec;revert ao X sx sy d hbm;refine eF bv ?_;intro ao X sx sy d hbm;refine eK ?_;refine xC bu ?_;rotate_left
          exact DM hsl (ArrS.wide Ae Ab) Ab Ab X
        . focus
           refine eK ?_;refine C1 (AL rfl rfl (iO _ Ab)) ?_;refine eK ?_;refine E9 (λwz=>Ext w3 wz) (λwz=>Fr (λx=>x=g) w3 wz) [2,3,4,15,16,17] [2,3,4] 15 16 (.free 2 (.free 3 (.free 4 (.pure 0 (.pure 1 (.pure 5 (.pure 6 (.pure 7 (.pure 8 (.pure 9 (.pure 10 (.pure 11 (.pure 12 (.pure 13 (.pure 14 (.put 15 (.tail 16))))))))))))))))) (λ_ h=>mG h) mixed AU (Af (Aa Ag)) ?_;intro bw a0 _;have bx:(λwz=>Ext w3 wz) bw:=a0;simp only at bx;have Y:(λwz=>Fr (λx=>x=g) w3 wz) bw:=mG a0;simp only at Y;have v:=f;have I:=hA;have J:=sx;have an:=sy;have L:=r1;have M:=r2;have A:=d;have i:=hbm;revert f X hA sx sy r1 r2 d hbm;refine eY a0 ?_;intro fh f X hA sx sy r1 r2 d hbm;refine Bp Ae rfl (AX Ac rfl rfl rfl) rfl (Bp Ae rfl (Ap Ac rfl rfl rfl (λwz hz=>mM (mH i hz Ab) rfl)) rfl (Bp Ae rfl (Av rfl) rfl (Am Ae rfl (AX Ac rfl rfl rfl) rfl (Am Ae rfl (Ap Ac rfl rfl rfl (λwz hz=>mM (mN i hz) rfl)) rfl (Am Ae rfl (AX Ac rfl rfl rfl) rfl (Am Ae rfl (Ap Ac rfl rfl rfl (λwz hz=>mM (mN i hz) rfl)) rfl (Am Ae rfl (Av rfl) rfl (Am Ae rfl (AK Ac rfl rfl rfl rfl Ab Ab) rfl (Am Ae rfl (BE Ac rfl rfl rfl (λwz hz=>(mJ M hz)) rfl) rfl (Am Ae rfl (AX Ac rfl rfl rfl) rfl (Am Ae rfl (Ap Ac rfl rfl rfl (λwz hz=>mM (mN i hz) rfl)) rfl ?_)))))))))))
           refine Am Ae rfl (AK Ac rfl rfl rfl rfl Ab Ab) rfl (Am Ae rfl (Dy [_,_,_,_] Ac rfl rfl rfl (λwz hz=>(mJ L hz)) rfl rfl) rfl (Am Ae rfl (AK Ac rfl rfl rfl rfl Ab Ab) rfl (DD rfl (Ci (sh:=ndShape) (j:=0) (z:=y) (us:=[_,_,_,_]) Ac rfl rfl rfl rfl rfl rfl Ae Ab (iG Ab) ⟨_,_,rfl,Ae⟩) (BJ ?_))));rintro _ fi ⟨fj,a1,fk⟩;revert Y f X;refine eZ a1 ?_;intro ed Y f X;clear hA;revert sx sy;refine eF a1 ?_;intro sx sy;revert d hbm;refine eF a1 ?_;intro d hbm;refine ⟨Ae,?_⟩;refine DB rfl (C1 Pi (A7 (Ci (sh:=ndShape) (j:=((xs.length:Int)-1).toNat) (z:=x) (us:=[_,_,_,_]) Ac rfl rfl rfl rfl rfl rfl Ae (by rw [kg];omega) (iG Ab) ⟨_,_,rfl,Ae⟩) (BJ ?_)));rintro _ ee ⟨aq,ar,ef⟩;have eg:=ar.size;revert f X sx sy d hbm;refine eF ar ?_;intro f X sx sy d hbm;refine eK ?_;refine eS [_,_,_,_] f ?_;intro eh bz b0 ei;revert aq X sx sy d hbm;refine eF b0 ?_;intro aq X sx sy d hbm;refine eK ?_;refine xC bz ?_;rotate_left
          exact DM hsl (ArrS.wide Ae Ab) Ab Ab X
        . focus
           refine eK ?_;refine C1 (AL rfl rfl (iO _ Ab)) ?_;refine eK ?_;refine E9 (λwz=>Ext w3 wz) (λwz=>Fr (λx=>x=g) w3 wz) [2,3,4,15,16,17] [2,3,4] 15 16 (.free 2 (.free 3 (.free 4 (.pure 0 (.pure 1 (.pure 5 (.pure 6 (.pure 7 (.pure 8 (.pure 9 (.pure 10 (.pure 11 (.pure 12 (.pure 13 (.pure 14 (.put 15 (.tail 16))))))))))))))))) (λ_ h=>mG h) mixed AU (Af (Aa Ag)) ?_;intro b2 a2 _;have b3:(λwz=>Ext w3 wz) b2:=a2;simp only at b3;have Z:(λwz=>Fr (λx=>x=g) w3 wz) b2:=mG a2;simp only at Z;have v:=f;have I:=hA;have J:=sx;have an:=sy;have L:=r1;have M:=r2;have A:=d;have i:=hbm;revert f X hA sx sy r1 r2 d hbm;refine eY a2 ?_;intro fl f X hA sx sy r1 r2 d hbm;refine Bp Ae rfl (AX Ac rfl rfl rfl) rfl (Bp Ae rfl (Ap Ac rfl rfl rfl (λwz hz=>mM (mH i hz Ab) rfl)) rfl (Bp Ae rfl (Av rfl) rfl (Am Ae rfl (AX Ac rfl rfl rfl) rfl (Am Ae rfl (Ap Ac rfl rfl rfl (λwz hz=>mM (mN i hz) rfl)) rfl (Am Ae rfl (AX Ac rfl rfl rfl) rfl (Am Ae rfl (Ap Ac rfl rfl rfl (λwz hz=>mM (mN i hz) rfl)) rfl (Am Ae rfl (Av rfl) rfl (Am Ae rfl (AK Ac rfl rfl rfl rfl Ab Ab) rfl (Am Ae rfl (BE Ac rfl rfl rfl (λwz hz=>(mJ M hz)) rfl) rfl (Am Ae rfl (AX Ac rfl rfl rfl) rfl (Am Ae rfl (Ap Ac rfl rfl rfl (λwz hz=>mM (mN i hz) rfl)) rfl ?_)))))))))))
           refine Am Ae rfl (AK Ac rfl rfl rfl rfl Ab Ab) rfl (Am Ae rfl (Dy [_,_,_,_] Ac rfl rfl rfl (λwz hz=>(mJ L hz)) rfl rfl) rfl (Am Ae rfl (AK Ac rfl rfl rfl rfl Ab Ab) rfl (DD rfl (Ci (sh:=ndShape) (j:=0) (z:=y) (us:=[_,_,_,_]) Ac rfl rfl rfl rfl rfl rfl Ae Ab (iG Ab) ⟨_,_,rfl,Ae⟩) (BJ ?_))));rintro _ fm ⟨fn,a3,fo⟩;revert Z f X;refine eZ a3 ?_;intro ej Z f X;clear hA;revert sx sy;refine eF a3 ?_;intro sx sy;revert d hbm;refine eF a3 ?_;intro d hbm;refine ⟨Ae,?_⟩;refine DB rfl (C1 Pi (A7 (Ci (sh:=ndShape) (j:=((xs.length:Int)-1).toNat) (z:=x) (us:=[_,_,_,_]) Ac rfl rfl rfl rfl rfl rfl Ae (by rw [kg];omega) (iG Ab) ⟨_,_,rfl,Ae⟩) (BJ ?_)));rintro _ ek ⟨au,av,el⟩;have en:=av.size;revert f X sx sy d hbm;refine eF av ?_;intro f X sx sy d hbm;refine eK ?_;refine eS [_,_,_,_] f ?_;intro eo b4 b5 ep;revert au X sx sy d hbm;refine eF b5 ?_;intro au X sx sy d hbm;refine eK ?_;refine xC b4 ?_;rotate_left
          exact DM hsl (ArrS.wide Ae Ab) Ab Ab X
      . rw [At k5];generalize l.map (Di q k)=xs at *;have fp:¬k=52:=λe=>k5 (iG e)
        have fq:¬k=53:=λe=>k5 (iH (iG e))
        have fs:¬k=54:=λe=>k5 (iH (iH e))
        by_cases k6:k=50\/k=51
        . rw [AG k6];cases q
          . simp only [jv,if_false];rcases k6 with rfl|rfl
            . refine eK ?_;refine C1 (AL rfl rfl (iO _ Ab)) ?_;refine eK ?_;refine cC rfl (Hv _ _ Ab Ab) ?_;rintro _ ft ⟨⟨⟩,rfl⟩;refine C1 Pg (eV [_] [_,_,_,_] hbm ?_);intro fu b6 cm fv;clear hbm;revert f X hA d;refine eF cm ?_;intro f X hA d;refine eK ?_;refine eS [_,_,_,_] f ?_;intro fw b7 cn eq;revert b6 X hA d;refine eF cn ?_;intro b6 X hA d;refine eK ?_;refine xC b7 ?_;exact DM hxl (ArrS.wide Ae Ab) Ab Ab X
            . refine eK ?_;refine C1 (AL rfl rfl (iO _ Ab)) ?_;refine eK ?_;refine cC rfl (Hv _ _ Ab Ab) ?_;rintro _ fx ⟨⟨⟩,rfl⟩;refine C1 Pg (eV [_] [_,_,_,_] hbm ?_);intro fy b9 co fz;clear hbm;revert f X hA d;refine eF co ?_;intro f X hA d;refine eK ?_;refine eS [_,_,_,_] f ?_;intro f0 ca cp er;revert b9 X hA d;refine eF cp ?_;intro b9 X hA d;refine eK ?_;refine xC ca ?_;exact DM hxl (ArrS.wide Ae Ab) Ab Ab X
          . simp only [if_true];rcases k6 with rfl|rfl
            . refine eK ?_;refine C1 (AL rfl rfl (iO _ Ab)) ?_;refine eK ?_;refine eS [_,_,_,_] f ?_;intro f1 cq cr f2;revert X hA hbm d;refine eF cr ?_;intro X hA hbm d;refine eK ?_;refine xC cq ?_;exact DM hxl (ArrS.wide Ae Ab) Ab Ab X
            . refine eK ?_;refine C1 (AL rfl rfl (iO _ Ab)) ?_;refine eK ?_;refine eS [_,_,_,_] f ?_;intro f3 cs ct f4;revert X hA hbm d;refine eF ct ?_;intro X hA hbm d;refine eK ?_;refine xC cs ?_;exact DM hxl (ArrS.wide Ae Ab) Ab Ab X
        . rw [At k6];have f5:¬k=50:=λe=>k6 (iG e)
          have f6:¬k=51:=λe=>k6 (iH e)
          refine eK ?_;refine C1 (AL rfl rfl (iO _ Ab)) ?_;refine eK ?_;refine cC rfl (Hv _ _ Ab Ab) ?_;rintro _ f7 ⟨⟨⟩,rfl⟩;refine C1 Pg (eV [_] [_,_,_,_] hbm ?_);intro f8 cb cu f9;clear hbm;revert d f X hA;refine eF cu ?_;intro d f X hA;refine eK ?_;refine eS [_,_,_,_] f ?_;intro ga cc cv es;revert cb d X hA;refine eF cv ?_;intro cb d X hA;refine eK ?_;refine xC cc ?_;exact DM hxl (ArrS.wide Ae Ab) Ab Ab X
structure OwnM {α:Type} (sh:Shape α) (w:wD) (R:nP) (B:Nat) (e:TypeId) (v:Value) (xs:List α):Prop where
 ex:∃css:List lV,Own w B e sh.sz v xs.length css.flatten/\css.length=xs.length /\ ∀(i:Nat) (x:α) (cs:lV),xs[i]? = some x->css[i]? = some cs->sh.rep w (λb=>(R b\/B<=b)/\v.ownBlock≠some b) x cs
section
variable {sh:Shape α} {R:nP} {e:Nat} {xs:List α}
def OwnM.rows (h:OwnM sh w R B e v xs) (Z:xs≠[]):∃g cap,v = .slice (some ⟨g,0,none⟩) xs.length cap/\B<=g /\ ∀(i:Nat) (x:α),xs[i]? = some x -> ∃cs,Row w ⟨g,i*sh.sz,none⟩ cs/\sh.rep w (λb=>R b\/B<=b) x cs:=by
 obtain ⟨G,h1,h2,Y⟩:=h.ex;rcases h1.row with ⟨rfl,hn,-⟩|⟨g,cap,rfl,hg,aa,hr⟩
 . exact absurd (List.length_eq_zero_iff.1 hn) Z
 . refine ⟨g,cap,rfl,hg,λi x O=>?_⟩;have ab:i<xs.length:=by
    rcases i7 i xs.length with h|h
    . exact h
    . rw [iR h] at O;cases O
   have hc:G[i]? = some G[i]:=iE Ab;have M:∀cs∈G,cs.length=sh.sz:=λcs U=>by
    obtain ⟨k,hk,rfl⟩:=List.mem_iff_getElem.1 U;exact sh.len (Y k xs[k] G[k] (iE Ab) (iE hk))
   obtain ⟨e1,e2⟩:=FH M (show i<G.length by omega);refine ⟨G[i],λj u V=>?_,sh.mono (Y i x _ O hc) (λ_ h=>h.1) (λ_ _ _ _ h=>h)⟩;have X:j<G[i].length:=by
    rcases i7 j G[i].length with h|h
    . exact h
    . rw [iR h] at V;cases V
   have N:G.flatten[i*sh.sz+j]? = some u:=by
    rw [e1,jk,iY Ab,e2,lZ,iN X];exact V
   have:=hr.at (i:=i*sh.sz+j) N;have e:(⟨g,i*sh.sz,none⟩:Addr).add j=⟨g,0+(i*sh.sz+j),none⟩:=by unfold ki;by_cases h0:j=0<;>simp [h0]
   rw [e];exact this
end
def DE {P:Program} {l:Sl} {Q:Exit->Act->wD->Prop} {x y:Code} {ι:Type} (L:ι->Sl) (I:ι->wD->Prop) (h:CW P n x (Exit.then (λa w=> ∃i,Env n (L i) a/\I i w) Q) l w) (k:∀i w,I i w->CW P n y Q (L i) w):CW P n x (Exit.then (Code.wp P y Q) Q) l w:=by
 unfold CW at h k ⊢;intro a G;refine Code.wp_mono (λe a w q=>?_) (h a G);cases e with
 | normal=>
  obtain ⟨i,M,N⟩:=q;exact k i w N a M
 | _=>exact q
def Pv (v:VD):v.cells.length=3:=rfl
def cO (v:VD):v.cells.all mW=true:=rfl
def QM {l:List VD} (h:VDs S w l a):Rows S w (l.flatMap VD.cells) a:=by
 rcases h with h|⟨b,o,G,M,N⟩
 . subst h;exact iG rfl
 . exact iH ⟨b,o,G,M,N7 Pv l o (λi x O=>N i x O)⟩
def Mx {l:List VD} (h:Rows S w (l.flatMap VD.cells) a):VDs S w l a:=by
 cases l with
 | nil=>exact iG rfl
 | cons v r=>
  rcases h with h|⟨b,o,G,M,N⟩
  . simp at h
  . exact iH ⟨b,o,G,M,λi x O=>N8 Pv (v::r) o N i x O⟩
def VCopyR (l:List VD) (w:wD):Ending->wD->Prop:=λe w'=> ∃a c,e = .returned (.slice a l.length c)/\VDs (λb=>w.heap.size<=b/\b<w'.heap.size) w' l a/\Ext w w'/\l.length<=c
def VCopyR.ret {l:List VD} (h:VCopyR l w e w'):∃v,e = .returned v:=by
 obtain ⟨_,_,h,-⟩:=h;exact ⟨_,h⟩
def SP (X:Ext w w'):VCopyR [] w (.returned (.slice none 0 0)) w':=⟨none,0,rfl,iG rfl,X,iW _⟩
def SQ {l:List VD} {e g cap m:Nat} (G:0+l.length=m) (h:OwnF e 3 B w' g cap m ([]++l.flatMap VD.cells)) (M:w.heap.size<=g) (X:Ext w w'):VCopyR l w (.returned (.slice (some ⟨g,0,none⟩) m cap)) w':=by
 have N:=h.lt;subst G;exact ⟨some ⟨g,0,none⟩,cap,by rw [jC],Mx (h.rows ⟨M,N⟩),X,by have:=h.le;omega⟩
def Is (l:List VD) (hl:l.length<=1000000000) (S:nP) (a:oA) (c:Nat) (w:wD) (G:VDs S w l a) :
 Calls prog 58 #[.slice a l.length c] w (VCopyR l w):=by
 have X:=Ne w;have hd:=Hs Pv l;have ho:=Lh cO l;cases a with
 | none=>
  have h0:l=[]:=by
   rcases G with h|⟨b,o,h,-⟩
   . exact h
   . cases h
  subst h0;refine Ad func58 ntmps58 rfl rfl (eK ?_);refine C1 (Mj Ac rfl rfl) (kR ?_);exact SP X
 | some p=>
  have G:=(QM G).ltA;refine Ad func58 ntmps58 rfl rfl (eK ?_);refine C1 (Mk Ac rfl rfl) (eK ?_);refine Aw (JU (B:=w.heap.size) Ac rfl rfl Ab) rfl ?_ aFh;rintro _ ab ⟨ac,rfl,ad,ae,af,O⟩;revert X G;refine eE O ?_;intro X G;refine C1 Mv (Aw (JV Ac CC rfl rfl rfl rfl AU rfl rfl rfl Ae Ae hd ho Ab) rfl ?_ aFh);rintro _ U ⟨V,N,rfl,Y,Z,aa,M⟩;have X:=X.fr M Ab;refine kR ?_;exact SQ rfl Ae Ab X
end Bk
namespace Bk
open Go Go.RowKit
def WF (r:Option Nat):Fence:={ Fence.wide with round:=r }
section base
variable {P:Program} {r:Option Nat} {m:Nat} {Q:Exit->Act->wD->Prop}
def wf_calls {f:FuncId} {args:Array Value} {w:wD} {R:Ending->wD->Prop}:CallsIn (WF r) m P f args w R↔Calls P f args w R:=callsIn_wide (n:=m)
def JZ {p:Prop} (h:(WF r).depth.isSome=true):p:=by simp [WF,Fence.wide] at h
def Y9 {row:String} {args:Array Value} {w:wD} {R:Value->wD->Prop} (h:Go.Rows P row args w R):RowsIn (WF r) m P row args w R:=λc cs _=>
 let ⟨v,w',hR,hs⟩:=h c cs
 ⟨v,w',hR,stepsIn_wide.2 hs⟩
def Gu (o:Oper):Bool:=match o.op with
 | .defer _=>false
 | _=>true
def WY {o:Oper} (h:Gu o=true):∀c,o.op≠.defer c:=λc e=>by simp [Gu,e] at h
def T5 {o:Oper} {a:Act} {w:wD} {K:Act->wD->Prop} (G:Gu o=true) (h:o.wp P a w K Q):o.wpIn (WF r) m P a w K Q:=by
 refine ⟨λ_ _=>trivial,?_⟩;rw [Oper.semAt_eq _ _ _ (WY G)];unfold kh at h;generalize (execOp a.eval o).run P w=x at h;cases x with
 | ok v w'=>cases v<;>simp only [Oper.upon] at h<;>simp only [Oper.uponIn]<;>first
  | exact h
  | exact h.elim
  | exact ⟨JZ,wf_calls.2 (jE h (λe w h=>by cases e<;>exact h))⟩
  | exact ⟨JZ,Y9 h⟩
 | halt v w'=>cases v<;>simp only [Oper.upon] at h<;>simp only [Oper.uponIn]<;>first|exact h|exact h.elim
def PA {ops:Array Oper} (N:¬LetsOut Q):∀(G:List Oper) (a:Act) (w:wD),G.all Gu=true->wpList P ops Q G a w->wpListIn (WF r) m P ops Q G a w
 | [],_,_,_,h=>h
 | o::G,a,w,M,h=>by
  simp only [lM,iJ] at M;unfold wpList at h;unfold wpListIn;by_cases O:Region.wanted o (yielded ops a.tmps)=true
  . rw [AG O] at h ⊢;rcases h with h|h
    . exact Oper.wpIn_mono (λa w h=>PA N G a w M.2 h) (T5 M.1 h)
    . exact absurd h.2 N
  . rw [At O] at h ⊢;exact ⟨λ_ _=>trivial,PA N G _ w M.2 h⟩
def Bw {K:Act->wD->Prop} (h:¬LetsOut Q):¬LetsOut (Exit.then K Q):=h
def By {i:Nat} (h:¬LetsOut Q):¬LetsOut (Exit.inBlock i Q):=h
end base
def CR (P:Program) (n:Nat) (r:Option Nat) (c:Code) (Q:Exit->Act->wD->Prop) (l:Sl) (w:wD):Prop:= ∀a,Env n l a->c.wpIn (WF r) 0 P Q a w
section code
variable {P:Program} {n:Nat} {r:Option Nat} {Q:Exit->Act->wD->Prop} {l:Sl} {w:wD}
def T6 {c:Code} (h:CR P n none c Q l w):CW P n c Q l w:=by unfold CW;exact λa G=>wpIn_wide.1 (h a G)
def fC {c:Code} (h:CW P n c Q l w):CR P n none c Q l w:=by unfold CW at h;exact λa G=>wpIn_wide.2 (h a G)
def Dj {x y:Code} (h:CR P n r x (Exit.then (y.wpIn (WF r) 0 P Q) Q) l w):CR P n r (.seq x y) Q l w:=λa G=>wpIn_seq (h a G)
def Cw {y:Code} (h:CR P n r y Q l w):QW n (Exit.then (y.wpIn (WF r) 0 P Q) Q) .normal l w:=by unfold QW;exact h
def F4 (h:QW n Q .normal l w):CR P n r .skip Q l w:=by unfold QW at h;exact λa G=>wpIn_skip (h a G)
def Za {i:Nat} (h:QW n Q (.exit i) l w):CR P n r (.exit i) Q l w:=by unfold QW at h;exact λa G=>wpIn_exit (h a G)
def WZ (h:QW n Q .ret l w):CR P n r .ret Q l w:=by unfold QW at h;exact λa G=>wpIn_ret (h a G)
def Gv {i:Nat} {c:Code} (h:CR P n r c (Exit.inBlock i Q) l w):CR P n r (.block i c) Q l w:=λa G=>wpIn_block (h a G)
def T7 {c:Operand} {x y:Code} {b:Bool} (G:ev l c=some (.bool b)) (M:b=true->CR P n r x Q l w) (N:b=false->CR P n r y Q l w):CR P n r (.cond c x y) Q l w:=
 λa h=>wpIn_cond_split (h.ev G) (λe=>M e a h) (λe=>N e a h)
def Bs {M:Nat} {G:List Oper} (N:G.all Gu=true) (O:¬LetsOut Q) (h:LW P n G.toArray Q G l w):CR P n r (.region M G.toArray false) Q l w:=by unfold LW at h;exact λa U=>wpIn_region_lit (PA O G a w N (h a U))
end code
section draw
variable {P:Program} {ops:Array Oper} {Q:Exit->Act->wD->Prop} {S:wD->Prop} {K:Nat}
def GW (P:Program) (ops:Array Oper) (Q:Exit->Act->wD->Prop) (S:wD->Prop) (K:Nat):Nat->Array Bool->Act->wD->Prop
 | 0,listed,a,w=>jj .any ops listed=[]/\Q .normal a w
 | fuel+1,listed,a,w=>
  (jj .any ops listed=[]->Q .normal a w) /\
  ∀i∈jj .any ops listed,(i<K->wpOp P ops Q i (λa' w'=>S w'/\GW P ops Q S K fuel (listed.setIfInBounds i true) a' w') a w) /\
   (K<=i->wpOpIn (WF none) 0 P ops Q i (GW P ops Q S K fuel (listed.setIfInBounds i true)) a w)
def Zb {i:Nat} {a:Act} {w:wD} {G:Act->wD->Prop} (N:¬LetsOut Q) (O:∀o,ops[i]? = some o->Gu o=true) (h:wpOp P ops Q i G a w):wpOpIn (WF none) 0 P ops Q i G a w:=by
 unfold wpOp at h;unfold wpOpIn;cases ho:ops[i]? with
 | none=>rw [ho] at h;exact h
 | some o=>
  rw [ho] at h;simp only at h ⊢;by_cases M:Region.wanted o (yielded ops a.tmps)=true
  . rw [AG M] at h ⊢;rcases h with h|h
    . exact T5 (O o ho) h
    . exact absurd h.2 N
  . rw [At M] at h ⊢;exact ⟨λ_ _=>trivial,h⟩
def GX (N:¬LetsOut Q) (O:∀(i:Nat) (o:Oper),ops[i]? = some o->Gu o=true):∀(G:Nat) (M:Array Bool) (a:Act) (w:wD),GW P ops Q S K G M a w->wpAnyIn (WF none) 0 P .any ops Q G M a w
 | 0,_,_,_,h=>h
 | G+1,_,_,_,h=>⟨h.1,λi X=>by
  by_cases Y:i<K
  . exact wpOpIn_mono (λU w' V=>GX N O G _ U w' V.2) (Zb N (O i) ((h.2 i X).1 Y))
  . exact wpOpIn_mono (λU w' V=>GX N O G _ U w' V) ((h.2 i X).2 Ab)⟩
def PB {i:Nat} {oi:Oper} {v:Value} (hi:ops[i]? = some oi) (hK:i<K) (af:Ek ops K i) (Y:∀(j:Nat) (o:Oper) cs b,ops[j]? = some o->o.op≠.select cs b)
 (hQ:∀c a w,Q (.panic c) (a.put oi.dst v) w->Q (.panic c) a w) :
 ∀(M:Nat) (G:Array Bool) (a:Act) (w:wD),DC ops G ->
  (∀j Z,ops[j]? = some Z->j≠i->G.getD j true=false->(∀e∈Z.after,jN .any e=true->e.on≠i)->oi.apart ops Z=true) ->
  i∈jj .any ops G->YieldsIf P ops S oi v a->S w ->
  GW P ops Q S K M (G.setIfInBounds i true) (a.put oi.dst v) w->GW P ops Q S K (M+1) G a w:=by
 intro M
 induction M with
 | zero=>
  intro G a w _ _ hr hy hS H;refine ⟨λh=>(by rw [h] at hr;cases hr),λj hj=>?_⟩;by_cases N:j=i
  . subst N;exact ⟨λ_=>hy.wpOp hi hS ⟨hS,H⟩,λh=>by omega⟩
  . have:=ready_mono hj N;rw [H.1] at this;cases this
 | succ M ih=>
  intro G a w ac O hr hy hS H;refine ⟨λh=>(by rw [h] at hr;cases hr),λj hj=>?_⟩;by_cases N:j=i
  . subst N;exact ⟨λ_=>hy.wpOp hi hS ⟨hS,H⟩,λh=>by omega⟩
  . obtain ⟨aa,Z,V,ab⟩:=mem_ready.1 hj;have U:¬G.getD i false=true:=λhc=>by
     have h0:=(mem_ready.1 hr).1;rcases i7 i G.size with h'|h'
     . simp [h'] at h0 hc;rw [h0] at hc;cases hc
     . simp [ju h'] at hc
    have ag:j<K:=by
     rcases i7 j K with h|h
     . exact h
     . exact absurd (af G j Z ac h V ab) U
    have h1:=(H.2 j (ready_mono hj N)).1 ag;have ad:∀e∈Z.after,jN .any e=true->e.on≠i:=λe he hb ah=>U (ah▸ab e he hb)
    have h2:=wpOp_putIf V (O j Z V N aa ad) (λcs b=>Y i oi cs b hi) (λcs b=>Y j Z cs b V) hQ hy h1;have X:∀k ok,ops[k]? = some ok->k≠i->(G.setIfInBounds j true).getD k true=false ->
     (∀e∈ok.after,jN .any e=true->e.on≠i)->oi.apart ops ok=true:=λk ok hk ai U aj=>by
     refine O k ok hk ai ?_ aj;by_cases ae:j=k
     . subst ae;exact aa
     . rw [getD_set_ne true ae] at U;exact U
    refine ⟨λ_=>wpOp_mono (λa' w' h3=>⟨h3.2.1,ih (G.setIfInBounds j true) a' w' (ac.set hj) X (ready_mono hr (l8 N)) h3.1 h3.2.1 ?_⟩) h2,λh=>by omega⟩;rw [lD _ _ N];exact h3.2.2
def HM (P:Program) (ops:Array Oper) (Q:Exit->Act->wD->Prop) (S:wD->Prop) (K:Nat):Sc->Act->wD->Prop
 | .done,a,w=>Q .normal a w
 | .pure i r,a,w=> ∃o v,ops.toList[i]? = some o/\YieldsIf P ops S o v a/\HM P ops Q S K r (a.put o.dst v) w
 | .fork i x r,a,w=>i<K/\wpOp P ops Q i (λa' w'=>S w'/\HM P ops Q S K x a' w') a w/\HM P ops Q S K r a w
 | .none,_,_=>True
 | .tail,a,w=>wpListIn (WF none) 0 P ops Q (ops.toList.drop K) a w
def Jj:∀(f k:Nat) (G:Array Bool) (a:Act) (w:wD),K<=k->f+k=ops.size->Fl ops f k G=true->wpListIn (WF none) 0 P ops Q (ops.toList.drop k) a w->GW P ops Q S K f G a w
 | 0,k,G,a,w,V,X,M,h=>by
  have:ops.toList.drop k=[]:=jK (by simp;omega);rw [this] at h;exact ⟨by simpa [Fl] using M,h⟩
 | f+1,k,G,a,w,V,X,M,h=>by
  simp only [Fl,iJ,beq_iff_eq] at M;have N:k<ops.toList.length:=by simp;omega
  rw [jd N] at h;refine ⟨λe=>absurd (M.1.symm.trans e) AN,λi O=>?_⟩;rw [M.1] at O;simp only [i8] at O;subst O;refine ⟨λh=>by omega,λ_=>?_⟩;have Y:ops[i]? = some ops.toList[i]:=by simp
  unfold wpListIn at h;unfold wpOpIn;rw [Y];simp only;split
  . rename_i U;rw [AG U] at h;exact Oper.wpIn_mono (λZ w' h'=>Jj f (i+1) _ Z w' Ab Ab M.2 h') h
  . rename_i U;rw [At U] at h;exact ⟨h.1,Jj f (i+1) _ _ w Ab Ab M.2 h.2⟩
def HM.any (hs:Region.noSelect ops=true) (O:∀i,i<K->Ek ops K i) (hQ:Dh Q) :
 ∀(s:Sc) (f:Nat) (G:Array Bool) (a:Act) (w:wD),DC ops G->S w->HM P ops Q S K s a w ->
  (Sc.ok ops K true s f G=true->GW P ops Q S K f G a w) /\
  (Sc.ok ops K false s f G=true -> ∀i∈s.alts,∀f',f=f'+1->i<K/\wpOp P ops Q i (λZ w'=>S w'/\GW P ops Q S K f' (G.setIfInBounds i true) Z w') a w)
 | .done,f,G,a,w,N,U,h=>by
  refine ⟨λM=>?_,λM=>by simp [Sc.ok] at M⟩;have X:jj .any ops G=[]:=by simpa [Sc.ok] using M
  cases f with
  | zero=>exact ⟨X,h⟩
  | succ f=>exact ⟨λ_=>h,by rw [X];simp⟩
 | .none,f,G,a,w,N,U,h=>⟨λM=>by simp [Sc.ok] at M,λM=>by simp [Sc.alts]⟩
 | .tail,f,G,a,w,N,U,h=>⟨λM=>by
  simp only [Sc.ok,iJ] at M;exact Jj f K G a w (iW _) (jq M.1) M.2 h,λM=>by simp [Sc.ok] at M⟩
 | .pure i r,0,G,a,w,N,U,h=>⟨λM=>by simp [Sc.ok] at M,λM=>by simp [Sc.ok] at M⟩
 | .pure i r,f+1,G,a,w,N,U,h=>⟨λM=>by
  simp only [Sc.ok,iJ] at M;obtain ⟨o,v,ho,hy,X⟩:=h;have hi:ops[i]? = some o:=by simpa using ho
  have V:i∈jj .any ops G:=by simpa using M.1.1.2
  exact PB hi (jc M.1.1.1) (O i (jc M.1.1.1)) (kL hs) (λc a w=>hQ o.dst v c a w) f G a w N (lA hi M.1.2) V hy U
   ((HM.any hs O hQ r f _ _ w (N.set V) U X).1 M.2),λM=>by simp [Sc.ok] at M⟩
 | .fork i x r,0,G,a,w,N,U,h=>⟨λM=>by simp [Sc.ok] at M,λM=>by simp [Sc.ok] at M⟩
 | .fork i x r,f+1,G,a,w,N,U,h=>by
  have key:i∈jj .any ops G->Sc.ok ops K true x f (G.setIfInBounds i true)=true->wpOp P ops Q i (λZ w'=>S w'/\GW P ops Q S K f (G.setIfInBounds i true) Z w') a w:=λV M=>
   wpOp_mono (λZ w' h'=>⟨h'.1,(HM.any hs O hQ x f _ Z w' (N.set V) h'.1 h'.2).1 M⟩) h.2.1
  have X:=HM.any hs O hQ r (f+1) G a w N U h.2.2;refine ⟨λM=>?_,λM j Y f' hf=>?_⟩
  . simp only [Sc.ok,iJ] at M;obtain ⟨⟨⟨h1,h4⟩,h2⟩,h3⟩:=M;refine ⟨λe=>by rw [e] at h4;simp at h4,λj Y=>?_⟩;have:=jr.1 h1 j Y;simp only [List.contains_eq_mem,iU,decide_eq_true_eq] at this;rcases this with rfl|aa
    . exact ⟨λ_=>key Y h2,λhK=>absurd h.1 Ab⟩
    . obtain ⟨k1,k2⟩:=X.2 h3 j aa f rfl;exact ⟨λ_=>k2,λhK=>by omega⟩
  . simp only [Sc.ok,iJ] at M;obtain rfl:f=f':=by omega
    simp only [Sc.alts,iU] at Y;rcases Y with rfl|Y
    . exact ⟨h.1,key (by simpa using M.1.1) M.1.2⟩
    . exact X.2 M.2 j Y f rfl
end draw
def MW (P:Program) (n:Nat) (ops:Array Oper) (Q:Exit->Act->wD->Prop) (S:wD->Prop) (K:Nat) (s:Sc) (l:Sl) (w:wD):Prop:= ∀a,Env n l a->HM P ops Q S K s a w
def LI (P:Program) (n:Nat) (ops:Array Oper) (Q:Exit->Act->wD->Prop) (os:List Oper) (l:Sl) (w:wD):Prop:= ∀a,Env n l a->wpListIn (WF none) 0 P ops Q os a w
section draws
variable {P:Program} {n:Nat} {ops:Array Oper} {Q:Exit->Act->wD->Prop} {S:wD->Prop} {K:Nat} {l:Sl} {w:wD}
 {d i:Nat} {ty:TypeId} {pos:String} {after:Array Edge} {r x:Sc} {rest:List Oper}
def QN {X:Nat} {G:List Oper} (S:wD->Prop) (K:Nat) (s:Sc) (Y:P.follows .mixedOrders=true) (M:(Region.noSelect G.toArray&&I8 G.toArray K&&jg K G.length&&G.all Gu&&Sc.ok G.toArray K true s G.length (jZ G.length false))=true) (Z:Dh Q) (hL:¬LetsOut Q)
 (h:∀w1,Ext w w1->w1.heap=w.heap->S w1/\MW P n G.toArray Q S K s l w1):CW P n (.region X G.toArray true) Q l w:=by
 refine T6 λa ha=>?_
 simp only [iJ] at M;obtain ⟨h1,h2⟩:=h w.drew (Ne w).drew rfl;have N:∀i,i<K->Ek G.toArray K i:=DU M.1.1.1.2 (by have:=jc M.1.1.2;simp;omega);have O:DC G.toArray (jZ G.length false):=λk o _ V=>by
  exfalso;rcases i7 k G.length with U|U
  . simp [U] at V
  . simp [ju,U] at V
 refine wpIn_region_any Y (GX (S:=S) (K:=K) hL (λi o ho=>jr.1 M.1.2 o (jh (by simpa using ho))) _ _ _ _ ?_);have:=(HM.any M.1.1.1.1 N Z s G.length (jZ G.length false) a w.drew O h1 (h2 a ha)).1 M.2;simpa using this
def T8 {G:List Oper} (M:L7 K ops.toList=some G) (h:LI P n ops Q G l w):MW P n ops Q S K .tail l w:=by
 unfold LI at h;intro a N;show wpListIn _ _ P ops Q (ops.toList.drop K) a w;rw [GN M];exact h a N
def PC:MW P n ops Q S K .none l w:=λ_ _=>trivial
def GY {op:Op} {v:Value} (M:ops.toList[i]? = some ⟨some d,op,ty,pos,after,none⟩) (h:Br P n l S op ty v) (N:jg d n=true) (k:MW P n ops Q S K r ((d,v)::l) w) :
 MW P n ops Q S K (.pure i r) l w:=by
 unfold Br at h;exact λa G=>⟨_,v,M,iG ⟨rfl,λw O=>h a w _ _ _ _ G O⟩,k _ (G.put N v)⟩
def PE {op:Op} {G:Option Value->wD->Prop} (X:ops.toList[i]? = some ⟨some d,op,ty,pos,after,none⟩) (M:jg i K=true) (U:BG P n l op ty w G) (Y:jg d n=true)
 (k:∀v w1,G (some v) w1->S w1/\MW P n ops Q S K x ((d,v)::l) w1) (Z:∀w1,¬G none w1) (kr:MW P n ops Q S K r l w):MW P n ops Q S K (.fork i x r) l w:=λa N=>by
 unfold BG at U;refine ⟨jc M,?_,kr a N⟩;have O:ops[i]? = some ⟨some d,op,ty,pos,after,none⟩:=by simpa using X
 unfold wpOp;rw [O];simp only;rw [AG (Bd rfl)];left;exact U a _ _ _ _ _ _ N (λv w1 V=>⟨(k v w1 V).1,(k v w1 V).2 _ (N.put Y v)⟩) (λw1 h=>absurd h (Z w1))
def W0 {G:List Oper} (M:¬LetsOut Q) (N:G.all Gu=true) (h:LW P n ops Q G l w):LI P n ops Q G l w:=by unfold LW at h;exact λa O=>PA M G a w N (h a O)
def My {y:Nat} {x:Operand} {xs:List Operand} {tys:Array TypeId} {vs:lV} {R:Ending->wD->Prop} (V:ev l x=some (.func (.yield y) #[] #[])) (O:evs l xs=some vs) (Y:YieldAt (WF none) 0 P y vs.toArray w R) (X:∀e w1,R e w1 -> ∃v,e = .returned v) (Z:jg d n=true)
 (k:∀v w1,R (.returned v) w1->LI P n ops Q rest ((d,v)::l) w1):LI P n ops Q (⟨some d,.call ⟨.value x,xs.toArray,tys⟩,ty,pos,after,none⟩::rest) l w:=λa U=>by
 obtain ⟨fn,tmps,G,N,hy,hr⟩:=Y;have M:xs.map a.eval=vs:=U.evs O;have e:(execOp a.eval ⟨some d,.call ⟨.value x,xs.toArray,tys⟩,ty,pos,after,none⟩).run P w = .ok (.round y fn tmps G N) w:=by
  simp only [execOp,resolve,U.ev V,Deferred.ofValue,iV,je,iP,invoke];simpa [<-M] using hy
 unfold wpListIn;rw [AG (Bd rfl)];refine ⟨λ_ _=>trivial,?_⟩;rw [Oper.semAt_eq _ _ _ (λc e=>by cases e),e];refine ⟨JZ,RoundIn.mono hr λe w1 h=>?_⟩;obtain ⟨v,rfl⟩:=X e w1 h;exact k v w1 h _ (U.put Z v)
end draws
def EM {α:Type} (c:Nat) (J:(nP)->List α->wD->Prop):Prop:=
 ∀A A' xs W W',J A xs W->Fr A W W'->(∀k,A k->c<=k)->(∀k,A' k->c<=k)->(∀k,k<W.heap.size->A' k->A k)->J A' xs W'
def Keeps (S:nP) (W W':wD):Prop:=Fr (λk=> ¬S k) W W'
def Keeps.size {S:nP} {W W':wD} (h:Keeps S W W'):W.heap.size<=W'.heap.size:=Fr.size h
def Keeps.block {S:nP} {W W':wD} (h:Keeps S W W') (k:Nat) (G:S k) (M:k<W.heap.size):W'.heap[k]? = W.heap[k]? := Fr.block h k M (λe=>e G)
def Keeps.refl (S:nP) (W:wD):Keeps S W W:=mI _ _
def Keeps.trans {S:nP} {A B C:wD} (h:Keeps S A B) (k:Keeps S B C):Keeps S A C:=Fr.trans h k
def Keeps.of_fr {S T:nP} {A B:wD} (h:Fr T A B) (G:∀k,S k -> ¬T k):Keeps S A B:=⟨h.os,h.tape,h.output,h.size,λk M N=>h.block k M (G k (Classical.not_not.1 N))⟩
def Keeps.of_ext {S:nP} {A B:wD} (h:Ext A B):Keeps S A B:=⟨h.os,h.tape,h.output,h.size,λ_ G _=>h.block G⟩
def Keeps.less {S T:nP} {A B:wD} (h:Keeps S A B) (G:∀k,T k->S k):Keeps T A B:=⟨Fr.os h,Fr.tape h,Fr.output h,Fr.size h,λk M N=>Fr.block h k M (λe=>N (λt=>e (G k t)))⟩
def IterOk {α:Type} (P:Program) (gf:Nat) (lb:lV) (rep:Nat->wD->lV->α->Prop) (Rt:nP) (S:List α) (w:wD):Prop:=
 ∀(y:Nat) (J Jx:(nP)->List α->wD->Prop) (W:wD),Keeps Rt w W->EM W.heap.size J->EM W.heap.size Jx ->
  (∀A pre x vs W1,(∀k,A k->W.heap.size<=k/\k<W1.heap.size)->J A pre W1->rep W.heap.size W1 vs x->(pre++[x]) <+: S ->
   YieldAt (WF none) 0 P y vs.toArray W1 λe W2=>Keeps (λk=>A k\/Rt k) W1 W2/\((e = .returned (.bool true)/\J A (pre++[x]) W2)\/(e = .returned (.bool false)/\Jx A (pre++[x]) W2))) ->
  J (λ_=>False) [] W ->
  Calls P gf (.func (.yield y) #[] #[]::lb).toArray W λe W'=>(∃v,e = .returned v) /\ ∃A,(∀k,A k->W.heap.size<=k)/\(J A S W' \/ ∃pre,pre <+: S/\Jx A pre W')
def J0 {α:Type} (P:Program) (gf:Nat) (lb:lV) (rep:Nat->wD->lV->α->Prop) (Rt:nP) (Pre Fin:List α->Prop) (w:wD):Prop:=
 ∀(y:Nat) (J Jx:(nP)->List α->wD->Prop) (W:wD),Keeps Rt w W->EM W.heap.size J->EM W.heap.size Jx ->
  (∀A pre x vs W1,(∀k,A k->W.heap.size<=k/\k<W1.heap.size)->J A pre W1->rep W.heap.size W1 vs x->Pre (pre++[x]) ->
   YieldAt (WF none) 0 P y vs.toArray W1 λe W2=>Keeps (λk=>A k\/Rt k) W1 W2/\((e = .returned (.bool true)/\J A (pre++[x]) W2)\/(e = .returned (.bool false)/\Jx A (pre++[x]) W2))) ->
  J (λ_=>False) [] W ->
  Calls P gf (.func (.yield y) #[] #[]::lb).toArray W λe W'=>(∃v,e = .returned v) /\ ∃A,(∀k,A k->W.heap.size<=k)/\((∃S,Fin S/\J A S W') \/ ∃pre,Pre pre/\Jx A pre W')
def IterOk.gen {α:Type} {P:Program} {G:Nat} {M:lV} {rep:Nat->wD->lV->α->Prop} {N:nP} {S:List α} {w:wD} (h:IterOk P G M rep N S w):J0 P G M rep N (· <+: S) (· = S) w:=
 λy J Jx W O U V X Y=>(h y J Jx W O U V X Y).mono λ_ _ ⟨Z,A,h7,h8⟩=>⟨Z,A,h7,h8.imp (λh=>⟨S,rfl,h⟩) id⟩
def Vk {W:wD} {r:Nat} {o G:Obj} (h:W.heap[r]? = some o):Fr (λk=>k=r) W (W.putObj r G):=
 ⟨rfl,rfl,rfl,AN,λk _ M=>jO M⟩
def Eo {α:Type} (Kp:nP) (J Jx:(nP)->List α->wD->Prop) (A:nP) (xs:List α) (W:wD):Exit->Act->wD->Prop
 | .normal,_,W'=>Keeps Kp W W'/\J A xs W'
 | .ret,_,W'=>Keeps Kp W W'/\Jx A xs W'
 | _,_,_=>False
def B5 {α:Type} {Kp:nP} {J Jx:(nP)->List α->wD->Prop} {A:nP} {xs:List α} {W:wD}:¬LetsOut (Eo Kp J Jx A xs W):=λ⟨_,_,h⟩=>h
def J3 {P:Program} {fn:Func} {R:Ending->wD->Prop} (h:∀w,¬R .outgrown w):¬LetsOut (bodyPost P fn R):=λ⟨_,w,e⟩=>h w e
def Lm {α:Type} {P:Program} {g:Operand} {ps:Array Tmp} {assign body:Code} {Q:Exit->Act->wD->Prop} {a:Act} {w:wD} {gf:Nat} {lb:lV} {rep:Nat->wD->lV->α->Prop} {Rt:nP} {Pre Fin:List α->Prop}
 (hg:a.eval g = .func (.func gf) #[] lb.toArray) (eg:B0 P gf=true) (hit:J0 P gf lb rep Rt Pre Fin w) (hps:∀c W vs x,rep c W vs x->vs.length=ps.size) (hRt:∀k,Rt k->k<w.heap.size)
 (J Jx:(nP)->List α->wD->Prop) (hJ:EM w.heap.size J) (hJx:EM w.heap.size Jx) (h0:J (λ_=>False) [] w)
 (hround:∀r A pre x vs W,(∀k,A k->w.heap.size<=k/\k<W.heap.size)->A (w.heap.size+1)->J A pre W->rep (w.heap.size+2) W vs x->Pre (pre++[x]) ->
  assign.wpIn (WF (some r)) 0 P (Exit.then (λa₁ W₁=>Keeps (λk=>A k\/Rt k) W W₁ /\ ∀W₂,Fr (λk=>k=w.heap.size+1) W₁ W₂->body.wpIn (WF (some r)) 0 P (Eo (λk=>A k\/Rt k) J Jx A (pre++[x]) W₂) a₁ W₂) (λ_ _ _=>False))
   { tmps:=(ps.zip vs.toArray).foldl (λt (p,v)=>t.setIfInBounds p v) a.tmps,defers:=[] } W)
 (hdone:∀A S W,Fin S->(∀k,A k->w.heap.size<=k)->J A S W->A w.heap.size->W.heap[w.heap.size]? = some (.deferred (some []))->Q .normal { a with defers:={ target:=.collected w.heap.size,args:= #[] }::a.defers } W)
 (hstop:∀A pre W,(∀k,A k->w.heap.size<=k)->Pre pre->Jx A pre W->A w.heap.size->W.heap[w.heap.size]? = some (.deferred (some []))->Q .ret { a with defers:={ target:=.collected w.heap.size,args:= #[] }::a.defers } W) :
 (Code.rangeFunc g ps assign body).wpIn (WF none) 0 P Q a w:=by
 refine wpIn_rangeFunc ?_;intro fn hfn
 show ∃l mark w₁ d w₁' f args w₂,(Instr.enterLoop fn a.tmps ps assign body none).run P w = .ok (l,mark) w₁/\_
 obtain ⟨n,hn⟩:∃n,n=w.heap.size:=⟨_,rfl⟩;rw [<-hn] at hJ hJx hround hdone hstop
 obtain ⟨rec,hrec⟩:∃rec:LoopState->Option Code->Loop,rec=λst pe=>{ state:=st,pending:=pe,fn,tmps:=a.tmps,params:=ps,assign,body,defers:=n }:=⟨_,rfl⟩
 obtain ⟨W1,hW1⟩:∃W1,(w.alloc (.deferred (some []))).alloc (.loop (rec .ready none))=W1:=⟨_,rfl⟩
 have hL1:W1.heap[n+1]? = some (.loop (rec .ready none)):=by
  rw [<-hW1,hn];have:=World.alloc_heap_new (w.alloc (.deferred (some []))) (.loop (rec .ready none));rwa [World.size_alloc] at this
 have hK1:W1.heap[n]? = some (.deferred (some [])):=by
  rw [<-hW1,hn];exact (Below.heap_alloc _ _ _ (by simp)).trans (World.alloc_heap_new w _)
 have hX1:Ext w W1:=by rw [<-hW1];exact (((Ne w).alloc _).alloc _)
 have hS1:W1.heap.size=n+2:=by rw [<-hW1];simp [hn]
 let U:(nP)->nP:=λA k=>A k\/k=n\/k=n+1
 have hU:∀ {A:nP},(∀k,A k->n+2<=k) -> ∀k,U A k->n<=k:=λh k hk=>by
  rcases hk with hk|hk|hk
  . have:=h k hk;omega
  . omega
  . omega
 have hput:∀ {A:nP} {G:(nP)->List α->wD->Prop} {xs:List α} {W:wD} {o o':Obj} {k:Nat},EM n G->(∀k,A k->n+2<=k)->k=n+1->G (U A) xs W->W.heap[k]? = some o->G (U A) xs (W.putObj k o'):=
  λhG hA hk h ho=>hG _ _ _ _ _ h ⟨rfl,rfl,rfl,by simp,λi _ hi=>jO (λe=>hi (iH (iH (e.trans hk))))⟩ (hU hA) (hU hA) (λ_ _ h=>h)
 have hstab:∀ {G:(nP)->List α->wD->Prop} {st:LoopState} {pe:Option Code},EM n G->EM (n+2) (λA pre W=>G (U A) pre W/\W.heap[n+1]? = some (.loop (rec st pe))/\W.heap[n]? = some (.deferred (some []))):=
  λhG A A' xs W W' h hf hA hA' hs=>by
   have hlt:n+1<W.heap.size:=(Array.getElem?_eq_some_iff.1 h.2.1).1;refine ⟨hG _ _ _ _ _ h.1 ⟨hf.os,hf.tape,hf.output,hf.size,λk hk hU=>hf.block k hk (λe=>hU (iG e))⟩ (hU hA) (hU hA') (λk hk h=>?_),(hf.block _ hlt (λe=>by have:=hA _ e;omega)).trans h.2.1,(hf.block _ (by omega) (λe=>by have:=hA _ e;omega)).trans h.2.2⟩
   rcases h with h|h
   . exact iG (hs k hk h)
   . exact iH h
 refine ⟨n+1,[{ target:=.collected n,args:= #[] }],W1,{ target:=.fn (.func gf) lb.toArray,args:= #[.func (.yield (n+1)) #[] #[]] },W1,gf,
  (.func (.yield (n+1)) #[] #[]::lb).toArray,W1,?_,?_,λ_ _=>trivial,?_,JZ,?_⟩
 . rw [<-hW1,hrec,hn];exact run_enterLoop_outer _ _ _ _ _
 . simp only [resolve,hg]
   simp [go_sem]
 . simp only [invoke,iV,DI eg,iP,je]
   simp
 . refine wf_calls.2 (jE (hit (n+1) (λA pre W=>J (U A) pre W/\W.heap[n+1]? = some (.loop (rec .ready none))/\W.heap[n]? = some (.deferred (some [])))
    (λA pre W=>Jx (U A) pre W/\W.heap[n+1]? = some (.loop (rec .done (some .ret)))/\W.heap[n]? = some (.deferred (some []))) W1 (Keeps.of_ext hX1) (by rw [hS1];exact hstab hJ) (by rw [hS1];exact hstab hJx) ?_ ⟨?_,hL1,hK1⟩) ?_)
   ·
    rw [hS1];rintro A pre x vs W hA ⟨hi,hl,hk⟩ hrep hpre;have hlt:n+1<W.heap.size:=(Array.getElem?_eq_some_iff.1 hl).1;have hy:=run_yield (P:=P) (args:=vs.toArray) hl (by rw [hrec];simpa using hps _ W vs x hrep);rw [hrec] at hy
    have hUA:∀k,U A k->n<=k/\k<W.heap.size:=λk hk=>by
     rcases hk with hk|hk|hk
     . have:=hA k hk;omega
     . omega
     . omega
    refine ⟨fn,_,assign,body,hy,roundIn_of_wpIn (F:=WF none) hfn (wpIn_mono (hround (n+1) (U A) pre x vs W hUA (iH (iH rfl)) hi hrep hpre) ?_)⟩;rintro e a₁ V₁ hp
    cases e with
    | normal=>
     obtain ⟨hk1,hb⟩:=hp;have hl1:V₁.heap[n+1]? = some (.loop (rec .ready none)):=(hk1.block _ (iG (iH (iH rfl))) hlt).trans hl;have hk1':V₁.heap[n]? = some (.deferred (some [])):=(hk1.block _ (iG (iH (iG rfl))) (by omega)).trans hk;refine ⟨_,run_beginRound hl1 (by rw [hrec]),wpIn_mono (hb _ (Vk hl1)) ?_⟩;have hlt1:n+1<V₁.heap.size:=(Array.getElem?_eq_some_iff.1 hl1).1;obtain ⟨V₂,hV₂⟩:∃V₂,V₁.putObj (n+1) (.loop { rec .ready none with state:=.busy })=V₂:=⟨_,rfl⟩;rw [hV₂]
     have hl2:V₂.heap[n+1]? = some (.loop { rec .ready none with state:=.busy }):=by rw [<-hV₂];exact World.putObj_heap_same hlt1
     have hk2:V₂.heap[n]? = some (.deferred (some [])):=by rw [<-hV₂];exact (jO (by omega)).trans hk1'
     have hs2:V₂.heap.size=V₁.heap.size:=by rw [<-hV₂];simp
     have hkeep:∀ {V₃:wD} {o:Obj},Keeps (λk=>U A k\/Rt k) V₂ V₃->Keeps (λk=>A k\/Rt k) W (V₃.putObj (n+1) o):=λhk3=>⟨(Fr.os hk3).trans ((show V₂.os=V₁.os by rw [<-hV₂];rfl).trans (Fr.os hk1)),(Fr.tape hk3).trans ((show V₂.tape=V₁.tape by rw [<-hV₂];rfl).trans (Fr.tape hk1)),(Fr.output hk3).trans ((show V₂.output=V₁.output by rw [<-hV₂];rfl).trans (Fr.output hk1)),by have:=hk1.size;have:=hk3.size;simp;omega,λk hlt hkk=>by
      have hk:=Classical.not_not.1 hkk
      have hne:k≠n+1:=λe=>by
       subst e
       rcases hk with hk|hk
       . have:=hA _ hk;omega
       . have:=hRt _ hk;omega
      have hk':U A k\/Rt k:=hk.imp iG id;rw [jO hne,hk3.block k hk' (by have:=hk1.size;omega),<-hV₂,jO hne]
      exact hk1.block k hk' hlt⟩
     have fin:∀(jump:Option Code) (V₃:wD),Keeps (λk=>U A k\/Rt k) V₂ V₃ ->
      (Instr.endRound (n+1) jump).run P V₃ = .ok (.bool jump.isNone) (V₃.putObj (n+1) (.loop (rec (if jump.isNone then .ready else .done) jump))) /\
      V₃.heap[n+1]? = some (.loop { rec .ready none with state:=.busy }) /\
      (V₃.putObj (n+1) (.loop (rec (if jump.isNone then .ready else .done) jump))).heap[n+1]? = some (.loop (rec (if jump.isNone then .ready else .done) jump)) /\
      (V₃.putObj (n+1) (.loop (rec (if jump.isNone then .ready else .done) jump))).heap[n]? = some (.deferred (some [])):=λjump V₃ hk3=>by
      have hl3:V₃.heap[n+1]? = some (.loop { rec .ready none with state:=.busy }):=(hk3.block _ (iG (iH (iH rfl))) (by omega)).trans hl2;have:=run_endRound (P:=P) jump hl3;rw [hrec] at this ⊢
      exact ⟨this,by rw [hrec] at hl3;exact hl3,World.putObj_heap_same (Array.getElem?_eq_some_iff.1 hl3).1,(jO (by omega)).trans ((hk3.block _ (iG (iH (iG rfl))) (by omega)).trans hk2)⟩
     rintro e a₃ V₃ hp
     cases e with
     | normal=>
      obtain ⟨hk3,hi3⟩:=hp;obtain ⟨hr,hl3,hl4,hk4⟩:=fin none V₃ hk3
      exact ⟨_,_,hr,hkeep hk3,.inl ⟨rfl,hput hJ (λk hk=>(hA k hk).1) rfl hi3 hl3,hl4,hk4⟩⟩
     | ret=>
      obtain ⟨hk3,hi3⟩:=hp;obtain ⟨hr,hl3,hl4,hk4⟩:=fin (some .ret) V₃ hk3
      exact ⟨_,_,hr,hkeep hk3,.inr ⟨rfl,hput hJx (λk hk=>(hA k hk).1) rfl hi3 hl3,hl4,hk4⟩⟩
     | exit id=>exact hp.elim
     | goto t=>exact hp.elim
     | panic ch=>exact hp.elim
     | outgrown=>exact hp.elim
    | exit id=>exact hp.elim
    | goto t=>exact hp.elim
    | ret=>exact hp.elim
    | panic ch=>exact hp.elim
    | outgrown=>exact hp.elim
   . refine hJ _ _ _ _ _ h0 ⟨hX1.os,hX1.tape,hX1.output,hX1.size,λk hk _=>hX1.block hk⟩ (λ_ h=>h.elim) (hU λ_ h=>h.elim) (λk hk h=>?_)
     rcases h with h|h|h
     . exact h
     . omega
     . omega
   ·
    rw [hS1];rintro e W2 ⟨⟨v,rfl⟩,A,hA,(⟨S,hS,hi,hl,hk⟩|⟨pre,hpre,hi,hl,hk⟩)⟩
    . exact ⟨none,_,by have:=run_endLoop (P:=P) hl (by rw [hrec];simp);rw [hrec] at this;exact this,hdone (U A) S _ hS (hU hA) (hput hJ hA rfl hi hl) (iH (iG rfl)) ((jO (by omega)).trans hk)⟩
    . exact ⟨some .ret,_,by have:=run_endLoop (P:=P) hl (by rw [hrec];simp);rw [hrec] at this;exact this,wpIn_ret (hstop (U A) pre _ (hU hA) hpre (hput hJx hA rfl hi hl) (iH (iG rfl)) ((jO (by omega)).trans hk))⟩
def SR {α:Type} {P:Program} {g:Operand} {ps:Array Tmp} {G N:Code} {Q:Exit->Act->wD->Prop} {a:Act} {w:wD} {X:Nat} {lb:lV} {rep:Nat->wD->lV->α->Prop} {V:nP} {S:List α}
 (hg:a.eval g = .func (.func X) #[] lb.toArray) (eg:B0 P X=true) (Y:IterOk P X lb rep V S w) (Z:∀c W vs x,rep c W vs x->vs.length=ps.size) (aa:∀k,V k->k<w.heap.size)
 (J Jx:(nP)->List α->wD->Prop) (hJ:EM w.heap.size J) (ab:EM w.heap.size Jx) (h0:J (λ_=>False) [] w)
 (M:∀r A pre x vs W,(∀k,A k->w.heap.size<=k/\k<W.heap.size)->A (w.heap.size+1)->J A pre W->rep (w.heap.size+2) W vs x->(pre++[x]) <+: S ->
  G.wpIn (WF (some r)) 0 P (Exit.then (λa₁ W₁=>Keeps (λk=>A k\/V k) W W₁ /\ ∀W₂,Fr (λk=>k=w.heap.size+1) W₁ W₂->N.wpIn (WF (some r)) 0 P (Eo (λk=>A k\/V k) J Jx A (pre++[x]) W₂) a₁ W₂) (λ_ _ _=>False))
   { tmps:=(ps.zip vs.toArray).foldl (λt (p,v)=>t.setIfInBounds p v) a.tmps,defers:=[] } W)
 (O:∀A W,(∀k,A k->w.heap.size<=k)->J A S W->A w.heap.size->W.heap[w.heap.size]? = some (.deferred (some []))->Q .normal { a with defers:={ target:=.collected w.heap.size,args:= #[] }::a.defers } W)
 (U:∀A pre W,(∀k,A k->w.heap.size<=k)->pre <+: S->Jx A pre W->A w.heap.size->W.heap[w.heap.size]? = some (.deferred (some []))->Q .ret { a with defers:={ target:=.collected w.heap.size,args:= #[] }::a.defers } W) :
 (Code.rangeFunc g ps G N).wpIn (WF none) 0 P Q a w  :=
 Lm hg eg Y.gen Z aa J Jx hJ ab h0 M (λA S' W e h=>by subst e;exact O A W h) U
section
variable {P:Program} {n:Nat} {l:Sl} {S:wD->Prop} {tab:Tab} {ty:TypeId}
def DN {x y:Operand} {t e M sz len cap m:Nat} {sE:Sk} {a:oA} {k:IntKind} {U:Int} (T:TabOk P tab) (Y:AD tab t=some (.slice e,M)) (Z:AD tab e=some (sE,sz)) (hx:ev l x=some (.slice a len cap)) (hy:ev l y=some (.int k U)) (N:U=(m:Int)) (hm:m<=cap) :
 Br P n l S (.slice t x none (some y) none) ty (.slice a m cap):=by
 subst N;unfold Br;intro aa w ab pos after g V _;have X:P.underlying t=some (.slice e):=(T _ _ _ Y).under;have h:P.elem t=e:=by simp [Program.elem,X]
 have G:P.underlying t=some (.slice (P.elem t)):=by rw [h];exact X
 obtain ⟨i,hi,hs⟩:=(T _ _ _ Z).info;have O:(Go.sizeOf e).run P w = .ok sz w:=by simp [Go.sizeOf,typeInfo,program,kG,bind,Sem.bind,pure,hi,hs]
 have h1:(Instr.sliceAt t (.slice a len cap) none (some (.int k (m:Int))) none).run P w = .ok (.slice a m cap) w:=by
  rw [run_sliceAt_slice w t _ _ _ _ G,run_slice_h w t a len cap G k m Ab Ab];rw [h,O];cases a<;>simp [iP,sliced,ki]
 simp [execOp,V.ev hx,V.ev hy,iV,h1,iP]
end
open Go.Proofs
variable {n e:Nat} {w:wD} {v:Value} {xs:List Nd} {P:Program} {ty:TypeId} {cs:lV} {R:nP} {l:Sl}
attribute [local irreducible] Go.Calls
mutual
def Nd.walk:Nd->List Nd
 | .mk k n s l=>.mk k n s l::BV l
def BV:List Nd->List Nd
 | []=>[]
 | t::r=>t.walk++BV r
end
def Hw:∀l m:List Nd,BV (l++m)=BV l++BV m
 | [],m=>by simp [BV]
 | t::r,m=>by simp only [kp,BV,Hw r m,jk]
def J6 {l:List Nd} {j:Nat} (h:j<l.length):BV (l.take (j+1))=BV (l.take j)++l[j].walk:=by
 rw [iI h,Hw,BV,BV,lE]
def QO {l:List Nd} {j:Nat} (h:j<l.length):BV (l.take j)++l[j].walk <+: BV l:=by
 rw [<-J6 h];exact ⟨BV (l.drop (j+1)),by rw [<-Hw,jA]⟩
def Zc (b0:Nat) (W:wD) (vs:lV) (t:Nd):Prop:= ∃pa pn pc a c,vs=[.slice pa pn pc,t.val a c]/\t.sits (λb=>b0<=b) W a/\t.kids.length<=c
def SliceR (n:Nat) (w:wD):Ending->wD->Prop:=λe w'=> ∃a c,e = .returned (.slice a n c)/\Ext w w'
def SliceR.ret {e:Ending} {w':wD} (h:SliceR n w e w'):∃v,e = .returned v:=by
 obtain ⟨_,_,h,-⟩:=h;exact ⟨_,h⟩
def SS {B g cap m k:Nat} {w':wD} (h:0+k=m) (_:OwnF e 1 B w' g cap m ([]++cs)) (X:Ext w w'):SliceR k w (.returned (.slice (some ⟨g,0,none⟩) m cap)) w':=⟨_,_,by rw [<-h,jC],X⟩
def Ln (cs:lV) (n:Nat) (N:cs.length=n*1) (O:cs.all mW=true) (hl:n<=1000000000) (S:nP) (p:Addr) (c:Nat) (w:wD) (h:Rows S w cs (some p)) :
 Calls prog 88 #[.slice (some p) n c] w (SliceR n w):=by
 have X:=Ne w;have h:=h.ltA;refine Ad func88 ntmps88 rfl rfl (eK ?_);refine C1 (Mk Ac rfl rfl) (eK ?_);refine Aw (JU (B:=w.heap.size) Ac rfl rfl Ab) rfl ?_ aFh;rintro _ w6 ⟨g1,rfl,h2,h3,h4,U⟩;revert X h;refine eE U ?_;intro X h;refine C1 Mv (Aw (JV Ac CC rfl rfl rfl rfl AU rfl rfl rfl Ae Ae N O Ab) rfl ?_ aFh);rintro _ V ⟨Y,G,rfl,Z,aa,ab,M⟩;have X:=X.fr M Ab;refine kR ?_;exact SS rfl Ae X
def Lo (w:wD):Calls prog 88 #[.slice none 0 0] w (SliceR 0 w):=by
 have X:=Ne w;refine Ad func88 ntmps88 rfl rfl (eK ?_);refine C1 (Mj Ac rfl rfl) (kR ?_);exact ⟨_,_,rfl,X⟩
def QP {b:Nat} (h:Own w b e 1 v n cs) (G:cs.all mW=true) (M:n<=1000000000):Calls prog 88 #[v] w (SliceR n w):=by
 rcases h.row with ⟨rfl,rfl,rfl⟩|⟨g,cap,rfl,O,-,N⟩
 . exact Lo w
 . exact Ln cs n h.1 G M (λ_=>True) _ _ w (iH ⟨g,0,rfl,trivial,N⟩)
section
variable {S:wD->Prop} {tab:Tab} {zt:EA} {ops:Array Oper} {Q:Exit->Act->wD->Prop} {rest:List Oper} {d:Nat} {pos:String} {after:Array Edge}
def ST {x y:Operand} {t N B m cap:Nat} {sE:Sk} {zs:lV} {u:Value} {p:Addr} (T:TabOk P tab) (Z:Ct P zt) (Y:AD tab t=some (.slice e,N)) (hE:AD tab e=some (sE,1)) (hz:CS zt e=some zs) (O:zs.length=1)
 (U:Dt P e=true) (hx:ev l x=some v) (hy:ev l y=some (.slice (some p) 1 cap)) (M:Own w B e 1 v m cs) (hr:Row w p [u]) (h1:mW u=true) (V:m<=10000000000) (hB:B<=w.heap.size) (hd:jg d n=true)
 (k:∀g G w1,Own w1 B e 1 (.slice (some ⟨g,0,none⟩) (m+1) G) (m+1) (cs++[u])->(v.ownBlock=some g\/w.heap.size<=g)->g<w1.heap.size->Fr (λk=>v.ownBlock=some k) w w1->LW P n ops Q rest ((d,.slice (some ⟨g,0,none⟩) (m+1) G)::l) w1) :
 LW P n ops Q (⟨some d,.call ⟨.builtin .append,#[x,y],#[t,t]⟩,ty,pos,after,none⟩::rest) l w:=by
 refine Aw (Ea T Z Y hE hz O U rfl hx hy M hr rfl (by simp [h1]) Ab Ab hB) hd (λv w1 h=>?_) aFh;obtain ⟨X,g2,g,G,g3,g4⟩:=h;subst g3;exact k g G w1 X g4 (X.blk (k:=g) rfl).2 g2
end
def Own.below {b sz:Nat} (h:Own w b e sz v n cs) (G:Nat) (N:∀k,v.ownBlock=some k->G<=k):Own w G e sz v n cs:=by
 obtain ⟨M,O|⟨g,cap,cur,rfl,V,U⟩⟩:=h
 . exact ⟨M,iG O⟩
 . exact ⟨M,iH ⟨g,cap,cur,rfl,N g rfl,U⟩⟩
def Own.shrink {b sz m:Nat} {p:Addr} {cap:Nat} (h:Own w b e sz (.slice (some p) n cap) n cs) (V:m<=n):Own w b e sz (.slice (some p) m cap) m (cs.take (m*sz)):=by
 have G:m*sz<=n*sz:=kq _ V;obtain ⟨M,⟨X,-⟩|⟨g,N,cur,O,Y,Z,hc,h3,h4,U⟩⟩:=h
 . simp at X
 . simp only [jm,iL] at O;obtain ⟨rfl,-,rfl⟩:=O;refine ⟨by rw [jp,M];omega,iH ⟨g,cap,cur,rfl,Y,Z,Ab,h3,h4,?_⟩⟩;rw [<-U,List.take_take,lP];rw [<-M,<-U,jp] at G;omega
structure VSt (y c bY bP bV:Nat) (A:nP) (W:wD) (pv:Value) (d:Nat):Prop where
 y0:Blk W bY [.func (.yield y) #[] #[]]
 p0:Blk W bP [pv]
 v0:Blk W bV [.func (.func 176) #[] #[.pointer (some ⟨bY,0,none⟩),.pointer (some ⟨bP,0,none⟩),.pointer (some ⟨bV,0,none⟩)]]
 own:∃cs:lV,cs.all mW=true/\Own W c 3 1 pv d cs
 a0:A bY
 a1:A bP
 a2:A bV
 ap:∀g,pv.ownBlock=some g->A g/\g≠bY/\g≠bP/\g≠bV
 ne:bY≠bP/\bV≠bP
 lt:∀k,A k->c<=k/\k<W.heap.size
def eO (Rt A:nP) (bP:Nat) (pv:Value):nP:=λk=>Rt k\/(A k/\k≠bP/\pv.ownBlock≠some k)
def gK (y c bY bP bV:Nat) (Rt:nP) (J Jx:(nP)->List Nd->wD->Prop) (S:List Nd) (A:nP) (xs:List Nd) (W:wD) (pv:Value) (d:Nat) (q:Bool) (W':wD):Prop:=
 ∃A':nP,(∀k,A k->A' k)/\(∀k,A' k->c<=k) /\
  ((q=true /\ ∃pv',VSt y c bY bP bV A' W' pv' d/\J A' xs W'/\(∀g,pv'.ownBlock=some g->pv.ownBlock=some g\/W.heap.size<=g)/\Keeps (eO Rt A bP pv) W W')\/(q=false /\ ∃pre,pre <+: S/\Jx A' pre W'))
def VEnd (y c bY bP bV:Nat) (Rt:nP) (J Jx:(nP)->List Nd->wD->Prop) (S:List Nd) (A:nP) (xs:List Nd) (W:wD) (pv:Value) (d:Nat):Ending->wD->Prop:=λe W'=>
 ∃q,e = .returned (.bool q)/\gK y c bY bP bV Rt J Jx S A xs W pv d q W'
def VEnd.ret {c G M N:Nat} {J Jx:(nP)->List Nd->wD->Prop} {S:List Nd} {A:nP} {U:Value} {d:Nat} {e:Ending} {W':wD} (h:VEnd n c G M N R J Jx S A xs w U d e W'):∃v,e = .returned v:=by
 obtain ⟨_,h,-⟩:=h;exact ⟨_,h⟩
def T9 {c M N:Nat} {J Jx:(nP)->List Nd->wD->Prop} {S:List Nd} {A:nP} {W:wD} {d:Nat} (w:wD):¬VEnd n c e M N R J Jx S A xs W v d .outgrown w:=λ⟨_,h,_⟩=>by cases h
def YRes (Rt:nP) (J Jx:(nP)->List Nd->wD->Prop) (A:nP) (xs:List Nd) (W:wD):Ending->wD->Prop:=λe W'=>
 Keeps (λk=>A k\/Rt k) W W'/\((e = .returned (.bool true)/\J A xs W')\/(e = .returned (.bool false)/\Jx A xs W'))
def YRes.ret {J Jx:(nP)->List Nd->wD->Prop} {A:nP} {e:Ending} {W':wD} (h:YRes R J Jx A xs w e W'):∃v,e = .returned v:=by
 obtain ⟨-,⟨h,-⟩|⟨h,-⟩⟩:=h<;>exact ⟨_,h⟩
def Zd (y c bY bP bV:Nat) (Rt:nP) (be:∀k,Rt k->k<c) (J Jx:(nP)->List Nd->wD->Prop) (hJ:EM c J) (S:List Nd)
 (hY:∀A pre x vs W1,(∀k,A k->c<=k/\k<W1.heap.size)->J A pre W1->Zc c W1 vs x->(pre++[x]) <+: S->YieldAt (WF none) 0 prog y vs.toArray W1 (YRes Rt J Jx A (pre++[x]) W1)) (N:Nat) :
 ∀(t:Nd) (A:nP) (pre:List Nd) (a:oA) (ca:Nat) (W:wD) (pv:Value) (d:Nat),t.size<N->t.size<=1000000->d+t.size<=2000000->t.sits Rt W a->VSt y c bY bP bV A W pv d->J A pre W->(pre++t.walk) <+: S ->
  Calls prog 176 #[t.val a ca,pt bY,pt bP,pt bV] W (VEnd y c bY bP bV Rt J Jx S A (pre++t.walk) W pv d):=by
 induction N with
 | zero=>intro t A pre a ca W pv d h;omega
 | succ N ih=>
  rintro ⟨k,n,s,l⟩ A pre a ca W pv d hN hM hd hs hV bn a9;have hz:(Nd.mk k n s l).size=1+AV l:=by rw [mR]
  have cv:=Cz l;rw [hz] at hN hd;have hT:=iF (T4 (.mk k n s l) hM);rw [hz] at hM;obtain ⟨V,p0,v0,⟨cs,bo,G⟩,a0,a1,a2,ap,ne,Z⟩:=hV;have l0:=Z _ a0;have l1:=Z _ a1;have l2:=Z _ a2;have HP:=iF a9;have HS:=iF hs;have HJ:=iF bn;have bf:=iF ap;have HL:=iF Z;have IH:=iF ih;have HY:=iF hY;have bg:=iF hJ;clear ap Z a9 bn hs ih hY hJ;have X:=Ne W;refine Ad func176 ntmps176 rfl rfl ?_;refine cS (eB [_,_,_,_] ?_);intro b1 w2 h4 x5 p6 z7;revert V p0 v0 G X;refine eE x5 ?_;intro V p0 v0 G X;refine C1 Pa (cT (Aj ?_));refine Aj (QN (λwz=>Ext w2 wz) 5 (.pure 0 (.pure 1 (.pure 3 (.fork 2 (.fork 4 .tail .none) .none)))) mixed AU (Aa (Aa Ag)) (Bw (Bw (J3 T9))) ?_);intro w3 x3 _;refine ⟨x3,?_⟩;refine GY rfl (Ap Ac rfl rfl rfl (λwz hz=>mM (mN V hz) rfl)) rfl (GY rfl (Ap Ac rfl rfl rfl (λwz hz=>mM (mN p0 hz) rfl)) rfl (GY rfl (In Ac rfl rfl rfl rfl (λwz hz=>mS (mN h4 hz))) rfl ?_));refine PE rfl rfl (AM AU rfl (QP (G.ext x3) bo Ab) (λ_ _ h=>h.ret)) rfl ?_ aFh PC;rintro _ w4 ⟨pa,pc,⟨⟩,x4⟩;have au:=m8 x3 x4;refine ⟨au,?_⟩;refine PE rfl rfl (AM AU rfl (hT.out Rt a ca w4 (nz HS.out (X.trans au))) (λ_ _ h=>h.ret)) rfl ?_ aFh PC;rintro _ w5 ⟨ta,tc,⟨⟩,ts,x5,tk⟩;have ag:=m8 au x5;refine ⟨ag,?_⟩;refine T8 rfl ?_;have X5:=X.trans ag
  obtain ⟨A5,av⟩:∃A5:nP,A5=λk=>A k\/(W.heap.size<=k/\k<w5.heap.size):=⟨_,rfl⟩
  have Y:∀k,A k->A5 k:=λk M=>by rw [av];exact iG M
  have ao:∀k,A5 k->c<=k/\k<w5.heap.size:=λk M=>by
   rw [av] at M;rcases M with M|M
   . have:=HL.out k M;have:=X5.size;omega
   . omega
  have bp:A5 b1:=by rw [av];have:=h4.lt;have:=ag.size;exact iH ⟨Ab,Ab⟩
  have J5:J A5 pre w5:=bg.out A _ pre W w5 HJ.out ⟨X5.os,X5.tape,X5.output,X5.size,λk M _=>X5.block M⟩ (λk M=>(HL.out k M).1) (λk M=>(ao k M).1) (λk M h=>by rw [av] at h;exact h.elim id (λh=>by omega));clear av;have aw:pre++[Nd.mk k n s l] <+: S:=List.IsPrefix.trans ⟨BV l,by simp [Nd.walk]⟩ HP.out;refine My rfl rfl (HY.out _ pre (.mk k n s l) [_,_] w5 ao J5 ⟨pa,_,pc,ta,tc,rfl,mK ts (λb hb=>by have:=au.size;omega),tk⟩ aw) (λ_ _ h=>h.ret) rfl ?_;rintro v w6 ⟨ah,b8⟩;refine W0 (Bw (Bw (J3 T9))) rfl ?_;rcases b8 with ⟨⟨⟩,a4⟩|⟨⟨⟩,a4⟩
  case inr=>
   clear V p0 v0 h4 G X;refine kR ?_;exact ⟨false,rfl,A5,Y,λk h=>(ao k h).1,iH ⟨rfl,_,aw,a4⟩⟩
  have hK:Keeps (eO Rt A bP pv) W w6:=(Keeps.of_ext X5).trans (Keeps.less ah (λk M=>M.elim iH (λh=>iG (Y k h.1))));have aq:∀k,A5 k -> ¬ ¬(A5 k\/Rt k):=λk h e=>e (iG h)
  have V:=(V.ext ag).fr ah (aq _ (Y _ a0));have p0:=(p0.ext ag).fr ah (aq _ (Y _ a1));have v0:=(v0.ext ag).fr ah (aq _ (Y _ a2));have h4:=(h4.ext ag).fr ah (aq _ bp);have G:=(G.ext ag).fr ah (λg hg=>aq _ (Y _ (bf.out g hg).1));have bq:rowSits Rt w6 l a:=((EL HS.out).ext X5).fr ah (λb hb e=>e (iH hb));have b9:=ah.size;have cb:=X5.size;have br:VSt y c bY bP bV A5 w6 pv d:=⟨V,p0,v0,⟨cs,bo,G⟩,Y _ a0,Y _ a1,Y _ a2,λg hg=>⟨Y _ (bf.out g hg).1,(bf.out g hg).2⟩,ne,λk h=>⟨(ao k h).1,by have:=ao k h;omega⟩⟩;clear X aq V p0 v0 G hT HY ts x3 x4 x5 au ag X5 J5 ah ao bp;refine C1 Pt (cT (Ba rfl (Ao (Ai (Aj (cS (C1 Pf (C1 (Pl h4) (C1 Pz (C1 Mv (cT ?_)))))))))));refine Au ?_;refine AP (ι:=Nat×(nP)×Value) (λx=>[(1,pt bY),(2,pt bP),(3,pt bV),(16,.slice a l.length ca),(17,.int .i64 l.length),(18,.int .i64 x.1)])
   (λx w'=>x.1<=l.length/\VSt y c bY bP bV x.2.1 w' x.2.2 d/\J x.2.1 (pre++[.mk k n s l]++BV (l.take x.1)) w'/\rowSits Rt w' l a/\Keeps (eO Rt A bP pv) W w'/\(∀g,x.2.2.ownBlock=some g->pv.ownBlock=some g\/W.heap.size<=g)/\(∀k,A k->x.2.1 k))
   (λx=>l.length-x.1) (0,A5,pv) sB ⟨iT _,br,by simpa [BV] using a4,bq,hK,λg hg=>iG hg,Y⟩ ?_
  clear br a4 bq hK Y h4 b9 cb;rintro ⟨j,B,qv⟩ w7 ⟨hj,hV,ax,O,a5,a6,ay⟩;simp only at hj hV ax O a5 a6 ay;by_cases Z:j<l.length
  . obtain ⟨V,p0,v0,⟨ds,cc,G⟩,a0,a1,a2,ap,-,ar⟩:=hV;obtain ⟨kb,ko,rfl,kS,ba⟩:=BI O (by intro e;subst e;simp at Z);obtain ⟨xa,xc,rx,sx⟩:=ba j l[j] (iE Z);have c7:=CP (iS Z);have bh:=J6 Z;have cd:=QO Z;have HB:=iF ar;have aj:=iF ap;have HR:=iF be;have l0:=ar _ a0;have l1:=ar _ a1;have l2:=ar _ a2;have c8:=be _ kS;have bs:=iF ax;have bi:=iF a5;have a7:=iF a6;have ak:∀g,qv.ownBlock=some g->c<=g/\g<w7.heap.size:=λg hg=>ar _ (ap g hg).1
    clear ba ar ap ax a5 a6 be;generalize l[j]=x at *;have X7:=mI (λk=>k=bP\/qv.ownBlock=some k) w7;refine eK ?_;refine eA [_,_,_,_] ?_;intro ce c9 cf cg da db;revert V p0 v0 G O rx sx X7;refine eE cg ?_;intro V p0 v0 G O rx sx X7;refine C1 Pa (eS [_,_,_,_] cf ?_);intro dc aa ae cw;revert V p0 v0;refine eF ae ?_;intro V p0 v0;have G:=mY G ae (λg hg e=>by have:=ak _ hg;omega);have O:=nb O ae (λb hb h=>by have:=HR.out _ hb;omega);have rx:=mT rx ae (by simp only;omega);have sx:=mF sx ae (λb hb h=>by have:=HR.out _ hb;omega);have X7:=X7.fr ae Ab;refine eK ?_;refine Aw (xS [_]) rfl ?_ aFh;rintro _ cx ⟨cy,rfl,am,cz⟩;have af:=am.blk;dsimp only at af;have bt:=am.ext;have c0:=am.pos;have c1:=am.size;revert aa V p0 v0 G O rx sx X7;refine eE bt ?_;intro aa V p0 v0 G O rx sx X7;refine ST Ac CC rfl rfl rfl rfl AU rfl rfl Ae (mS Ae) rfl Ab Ab rfl ?_;rintro ai ab c2 an az c3 U;have c4:=U.size;have af:=mH af U (λh=>by have:=ak _ h;omega);have aa:=mH aa U (λh=>by have:=ak _ h;omega);have V:=mH V U (λh=>(aj.out _ h).2.1 rfl);have p0:=mH p0 U (λh=>(aj.out _ h).2.2.1 rfl);have v0:=mH v0 U (λh=>(aj.out _ h).2.2.2 rfl);clear G;have O:=nb O U (λb hb h=>by have:=ak _ h;have:=HR.out _ hb;omega);clear rx;have sx:=mF sx U (λb hb h=>by have:=ak _ h;have:=HR.out _ hb;omega);have X7:=mL X7 U (λk M=>iG (iH M));refine eS [_] p0 ?_;intro ac bb ad c5;have an:=mY an ad (λk M e=>by (obtain rfl:=iQ (show some ai=some k from M);rcases az with h|h;exact (aj.out _ h).2.2.1 e;omega));revert af aa;refine eF ad ?_;intro af aa;have V:=mH V ad (λh=>ne.1 h);have v0:=mH v0 ad (λh=>ne.2 h);have O:=nb O ad (λb hb h=>by have:=HR.out _ hb;omega);have sx:=mF sx ad (λb hb h=>by have:=HR.out _ hb;omega);have X7:=X7.fr ad Ab;refine cT (Aj ?_)
    have dd:=X7.size;obtain ⟨D,hD⟩:∃D:nP,D=λk=>B k\/(w7.heap.size<=k/\k<ac.heap.size):=⟨_,rfl⟩
    have al:∀k,B k->D k:=λk M=>by rw [hD];exact iG M
    have bu:∀k,D k->c<=k/\k<ac.heap.size:=λk M=>by
     rw [hD] at M;rcases M with M|M
     . have:=HB.out k M;omega
     . omega
    have G:∀g,(jf (some ⟨ai,0,none⟩) (d+1) ab).ownBlock=some g->D g/\g≠bY/\g≠bP/\g≠bV/\(qv.ownBlock=some g\/w7.heap.size<=g):=λg hg=>by
     obtain rfl:=iQ (show some ai=some g from hg);rcases az with h|h
     . have:=aj.out _ h;exact ⟨al _ this.1,this.2.1,this.2.2.1,this.2.2.2,iG h⟩
     . exact ⟨by rw [hD];exact iH ⟨Ab,Ab⟩,Ab,Ab,Ab,iH Ab⟩
    have bv:VSt y c bY bP bV D ac (.slice (some ⟨ai,0,none⟩) (d+1) ab) (d+1):=⟨V,bb,v0,⟨_,by rw [mb,cc];rfl,an⟩,al _ a0,al _ a1,al _ a2,λg hg=>⟨(G g hg).1,(G g hg).2.1,(G g hg).2.2.1,(G g hg).2.2.2.1⟩,ne,bu⟩;have J8:J D (pre++[Nd.mk k n s l]++BV (List.take j l)) ac:=bg.out B D _ w7 ac bs.out (X7.weaken (λk M=>M.elim (λe=>e▸a1) (λe=>(aj.out _ e).1))) (λk M=>(HB.out k M).1) (λk M=>(bu k M).1) (λk M h=>by rw [hD] at h;exact h.elim id (λh=>by omega));have bj:pre++[Nd.mk k n s l]++BV (List.take j l)++x.walk <+: S:=by
     refine List.IsPrefix.trans ?_ HP.out;rw [Nd.walk,<-lK,jk,jk,jk];exact (List.prefix_append_right_inj _).2 ((List.prefix_append_right_inj _).2 cd)
    have HX:=iF (IH.out x D _ xa xc ac _ (d+1) Ab Ab Ab sx bv J8 bj);have de:D ce:=by rw [hD];exact iH ⟨Ab,Ab⟩
    have bw:Keeps (eO Rt A bP pv) W ac:=bi.out.trans (Keeps.of_fr X7 (λk M h=>by
     rcases M with M|⟨h1,h2,h3⟩
     . rcases h with h|h
       . have:=HR.out _ M;omega
       . have:=HR.out _ M;have:=ak _ h;omega
     . rcases h with h|h
       . exact h2 h
       . rcases a7.out _ h with h|h
         . exact h3 h
         . have:=HL.out _ h1;omega))
    have df:=bi.out.size;clear hD J8 bv an az bs bi sx X7;refine eK ?_;refine Aw (A9 (fi:=[]) (ca:=[pt bY,pt bP,pt bV]) AU rfl rfl HX.out (λ_ _ h=>h.ret)) rfl ?_ aFh;rintro _ bx ⟨dg,⟨⟩,ch⟩;refine C1 Pt (cT ?_);obtain ⟨E,bz,bk,⟨rfl,ci,cj,J9,b0,a8⟩|⟨rfl,b2,ck,cl⟩⟩:=ch
    . have b3:∀k,eO Rt A bP pv k->eO Rt D bP (.slice (some ⟨ai,0,none⟩) (d+1) ab) k:=λk M=>by
       rcases M with M|⟨h1,h2,h3⟩
       . exact iG M
       . refine iH ⟨al _ (ay _ h1),h2,λe=>?_⟩;rcases (G _ e).2.2.2.2 with h|h
         . rcases a7.out _ h with h|h
           . exact h3 h
           . have:=HL.out _ h1;omega
         . have:=HL.out _ h1;omega
      have b4:=iF (bw.trans (a8.less b3));have bl:=O.fr a8 (λb hb e=>e (iG hb));have dh:=a8.size;have bc:∀g,ci.ownBlock=some g->pv.ownBlock=some g\/W.heap.size<=g:=λg hg=>by
       rcases b0 g hg with h|h
       . rcases (G g h).2.2.2.2 with h|h
         . exact a7.out g h
         . exact iH Ab
       . exact iH Ab
      clear bb af aa V v0 O bw a8 G b3 b0 a7 HX aj ak;obtain ⟨V,p0,v0,⟨di,b5,G⟩,cm,b6,cn,ap,-,b7⟩:=cj;rcases G.row with ⟨-,h0,-⟩|⟨g',bd,rfl,-,-,-⟩
      . omega
      have co:=iF ap;have cp:g'≠bP:=(ap g' rfl).2.2.1;have c6:d+1<=bd:=OwnF.le (B:=0) ⟨iT _,(G.below g' (λk M=>by obtain rfl:=iQ (show some g'=some k from M);exact iW _))⟩;have hm:((d+1:Nat):Int)-1=(d:Int):=by omega
      have bm:=G.shrink (m:=d) Ab;have HQ:=iF bc;have HE:=iF b7;have cq:=iF J9;clear G ap bc b7 J9;have X9:=mI (λk=>k=bP) bx;refine eK ?_;refine C1 (AL rfl rfl (iO _ Ab)) (C1 (DN Ac rfl rfl rfl rfl hm Ab) (eS [_] p0 ?_));intro cr ct a3 dk;have bl:=nb bl a3 (λb hb h=>by have:=HR.out _ hb;omega);have V:=mH V a3 (λh=>ne.1 h);have v0:=mH v0 a3 (λh=>ne.2 h);have bm:=mY bm a3 (λk M e=>cp ((iQ (show some g'=some k from M)).trans e));have X9:=X9.fr a3 Ab;refine Ak (Ah (Ai (Al (C1 V7 (C1 Mv (Ak ?_))))));refine AA (j+1,E,.slice (some ⟨g',0,none⟩) d bd) sB ⟨by simp only;omega,⟨V,ct,v0,⟨_,jr.2 (λx hx=>jr.1 b5 x (jY hx)),bm⟩,cm,b6,cn,λg hg=>co.out g hg,ne,λk h=>⟨(HE.out k h).1,by have:=(HE.out k h).2;omega⟩⟩,?_,bl,b4.out.trans (Keeps.of_fr X9 (λk M e=>?_)),λg hg=>HQ.out g hg,λk h=>bz _ (al _ (ay _ h))⟩ (by simp only;omega)
      . simp only;rw [bh,<-jk];exact bg.out E E _ bx cr cq.out (X9.weaken (λk e=>e▸b6)) bk bk (λ_ _ h=>h)
      . rcases M with M|M
        . have:=HR.out _ M;omega
        . exact M.2.1 e
    . refine kR ?_;exact ⟨false,rfl,E,λk h=>bz k (al k (ay k h)),bk,iH ⟨rfl,b2,ck,cl⟩⟩
  . obtain rfl:j=l.length:=by omega
    rw [iZ] at ax;have cu:J B (pre++(Nd.mk k n s l).walk) w7:=by rw [Nd.walk,<-lK,<-jk];exact ax
    refine kR ?_;exact ⟨true,rfl,B,ay,λk h=>(hV.lt k h).1,iG ⟨rfl,qv,hV,cu,a6,a5⟩⟩
structure OwnQ {α:Type} (sh:Shape α) (w:wD) (R:nP) (B e:Nat) (v:Value) (xs:List α):Prop where
 ex:∃css:List lV,Own w B e sh.sz v xs.length css.flatten/\css.length=xs.length /\ ∀(i:Nat) (x:α) (cs:lV),xs[i]? = some x->css[i]? = some cs->sh.rep w (λb=>R b/\v.ownBlock≠some b) x cs
section
variable {α:Type} {sh:Shape α} {R':nP} {B:Nat} {w':wD} {xs:List α}
def OwnQ.nil:OwnQ sh w R B e (.slice none 0 0) []:=⟨⟨[],nB,rfl,AN⟩⟩
def OwnQ.ge (h:OwnQ sh w R B e v xs) {k:Nat} (G:v.ownBlock=some k):B<=k:=by
 obtain ⟨M,N,-⟩:=h.ex;exact N.ge G
def OwnQ.lt (h:OwnQ sh w R B e v xs) {k:Nat} (G:v.ownBlock=some k):k<w.heap.size:=by
 obtain ⟨M,N,-⟩:=h.ex;exact (N.blk G).2
def OwnQ.ext (h:OwnQ sh w R B e v xs) (x:Ext w w'):OwnQ sh w' R B e v xs:=by
 obtain ⟨G,M,N,O⟩:=h.ex;exact ⟨G,M.ext x,N,λi y cs U V=>sh.mono (O i y cs U V) aFh (λb o u _ X=>x.keep X)⟩
instance  : LfE w w' (OwnQ sh w R B e v xs) (OwnQ sh w' R B e v xs):=⟨λx h=>Bk.OwnQ.ext h x⟩
def OwnQ.fr {S:nP} (h:OwnQ sh w R B e v xs) (x:Fr S w w') (N:∀k,S k -> ¬R k/\v.ownBlock≠some k):OwnQ sh w' R B e v xs:=by
 obtain ⟨G,O,U,V⟩:=h.ex;exact ⟨G,O.fr x (λk X M=>(N k M).2 X),U,λi y cs Y Z=>sh.mono (V i y cs Y Z) aFh (λb o u hb hu=>x.keep (λM=>(N b M).1 hb.1) hu)⟩
instance {S:nP}:LfF S w w' (OwnQ sh w R B e v xs) (∀k,S k -> ¬R k/\v.ownBlock≠some k) (OwnQ sh w' R B e v xs):=⟨λx s h=>Bk.OwnQ.fr h x s⟩
def OwnQ.ltR (h:OwnQ sh w R B e v xs):OwnQ sh w (λb=>R b/\b<w.heap.size) B e v xs:=by
 obtain ⟨G,N,O,U⟩:=h.ex;exact ⟨G,N,O,λi y cs V X=>sh.mono (sh.lt (U i y cs V X)) (λb M=>⟨⟨M.1.1,M.2⟩,M.1.2⟩) (λ_ _ _ _ Y=>Y)⟩
def OwnQ.below (h:OwnQ sh w R B e v xs) (N:∀k,v.ownBlock=some k->n<=k):OwnQ sh w R n e v xs:=by
 obtain ⟨G,O,U,V⟩:=h.ex;refine ⟨G,?_,U,V⟩;obtain ⟨k1,X|⟨g,cap,cur,rfl,Z,Y⟩⟩:=O
 . exact ⟨k1,iG X⟩
 . exact ⟨k1,iH ⟨g,cap,cur,rfl,N g rfl,Y⟩⟩
def fD (sh:Shape α) (w:wD) (R:nP) (B:Nat) (e:TypeId) (v:Value) (ys:List α):Option Value->wD->Prop
 | some v',w'=> ∃g cap,v' = .slice (some ⟨g,0,none⟩) ys.length cap/\OwnQ sh w' R B e v' ys/\(v.ownBlock=some g\/w.heap.size<=g)/\g<w'.heap.size/\Fr (λk=>v.ownBlock=some k) w w'
 | none,_=>False
def GZ {tab:Tab} {zt:EA} {x y:Operand} {t sz1 cap:Nat} {sE:Sk} {zs:lV} {z:α} {p:Addr} (T:TabOk P tab) (Z:Ct P zt) (ht:AD tab t=some (.slice e,sz1)) (hE:AD tab e=some (sE,sh.sz)) (hz:CS zt e=some zs) (hzl:zs.length=sh.sz)
 (hby:Dt P e=true) (hsz:jg 0 sh.sz=true) (hx:ev l x=some v) (hy:ev l y=some (.slice (some p) 1 cap)) (hown:OwnQ sh w R' B e v xs) (hw:∀b,R' b->R b) (hr:Row w p cs) (hrep:sh.rep w (λb=>R b/\v.ownBlock≠some b) z cs) (hlen:xs.length<=10000000000) (hB:B<=w.heap.size) :
 BG P n l (.call ⟨.builtin .append,#[x,y],#[t,t]⟩) ty w (fD sh w R B e v (xs++[z])):=by
 obtain ⟨css,h1,h2,h3'⟩:=hown.ex;have h3:∀(i:Nat) (x:α) (cs:lV),xs[i]? = some x->css[i]? = some cs->sh.rep w (λb=>R b/\v.ownBlock≠some b) x cs:=λi y cs hy hc=>sh.mono (h3' i y cs hy hc) (λb hb=>⟨hw b hb.1,hb.2⟩) (λ_ _ _ _ hu=>hu)
 have hd:=Ea (P:=P) (n:=n) (l:=l) (ty:=ty) T Z ht hE hz hzl hby hsz hx hy h1 hr (by rw [sh.len hrep];simp) (sh.one hrep) Ab Ab hB;unfold BG at hd ⊢;intro a dst pos after g next Q ha hn c;refine hd a dst pos after g next Q ha (λv' w' hG=>?_) (λw' hG=>hG.elim);obtain ⟨g1,g2,g,cap',g3,g4⟩:=hG;have hg:=g1.blk (k:=g) (by rw [g3];rfl);refine hn v' w' ⟨g,cap',by rw [g3];simp,⟨css++[cs],?_,by simp [h2],λi y ds hy hc=>?_⟩,g4,hg.2,g2⟩
 . have e1:(css++[cs]).flatten=css.flatten++cs:=by simp
   have e2:(xs++[z]).length=xs.length+1:=by simp
   rw [e1,e2];exact g1
 . have key:sh.rep w (λb=>R b/\v.ownBlock≠some b) y ds:=by
    by_cases hi:i<xs.length
    . rw [iN hi] at hy;rw [iN Ab] at hc;exact h3 i y ds hy hc
    . have hil:i<(xs++[z]).length:=by
       rcases i7 i (xs++[z]).length with h|h
       . exact h
       . rw [iR h] at hy;cases hy
      simp only [iX,iM,ji] at hil;have hi':i=xs.length:=by omega
      subst hi';rw [iY (iW _)] at hy;rw [iY Ab] at hc;simp only [kf,ja,iL] at hy;rw [h2] at hc;simp only [kf,ja,iL] at hc;subst hy hc;exact hrep
   refine sh.mono (sh.lt key) (λb hb=>⟨hb.1.1,λe=>?_⟩) (λb o u hb hu=>g2.keep hb.1.2 hu);rw [g3] at e;simp only [km,iL] at e;subst e;rcases g4 with h|h
   . exact hb.1.2 h
   . omega
def OwnQ.rows (h:OwnQ sh w R B e v xs) (hx:xs≠[]):∃g cap,v = .slice (some ⟨g,0,none⟩) xs.length cap/\B<=g/\g<w.heap.size /\ ∀(i:Nat) (x:α),xs[i]? = some x -> ∃cs,Row w ⟨g,i*sh.sz,none⟩ cs/\sh.rep w R x cs:=by
 obtain ⟨G,V,h2,X⟩:=h.ex;have hM:OwnM sh w R B e v xs:=⟨G,V,h2,λi y cs hy hc=>sh.mono (X i y cs hy hc) (λb O=>⟨iG O.1,O.2⟩) (λ_ _ _ _ Y=>Y)⟩
 rcases V.row with ⟨rfl,hn,-⟩|⟨g,cap,rfl,hg,ad,hr⟩
 . exact absurd (List.length_eq_zero_iff.1 hn) hx
 . refine ⟨g,cap,rfl,hg,(V.blk (k:=g) rfl).2,λi x U=>?_⟩;obtain ⟨g',ac,hv,-,M⟩:=hM.rows hx;simp only [jm,iL,kN,and_true,true_and] at hv;obtain ⟨rfl,rfl⟩:=hv;have ae:i<xs.length:=by
    rcases i7 i xs.length with h|h
    . exact h
    . rw [iR h] at U;cases U
   have N:∀cs∈G,cs.length=sh.sz:=λcs Z=>by
    obtain ⟨j,hj,rfl⟩:=List.mem_iff_getElem.1 Z;have aa:xs[j]? = some xs[j]:=iE Ab;exact sh.len (X j _ _ aa (iE hj))
   have ab:G[i]? = some (G[i]'(by omega)):=iE Ab;obtain ⟨cs,k1,k2⟩:=M i x U;refine ⟨G[i]'(by omega),?_,sh.mono (X i x _ U ab) (λb O=>O.1) (λ_ _ _ _ Y=>Y)⟩;obtain ⟨f1,f2⟩:=FH N (j:=i) Ab;rw [f1] at hr;have hs:=hr.sub (i*sh.sz) sh.sz;rw [jC,jk,List.drop_left' f2,List.take_left' (N _ (iS _))] at hs;exact hs
end
section
variable {tab:Tab} {zt:EA} {α:Type} {sh:Shape α}
def Dk {ops:Array Oper} {Q:Exit->Act->wD->Prop} {rest:List Oper} {d:Nat} {pos:String} {after:Array Edge} {x y:Operand} {t U B cap:Nat} {R':nP} {sE:Sk} {zs:lV} {xs:List α} {z:α} {p:Addr} (T:TabOk P tab) (Z:Ct P zt) (ht:AD tab t=some (.slice e,U)) (hE:AD tab e=some (sE,sh.sz)) (hz:CS zt e=some zs) (V:zs.length=sh.sz)
 (X:Dt P e=true) (Y:jg 0 sh.sz=true) (hx:ev l x=some v) (hy:ev l y=some (.slice (some p) 1 cap)) (M:OwnQ sh w R' B e v xs) (hw:∀b,R' b->R b) (hr:Row w p cs) (N:sh.rep w (λb=>R b/\v.ownBlock≠some b) z cs) (O:xs.length<=10000000000) (hB:B<=w.heap.size) (hd:jg d n=true)
 (k:∀g G w1,OwnQ sh w1 R B e (.slice (some ⟨g,0,none⟩) (xs++[z]).length G) (xs++[z])->(v.ownBlock=some g\/w.heap.size<=g)->g<w1.heap.size->Fr (λk=>v.ownBlock=some k) w w1->LW P n ops Q rest ((d,.slice (some ⟨g,0,none⟩) (xs++[z]).length G)::l) w1) :
 LW P n ops Q (⟨some d,.call ⟨.builtin .append,#[x,y],#[t,t]⟩,ty,pos,after,none⟩::rest) l w:=
 Aw (GZ T Z ht hE hz V X Y hx hy M hw hr N O hB) hd (λv w1 ⟨g,cap,h,ho,h1,h2,hf⟩=>by subst h;exact k g cap w1 ho h1 h2 hf) aFh
end
section
variable {tab:Tab} {zt:EA}
def B6 {S:wD->Prop} {f:Fn} {cs:List Operand} {vs:lV} (h:evs l cs=some vs):Br P n l S (.makeFunc f #[] cs.toArray) ty (.func f #[] vs.toArray):=by
 unfold Br;intro a w G pos after g M _;have e:=M.evs h;simp [execOp,Instr.makeFunc,e]
end
section
variable {ops:Array Oper} {Q:Exit->Act->wD->Prop} {rest:List Oper} {tab:Tab} {pos:String} {after:Array Edge}
end
def W4 (kvs:List (lB×Value)) (k:lB) (v:Value) (s:lB):EB (Gn kvs k v) s=if s=k then some v else EB kvs s:=by
 induction kvs with
 | nil=>
  by_cases h:s=k
  . subst h;simp [Gn,EB]
  . simp [Gn,EB,h]
 | cons p r O=>
  obtain ⟨N,U⟩:=p;simp only [Gn];by_cases M:k=N
  . subst M;simp only [if_true,EB];by_cases G:s=k
    . rw [AG G,AG G]
    . rw [At G,At G,At G]
  . simp only [At M,EB,O];by_cases G:s=N
    . subst G;rw [AG rfl,At (λe=>M e.symm),AG rfl]
    . rw [At G,At G]
def Ze (t:Nd) (hz:t.size<=1000000) (Rt:nP) (br:Nat) (a:oA) (ca:Nat) (w:wD) (ab:∀k,Rt k->k<w.heap.size) (ac:Rt br) (O:Blk w br (t.cells a ca)) (G:t.sits Rt w a) :
 IterOk prog 175 [pt br] Zc Rt t.walk w:=by
 intro y J Jx W hK hJ ak hY h0;have ad:=hK.size;have al:=ab _ ac;have O:=O.fr hK (λe=>e ac);have G:=G.fr hK (λb hb e=>e hb);have ae:∀k,Rt k->k<W.heap.size:=λk U=>jX (ab k U) ad
 have HY:=iF hY;have HJ:=iF hJ;have H0:=iF h0;have HR:=iF ae;have X:=Ne W;show Calls _ _ #[.func (.yield y) #[] #[],pt br] W _;refine Ad func175 ntmps175 rfl rfl (cS (eB [_] ?_));intro b1 w2 V x5 p6 z7;revert O G X;refine eE x5 ?_;intro O G X;refine cN (eA [_] ?_);intro b8 w9 M af am an;revert V O G X;refine eE af ?_;intro V O G X;refine cN (eA [_] ?_);intro Y ao ag ah ap aq;revert M V O G X;refine eE ah ?_;intro M V O G X;refine cN (C1 (B6 rfl) (eS [_] ag ?_));intro N ai Z ar;revert M V O;refine eF Z ?_;intro M V O;have G:=mF G Z (λb hb e=>by have:=HR.out _ hb;omega);have X:=X.fr Z Ab;refine eK ?_;obtain ⟨A,hA⟩:∃A:nP,A=λk=>W.heap.size<=k/\k<W.heap.size+3:=⟨_,rfl⟩
 have aa:∀k,A k->W.heap.size<=k/\k<N.heap.size:=λk U=>by rw [hA] at U;omega
 have J1:J A [] N:=HJ.out (λ_=>False) A [] W N H0.out ⟨X.os,X.tape,X.output,X.size,λk U _=>X.block U⟩ (λ_ h=>h.elim) (λk U=>(aa k U).1) (λk U h=>by have:=aa k h;omega);have ha:∀k,W.heap.size<=k->k<W.heap.size+3->A k:=λk h1 h2=>by rw [hA];exact ⟨h1,h2⟩
 have hV:VSt y W.heap.size b1 b8 Y A N (.slice none 0 0) 0:=⟨V,M,ai,⟨[],rfl,nB⟩,ha _ Ab Ab,ha _ Ab Ab,ha _ Ab Ab,λg hg=>by simp [km] at hg,⟨Ab,Ab⟩,aa⟩;have HX:=iF (Zd y W.heap.size b1 b8 Y Rt HR.out J Jx HJ.out t.walk HY.out (t.size+1) t A [] a ca N (.slice none 0 0) 0 Ab hz Ab G hV J1 (List.prefix_refl _));refine Aw (A9 (fi:=[]) (ca:=[pt b1,pt b8,pt Y]) AU rfl rfl HX.out (λ_ _ h=>h.ret)) rfl ?_ aFh;rintro _ au ⟨av,⟨⟩,aj⟩;refine Ak (Bm rfl ?_);obtain ⟨A',-,hc,⟨rfl,pv,-,hj,-⟩|⟨rfl,pre,hp,hj⟩⟩:=aj
 . exact ⟨⟨_,rfl⟩,A',hc,iG hj⟩
 . exact ⟨⟨_,rfl⟩,A',hc,iH ⟨pre,hp,hj⟩⟩
def WalkR (t:Nd) (w:wD):Ending->wD->Prop:=λe w'=> ∃br,e = .returned (.func (.func 175) #[] #[.pointer (some ⟨br,0,none⟩)])/\IterOk prog 175 [.pointer (some ⟨br,0,none⟩)] Zc (λk=>w.heap.size<=k/\k<w'.heap.size) t.walk w'/\Ext w w'
def WalkR.ret {t:Nd} {e:Ending} {w':wD} (h:WalkR t w e w'):∃v,e = .returned v:=by
 obtain ⟨_,h,-⟩:=h;exact ⟨_,h⟩
def W5 (t:Nd) (O:t.size<=1000000) (S:nP) (a:oA) (c:Nat) (w:wD) (U:t.sits S w a):Calls prog 148 #[t.val a c] w (WalkR t w):=by
 have X:=Ne w;refine Ad func148 ntmps148 rfl rfl (cS (eB [_,_,_,_] ?_));intro b1 w2 h4 V p6 z7;revert U X;refine eE V ?_;intro U X;refine kQ (JY _ O _ _ _ _ Ae) ?_;rintro _ Y ⟨a8,c9,⟨⟩,h,G⟩;have Z:=G.size;have X:=X.ext G;refine xA [_,_,_,_] ?_;intro aa ab M;refine eI [_,_,_,_] M ?_;intro ac ad N ae af;revert h X;refine eE N ?_;intro h X;refine cN (C1 (B6 rfl) (kR ?_));exact ⟨_,rfl,Ze t O _ _ _ _ _ (λk hk=>hk.2) ⟨Ab,Ab⟩ Ae (mK Ae (λb hb=>⟨Ab,Ab⟩)),X⟩
end Bk
namespace Bk
open Go Go.RowKit
def EnvD (D:List Deferred) (n:Nat) (l:Sl) (a:Act):Prop:=Env n l { a with defers:=[] }/\a.defers=D
def eP (P:Program) (D:List Deferred) (n:Nat) (c:Code) (Q:Exit->Act->wD->Prop) (l:Sl) (w:wD):Prop:= ∀a,EnvD D n l a->c.wp P Q a w
def SU (P:Program) (D:List Deferred) (n:Nat) (ops:Array Oper) (Q:Exit->Act->wD->Prop) (os:List Oper) (l:Sl) (w:wD):Prop:= ∀a,EnvD D n l a->wpList P ops Q os a w
def J7 (D:List Deferred) (n:Nat) (Q:Exit->Act->wD->Prop) (e:Exit) (l:Sl) (w:wD):Prop:= ∀a,EnvD D n l a->Q e a w
def EnvD.ev {D:List Deferred} {n:Nat} {l:Sl} {a:Act} (h:EnvD D n l a) {x:Operand} {v:Value} (G:ev l x=some v):a.eval x=v:=h.1.ev G
def EnvD.put {D:List Deferred} {n:Nat} {l:Sl} {a:Act} (h:EnvD D n l a) {d:Nat} (G:jg d n=true) (v:Value):EnvD D n ((d,v)::l) (a.put (some d) v):=⟨h.1.put G v,h.2⟩
section code
variable {P:Program} {D:List Deferred} {n:Nat} {Q:Exit->Act->wD->Prop} {l:Sl} {w:wD} {ops:Array Oper} {rest:List Oper} {d:Nat} {ty:TypeId} {pos:String} {after:Array Edge}
def It {x y:Code} (h:eP P D n x (Exit.then (y.wp P Q) Q) l w):eP P D n (.seq x y) Q l w:=λa G=>wp_seq (h a G)
def DF {y:Code} (h:eP P D n y Q l w):J7 D n (Exit.then (y.wp P Q) Q) .normal l w:=h
def EN {M:Nat} {G:List Oper} (h:SU P D n G.toArray Q G l w):eP P D n (.region M G.toArray false) Q l w:=λa N=>wp_region_lit (h a N)
def Ka (h:J7 D n Q .ret l w):eP P D n .ret Q l w:=λa G=>wp_ret (h a G)
def G0 (h:J7 D n Q .normal l w):SU P D n ops Q [] l w:=h
def FI {op:Op} {v:Value} (h:Br P n l (· = w) op ty v) (M:jg d n=true) (k:SU P D n ops Q rest ((d,v)::l) w):SU P D n ops Q (⟨some d,op,ty,pos,after,none⟩::rest) l w:=λa G=>by
 unfold wpList;rw [AG (Bd rfl)];left;have e:(execOp a.eval ⟨some d,op,ty,pos,after,none⟩).run P w = .ok (.value v) w:=by
  unfold Br at h;have:=h { a with defers:=[] } w (some d) pos after none G.1 rfl;exact this
 unfold kh;rw [e];exact k _ (G.put M v)
def KM {tab:Tab} {x y:Operand} {t b:Nat} {s:Sk} {v u:Value} (T:TabOk P tab) (V:AD tab t=some (s,1)) (X:ev l x=some (pt b)) (Y:ev l y=some v) (N:v.cells = #[v]) (Z:mW v=true) (hb:Blk w b [u])
 (k:∀w1,Blk w1 b [v]->Fr (· = b) w w1->SU P D n ops Q rest l w1):SU P D n ops Q (⟨none,.store t x y,ty,pos,after,none⟩::rest) l w:=λa h=>by
 obtain ⟨w1,O,U⟩:=FA (P:=P) [v] w b 0 0 [u] hb AN (by simp [Z]);have e:(execOp a.eval ⟨none,.store t x y,ty,pos,after,none⟩).run P w = .ok .skip w1:=by
  have G:v.cells.toList=[v]:=by rw [N]
  have M:v.cells.size=1:=by rw [N];rfl
  simp only [execOp,h.ev X,h.ev Y,Instr.storeAt,Instr.sureAddr,iV,je,iP,storeVar,Cb (T _ _ _ V),M,G,O];simp only [ne_eq,not_true,if_false,iV,je,iP,O]
 unfold wpList;rw [AG (Bd rfl)];left;unfold kh;rw [e];exact k w1 U.blk U.fr _ h
end code
def Gw {P:Program} {f:FuncId} {fn:Func} {c:Code} {args:lV} {n:Nat} {w:wD} {R:Ending->wD->Prop}
 (M:P.funcs[f]? = some fn) (X:fn.ntmps=n) (N:fn.body=some c) (O:jW args.length n=true) (h:CW P n c (bodyPostM (WF none) 0 P fn R) (GJ 0 args) w):Calls P f args.toArray w R:=by
 refine wf_calls.1 (callsIn_of_wp_marks (F:=WF none) (n:=0) M N trivial (fC h _ ?_));have U:args.length<=n:=by simpa using O
 refine ⟨by simp;omega,rfl,λd v V=>?_⟩;obtain ⟨-,G⟩:=Gl d v args 0 V;simp only [kD] at G;have:d<args.length:=by
  rcases i7 d args.length with h|h
  . exact h
  . rw [iR h] at G;cases G
 rw [iE this] at G;simp only [iL] at G;simp [lJ,this,G]
def G1 (b:Nat):List Deferred:=[{ target:=.collected b,args:= #[] }]
def QQ {P:Program} {fn:Func} {tab:Tab} {t ty sz b:Nat} {s:Sk} {v:Value} {tmps:Array Value} {w:wD} (h:fn.results = #[.cell t ty]) (T:TabOk P tab) (M:AD tab ty=some (s,sz)) (N:s.agg=false) (G:tmps.getD t undef=pt b) (O:w.cell? ⟨b,0,none⟩=some v):(results fn tmps).run P w = .ok v w:=by
 have e:(loadVar ty ⟨b,0,none⟩).run P w = .ok v w:=by
  simp only [iV,je,iP,loadVar,CB (T _ _ _ M),N];simp [load,kG,O]
 simp only [jL] at G;simp [results,h,G,e,asAddr]
def Iu {w:wD} {m:Nat} {o:Obj} (G:Obj) (h:w.heap[m]? = some o):Fr (· = m) w (w.putObj m G):=⟨rfl,rfl,rfl,AN,λk _ M=>jO M⟩
def QR {P:Program} {fn:Func} {R:Ending->wD->Prop} {n m t:Nat} {l:Sl} {w:wD} {v:Value} (G:w.heap[m]? = some (.deferred (some []))) (h:fn.results = #[.tmp t]) (N:look l t=some v) (O:∀w',Fr (· = m) w w'->R (.returned v) w'):J7 (G1 m) n (bodyPostM (WF none) 0 P fn R) .ret l w:=λa M=>by
 show LeavesInM _ _ _ _ _ _ a.defers _ _;rw [M.2];refine ⟨AN,.inl ⟨_,_,rfl,run_takeDeferred G,_,results_tmp h _ _ _,?_⟩⟩;rw [show a.tmps.getD t undef=v from M.1.has t v N];exact O _ (Iu _ G)
def QS {P:Program} {fn:Func} {R:Ending->wD->Prop} {n m t ty sz b:Nat} {s:Sk} {tab:Tab} {l:Sl} {w:wD} {v:Value} (M:w.heap[m]? = some (.deferred (some []))) (h:fn.results = #[.cell t ty]) (T:TabOk P tab) (U:AD tab ty=some (s,sz)) (V:s.agg=false) (X:look l t=some (pt b)) (G:Blk w b [v]) (Y:∀w',Fr (· = m) w w'->R (.returned v) w'):J7 (G1 m) n (bodyPostM (WF none) 0 P fn R) .ret l w:=λa O=>by
 show LeavesInM _ _ _ _ _ _ a.defers _ _;rw [O.2];have N:b≠m:=λe=>by
  obtain ⟨ty,G⟩:=G;rw [e,M] at G;cases G
 exact ⟨AN,.inl ⟨_,_,rfl,run_takeDeferred M,_,QQ h T U V (O.1.has t _ X) (mM (G.fr (Iu _ M) N) rfl),Y _ (Iu _ M)⟩⟩
def Iv (P:Program) (r:Option Nat) (Kp:nP) (m:Nat) (body:Code) (Q:wD->Exit->Act->wD->Prop) (W:wD):Act->wD->Prop:=λa₁ W₁=>Keeps Kp W W₁ /\ ∀W₂,Fr (· = m) W₁ W₂->body.wpIn (WF r) 0 P (Q W₂) a₁ W₂
def Iw {P:Program} {n:Nat} {r:Option Nat} {Kp:nP} {m:Nat} {h:Code} {Q:wD->Exit->Act->wD->Prop} {W:wD} {G:Exit->Act->wD->Prop} {l:Sl} {w:wD} (N:Keeps Kp W w) (O:∀M,Fr (· = m) w M->CR P n r h (Q M) l M):QW n (Exit.then (Iv P r Kp m h Q W) G) .normal l w:=by
 unfold QW;exact λa U=>⟨N,λM V=>O M V a U⟩
def Gx {K:Act->wD->Prop}:¬LetsOut (Exit.then K (λ_ _ _=>False)):=λ⟨_,_,h⟩=>h
def QT {α:Type} {P:Program} {n:Nat} {g:Operand} {p q:Tmp} {G U:Code} {Q:Exit->Act->wD->Prop} {l:Sl} {w:wD} {gf:Nat} {lb:lV} {rep:Nat->wD->lV->α->Prop} {Rt:nP} {S:List α}
 (hp:jg p n=true) (hq:jg q n=true) (hg:ev l g=some (.func (.func gf) #[] lb.toArray)) (eg:B0 P gf=true) (ab:IterOk P gf lb rep Rt S w) (aa:∀c W vs x,rep c W vs x -> ∃u v,vs=[u,v]) (ac:∀k,Rt k->k<w.heap.size)
 (J Jx:(nP)->List α->wD->Prop) (hJ:EM w.heap.size J) (ad:EM w.heap.size Jx) (h0:J (λ_=>False) [] w)
 (N:∀r A pre x u v W,(∀k,A k->w.heap.size<=k/\k<W.heap.size)->A (w.heap.size+1)->J A pre W->rep (w.heap.size+2) W [u,v] x->(pre++[x]) <+: S ->
  CR P n (some r) G (Exit.then (Iv P (some r) (λk=>A k\/Rt k) (w.heap.size+1) U (λW₂=>Eo (λk=>A k\/Rt k) J Jx A (pre++[x]) W₂) W) (λ_ _ _=>False)) ((q,v)::(p,u)::l) W)
 (X:∀A W,(∀k,A k->w.heap.size<=k)->J A S W->A w.heap.size->W.heap[w.heap.size]? = some (.deferred (some []))->J7 (G1 w.heap.size) n Q .normal l W)
 (Y:∀A pre W,(∀k,A k->w.heap.size<=k)->pre <+: S->Jx A pre W->A w.heap.size->W.heap[w.heap.size]? = some (.deferred (some []))->J7 (G1 w.heap.size) n Q .ret l W) :
 CW P n (.rangeFunc g #[p,q] G U) Q l w:=by
 refine T6 λa O=>?_
 refine SR (O.ev hg) eg ab (λc W vs x h=>by obtain ⟨u,v,rfl⟩:=aa c W vs x h;rfl) ac J Jx hJ ad h0 (λr A pre x vs W hA ae hj V M=>?_) (λA W hA hj Z hk=>?_) (λA pre W hA M hj Z hk=>?_)
 . obtain ⟨u,v,rfl⟩:=aa _ W vs x V;refine N r A pre x u v W hA ae hj V M _ ?_;have e1:Env n l { a with defers:=[] }:=⟨O.size,rfl,O.has⟩
   simpa [Act.put] using (e1.put hp u).put hq v
 . exact X A W hA hj Z hk _ ⟨⟨O.size,rfl,O.has⟩,by rw [O.defers];rfl⟩
 . exact Y A pre W hA M hj Z hk _ ⟨⟨O.size,rfl,O.has⟩,by rw [O.defers];rfl⟩
def Ix {D:List Deferred} {n i:Nat} {Q:Exit->Act->wD->Prop} {l:Sl} {w:wD} (h:J7 D n Q .normal l w):J7 D n (Exit.inBlock i Q) .normal l w:=h
def IW {D:List Deferred} {n i:Nat} {Q:Exit->Act->wD->Prop} {l:Sl} {w:wD} (h:J7 D n Q .ret l w):J7 D n (Exit.inBlock i Q) .ret l w:=h
def Kb {D:List Deferred} {n:Nat} {K:Act->wD->Prop} {Q:Exit->Act->wD->Prop} {l:Sl} {w:wD} (h:J7 D n Q .ret l w):J7 D n (Exit.then K Q) .ret l w:=h
section
variable {α:Type} {n:Nat} {Kp:nP} {J Jx:(nP)->List α->wD->Prop} {A:nP} {xs:List α} {W w:wD} {l:Sl}
def Jk (h:Keeps Kp W w) (G:J A xs w):QW n (Eo Kp J Jx A xs W) .normal l w:=by unfold QW;exact λ_ _=>⟨h,G⟩
def W6 (h:Keeps Kp W w) (G:Jx A xs w):QW n (Eo Kp J Jx A xs W) .ret l w:=by unfold QW;exact λ_ _=>⟨h,G⟩
def Zf {P:Program} {r:Option Nat} {Q:Exit->Act->wD->Prop} {x y:Code} {ι:Type} (L:ι->Sl) (I:ι->wD->Prop) (h:CR P n r x (Exit.then (λa w=> ∃i,Env n (L i) a/\I i w) Q) l w) (k:∀i w,I i w->CR P n r y Q (L i) w):CR P n r (.seq x y) Q l w:=λa G=>
 wpIn_seq (wpIn_mono (h a G) (λe a w q=>by
  cases e with
  | normal=>obtain ⟨i,M,N⟩:=q;exact k i w N a M
  | _=>exact q))
end
section
variable {P:Program} {n:Nat} {r:Option Nat} {Q:Exit->Act->wD->Prop} {l:Sl} {w:wD} {c:Operand} {x y:Code}
def Jl {p:Prop} [Decidable p] (h:ev l c=some (.bool (decide p))) (G:p->CR P n r x Q l w) (M:¬p->CR P n r y Q l w):CR P n r (.cond c x y) Q l w:=T7 h (λe=>G (of_decide_eq_true e)) (λe=>M (of_decide_eq_false e))
def W7 {p:Prop} [Decidable p] (G:ev l c=some (.bool (decide p))) (M:p) (h:CR P n r x Q l w):CR P n r (.cond c x y) Q l w:=Jl G (λ_=>h) (λe=>absurd M e)
def bF {p:Prop} [Decidable p] (G:ev l c=some (.bool (decide p))) (M:¬p) (h:CR P n r y Q l w):CR P n r (.cond c x y) Q l w:=Jl G (λe=>absurd e M) (λ_=>h)
def W8 {b:Bool} (h:ev l c=some (.bool !b)) (G:b=false->CR P n r x Q l w) (M:b=true->CR P n r y Q l w):CR P n r (.cond c x y) Q l w:=T7 h (λe=>G (by simpa using e)) (λe=>M (by simpa using e))
end
attribute [irreducible] eP SU J7
open Go.Proofs
variable {j:Nat} {w:wD} {l:List Nd} {α:Type} {n:Int} {s:lB}
attribute [local irreducible] Go.Calls
def Nd.isRef (s:lB) (m:Nd):Bool:=decide (2<=m.kind/\m.kind<=5)&&decide (m.name=s)
def Nd.ment (s:lB) (t:Nd):Bool:=t.walk.any (Nd.isRef s)
def bG {c:Nat} {vs:lV} {x:Nd} (h:Zc c w vs x):∃u v,vs=[u,v]:=by
 obtain ⟨G,M,N,a,c,rfl,-⟩:=h;exact ⟨_,_,rfl⟩
def Mz (t:Nd) (hz:t.size<=1000000) (s:lB) (S:nP) (a:oA) (c:Nat) (w:wD) (hs:t.sits S w a):Calls prog 178 #[t.val a c,str s] w λe w'=>e = .returned (.bool (t.ment s))/\Ext w w':=by
 have X:=Ne w;refine Gw (args:=[_,_]) func178 ntmps178 rfl rfl (cS (eB [_,_,_,_] ?_));intro b1 w2 h4 x5 p6 z7;revert hs X;refine eE x5 ?_;intro hs X;refine eB [_] ?_;intro b8 w9 N ae ax ay;revert h4 hs X;refine eE ae ?_;intro h4 hs X;refine eA [_] ?_;intro O af ab ag az z22;revert N h4 hs X;refine eE ag ?_;intro N h4 hs X;refine kQ (W5 _ hz _ _ _ _ Ae) ?_;rintro _ ad ⟨aw,⟨⟩,ah,ai⟩;revert ab N X;refine eY ai ?_;intro a0 ab N X;refine cT ?_;refine Au ?_;obtain ⟨m,hm⟩:∃m,m=ad.heap.size:=⟨_,rfl⟩;refine QT rfl rfl rfl AU ah (λ_ _ _ _ h=>bG h) (λk G=>G.2)
  (λA xs W=>Blk W b8 [str s]/\Blk W O [.bool false]/\xs.any (Nd.isRef s)=false/\Ext w W)
  (λA xs W=>Blk W O [.bool true]/\xs.any (Nd.isRef s)=true/\Ext w W) ?_ ?_ ⟨N,ab,rfl,X⟩ ?_ ?_ ?_
 . rintro A A' xs W W' ⟨h1,h2,h3,x⟩ Y M - -;exact ⟨h1.fr Y (λe=>by have:=M _ e;omega),h2.fr Y (λe=>by have:=M _ e;omega),h3,mQ x Y (λk G=>by have:=M _ G;omega)⟩
 . rintro A A' xs W W' ⟨h1,h2,x⟩ Y M - -;exact ⟨h1.fr Y (λe=>by have:=M _ e;omega),h2,mQ x Y (λk G=>by have:=M _ G;omega)⟩
 . rintro r A pre x u v W M aj ⟨j1,Z,j3,V⟩ ⟨pa,pn,pc,xa,xc,e,sx,-⟩ aa;simp only [jw,and_true] at e;obtain ⟨rfl,rfl⟩:=e;have a1:=M _ aj;have ak:(pre++[x]).any (Nd.isRef s)=x.isRef s:=by rw [List.any_append,j3];simp
   obtain ⟨k,n,sn,l⟩:=x;have X1:=Ne W;refine Bs rfl Gx (xA [_,_,_,_] ?_);intro al a2 am;refine eI [_,_,_,_] am ?_;intro a3 U an a4 a5;revert j1 Z V X1;refine eE an ?_;intro j1 Z V X1;refine Ak (Iw (Keeps.of_ext X1) λW2 f2=>?_)
   revert U j1 Z;refine eF f2 ?_;intro U j1 Z;have V:=mQ V f2 (λk G=>by omega);have a6:=f2.size;have a7:∀k,A k->k<W2.heap.size:=λk G=>by have:=M k G;omega
   have HA:=iF M;simp only [m7,Nd.num,mZ,Nd.kids] at U;refine Gv (Dj (Bs rfl (Bw (By B5)) (C1 Pg (C1 (Pl U) (Ak (Cw (Gv (Zf (ι:=Unit) (λ_=>[(3,pt b8),(4,pt O),(6,pt al),(13,.bool (decide (2<=k/\k<=5)))]) (λ_ w'=>w'=W2) ?_ ?_))))))))
   . focus
      refine Dj (Bs rfl (Bw (Bw (By (By B5)))) (C1 V1 (C1 Pa (Ak (Cw (Jl rfl (λao=>?_) (λao=>?_)))))));refine F4 ?_;rotate_left;refine Dj (Bs rfl (Bw (Bw (By (By B5)))) (C1 V1 (C1 Pa (Ak (Cw (Jl rfl (λap=>?_) (λap=>?_)))))));refine F4 ?_;rotate_left;refine Dj (Bs rfl (Bw (Bw (By (By B5)))) (C1 V1 (C1 Pa (Ak (Cw (Jl rfl (λaq=>?_) (λaq=>?_)))))));refine F4 ?_;rotate_left;refine Bs rfl (Bw (By (By B5))) (eK ?_);rotate_left
     all_goals exact BQ () (An rfl (An rfl (An rfl (B4 rfl (congrArg Value.bool (decide_eq_decide.2 Ab)) BL)))) rfl
   . rintro-W3 h;subst h;have X3:=mI (λk=>k=O) W3;have hb:∀k,A k\/(af.heap.size<=k/\k<ad.heap.size) -> ¬k=O:=λk G e=>by
      rcases G with G|G
      . have:=HA.out k G;omega
      . omega
     have hy:=ak;unfold Nd.isRef at hy;simp only [m7,mZ] at hy
     focus
      refine Jl rfl (λar=>?_) (λar=>?_);refine Dj (Bs rfl (Bw (By (By B5))) (C1 Pf (C1 (Pl U) (C1 (Pl j1) (C1 V8 (Ak (Cw (Jl rfl (λau=>?_) (λau=>?_)))))))));refine Dj (Bs rfl (Bw (By (By B5))) (eS [_] Z ?_));intro a8 a9 av _;revert V X3;refine eF av ?_;intro V X3;refine Ak (Cw (WZ (AJ (AJ ?_))));rotate_left;refine F4 (Ah (Ah ?_));rotate_left;refine F4 (Ah (Ah ?_));rotate_left
     . exact W6 (Keeps.of_fr X3 hb) ⟨Ae,hy.trans (by simp [*]),Ae⟩
     . exact Jk (Keeps.of_fr X3 hb) ⟨Ae,Ae,hy.trans (by simp [*]),Ae⟩
     . refine Jk (Keeps.of_fr X3 hb) ⟨Ae,Ae,hy.trans ?_,Ae⟩;rw [Bool.and_eq_false_iff];exact iG (decide_eq_false Ab)
 . rintro A W M ⟨j1,Z,j3,V⟩-G;refine Ix (DF (It (EN (KM Ac rfl rfl rfl rfl rfl Z (λw1 hb Y=>G0 (DF (Ka (QS ?_ rfl Ac rfl rfl rfl hb (λw2 ac=>⟨by rw [Nd.ment,j3],mQ (mQ V Y (λk e=>by omega)) ac (λk e=>by omega)⟩)))))))));rw [Y.block _ (Array.getElem?_eq_some_iff.1 G).1 Ab];exact G
 . rintro A pre W M aa ⟨j1,Z,V⟩-G;refine IW (Kb (QS G rfl Ac rfl rfl rfl j1 (λw2 ac=>⟨?_,mQ V ac (λk e=>by omega)⟩)));obtain ⟨q,hq⟩:=aa;rw [Nd.ment,<-hq,List.any_append,Z];rfl
def Hx (k:Nat):Shape Unit where
 sz:=k
 rep _ _ _ cs:=cs.length=k/\cs.all mW=true
 len h:=h.1
 one h:=h.2
 mono h _ _:=h
 lt h:=h
def Gy:Shape (Int×Bool) where
 sz:=6
 rep _ _ x cs:= ∃(k n:Int) (s:lB) (a:oA) (m c:Nat),cs=[.int .u8 k,.int .i64 n,str s,.slice a m c,.int .i64 x.1,.bool x.2]
 len h:=by obtain ⟨_,_,_,_,_,_,rfl⟩:=h;rfl
 one h:=by obtain ⟨_,_,_,_,_,_,rfl⟩:=h;rfl
 mono h _ _:=h
 lt h:=h
def NodeR (w:wD):Ending->wD->Prop:=λe w'=> ∃(k n:Int) (s:lB) (a:oA) (m c:Nat),e = .returned (.agg #[.int .u8 k,.int .i64 n,str s,.slice a m c])/\Ext w w'
def NodeR.ret {e:Ending} {w':wD} (h:NodeR w e w'):∃v,e = .returned v:=by
 obtain ⟨_,_,_,_,_,_,h,-⟩:=h;exact ⟨_,h⟩
def Iy (v:Int) (w:wD) (h:0<=v):Calls prog 231 #[.int .i64 v] w (NodeR w):=by
 have X:=Ne w;refine Ad func231 ntmps231 rfl rfl (cS (eA [_,_,_,_] ?_));intro V Y N O Z z8;have X:=X.ext O;refine eK ?_;refine C1 (xB [_,_,_,_]) (eS [_,_,_,_] N ?_);intro w9 G M U;have X:=X.fr M Ab;refine kX G ?_;exact ⟨_,_,[],_,_,_,rfl,X⟩
def Vl (v:Int) (w:wD) (h : -9223372036854775808<=v):Calls prog 231 #[.int .i64 v] w (NodeR w):=by
 by_cases h0:0<=v
 . exact Iy v w h0
 by_cases h1:v = -9223372036854775808
 . subst h1;have X:=Ne w;refine Ad func231 ntmps231 rfl rfl ?_;refine cS (eA [_,_,_,_] ?_);intro b1 w2 M x6 p7 z8;have X:=X.ext x6;refine eK ?_;refine eQ rfl (Iy _ _ Ab) ?_;rintro _ aq ⟨k9,ar,au,av,aw,ax,⟨⟩,Z⟩;revert M X;refine eE Z ?_;intro M X;refine eQ rfl (Iy _ _ Ab) ?_;rintro _ ay ⟨az,a0,a1,a2,a3,a4,⟨⟩,aa⟩;revert M X;refine eE aa ?_;intro M X;refine Aw (xS [_,_,_,_,_,_,_,_]) rfl ?_ aFh;rintro _ a5 ⟨a6,rfl,ab,a7⟩;have ac:=ab.ext;revert M X;refine eE ac ?_;intro M X;refine C1 (xB [_,_,_,_]) (eS [_,_,_,_] M ?_);intro a8 ad ae _;have X:=X.fr ae Ab;refine eK ?_;refine xC ad ?_;exact ⟨_,_,[],_,_,_,rfl,X⟩
 . have X:=Ne w;have hw:0<=KH (0-v):=by
    have:KH (0-v)=0-v:=by unfold KH;rw [jP];simp [IntKind.signed,IntKind.bits];omega
    omega
   refine Ad func231 ntmps231 rfl rfl ?_;refine cS (eA [_,_,_,_] ?_);intro a9 ba G af bb bc;have X:=X.ext af;refine eK ?_;refine C1 (Mc rfl) (eQ rfl (Iy _ _ hw) ?_);rintro _ ag ⟨bd,ah,ai,aj,ak,al,⟨⟩,N⟩;revert G X;refine eE N ?_;intro G X;refine Aw (xS [_,_,_,_]) rfl ?_ aFh;rintro _ am ⟨an,rfl,O,ao⟩;have U:=O.ext;revert G X;refine eE U ?_;intro G X;refine C1 (xB [_,_,_,_]) (eS [_,_,_,_] G ?_);intro ap V Y _;have X:=X.fr Y Ab;refine eK ?_;refine xC V ?_;exact ⟨_,_,[],_,_,_,rfl,X⟩
def Gh (k n:Int) (kids:List (Int×Bool)):Int×Bool:=
 if kids.all (·.2)=true then
  if k=1 then (n,true) else if k=2\/k=3\/k=4\/k=5 then (0,false)
  else if k=6\/k=7 then ((EJ k (kids.getD 0 (0,false)).1).1,decide ((EJ k (kids.getD 0 (0,false)).1).2=0))
  else ((EI k (kids.getD 0 (0,false)).1 (kids.getD 1 (0,false)).1).1,decide ((EI k (kids.getD 0 (0,false)).1 (kids.getD 1 (0,false)).1).2=0))
 else (0,false)
def Ua (x:Int×Bool):Int×Bool:=if x.2=true then x else (0,false)
mutual
def Nd.cval:Nd->Int×Bool
 | .mk k n _ l=>Ua (Gh k n (G2 l))
def G2:List Nd->List (Int×Bool)
 | []=>[]
 | t::r=>t.cval::G2 r
end
def Lp:∀l:List Nd,G2 l=l.map Nd.cval
 | []=>rfl
 | t::r=>by rw [G2,Lp r,jo]
def FoldR (t:Nd) (w:wD):Ending->wD->Prop:=λe w'=> ∃(k n:Int) (s:lB) (a:oA) (m c:Nat),e = .returned (.agg #[.int .u8 k,.int .i64 n,str s,.slice a m c,.int .i64 t.cval.1,.bool t.cval.2])/\Ext w w'
def FoldR.ret {t:Nd} {e:Ending} {w':wD} (h:FoldR t w e w'):∃v,e = .returned v:=by
 obtain ⟨_,_,_,_,_,_,h,-⟩:=h;exact ⟨_,h⟩
def EachR {α:Type} (sh:Shape α) (e:Nat) (xs:List α) (w:wD):Ending->wD->Prop:=λr w'=> ∃a c,r = .returned (.slice a xs.length c)/\OwnQ sh w' (λ_=>False) w.heap.size e (.slice a xs.length c) xs/\Ext w w'
def EachR.ret {sh:Shape α} {e:Nat} {xs:List α} {r:Ending} {w':wD} (h:EachR sh e xs w r w'):∃v,r = .returned v:=by
 obtain ⟨_,_,h,-⟩:=h;exact ⟨_,h⟩
def Zg (l:List Nd) (hl:l.length<=1000000) (S:nP) (a:oA) (c:Nat) (w:wD) (M:rowSits S w l a)
 (hC:∀x∈l,∀(S:nP) (a:oA) (c:Nat) (w:wD),x.sits S w a->Calls prog 218 #[x.val a c] w (FoldR x w)) :
 Calls prog 229 #[.slice a l.length c,.func (.func 218) #[] #[]] w (EachR Gy 272 (l.map Nd.cval) w):=by
 have HC:=iF hC;have M:=Ch _ _ M;have X:=Ne w;refine Ad func229 ntmps229 rfl rfl (cS (C1 Pa (cN (C1 Pa (cT (Aj (cS (C1 Mv (C1 Pz (C1 Mv (cT ?_)))))))))));refine Au ?_;refine AP (ι:=Nat×oA×Nat) (λx=>[(1,.func (.func 218) #[] #[]),(5,.slice x.2.1 ((l.take x.1).map Nd.cval).length x.2.2),(8,.slice a l.length c),(9,.int .i64 l.length),(10,.int .i64 x.1)])
  (λx w'=>OwnQ Gy w' (λ_=>False) w.heap.size 272 (.slice x.2.1 ((l.take x.1).map Nd.cval).length x.2.2) ((l.take x.1).map Nd.cval)/\x.1<=l.length/\rowSits (· < w.heap.size) w' l a/\Ext w w')
  (λx=>l.length-x.1) (0,none,0) sB ⟨OwnQ.nil,iT _,M,X⟩ ?_
 rintro ⟨j,ra,rc⟩ w1 ⟨G,hj,M,X⟩;simp only at G hj M X;have Y:∀g,(jf ra ((l.take j).map Nd.cval).length rc).ownBlock=some g->w.heap.size<=g/\g<w1.heap.size:=λg h=>⟨G.ge h,G.lt h⟩
 have az:=X.size;by_cases U:j<l.length
 . obtain ⟨kb,ko,rfl,kS,Z⟩:=BI M (by intro e;subst e;simp at U);obtain ⟨xa,xc,rx,sx⟩:=Z j l[j] (iE U);have HX:=iF (HC.out l[j] (iS U));have O:(l.take j).map Nd.cval++[l[j].cval]=(l.take (j+1)).map Nd.cval:=by rw [iI U,jJ];rfl
   have a0:((l.take j).map Nd.cval).length<=1000000:=by simp;omega
   generalize l[j]=x at *;refine eK ?_;refine xA [_,_,_,_] ?_;intro a1 a2 ad;refine eI [_,_,_,_] ad ?_;intro a3 a4 ae a5 a6;revert G X M sx;refine eE ae ?_;intro G X M sx;refine eK ?_;refine Aw (A9 (fi:=[]) (ca:=[]) AU rfl rfl (HX.out _ _ _ _ Ae) (λ_ _ h=>h.ret)) rfl ?_ aFh;rintro _ af ⟨a7,ag,ah,ai,aj,ak,⟨⟩,aa⟩;revert G X M;refine eY aa ?_;intro al G X M;refine Aw (xS [_,_,_,_,_,_]) rfl ?_ aFh;rintro _ am ⟨an,rfl,N,ao⟩;have ap:=N.blk;have ab:=N.ext;have aq:=N.pos;have ar:=N.size;revert G X M;refine eE ab ?_;intro G X M;refine Dk (R:=λ_=>False) (sh:=Gy) (z:=x.cval) Ac CC rfl rfl rfl rfl AU rfl rfl rfl Ae (λ_ h=>by exact h) (mS Ae) ⟨_,_,_,_,_,_,rfl⟩ Ab Ab rfl ?_;rintro au ac av aw ax ay V;have X:=mQ X V (λk hk=>by have:=Y _ hk;omega);have M:=nb M V (λb hb h=>by have:=Y _ h;omega);refine C1 Pa (Ak (Ah (Ai (Al (C1 V7 (C1 Mv (Ak ?_)))))));rw [O];exact AA (j+1,some ⟨_,0,none⟩,_) sB ⟨by simp only;rw [<-O];assumption,by simp only;omega,M,X⟩ (by simp only;omega)
 . obtain rfl:j=l.length:=by omega
   rw [iZ] at G;refine kR ?_;simp only [iZ];exact ⟨_,_,rfl,G,X⟩
def KidsAt (w:wD) (a:oA) (kids:List (Int×Bool)):Prop:=kids=[] \/ ∃b o,a=some ⟨b,o,none⟩/\b<w.heap.size /\ ∀(i:Nat) (x:Int×Bool),kids[i]? = some x -> ∃(k n:Int) (s:lB) (c:oA) (m d:Nat),Row w ⟨b,o+i*6,none⟩ [.int .u8 k,.int .i64 n,str s,.slice c m d,.int .i64 x.1,.bool x.2]
def KidsAt.ext {w w':wD} {a:oA} {kids:List (Int×Bool)} (h:KidsAt w a kids) (x:Ext w w'):KidsAt w' a kids:=h.imp id λ⟨b,o,h1,h2,h3⟩=>⟨b,o,h1,jX h2 x.size,λi y G=>by
 obtain ⟨k,n,s,c,m,d,r⟩:=h3 i y G;exact ⟨k,n,s,c,m,d,r.ext x⟩⟩
instance {w':wD} {a:oA} {kids:List (Int×Bool)}:LfE w w' (KidsAt w a kids) (KidsAt w' a kids):=⟨λx h=>Bk.KidsAt.ext h x⟩
def OwnQ.kidsAt {R:nP} {B e cap m:Nat} {a:oA} {kids:List (Int×Bool)} (h:OwnQ Gy w R B e (.slice a m cap) kids):KidsAt w a kids:=by
 by_cases M:kids=[]
 . exact iG M
 . obtain ⟨g,N,O,-,U,G⟩:=h.rows M;simp only [jm] at O;obtain ⟨rfl,-,-⟩:=O;refine iH ⟨g,0,rfl,U,λi x V=>?_⟩;obtain ⟨cs,X,k,n,s,c,m,d,rfl⟩:=G i x V;exact ⟨k,n,s,c,m,d,by simpa [Gy] using X⟩
set_option maxHeartbeats 8000000 in
def Zh (k n:Int) (s:lB) (l:List Nd) (na:oA) (nc:Nat) (kids:List (Int×Bool)) (a:oA) (c:Nat) (w:wD) (hl:kids.length<=1000000) (G:KidsAt w a kids) (h1:k=6\/k=7->kids.length=1) (h2:8<=k->kids.length=2) (h0:1<=k) :
 Calls prog 230 #[(Nd.mk k n s l).val na nc,.slice a kids.length c] w λe w'=>e = .returned (.tuple #[.int .i64 (Gh k n kids).1,.bool (Gh k n kids).2])/\Ext w w':=by
 have X:=Ne w;have HK:=iF G;clear G;refine Ad func230 ntmps230 rfl rfl ?_;refine cS (eB [_,_,_,_] ?_);intro b1 w2 Z x5 _ _;have X:=X.ext x5;refine C1 Pa (C1 Pa (cT (Aj (cS (C1 Mv (C1 Pz (C1 Mv (cT ?_))))))));refine Au ?_;refine AP (ι:=Nat) (λj=>[(1,.slice a kids.length c),(2,pt b1),(10,.slice a kids.length c),(11,.int .i64 kids.length),(12,.int .i64 j)])
  (λj w'=>j<=kids.length/\Blk w' b1 [.int .u8 k,.int .i64 n,str s,.slice na l.length nc]/\Ext w w'/\(kids.take j).all (·.2)=true)
  (λj=>kids.length-j) 0 sB ⟨iT _,Z,X,rfl⟩ ?_
 clear Z X;rintro j w2 ⟨hj,Z,X,O⟩;by_cases aa:j<kids.length
 . rcases HK.out.ext X with G|⟨b,o,rfl,hb,G⟩
   . subst G;simp at aa
   obtain ⟨k',n',s',c',m',d',r0⟩:=G j kids[j] (iE aa);have ac:(kids.take (j+1)).all (·.2)=kids[j].2:=by rw [iI aa,mb,O];simp
   have ae:kids[j].2=false->kids.all (·.2)=false:=λh=>by
    rw [mx];exact ⟨kids[j],iS aa,by rw [h];simp⟩
   clear G;generalize kids[j]=x at *
   focus
    refine eK ?_;refine xA [_,_,_,_,_,_] ?_;intro ay az aj;refine eI [_,_,_,_,_,_] aj ?_;intro a0 ak al _ _;revert Z X;refine eE al ?_;intro Z X;refine cN (C1 Pf (C1 (Pl ak) (C1 Pt (cT ?_))));refine JK rfl (λam=>?_) (λam=>?_);refine kT ?_;rotate_left;refine Ao (Ah (Ai (Al (C1 V7 (C1 Mv (Ak ?_))))));rotate_left
   . exact ⟨by rw [Gh,At (by rw [ae Ae];simp)],X⟩
   . exact AA (j+1) sB ⟨Ab,Z,X,ac.trans Ae⟩ Ab
 . obtain rfl:j=kids.length:=by omega
   rw [iZ] at O;have hv:Gh k n kids=if k=1 then (n,true) else if k=2\/k=3\/k=4\/k=5 then (0,false) else if k=6\/k=7 then ((EJ k (kids.getD 0 (0,false)).1).1,decide ((EJ k (kids.getD 0 (0,false)).1).2=0)) else ((EI k (kids.getD 0 (0,false)).1 (kids.getD 1 (0,false)).1).1,decide ((EI k (kids.getD 0 (0,false)).1 (kids.getD 1 (0,false)).1).2=0)):=by rw [Gh,AG O]
   rw [hv];clear O hv;by_cases k5:k<=5
   . clear h1 h2 HK
     focus
      refine eK ?_;refine Az rfl (λan=>?_) (λan=>?_);refine kT ?_;rotate_left;refine eK ?_;refine Az rfl (λao=>?_) (λao=>?_);refine kT ?_;rotate_left;refine eK ?_;refine Az rfl (λap=>?_) (λap=>?_);refine kT ?_;rotate_left;refine eK ?_;refine Az rfl (λaq=>?_) (λaq=>?_);refine kT ?_;rotate_left;refine kT ?_;rotate_left
     all_goals (refine ⟨?_,X⟩;first|rw [AG Ab]|rw [At Ab,AG Ab])
   by_cases k7:k<=7
   . have ad:=h1 Ab
     match kids,ad with
     | [x],_=>
      rcases HK.out.ext X with G|⟨b,o,rfl,hb,G⟩
      . cases G
      obtain ⟨k',n',s',c',m',d',r0⟩:=G 0 x rfl;clear h1 h2 HK G
      focus
       refine eK ?_;refine Az rfl (λar=>?_) (λar=>?_);refine eK ?_;refine Aq (λU=>Ext w2 U) 11 (.pure 0 (.pure 1 (.pure 2 (.pure 3 (.pure 4 (.pure 5 (.fork 6 (.pure 7 (.pure 8 (.pure 9 (.pure 10 .tail)))) .none))))))) mixed AU (Af (Aa Ag)) ?_;intro au af _;have V:(λU=>Ext w2 U) au:=af;simp only at V;have ab:=Z;have M:=r0;have X:=X.ext af;refine ⟨V,?_⟩;refine eT ?_;refine Tq rfl (Dr M) ?_;refine tC rfl rfl (Pc _ _ _) ?_;rintro _ a1 ⟨⟨⟩,rfl⟩;refine ⟨V,?_⟩;refine Tq rfl Mv (Tq rfl Px (Tq rfl Px (Tq rfl Pa ?_)));refine Ar rfl ?_;refine kT ?_;rotate_left;refine eK ?_;refine Aq (λU=>Ext w2 U) 11 (.pure 0 (.pure 1 (.pure 2 (.pure 3 (.pure 4 (.pure 5 (.fork 6 (.pure 7 (.pure 8 (.pure 9 (.pure 10 .tail)))) .none))))))) mixed AU (Af (Aa Ag)) ?_;intro av ag _;have N:(λU=>Ext w2 U) av:=ag;simp only at N;have ab:=Z;have M:=r0;have X:=X.ext ag;refine ⟨N,?_⟩;refine eT ?_;refine Tq rfl (Dr M) ?_;refine tC rfl rfl (Pc _ _ _) ?_;rintro _ ax ⟨⟨⟩,rfl⟩;refine ⟨N,?_⟩;refine Tq rfl Mv (Tq rfl Px (Tq rfl Px (Tq rfl Pa ?_)));refine Ar rfl ?_;refine kT ?_;rotate_left
      all_goals (refine ⟨?_,X⟩;rw [At Ab,At Ab,AG Ab];rfl)
   . have ad:=h2 Ab
     match kids,ad with
     | [x,y],_=>
      rcases HK.out.ext X with G|⟨b,o,rfl,hb,G⟩
      . cases G
      obtain ⟨k',n',s',c',m',d',r0⟩:=G 0 x rfl;obtain ⟨a2,a3,a4,a5,a6,a7,r1⟩:=G 1 y rfl;clear h1 h2 HK G;refine eK ?_;refine Aq (λU=>Ext w2 U) 15 (.pure 0 (.pure 1 (.pure 2 (.pure 3 (.pure 4 (.pure 5 (.pure 6 (.pure 7 (.pure 8 (.pure 9 (.fork 10 (.pure 11 (.pure 12 (.pure 13 (.pure 14 .tail)))) .none))))))))))) mixed AU (Af (Aa Ag)) ?_;intro aw ah _;have Y:(λU=>Ext w2 U) aw:=ah;simp only at Y;have ab:=Z;have M:=r0;have ai:=r1;have X:=X.ext ah;refine ⟨Y,?_⟩;refine eT ?_;refine Tq rfl (Dr M) ?_;refine eT ?_;refine Tq rfl (Dr ai) ?_;refine tC rfl rfl (TV _ _ _ _) ?_;rintro _ a8 ⟨⟨⟩,rfl⟩;refine ⟨Y,?_⟩;refine Tq rfl Mv (Tq rfl Px (Tq rfl Px (Tq rfl Pa ?_)));refine Ar rfl ?_;refine kT ?_;refine ⟨?_,X⟩;rw [At Ab,At Ab,At Ab];rfl
def Zi (k n:Int) (s:lB) (a:oA) (m c:Nat) (v:Int) (q:Bool) (w:wD) :
 Calls prog 233 #[.agg #[.int .u8 k,.int .i64 n,str s,.slice a m c,.int .i64 v,.bool q]] w λe w'=>e = .returned (.agg #[.int .u8 k,.int .i64 n,str s,.slice a m c])/\Ext w w':=by
 have X:=Ne w;refine Ad func233 ntmps233 rfl rfl (cS (eB [_,_,_,_,_,_] ?_));intro b1 w2 O U p6 z7;have X:=X.ext U;refine eA [_,_,_,_] ?_;intro b8 w9 h G V Y;revert O X;refine eE G ?_;intro O X;refine eK ?_;refine eS [_,_,_,_] h ?_;intro Z M N aa;have X:=X.fr N Ab;refine kX M ?_;all_goals exact ⟨rfl,X⟩
def Zj (kids:List (Int×Bool)) (hl:kids.length<=1000000) (a:oA) (c:Nat) (w:wD) (O:KidsAt w a kids) :
 Calls prog 232 #[.slice a kids.length c,.func (.func 233) #[] #[]] w (EachR (Hx 4) 29 (kids.map λ_=>()) w):=by
 have X:=Ne w;refine Ad func232 ntmps232 rfl rfl (cS (C1 Pa (cN (C1 Pa (cT (Aj (cS (C1 Mv (C1 Pz (C1 Mv (cT ?_)))))))))));refine Au ?_;refine AP (ι:=Nat×oA×Nat) (λx=>[(1,.func (.func 233) #[] #[]),(5,.slice x.2.1 (jn x.1 ()).length x.2.2),(8,.slice a kids.length c),(9,.int .i64 kids.length),(10,.int .i64 x.1)])
  (λx w'=>OwnQ (Hx 4) w' (λ_=>False) w.heap.size 29 (.slice x.2.1 (jn x.1 ()).length x.2.2) (jn x.1 ())/\x.1<=kids.length/\Ext w w')
  (λx=>kids.length-x.1) (0,none,0) sB ⟨OwnQ.nil,iT _,X⟩ ?_
 rintro ⟨j,ra,rc⟩ w1 ⟨G,hj,X⟩;simp only at G hj X;have aa:∀g,(jf ra (jn j ()).length rc).ownBlock=some g->w.heap.size<=g/\g<w1.heap.size:=λg h=>⟨G.ge h,G.lt h⟩
 have au:=X.size;by_cases U:j<kids.length
 . rcases O.ext X with O|⟨b,o,rfl,hb,ab⟩
   . subst O;simp at U
   obtain ⟨k',n',s',c',m',d',r0⟩:=ab j kids[j] (iE U);have av:(jn j ()).length<=1000000:=by simp;omega
   have N:jn j ()++[()]=jn (j+1) ():=by rw [mg]
   generalize kids[j]=x at *;refine eK ?_;refine xA [_,_,_,_,_,_] ?_;intro aw ax ac;refine eI [_,_,_,_,_,_] ac ?_;intro ay az ad a0 a1;revert G X;refine eE ad ?_;intro G X;refine eK ?_;refine Aw (A9 (fi:=[]) (ca:=[]) AU rfl rfl (Zi _ _ _ _ _ _ _ _ _) (λ_ _ h=>⟨_,h.1⟩)) rfl ?_ aFh;rintro _ af ⟨⟨⟩,ae⟩;revert G X;refine eY ae ?_;intro ag G X;refine Aw (xS [_,_,_,_]) rfl ?_ aFh;rintro _ ah ⟨ai,rfl,M,aj⟩;have ak:=M.blk;have V:=M.ext;have al:=M.pos;have am:=M.size;revert G X;refine eE V ?_;intro G X;refine Dk (R:=λ_=>False) (sh:=Hx 4) (z:=()) Ac CC rfl rfl rfl rfl AU rfl rfl rfl Ae (λ_ h=>by exact h) (mS Ae) ⟨rfl,rfl⟩ Ab Ab rfl ?_;rintro an Y ao ap aq ar Z;have X:=mQ X Z (λk O=>by have:=aa _ O;omega);refine C1 Pa (Ak (Ah (Ai (Al (C1 V7 (C1 Mv (Ak ?_)))))));rw [N];exact AA (j+1,some ⟨_,0,none⟩,_) sB ⟨by simp only;rw [<-N];assumption,by simp only;omega,X⟩ (by simp only;omega)
 . obtain rfl:j=kids.length:=by omega
   have e:kids.map (λ_=>())=jn kids.length ():=by rw [List.map_const']
   rw [e];refine kR ?_;exact ⟨_,_,rfl,G,X⟩
def E4 (v:Int):Prop:= -9223372036854775808<=v/\v<=9223372036854775807
def Kc (v:Int):E4 (KH v):=by
 unfold E4 KH;rw [jP];simp [IntKind.signed,IntKind.bits];split<;>omega
def Ub (b:Bool):E4 (Wt b):=by cases b<;>simp [Wt,E4]
def Of (k x:Int):E4 (EJ k x).1:=by
 unfold EJ;split
 . exact Kc _
 split
 . exact Ub _
 . simp [E4]
def Uc (o:BinOp) (x y:Int):E4 (NP o x y):=by
 unfold NP;split<;>exact Kc _
def W9 {x:Int} (h:E4 x):E4 (x.tmod n):=by
 have M:=Int.natAbs_tmod x n;have N:=Nat.mod_le x.natAbs n.natAbs;unfold E4 at h ⊢;by_cases G:0<=x
 . have:=Int.tmod_nonneg n G;omega
 . have O:(-x).tmod n = - x.tmod n:=Int.neg_tmod ..;have U:=Int.tmod_nonneg n (show 0 <= -x by omega);omega
def F5 {c:Prop} [Decidable c] {a b:Int×Int} (h:E4 a.1) (G:E4 b.1):E4 (if c then a else b).1:=by split<;>assumption
def Og (k:Int) {x:Int} (h:E4 x):E4 (EI k x n).1:=by
 unfold EI UO
 repeat' (refine F5 ?_ ?_)
 all_goals first
  | exact Kc _
  | exact Ub _
  | exact Uc _ _ _
  | exact W9 h
  | (constructor<;>decide)
def SW {k:Int} {kids:List (Int×Bool)} (h:E4 n) (G:∀x∈kids,E4 x.1):E4 (Gh k n kids).1:=by
 have M:E4 (kids.getD 0 (0,false)).1:=by
  cases kids with
  | nil=>simp [E4]
  | cons x r=>exact G x AN
 unfold Gh
 repeat' split
 all_goals first
  | exact h
  | exact Of _ _
  | exact Og _ M
  | simp [E4]
def Xa {x:Int×Bool} (h:E4 x.1):E4 (Ua x).1:=by
 unfold Ua;split
 . exact h
 . simp [E4]
mutual
def QU:∀t:Nd,t.wf->E4 t.cval.1
 | .mk k n s l,h=>by
  simp only [Nd.wf] at h;rw [Nd.cval];exact Xa (SW ⟨h.2.2.1,h.2.2.2.1⟩ (Ud l h.2.2.2.2.2.2))
def Ud:∀l:List Nd,C0 l -> ∀x∈G2 l,E4 x.1
 | [],_,x,hx=>by simp [G2] at hx
 | t::r,h,x,hx=>by
  simp only [C0] at h;simp only [G2,iU] at hx;rcases hx with rfl|hx
  . exact QU t h.1
  . exact Ud r h.2 x hx
end
def Iz {k:Int} (h:(Nd.mk k n s l).isExpr=true):1<=k/\(∀x∈l,x.isExpr=true)/\(k=6\/k=7->l.length=1)/\(8<=k->l.length=2):=by
 rw [Nd.isExpr.eq_def] at h;simp only at h;split at h
 . rename_i G;simp only [iJ,jT] at h;rw [h.2];exact ⟨Ab,AN,Ab,Ab⟩
 split at h
 . simp only [iJ,jT] at h;rw [h.2];exact ⟨Ab,AN,Ab,Ab⟩
 split at h
 . match l,h with
   | [x],h=>
    simp only [iJ] at h;exact ⟨Ab,by simpa using h.2,Ab,Ab⟩
   | [],h=>simp at h
   | _::_::_,h=>simp at h
 split at h
 . match l,h with
   | [x],h=>
    simp only [iJ] at h;exact ⟨Ab,by simpa using h.2,λ_=>rfl,Ab⟩
   | [],h=>simp at h
   | _::_::_,h=>simp at h
 split at h
 . match l,h with
   | [x,y],h=>
    simp only [iJ] at h;exact ⟨Ab,by simpa using h.2,Ab,λ_=>rfl⟩
   | [],h=>simp at h
   | [_],h=>simp at h
   | _::_::_::_,h=>simp at h
 . simp at h
def cP (N:Nat):∀(t:Nd),t.size<N->t.size<=1000000->t.wf->t.isExpr=true -> ∀(S:nP) (a:oA) (c:Nat) (w:wD),t.sits S w a->Calls prog 218 #[t.val a c] w (FoldR t w):=by
 induction N with
 | zero=>intro t h;omega
 | succ N ih=>
  rintro ⟨k,n,s,l⟩ hN hM hf hx S a c w hs;have ap:=Cz l;simp only [mR] at hN hM;have hR:=QU _ hf;obtain ⟨e1,e2,e3,e4⟩:=Iz hx;simp only [Nd.wf] at hf;have HC:=iF (λx M=>ih x (by have:=CP M;omega) (by have:=CP M;omega) (BD hf.2.2.2.2.2.2 x M) (e2 x M));have V:(l.map Nd.cval).length=l.length:=by simp
  have Y:(Nd.mk k n s l).cval=Ua (Gh k n (l.map Nd.cval)):=by rw [Nd.cval,Lp]
  have X:=Ne w;refine Ad func218 ntmps218 rfl rfl (cS (eB [_,_,_,_] ?_));intro b1 w2 O x5 p6 z7;revert hs X;refine eE x5 ?_;intro hs X;refine eA [_,_,_,_,_,_] ?_;intro b8 w9 G ai ax ay;revert O hs X;refine eE ai ?_;intro O hs X;refine kQ (Zg l Ab _ _ _ _ (EL Ae) HC.out) ?_;rintro _ aj ⟨Z,aa,⟨⟩,ak,al⟩;revert G O X;refine eE al ?_;intro G O X;refine eK ?_;have U:=ak.kidsAt;have HV:=iF (Zh k n s l a c (l.map Nd.cval) Z aa aj Ab U (λh=>by rw [V];exact e3 h) (λh=>by rw [V];exact e4 h) e1);have HE:=iF (Zj (l.map Nd.cval) Ab Z aa);have ab:=Y;rw [Y] at hR;generalize l.map Nd.cval=kids at *;generalize Gh k n kids=cv at *;obtain ⟨v,q⟩:=cv;dsimp only at HV;cases q
  . refine kC (HV.out) ?_;rintro _ az ⟨⟨⟩,am⟩;revert G O X U;refine eE am ?_;intro G O X U;refine kQ (HE.out _ Ae) ?_;rintro _ a0 ⟨a1,a2,⟨⟩,a3,an⟩;revert G O X;refine eE an ?_;intro G O X;refine C1 Pf (eV [_] [_,_,_,_] O ?_);intro aq ar ac _;revert G X;refine eF ac ?_;intro G X;refine eK ?_;refine C1 (xB [_,_,_,_,_,_]) (eS [_,_,_,_,_,_] G ?_);intro au ad ae _;have X:=X.fr ae Ab;refine kX ad ?_;exact ⟨_,_,_,_,_,_,by rw [ab];rfl,X⟩
  . refine kC (HV.out) ?_;rintro _ a4 ⟨⟨⟩,ao⟩;revert G X;refine eE ao ?_;intro G X;refine kQ (Vl _ _ hR.1) ?_;rintro _ av ⟨a5,a6,a7,a8,a9,ba,⟨⟩,af⟩;revert G X;refine eE af ?_;intro G X;refine C1 Mv (C1 (xB [_,_,_,_,_,_]) (eS [_,_,_,_,_,_] G ?_));intro aw ag ah _;have X:=X.fr ah Ab;refine kX ag ?_;exact ⟨_,_,_,_,_,_,by rw [ab];rfl,X⟩
def Nd.const (t:Nd):Int×Bool:=if t.isExpr=true then t.cval else (0,false)
def Zk (t:Nd) (hM:t.size<=1000000) (hf:t.wf) (S:nP) (a:oA) (c:Nat) (w:wD) (N:t.sits S w a):Calls prog 204 #[t.val a c] w λe w'=>e = .returned (.tuple #[.int .i64 t.const.1,.bool t.const.2])/\Ext w w':=by
 have h:=FE S t hf;unfold Ed at h;have X:=Ne w;by_cases O:t.isExpr=true
 . have HF:=iF (cP (t.size+1) t Ab hM hf O);have Y:t.const=t.cval:=by rw [Nd.const,AG O]
   rw [Y];rw [O] at h;have Z:=iF h;refine Ad func204 ntmps204 rfl rfl (cS (eB [_,_,_,_] ?_));intro b1 w2 h4 x5 _ _;revert N X;refine eE x5 ?_;intro N X;refine kC (Z.out _ _ _ Ae) ?_;rintro _ w9 ⟨⟨⟩,x8⟩;revert h4 N X;refine eE x8 ?_;intro h4 N X;refine kQ (HF.out _ _ _ _ Ae) ?_;rintro _ ah ⟨ai,aj,ak,al,am,an,⟨⟩,aa⟩;have X:=X.ext aa;refine xA [_,_,_,_,_,_] ?_;intro ao ap ab;refine eI [_,_,_,_,_,_] ab ?_;intro U ac ad _ _;have X:=X.ext ad;refine eK ?_;refine Aq (λwz=>Ext U wz) 5 (.pure 0 (.pure 1 (.pure 2 (.pure 3 (.pure 4 .tail))))) mixed AU (Aa Ag) ?_;intro ae V _;have M:(λwz=>Ext U wz) ae:=V;simp only at M;have G:=ac;have X:=X.ext V;refine ⟨M,(Tq rfl Pf (Tq rfl (Db G) (Tq rfl Pf (Tq rfl (Db G) (Tq rfl Pa (Ar rfl (kT ?_)))))))⟩;all_goals exact ⟨rfl,X⟩
 . have Y:t.const=(0,false):=by rw [Nd.const,At O]
   rw [Y];rw [Bool.not_eq_true] at O;rw [O] at h;have Z:=iF h;refine Ad func204 ntmps204 rfl rfl (cS (eB [_,_,_,_] ?_));intro aq ar au af _ _;revert N X;refine eE af ?_;intro N X;refine kC (Z.out _ _ _ Ae) ?_;rintro _ av ⟨⟨⟩,ag⟩;have X:=X.ext ag;refine kT ?_;exact ⟨rfl,X⟩
def Jm (t:Nd) (G:t.size<=1000000) (M:t.wf) (S:nP) (a:oA) (c:Nat) (w:wD) (h:t.sits S w a):Calls prog 182 #[t.val a c] w λe w'=>e = .returned (.bool t.const.2)/\Ext w w':=by
 have X:=Ne w;refine Ad func182 ntmps182 rfl rfl (cS (eB [_,_,_,_] ?_));intro U V Y N _ _;revert h X;refine eE N ?_;intro h X;refine kC (Zk _ G M _ _ _ _ Ae) ?_;rintro _ Z ⟨⟨⟩,O⟩;have X:=X.ext O;refine kR ?_;exact ⟨rfl,X⟩
def Nd.idx (t:Nd) (s:lB):Bool:=decide (t.kind=3)&&(match t.kids with
 | []=>false
 | x::_=>x.ment s)
def Ds (places:List Nd) (names:List lB):Option lB:=places.findSome? λt=>names.find? λs=>t.idx s
def Ep (o:Option lB):lB×Int:=match o with
 | some s=>(s,8)
 | none=>([],0)
def Nd.okIdx (t:Nd):Prop:=t.kind=3->t.kids≠[]
def Oh (t:Nd) (G:t.size<=1000000) (hp:t.okIdx) (s:List UInt8) (S:Nat->Prop) (a:Option Addr) (c:Nat) (w:World) (M:t.sits S w a):Calls prog 177 #[t.val a c,str s] w λe w'=>e = .returned (.bool (t.idx s))/\Ext w w':=by
 obtain ⟨k,n,N,l⟩:=t;have X:=Ne w
 by_cases h3:k=3
 . subst h3;have O:l≠[]:=hp rfl
   match l,O,M,G with
   | x::r,_,M,G=>
    have U:=EL M;obtain ⟨kb,ko,rfl,kS,h⟩:=BI U AN;obtain ⟨xa,xc,V,sx⟩:=h 0 x rfl
    have Y:x.size<=1000000:=by simp only [mR,AV] at G;omega
    have Z:(Nd.mk 3 n N (x::r)).idx s=x.ment s:=by unfold Nd.idx;simp [m7,Nd.kids]
    rw [Z]
    show Calls prog 177 #[.agg #[.int .u8 3,.int .i64 n,str N,.slice (some ⟨kb,ko,none⟩) (r.length+1) c],str s] w _
    refine Ad func177 ntmps177 rfl rfl ?_
    refine cS (eB [_,_,_,_] ?_);intro b1 w2 h4 x5 _ _;revert X V sx;refine eE x5 ?_;intro X V sx;refine C1 Pa (cN (C1 Pg (C1 (Pl h4) (C1 V1 (C1 Mv (Qj (C1 Pf (Qj (C1 (Pl h4) (Qj (C1 Pi (Qj (BU [_,_,_,_] Ac rfl rfl rfl V rfl rfl rfl (Qj (C1 Mv (Qj (cC rfl (Mz _ Y _ _ _ _ _ Ae) ?_)))))))))))))))));rintro _ w9 ⟨⟨⟩,x8⟩;replace X:=X.ext x8;refine C1 bA (C1 Pa (cT (AR (AT rfl rfl ?_))))
    exact ⟨rfl,X⟩
 . have Z:(Nd.mk k n N l).idx s=false:=by unfold Nd.idx;simp [m7,h3]
   rw [Z];refine Ad func177 ntmps177 rfl rfl ?_
   refine cS (eB [_,_,_,_] ?_);intro ac ad aa ab _ _;replace X:=X.ext ab;refine C1 Pa (cN (C1 Pg (C1 (Pl aa) (C1 V1 (C1 Mv (Sy (Sy (Sy (Sy (Sy (Sy (C1 Ss (C1 Pa (cT (AR (AT rfl rfl ?_))))))))))))))))
   exact ⟨rfl,X⟩
def Vm {f:α->Bool} {l:List α} (h:j<l.length) (M:(l.take j).find? f=none):(l.take (j+1)).find? f=if f l[j]=true then some l[j] else none:=by
 rw [iI h,mz,M];by_cases G:f l[j]=true
 . simp [G]
 . simp [G]
def Vn {f:α->Bool} {l:List α} {x:α} (h:(l.take j).find? f=some x):l.find? f=some x:=by
 rw [<-jA j l,mz,h];rfl
def SX {β:Type} {f:α->Option β} {l:List α} (h:j<l.length) (G:(l.take j).findSome? f=none):(l.take (j+1)).findSome? f=f l[j]:=by
 rw [iI h,List.findSome?_append,G];simp
def SY {β:Type} {f:α->Option β} {l:List α} {x:β} (h:(l.take j).findSome? f=some x):l.findSome? f=some x:=by
 rw [<-jA j l,List.findSome?_append,h];rfl
def PF (G:List Nd) (M:List lB) (hz:AV G<=1000000) (hp:∀t∈G,t.okIdx) (hn:M.length<=1000) (S:nP) (a:oA) (c Z:Nat) (no nc:Nat) (w:wD) (O:rowSits S w G a) (U:Row w ⟨Z,no,none⟩ (M.map str)) :
 Calls prog 179 #[.slice a G.length c,.slice (some ⟨Z,no,none⟩) M.length nc] w λe w'=>e = .returned (.tuple #[str (Ep (Ds G M)).1,.int .i64 (Ep (Ds G M)).2])/\Ext w w':=by
 have X:=Ne w;have am:=Cz G;have HP:=iF hp;have O:=Ch _ _ O;refine Ad func179 ntmps179 rfl rfl (cS (C1 Pa (C1 Pa (cT (Aj (cS (C1 Mv (C1 Pz (C1 Mv (cT ?_))))))))));refine Au ?_;refine AP (ι:=Nat) (λi=>[(1,.slice (some ⟨Z,no,none⟩) M.length nc),(10,.slice a G.length c),(11,.int .i64 G.length),(12,.int .i64 i)])
  (λi w'=>i<=G.length/\rowSits (· < w.heap.size) w' G a/\Row w' ⟨Z,no,none⟩ (M.map str)/\Ext w w'/\(G.take i).findSome? (λt=>M.find? λs=>t.idx s)=none)
  (λi=>G.length-i) 0 sB ⟨iT _,O,U,X,rfl⟩ ?_
 rintro i w1 ⟨hi,O,U,X,N⟩;by_cases V:i<G.length
 . obtain ⟨kb,ko,rfl,kS,ab⟩:=BI O (by intro e;subst e;simp at V);obtain ⟨xa,xc,rx,sx⟩:=ab i G[i] (iE V);have an:=CP (iS V);have ae:=HP.out _ (iS V);have Y:=SX V N;have af:∀s,M.find? (λs=>G[i].idx s)=some s->Ep (Ds G M)=(s,8):=λs h=>by rw [Ds,SY (Y.trans h)];rfl
   generalize G[i]=x at *;refine eK ?_;refine xA [_,_,_,_] ?_;intro ac ao ag;refine eI [_,_,_,_] ag ?_;intro ap ah ai _ _;revert U X O sx;refine eE ai ?_;intro U X O sx;refine cN (C1 Mv (C1 Pz (C1 Mv (cT ?_))));refine Au ?_;refine AP (ι:=Nat) (λj=>[(1,.slice (some ⟨Z,no,none⟩) M.length nc),(10,.slice (some ⟨kb,ko,none⟩) G.length c),(11,.int .i64 G.length),(12,.int .i64 i),(7,pt ac),(16,.slice (some ⟨Z,no,none⟩) M.length nc),(17,.int .i64 M.length),(18,.int .i64 j)])
    (λj w'=>j<=M.length/\Blk w' ac (x.cells xa xc)/\x.sits (· < w.heap.size) w' xa/\rowSits (· < w.heap.size) w' G (some ⟨kb,ko,none⟩)/\Row w' ⟨Z,no,none⟩ (M.map str)/\Ext w w'/\(M.take j).find? (λs=>x.idx s)=none)
    (λj=>M.length-j) 0 sB ⟨iT _,ah,sx,O,U,X,rfl⟩ ?_
   rintro j w2 ⟨hj,hb,sx,O,U,X,N⟩;by_cases aa:j<M.length
   . have r1:Row w2 ⟨Z,no+j*1,none⟩ [str M[j]]:=by
      have:=U.sub j 1;rw [jd (by simpa using aa)] at this;simpa using this
     have ad:=Vm aa N;have aj:x.idx M[j]=true->Ep (Ds G M)=(M[j],8):=λh=>af _ (Vn (ad.trans (AG h)))
     have HI:=iF (Oh x Ab ae M[j]);generalize M[j]=y at *;generalize x.idx y=q at *
     focus
      refine kC (HI.out _ _ _ _ Ae) ?_;rintro _ aq ⟨⟨⟩,ak⟩;revert hb sx O U X;refine eE ak ?_;intro hb sx O U X;refine cT (FV rfl (λal=>?_) (λal=>?_));refine kT ?_;rotate_left;refine Ao (Ah (Ai (Al (C1 V7 (C1 Mv (Ak ?_))))));rotate_left
     . exact ⟨by rw [aj Ae],X⟩
     . exact AA (j+1) sB ⟨Ab,hb,sx,O,U,X,ad.trans (At (by simp [*]))⟩ Ab
   . obtain rfl:j=M.length:=by omega
     rw [iZ] at N;refine cS (C1 V3 (cT (Aj (DA (Ca (AB (AB (A0 (Ah (Ai (Al (C1 V7 (C1 Mv (Ak ?_))))))))))))));exact AA (i+1) sB ⟨Ab,O,U,X,Y.trans N⟩ Ab
 . obtain rfl:i=G.length:=by omega
   rw [iZ] at N;have he:Ep (Ds G M)=([],0):=by rw [Ds,N];rfl
   rw [he];refine kT ?_;exact ⟨rfl,X⟩
def Vo (t x:Nd) (a xa:oA) (c xc h:Nat) (w:wD) (G:Blk w h (x.cells xa xc)):Calls prog 181 #[t.val a c,pt h] w λe w'=>e = .returned (.bool (decide (t.name=x.name)))/\Ext w w':=by
 have X:=Ne w;refine Ad func181 ntmps181 rfl rfl (cS (eB [_,_,_,_] ?_));intro N O U M _ _;revert G X;refine eE M ?_;intro G X;refine kR ?_;exact ⟨rfl,X⟩
def SZ (s:lB) (l:List Nd):Int:=match l.findIdx? (λt=>decide (t.name=s)) with
 | some i=>(i:Int)
 | none=> -1
def PH {f:α->Bool} {l:List α} (h:j<l.length) (M:(l.take j).findIdx? f=none):(l.take (j+1)).findIdx? f=if f l[j]=true then some j else none:=by
 rw [iI h,lN,M];by_cases G:f l[j]=true
 . simp [G,lU];omega
 . simp [G,lU]
def PI {f:α->Bool} {l:List α} {i:Nat} (h:(l.take j).findIdx? f=some i):l.findIdx? f=some i:=by
 rw [<-jA j l,lN,h];rfl
def Xb (l:List Nd) (hl:l.length<=1000000) (x:Nd) (S:nP) (a xa:oA) (c xc O:Nat) (w:wD) (G:rowSits S w l a) (U:Blk w O (x.cells xa xc)) :
 Calls prog 203 #[.slice a l.length c,.func (.func 181) #[] #[pt O]] w λe w'=>e = .returned (.int .i64 (SZ x.name l))/\Ext w w':=by
 have X:=Ne w;have G:=Ch _ _ G;refine Ad func203 ntmps203 rfl rfl (cS (C1 Pa (cT (Aj (cS (C1 Mv (C1 Pz (C1 Mv (cT ?_)))))))));refine Au ?_;refine AP (ι:=Nat) (λj=>[(0,.slice a l.length c),(1,.func (.func 181) #[] #[pt O]),(6,.slice a l.length c),(7,.int .i64 l.length),(8,.int .i64 j)])
  (λj w'=>j<=l.length/\rowSits (· < w.heap.size) w' l a/\Blk w' O (x.cells xa xc)/\Ext w w'/\(l.take j).findIdx? (λt=>decide (t.name=x.name))=none)
  (λj=>l.length-j) 0 sB ⟨iT _,G,U,X,rfl⟩ ?_
 rintro j w1 ⟨hj,G,U,X,M⟩;by_cases N:j<l.length
 . obtain ⟨kb,ko,rfl,kS,V⟩:=BI G (by intro e;subst e;simp at N);obtain ⟨ya,yc,ry,sy⟩:=V j l[j] (iE N);have Y:=PH N M;have Z:l[j].name=x.name->SZ x.name l=j:=λh=>by
    rw [AG (by simpa using h)] at Y;rw [SZ,PI Y]
   generalize l[j]=y at *
   focus
    refine eK ?_;refine Aw (A9 (fi:=[]) (ca:=[pt O]) AU rfl rfl (Vo _ x _ xa _ xc _ _ Ae) (λ_ _ h=>⟨_,h.1⟩)) rfl ?_ aFh;rintro _ ac ⟨⟨⟩,aa⟩;revert U X G;refine eE aa ?_;intro U X G;refine cT (Az rfl (λab=>?_) (λab=>?_));refine kR ?_;rotate_left;refine Ao (Ah (Ai (Al (C1 V7 (C1 Mv (Ak ?_))))));rotate_left
   . exact ⟨by rw [Z Ae],X⟩
   . exact AA (j+1) sB ⟨Ab,G,U,X,Y.trans (At (by simpa using Ae))⟩ Ab
 . obtain rfl:j=l.length:=by omega
   rw [iZ] at M;have he:SZ x.name l = -1:=by rw [SZ,M]
   rw [he];refine kR ?_;exact ⟨rfl,X⟩
def Xc (s:lB) (l:List Nd):decide (0<=SZ s l)=l.any (λt=>decide (t.name=s)):=by
 unfold SZ;cases h:l.findIdx? (λt=>decide (t.name=s)) with
 | none=>
  rw [List.findIdx?_eq_none_iff] at h;have:l.any (λt=>decide (t.name=s))=false:=by rw [List.any_eq_false];intro x G;simpa using h x G
  rw [this];rfl
 | some i=>
  have M:=List.findIdx?_eq_some_iff_getElem.1 h;obtain ⟨N,O,-⟩:=M;have:l.any (λt=>decide (t.name=s))=true:=kW.2 ⟨l[i],iS N,O⟩;rw [this];simp
def QV (l:List Nd) (G:l.length<=1000000) (x:Nd) (S:nP) (a xa:oA) (c xc h:Nat) (w:wD) (N:rowSits S w l a) (O:Blk w h (x.cells xa xc)) :
 Calls prog 180 #[.slice a l.length c,.func (.func 181) #[] #[pt h]] w λe w'=>e = .returned (.bool (l.any λt=>decide (t.name=x.name)))/\Ext w w':=by
 have X:=Ne w;rw [<-Xc];refine Ad func180 ntmps180 rfl rfl (kC (Xb l G x _ _ xa _ xc _ _ Ae Ae) ?_);rintro _ U ⟨⟨⟩,M⟩;have X:=X.ext M;refine kR ?_;exact ⟨rfl,X⟩
def LO:List Nd->List Nd->Option lB
 | _,[]=>none
 | acc,t::r=>if acc.any (λu=>decide (u.name=t.name))=true then some t.name else LO (acc++[t]) r
def EO:Nd->lB×Int
 | .mk k _ s l=>
  if k=56 then ((l.getD 0 BX).name,9)
  else if 40<=k/\k<=42 then (if ((l.getD 0 BX).idx (l.getD 0 BX).name||(l.getD 1 BX).ment (l.getD 0 BX).name)=true then ((l.getD 0 BX).name,8) else ([],0))
  else if k=43 then Ep (Ds l [(l.getD 0 BX).name,(l.getD 1 BX).name])
  else if 44<=k/\k<=45 then Ep (Ds l [(l.getD 0 BX).name,s])
  else if 46<=k/\k<=49 then Ep (Ds l [(l.getD 0 BX).name])
  else if 50<=k/\k<=51 then Ep (LO [] l)
  else if k=52 then (if ((l.getD 3 BX).const.2 && !(l.getD 0 BX).const.2)=true then ([],10) else ([],0))
  else if k=53 then (if (l.getD 0 BX).const.2=true then ([],10) else ([],0))
  else ([],0)
def Fo (k n:Int) (s:lB) (l:List Nd):EO (.mk k n s l)=if k=56 then ((l.getD 0 BX).name,9)
 else if 40<=k/\k<=42 then (if ((l.getD 0 BX).idx (l.getD 0 BX).name||(l.getD 1 BX).ment (l.getD 0 BX).name)=true then ((l.getD 0 BX).name,8) else ([],0))
 else if k=43 then Ep (Ds l [(l.getD 0 BX).name,(l.getD 1 BX).name])
 else if 44<=k/\k<=45 then Ep (Ds l [(l.getD 0 BX).name,s])
 else if 46<=k/\k<=49 then Ep (Ds l [(l.getD 0 BX).name])
 else if 50<=k/\k<=51 then Ep (LO [] l)
 else if k=52 then (if ((l.getD 3 BX).const.2 && !(l.getD 0 BX).const.2)=true then ([],10) else ([],0))
 else if k=53 then (if (l.getD 0 BX).const.2=true then ([],10) else ([],0))
 else ([],0):=rfl
def Kd {S:nP} {w:wD}:∀(l:List Nd) (i:Nat) (a:oA),rowSits S w l a->rowSits S w (l.take i) a
 | _,0,_,_=>by simp [rowSits]
 | [],_+1,_,_=>by simp [rowSits]
 | t::r,i+1,a,h=>by
  simp only [jH,rowSits] at h ⊢;obtain ⟨b,o,G,c,rfl,M,N,O,U,V,X,Y⟩:=h;exact ⟨b,o,G,c,rfl,M,N,O,U,V,X,Kd r i _ Y⟩
def Nd.good (t:Nd):Prop:=t.isStmt=true\/t.isBlock=true\/t.isExpr=true
def Vp {t:Nd} (h:t.good) (M:40<=t.kind) (G:t.kind<=56):t.isStmt=true:=by
 rcases h with h|h|h
 . exact h
 . obtain ⟨e,-⟩:=D5 h;rw [e] at G;simp only [m7] at G;omega
 . have:=Gq h;omega
def F6 {t:Nd} (h:t.isPlace=true):t.okIdx:=by
 intro G e;have M:=Be h;obtain ⟨k,n,s,l⟩:=t;simp only [m7,Nd.kids] at G e;subst G e;rw [Nd.isExpr.eq_def] at M;simp at M
def QX {k:Int} (h:(Nd.mk k n s l).isStmt=true) (G:k=56\/(40<=k/\k<=42)):∃x y,l=[x,y]/\x.isPlace=true/\y.isExpr=true:=by
 cases B3 h<;>first|omega|exact ⟨_,_,rfl,Ae,Ae⟩
def Vq (h:(Nd.mk 43 n s l).isStmt=true):∃x y,l=[x,y]/\x.isPlace=true/\y.isPlace=true:=by
 cases B3 h<;>first|omega|exact ⟨_,_,rfl,Ae,Ae⟩
def Ue {k:Int} (h:(Nd.mk k n s l).isStmt=true) (G:44<=k/\k<=49):∃x,l=[x]/\x.isPlace=true:=by
 cases B3 h<;>first|omega|exact ⟨_,rfl,Ae⟩
def Lq {k:Int} (h:(Nd.mk k n s l).isStmt=true) (G:k=52\/k=53):∃x y z u,l=[x,y,z,u]/\x.isExpr=true/\u.isExpr=true:=by
 cases B3 h<;>first|omega|exact ⟨_,_,_,_,rfl,Ae,Ae⟩
set_option maxHeartbeats 8000000 in
def Xd (t:Nd) (hz:t.size<=1000000) (hf:t.wf) (hg:t.good) (S:Nat->Prop) (a:Option Addr) (c:Nat) (w:World) (O:t.sits S w a) (au:t.kids.length<=c):Calls prog 149 #[t.val a c] w λe w'=>e = .returned (.tuple #[str (EO t).1,.int .i64 (EO t).2])/\Ext w w':=by
 have bl:=Vp hg;obtain ⟨k,n,s,l⟩:=t;replace O:=Ch _ _ (EL O);have cj:=Cz l;have HZ:=iF (λx (hx:x∈l)=>CP hx)
 have dq:AV l<=1000000:=by simp only [mR] at hz;omega
 have HF:=iF (λx (hx:x∈l)=>BD (by simp only [Nd.wf] at hf;exact hf.2.2.2.2.2.2) x hx);have HT:=iF (λh1 h2=>bl h1 h2);simp only [m7] at HT;simp only [Nd.kids] at au;have X:=Ne w
 show Calls prog 149 #[.agg #[.int .u8 k,.int .i64 n,str s,.slice a l.length c]] w _
 refine Ad func149 ntmps149 rfl rfl ?_
 focus
  refine cS (eB [_,_,_,_] ?_);intro b1 w2 M x5 p6 z7;revert O X;refine eE x5 ?_;intro O X;refine C1 Pa (C1 Pa (cT (Aj (cS (C1 Pg (C1 (Pl M) (cT (Au (cS (C1 V1 (C1 Pa (cT (Az rfl (λc8=>?_) (λc8=>?_))))))))))))));rotate_left;refine Aj ?_;rotate_left
 . obtain ⟨x,y,rfl,hx,hy⟩:=QX (HT.out Ab Ab) (iG Ab);obtain ⟨kb,ko,rfl,kS,N⟩:=BI O AN;obtain ⟨xa,xc,rx,sx⟩:=N 0 x rfl
   have he:EO (.mk k n s [x,y])=(x.name,9):=by rw [Fo,AG Ab];rfl
   rw [he];replace M:Blk w2 b1 [.int .u8 k,.int .i64 n,str s,.slice (some ⟨kb,ko,none⟩) 2 c]:=M
   refine cS (C1 Pf (C1 (Pl M) (C1 Pi (C1 Pf (C1 (Pw rx) (C1 Pa (C1 Pa (cT (AR (AJ (As (Bc rfl rfl rfl ?_))))))))))))
   exact ⟨rfl,X⟩
 refine DE (ι:=Unit) (λ_=>[(1,pt b1),(10,.int .u8 k),(18,.bool (decide (40<=k/\k<=42)))]) (λ_ w'=>w'=w2) ?_ ?_
 . focus
    refine cS (C1 V1 (C1 Pa (cT (Az rfl (λbm=>?_) (λbm=>?_)))));refine Ao ?_;rotate_left;refine cS (C1 V1 (C1 Pa (cT (Az rfl (λbn=>?_) (λbn=>?_)))));refine Ao ?_;rotate_left;refine Al (C1 V1 (C1 Pa (Ak ?_)));rotate_left
   all_goals exact BQ () (An rfl (An rfl (B4 rfl (congrArg Value.bool (decide_eq_decide.2 Ab)) BL))) rfl
 rintro-u1 h;subst h
 focus
  refine Az rfl (λbo=>?_) (λbo=>?_);rotate_left;rotate_left
 . obtain ⟨x,y,rfl,hx,hy⟩:=QX (HT.out Ab Ab) (iH Ab);obtain ⟨kb,ko,rfl,kS,N⟩:=BI O AN;obtain ⟨xa,xc,rx,sx⟩:=N 0 x rfl;obtain ⟨ya,yc,ry,sy⟩:=N 1 y rfl
   have he:EO (.mk k n s [x,y])=if (x.idx x.name||y.ment x.name)=true then (x.name,8) else ([],0):=by rw [Fo,At Ab,AG Ab];rfl
   have HI:=iF (Oh x (by have:=HZ.out x AN;omega) (F6 hx) x.name);have HM:=iF (Mz y (by have:=HZ.out y AN;omega) x.name);rw [he]
   generalize x.idx x.name=q at *
   generalize y.ment x.name=p at *
   replace M:Blk u1 b1 [.int .u8 k,.int .i64 n,str s,.slice (some ⟨kb,ko,none⟩) 2 c]:=M
   focus
    refine cS (C1 Pf (C1 (Pl M) (C1 Pi (C1 Pf (C1 (Pw rx) (C1 Pa (cN (C1 Pf (C1 (Pl M) (C1 Pi (BU [_,_,_,_] Ac rfl rfl rfl rx rfl rfl rfl (C1 Mv (cC rfl (HI.out _ _ _ _ Ae) ?_)))))))))))));rintro _ dr ⟨⟨⟩,bp⟩;revert X ry sy M;refine eE bp ?_;intro X ry sy M;refine C1 Mv (O5 rfl rfl rfl (λbq=>?_) (λbq=>?_));refine Bh rfl rfl rfl (N0 Ae) rfl (Bh rfl rfl rfl (N0 Ae) rfl (Bh rfl rfl rfl (N0 Ae) rfl (Bh rfl rfl rfl (N0 Ae) rfl (Bh rfl rfl rfl (N0 Ae) rfl (Bh rfl rfl rfl (N0 Ae) rfl (C1 (Cm rfl rfl Ae) (cT (BP rfl (cS (C1 Mv (C1 Pa (C1 Pa (cT (AR (AJ (As (Bc rfl rfl rfl ?_)))))))))))))))));rotate_left;refine Bn rfl rfl rfl (N1 Ae) (C1 Pf (Bn rfl rfl rfl (N1 Ae) (C1 (Pl M) (Bn rfl rfl rfl (N1 Ae) (C1 Pi (Bn rfl rfl rfl (N1 Ae) (C1 (YZ ry) (Bn rfl rfl rfl (N1 Ae) (C1 Mv (Bn rfl rfl rfl (N1 Ae) (cC rfl (HM.out _ _ _ _ Ae) ?_)))))))))));rintro _ ds ⟨⟨⟩,br⟩;replace X:=X.ext br;refine C1 (BZ rfl rfl Ae) ?_
    refine cT (FV rfl (λbs=>?_) (λbs=>?_));refine cS (C1 Mv (C1 Pa (C1 Pa (cT (AR (AJ (As (Bc rfl rfl rfl ?_))))))));rotate_left;refine Ao (Ah (Ai (cS (C1 Pa (C1 Pa (cT (AR (Bc rfl rfl rfl ?_))))))));rotate_left
   all_goals exact ⟨by simp [*],X⟩
 focus
  refine cS (C1 V1 (C1 Pa (cT (Az rfl (λbt=>?_) (λbt=>?_)))));rotate_left;refine Aj ?_;rotate_left
 . have hk:k=43:=by assumption
   subst hk;obtain ⟨x,y,rfl,hx,hy⟩:=Vq (HT.out Ab Ab);obtain ⟨kb,ko,rfl,kS,N⟩:=BI O AN;obtain ⟨xa,xc,rx,sx⟩:=N 0 x rfl;obtain ⟨ya,yc,ry,sy⟩:=N 1 y rfl
   have he:EO (.mk 43 n s [x,y])=Ep (Ds [x,y] [x.name,y.name]):=by rw [Fo,At Ab,At Ab,AG Ab];rfl
   have HA:=iF (PF [x,y] [x.name,y.name] Ab (λt ht=>by simp at ht;rcases ht with rfl|rfl<;>exact F6 Ae) AN);rw [he];replace M:Blk u1 b1 [.int .u8 43,.int .i64 n,str s,.slice (some ⟨kb,ko,none⟩) 2 c]:=M
   focus
    refine Aj (Aq (λwz=>Ext u1 wz) 11 (.pure 0 (.pure 1 (.pure 2 (.pure 3 (.pure 4 (.pure 5 (.pure 6 (.pure 7 (.fork 8 (.fork 9 (.fork 10 .tail .none) .none) (.fork 9 (.fork 8 (.fork 10 .tail .none) .none) .none)))))))))) mixed AU (Aa (Af (Aa Ag))) ?_);intro bu ar _;have G:(λwz=>Ext u1 wz) bu:=ar;simp only at G;have aa:=rx;have av:=ry;have U:=M;have dt:=ar.size;revert X O M;refine eE ar ?_;intro X O M;refine ⟨G,(Tq rfl Pf (Tq rfl (Db U) (Tq rfl Pi (Tq rfl (Dy [_,_,_,_] Ac rfl rfl rfl (λwz hz=>(mJ aa hz)) rfl rfl) (Tq rfl Pf (Tq rfl (Db U) (Tq rfl Pi (Tq rfl (BE Ac rfl rfl rfl (λwz hz=>(mJ av hz)) rfl) (AC rfl (A2 CC rfl) rfl ?_ aFh ?krf5)))))))))⟩;rintro _ du ⟨dv,rfl,al⟩;have am:=al.blk;dsimp only at am;have aw:=al.ext;have ck:=al.pos;have cl:=al.size;revert G X O M;refine eE aw ?_;intro G X O M;refine ⟨G,(AC rfl (A2 CC rfl) rfl ?_ aFh Ay)⟩;rintro _ cm ⟨cn,rfl,ab⟩;have ac:=ab.blk;dsimp only at ac;have ax:=ab.ext;have co:=ab.pos;have cp:=ab.size;revert am G X O M;refine eE ax ?_;intro am G X O M;refine ⟨G,(Cq [_,_,_,_] [_,_,_,_] rfl Ac rfl rfl rfl rfl rfl rfl am rfl rfl ?_ Ay)⟩
    intro cq af;have ag:=af.blk;have ay:=af.fr;have cr:=af.size;revert ac G X O M;refine eF ay ?_;intro ac G X O M;refine ⟨G,(Ar rfl (eS [_,_,_,_] ac ?_))⟩;intro ct az a0 cu;revert ag X O M;refine eF a0 ?_;intro ag X O M;refine cN (C1 Pf (C1 (Pl M) (C1 Pf (C1 (Pl ag) (C1 Pf (C1 (Pl az) (Aw (Df [_,_] Ac CC rfl rfl rfl rfl rfl rfl rfl rfl rfl) rfl ?_ aFh)))))));rintro _ cv ⟨cw,rfl,ao,cx⟩;have cy:=ao.blk;have a1:=ao.ext;revert X O;refine eE a1 ?_;intro X O;refine cC rfl (HA.out _ _ _ _ _ _ _ Ae (mS Ae)) ?_;rintro _ cz ⟨⟨⟩,a2⟩;replace X:=X.ext a2;refine C1 Px (C1 Px (C1 Pa (C1 Pa (cT (AR (AJ (As (Bc rfl rfl rfl ?_))))))));rotate_left;refine AC rfl (A2 CC rfl) rfl ?_ aFh Ay;rintro _ c0 ⟨c1,rfl,ad⟩;have Z:=ad.blk;dsimp only at Z;have a3:=ad.ext;have c2:=ad.pos;have c3:=ad.size;revert G X O M;refine eE a3 ?_;intro G X O M;refine ⟨G,(AC rfl (A2 CC rfl) rfl ?_ aFh Ay)⟩;rintro _ c4 ⟨c5,rfl,ae⟩;have ap:=ae.blk;dsimp only at ap;have a4:=ae.ext
    have c6:=ae.pos;have c7:=ae.size;revert Z G X O M;refine eE a4 ?_;intro Z G X O M;refine ⟨G,(Cq [_,_,_,_] [_,_,_,_] rfl Ac rfl rfl rfl rfl rfl rfl ap rfl rfl ?_ Ay)⟩;intro c9 ah;have ai:=ah.blk;have a5:=ah.fr;have da:=ah.size;revert Z G X O M;refine eF a5 ?_;intro Z G X O M;refine ⟨G,(Ar rfl (eS [_,_,_,_] Z ?_))⟩;intro db a6 a7 dc;revert ai X O M;refine eF a7 ?_;intro ai X O M;refine cN (C1 Pf (C1 (Pl M) (C1 Pf (C1 (Pl ai) (C1 Pf (C1 (Pl a6) (Aw (Df [_,_] Ac CC rfl rfl rfl rfl rfl rfl rfl rfl rfl) rfl ?_ aFh)))))));rintro _ dd ⟨de,rfl,aq,df⟩;have dg:=aq.blk;have a8:=aq.ext;revert X O;refine eE a8 ?_;intro X O;refine cC rfl (HA.out _ _ _ _ _ _ _ Ae (mS Ae)) ?_;rintro _ dh ⟨⟨⟩,a9⟩;replace X:=X.ext a9;refine C1 Px (C1 Px (C1 Pa (C1 Pa (cT (AR (AJ (As (Bc rfl rfl rfl ?_))))))));rotate_left
   all_goals exact ⟨rfl,X⟩
 refine DE (ι:=Unit) (λ_=>[(1,pt b1),(10,.int .u8 k),(62,.bool (decide (44<=k/\k<=45)))]) (λ_ w'=>w'=u1) ?_ ?_
 . focus
    refine cS (C1 V1 (C1 Pa (cT (Az rfl (λbv=>?_) (λbv=>?_)))));refine Ao ?_;rotate_left;refine Al (C1 V1 (C1 Pa (Ak ?_)));rotate_left
   all_goals exact BQ () (An rfl (An rfl (B4 rfl (congrArg Value.bool (decide_eq_decide.2 Ab)) BL))) rfl
 rintro-u2 h;subst h
 focus
  refine Az rfl (λbw=>?_) (λbw=>?_);rotate_left;refine Aj ?_;rotate_left
 . obtain ⟨x,rfl,hx⟩:=Ue (HT.out Ab Ab) Ab;obtain ⟨kb,ko,rfl,kS,N⟩:=BI O AN;obtain ⟨xa,xc,rx,sx⟩:=N 0 x rfl
   have he:EO (.mk k n s [x])=Ep (Ds [x] [x.name,s]):=by rw [Fo,At Ab,At Ab,At Ab,AG Ab];rfl
   have HA:=iF (PF [x] [x.name,s] Ab (λt ht=>by simp at ht;subst ht;exact F6 hx) AN);rw [he];replace M:Blk u2 b1 [.int .u8 k,.int .i64 n,str s,.slice (some ⟨kb,ko,none⟩) 1 c]:=M
   refine Aj (Aq (λwz=>Ext u2 wz) 13 (.pure 0 (.pure 1 (.pure 2 (.pure 3 (.pure 4 (.pure 5 (.pure 6 (.pure 7 (.pure 8 (.fork 9 (.fork 10 (.pure 11 (.pure 12 .tail)) .none) .none)))))))))) mixed AU (Aa (Af (Aa Ag))) ?_);intro bx ba _;have V:(λwz=>Ext u2 wz) bx:=ba;simp only at V;have aa:=rx;have U:=M;revert X O;refine eE ba ?_;intro X O;refine ⟨V,(Tq rfl Pf (Tq rfl (Db U) (Tq rfl Pf (Tq rfl (Db U) (Tq rfl Pi (Tq rfl Pf (Tq rfl (Dr aa) (Tq rfl Pf (Tq rfl (Db U) (AC rfl (Df [_,_] Ac CC rfl rfl rfl rfl rfl rfl rfl rfl rfl) rfl ?_ aFh Ay))))))))))⟩;rintro _ dw ⟨dx,rfl,bb,dy⟩;have di:=bb.blk;have bc:=bb.ext;revert V X O;refine eE bc ?_;intro V X O;refine ⟨V,(AC rfl (AM AU rfl (HA.out _ _ _ _ _ _ _ Ae (mS Ae)) (λ_ _ h=>⟨_,h.1⟩)) rfl ?_ aFh Ay)⟩;rintro _ dk ⟨⟨⟩,bd⟩;revert V X;refine eE bd ?_;intro V X;refine ⟨V,(Tq rfl Px (Tq rfl Px (Ar rfl (C1 Pa (C1 Pa (cT (AR (AJ (As (Bc rfl rfl rfl ?_))))))))))⟩
   all_goals exact ⟨rfl,X⟩
 refine DE (ι:=Unit) (λ_=>[(1,pt b1),(10,.int .u8 k),(78,.bool (decide (46<=k/\k<=49)))]) (λ_ w'=>w'=u2) ?_ ?_
 . focus
    refine cS (C1 V1 (C1 Pa (cT (Az rfl (λbz=>?_) (λbz=>?_)))));refine Ao ?_;rotate_left;refine cS (C1 V1 (C1 Pa (cT (Az rfl (λb0=>?_) (λb0=>?_)))));refine Ao ?_;rotate_left;refine cS (C1 V1 (C1 Pa (cT (Az rfl (λb2=>?_) (λb2=>?_)))));refine Ao ?_;rotate_left;refine Al (C1 V1 (C1 Pa (Ak ?_)));rotate_left
   all_goals exact BQ () (An rfl (An rfl (B4 rfl (congrArg Value.bool (decide_eq_decide.2 Ab)) BL))) rfl
 rintro-u3 h;subst h
 focus
  refine Az rfl (λb3=>?_) (λb3=>?_);rotate_left;refine Aj ?_;rotate_left
 . obtain ⟨x,rfl,hx⟩:=Ue (HT.out Ab Ab) Ab;obtain ⟨kb,ko,rfl,kS,N⟩:=BI O AN;obtain ⟨xa,xc,rx,sx⟩:=N 0 x rfl
   have he:EO (.mk k n s [x])=Ep (Ds [x] [x.name]):=by rw [Fo,At Ab,At Ab,At Ab,At Ab,AG Ab];rfl
   have HA:=iF (PF [x] [x.name] Ab (λt ht=>by simp at ht;subst ht;exact F6 hx) AN);rw [he];replace M:Blk u3 b1 [.int .u8 k,.int .i64 n,str s,.slice (some ⟨kb,ko,none⟩) 1 c]:=M
   refine Aj (Aq (λwz=>Ext u3 wz) 11 (.pure 0 (.pure 1 (.pure 2 (.pure 3 (.pure 4 (.pure 5 (.pure 6 (.fork 7 (.fork 8 (.pure 9 (.pure 10 .tail)) .none) .none)))))))) mixed AU (Aa (Af (Aa Ag))) ?_);intro b4 be _;have Y:(λwz=>Ext u3 wz) b4:=be;simp only at Y;have aa:=rx;have U:=M;revert X O;refine eE be ?_;intro X O;refine ⟨Y,(Tq rfl Pf (Tq rfl (Db U) (Tq rfl Pf (Tq rfl (Db U) (Tq rfl Pi (Tq rfl Pf (Tq rfl (Dr aa) (AC rfl (Df [_] Ac CC rfl rfl rfl rfl rfl rfl rfl rfl rfl) rfl ?_ aFh Ay))))))))⟩;rintro _ dz ⟨d0,rfl,bf,d1⟩;have dl:=bf.blk;have bg:=bf.ext;revert Y X O;refine eE bg ?_;intro Y X O;refine ⟨Y,(AC rfl (AM AU rfl (HA.out _ _ _ _ _ _ _ Ae (mS Ae)) (λ_ _ h=>⟨_,h.1⟩)) rfl ?_ aFh Ay)⟩;rintro _ dm ⟨⟨⟩,bh⟩;revert Y X;refine eE bh ?_;intro Y X;refine ⟨Y,(Tq rfl Px (Tq rfl Px (Ar rfl (C1 Pa (C1 Pa (cT (AR (AJ (As (Bc rfl rfl rfl ?_))))))))))⟩
   all_goals exact ⟨rfl,X⟩
 refine DE (ι:=Unit) (λ_=>[(1,pt b1),(10,.int .u8 k),(94,.bool (decide (50<=k/\k<=51)))]) (λ_ w'=>w'=u3) ?_ ?_
 . focus
    refine cS (C1 V1 (C1 Pa (cT (Az rfl (λb5=>?_) (λb5=>?_)))));refine Ao ?_;rotate_left;refine Al (C1 V1 (C1 Pa (Ak ?_)));rotate_left
   all_goals exact BQ () (An rfl (An rfl (B4 rfl (congrArg Value.bool (decide_eq_decide.2 Ab)) BL))) rfl
 rintro-u4 h;subst h
 focus
  refine Az rfl (λb6=>?_) (λb6=>?_);rotate_left;rotate_left
 . have he:EO (.mk k n s l)=Ep (LO [] l):=by rw [Fo,At Ab,At Ab,At Ab,At Ab,At Ab,AG Ab]
   rw [he]
   refine cS (C1 Pf (C1 (Pl M) (C1 Pz (C1 Mv (cT ?_)))))
   refine Au ?_;refine AP (ι:=Nat) (λi=>[(1,pt b1),(98,.slice a l.length c),(99,.int .i64 l.length),(100,.int .i64 i)])
    (λi w'=>i<=l.length/\Blk w' b1 [.int .u8 k,.int .i64 n,str s,.slice a l.length c]/\rowSits (· < w.heap.size) w' l a/\Ext w w'/\LO [] l=LO (l.take i) (l.drop i))
    (λi=>l.length-i) 0 sB ⟨iT _,M,O,X,AN⟩ ?_
   rintro i v1 ⟨hi,M,O,X,hd⟩;have d2:=M.lt
   by_cases an:i<l.length
   . obtain ⟨kb,ko,rfl,kS,N⟩:=BI O (by intro e;subst e;simp at an);obtain ⟨xa,xc,rx,sx⟩:=N i l[i] (iE an);rw [jd an,LO] at hd;have b7:l.take i++[l[i]]=l.take (i+1):=(iI an).symm
     have b8:(l.take i).length=i:=by simp;omega
     have hm:(i:Int)=(i:Int):=rfl;have aj:=Kd l i _ O;have HC:=iF (QV (l.take i) Ab l[i]);rw [b8] at HC;rw [b7] at hd
     generalize l[i]=x at *
     generalize (l.take i).any (λt=>decide (t.name=x.name))=q at *
     focus
      refine cS (C1 V3 (cT (Aj (TS (Ao (Ai (Aj (Au (cS (C1 Mv (C1 Pi (C1 (YZ rx) (eA [_,_,_,_] ?_)))))))))))));intro d3 d4 b9 ca d5 d6;revert X M O aj;refine eE ca ?_;intro X M O aj;refine C1 Pa (eS [_,_,_,_] b9 ?_);intro d7 ak bi dn;revert X M O aj;refine eF bi ?_;intro X M O aj;refine cN (C1 Pf (C1 (Pl M) (C1 Mv (C1 (DN Ac rfl rfl rfl rfl hm Ab) (C1 (B6 rfl) (cC rfl (HC.out _ _ _ _ _ _ _ aj Ae) ?_))))));rintro _ dp ⟨⟨⟩,bj⟩;revert ak X M O;refine eE bj ?_;intro ak X M O;refine cT (FV rfl (λbk=>?_) (λbk=>?_));refine cS (C1 Pf (C1 (Pl ak) (C1 Pa (C1 Pa (cT (AR (AJ (As (As (AJ (AJ (As (Bc rfl rfl rfl ?_)))))))))))));rotate_left;refine Ao (Ah (Ai (Al (C1 V7 (C1 Mv (Ak ?_))))));rotate_left
     . rw [AG Ae] at hd
       exact ⟨by rw [hd];rfl,X⟩
     . rw [At (by simp [*])] at hd
       exact AA (i+1) sB ⟨Ab,M,O,X,hd⟩ Ab
   . obtain rfl:i=l.length:=by omega
     rw [ly,LO] at hd;rw [hd]
     refine cS (C1 V3 (cT (Aj (DA (Ca (AB (AB (A0 (Ah (Ai (cS (C1 Pa (C1 Pa (cT (AR (Bc rfl rfl rfl ?_))))))))))))))))
     exact ⟨rfl,X⟩
 focus
  refine cS (C1 V1 (C1 Pa (cT (Az rfl (λcb=>?_) (λcb=>?_)))));rotate_left;rotate_left
 . obtain ⟨x,y,z,u,rfl,hx,hu⟩:=Lq (HT.out Ab Ab) Ab;obtain ⟨kb,ko,rfl,kS,N⟩:=BI O AN;obtain ⟨xa,xc,rx,sx⟩:=N 0 x rfl;obtain ⟨ua,uc,ru,su⟩:=N 3 u rfl
   have he:EO (.mk k n s [x,y,z,u])=if (u.const.2 && !x.const.2)=true then ([],10) else ([],0):=by rw [Fo,At Ab,At Ab,At Ab,At Ab,At Ab,At Ab,AG Ab];rfl
   have HX:=iF (Jm x (by have:=HZ.out x AN;omega) (HF.out x AN));have HU:=iF (Jm u (by have:=HZ.out u AN;omega) (HF.out u AN));rw [he]
   generalize x.const.2=q at *
   generalize u.const.2=p at *
   replace M:Blk u4 b1 [.int .u8 k,.int .i64 n,str s,.slice (some ⟨kb,ko,none⟩) 4 c]:=M
   focus
    refine cS (C1 Pf (C1 (Pl M) (C1 Pi (C1 (YZ ru) (cC rfl (HU.out _ _ _ _ su) ?_)))));rintro _ d8 ⟨⟨⟩,cc⟩;revert X rx sx M;refine eE cc ?_;intro X rx sx M;refine C1 Mv (O5 rfl rfl rfl (λcd=>?_) (λcd=>?_));refine Bn rfl rfl rfl (Ho Ae) (C1 Pf (Bn rfl rfl rfl (Ho Ae) (C1 (Pl M) (Bn rfl rfl rfl (Ho Ae) (C1 Pi (Bn rfl rfl rfl (Ho Ae) (BU [_,_,_,_] Ac rfl rfl rfl rx rfl rfl rfl (Bn rfl rfl rfl (Ho Ae) (cC rfl (HX.out _ _ _ _ sx) ?_)))))))));rintro _ d9 ⟨⟨⟩,ce⟩;replace X:=X.ext ce;refine Bn rfl rfl rfl (Ho Ae) (C1 Pt (C1 (Cm rfl rfl Ae) (cT (JK rfl (λcf=>?_) (λcf=>?_)))));refine cS (C1 Pa (C1 Pa (cT (AR (AJ (As (Bc rfl rfl rfl ?_)))))));rotate_left;refine Ao (Ah (Ai (cS (C1 Pa (C1 Pa (cT (AR (Bc rfl rfl rfl ?_))))))));rotate_left;refine Bh rfl rfl rfl (Hr Ae) rfl (Bh rfl rfl rfl (Hr Ae) rfl (Bh rfl rfl rfl (Hr Ae) rfl (Bh rfl rfl rfl (Hr Ae) rfl (Bh rfl rfl rfl (Hr Ae) rfl (Bh rfl rfl rfl (Hr Ae) rfl ?_)))))
    refine C1 (BZ rfl rfl Ae) (cT (Ba rfl (Ao (Ah (Ai (cS (C1 Pa (C1 Pa (cT (AR (Bc rfl rfl rfl ?_)))))))))));rotate_left
   all_goals exact ⟨by simp [*],X⟩
 focus
  refine cS (C1 V1 (C1 Pa (cT (Az rfl (λcg=>?_) (λcg=>?_)))));rotate_left;refine Ao (Ah (Ai (cS (C1 Pa (C1 Pa (cT (AR (Bc rfl rfl rfl ?_))))))));rotate_left
 . obtain ⟨x,y,z,u,rfl,hx,hu⟩:=Lq (HT.out Ab Ab) Ab;obtain ⟨kb,ko,rfl,kS,N⟩:=BI O AN;obtain ⟨xa,xc,rx,sx⟩:=N 0 x rfl
   have he:EO (.mk k n s [x,y,z,u])=if x.const.2=true then ([],10) else ([],0):=by rw [Fo,At Ab,At Ab,At Ab,At Ab,At Ab,At Ab,At Ab,AG Ab];rfl
   have HX:=iF (Jm x (by have:=HZ.out x AN;omega) (HF.out x AN));rw [he]
   generalize x.const.2=q at *
   replace M:Blk u4 b1 [.int .u8 k,.int .i64 n,str s,.slice (some ⟨kb,ko,none⟩) 4 c]:=M
   focus
    refine cS (C1 Pf (C1 (Pl M) (C1 Pi (BU [_,_,_,_] Ac rfl rfl rfl rx rfl rfl rfl (cC rfl (HX.out _ _ _ _ sx) ?_)))));rintro _ ea ⟨⟨⟩,ch⟩;replace X:=X.ext ch;refine cT (FV rfl (λci=>?_) (λci=>?_));refine cS (C1 Pa (C1 Pa (cT (AR (AJ (As (Bc rfl rfl rfl ?_)))))));rotate_left;refine Ao (Ah (Ai (cS (C1 Pa (C1 Pa (cT (AR (Bc rfl rfl rfl ?_))))))));rotate_left
   all_goals exact ⟨by simp [*],X⟩
 . have he:EO (.mk k n s l)=([],0):=by rw [Fo,At Ab,At Ab,At Ab,At Ab,At Ab,At Ab,At Ab,At Ab]
   rw [he]
   exact ⟨rfl,X⟩
def rejShape:Shape Int where
 sz:=4
 rep _ _ x cs:= ∃(p:Int) (pa:oA) (pn pc:Nat) (s:lB),cs=[.int .i64 p,.slice pa pn pc,.int .i64 x,str s]
 len h:=by obtain ⟨_,_,_,_,_,rfl⟩:=h;rfl
 one h:=by obtain ⟨_,_,_,_,_,rfl⟩:=h;rfl
 mono h _ _:=h
 lt h:=h
def Ck (l:List Nd):List Int:=(l.map λm=>(EO m).2).filter (λe=>decide (e≠0))
def QY (l:List Nd) (x:Nd):Ck (l++[x])=if (EO x).2=0 then Ck l else Ck l++[(EO x).2]:=by
 unfold Ck;rw [jJ,List.filter_append];by_cases h:(EO x).2=0
 . rw [AG h];simp [h]
 . rw [At h];simp [h]
def G3 (l:List Nd):(Ck l).length<=l.length:=by
 unfold Ck;exact jM (List.length_filter_le _ _) AN
mutual
def Hy:∀t:Nd,t.walk.length=t.size
 | .mk k n s l=>by simp only [Nd.walk,mR,iM,Lr l];omega
def Lr:∀l:List Nd,(BV l).length=AV l
 | []=>rfl
 | t::r=>by simp only [BV,AV,iX,Hy t,Lr r]
end
def ChkR (xs:List Int) (w:wD):Ending->wD->Prop:=λe w'=> ∃a c,e = .returned (.slice a xs.length c)/\OwnQ rejShape w' (λ_=>False) w.heap.size 140 (.slice a xs.length c) xs/\Ext w w'/\(xs=[]->a=none/\c=0)
def ChkR.ret {xs:List Int} {e:Ending} {w':wD} (h:ChkR xs w e w'):∃v,e = .returned v:=by
 obtain ⟨_,_,h,-⟩:=h;exact ⟨_,h⟩
def Uf (p:Int) (t:Nd) (hz:t.size<=1000000) (U:∀x∈t.walk,x.good/\x.wf/\x.size<=1000000) (S:nP) (a:oA) (c:Nat) (w:wD) (hs:t.sits S w a) :
 Calls prog 110 #[.int .i64 p,t.val a c] w (ChkR (Ck t.walk) w):=by
 have HG:=iF U;have X:=Ne w;refine Gw (args:=[_,_]) func110 ntmps110 rfl rfl (cS (eB [_] ?_));intro b1 w2 h4 x5 p6 z7;revert hs X;refine eE x5 ?_;intro hs X;refine eB [_,_,_,_] ?_;intro b8 w9 am ar be bf;revert h4 hs X;refine eE ar ?_;intro h4 hs X;refine eK ?_;refine eA [_] ?_;intro ak au al av bg z22;revert am h4 hs X;refine eE av ?_;intro am h4 hs X;refine kQ (W5 _ hz _ _ _ _ Ae) ?_;rintro _ ab ⟨a6,⟨⟩,aw,ax⟩;revert al h4 X;refine eY ax ?_;intro bh al h4 X;refine cT ?_;refine Au ?_;refine QT rfl rfl rfl AU aw (λ_ _ _ _ h=>bG h) (λk G=>G.2)
  (λA xs W=> ∃Y Z,Blk W ak [.slice Y (Ck xs).length Z]/\OwnQ rejShape W (λ_=>False) w.heap.size 140 (.slice Y (Ck xs).length Z) (Ck xs)/\(∀g,(jf Y (Ck xs).length Z).ownBlock=some g -> ¬A g/\ab.heap.size<=g)/\Blk W b1 [.int .i64 p]/\Ext w W/\(Ck xs=[]->Y=none/\Z=0))
  (λ_ _ _=>False) ?_ (λ_ _ _ _ _ h=>h.elim) ⟨none,0,al,OwnQ.nil,λg U=>by simp [km] at U,h4,X,λ_=>⟨rfl,rfl⟩⟩ ?_ ?_ (λ_ _ _ _ _ h=>h.elim)
 . rintro A A' xs W W' ⟨Y,Z,h1,h2,h3,h4,x,h5⟩ hf hA-ay;exact ⟨Y,Z,h1.fr hf (λe=>by have:=hA _ e;omega),h2.fr hf (λk G=>⟨id,λe=>(h3 k e).1 G⟩),λg U=>⟨λe=>(h3 g U).1 (ay g (h2.lt U) e),(h3 g U).2⟩,h4.fr hf (λe=>by have:=hA _ e;omega),mQ x hf (λk G=>by have:=hA _ G;omega),h5⟩
 . rintro r A pre x u v W hA an ⟨Y,Z,V,j2,j3,O,N,j5⟩ ⟨pa,pn,pc,xa,xc,e,sx,a7⟩ ag;simp only [jw,and_true] at e;obtain ⟨rfl,rfl⟩:=e;have bi:=hA _ an;obtain ⟨g1,g2,g3⟩:=HG.out x (by obtain ⟨q,hq⟩:=ag;rw [<-hq];simp);have a8:(Ck pre).length<=1000000:=by
    have h1:=G3 pre;have h2:=ag.length_le;rw [Hy] at h2;simp only [iX,iM,ji] at h2;omega
   have M:∀g,(jf Y (Ck pre).length Z).ownBlock=some g -> ¬A g/\ab.heap.size<=g/\g<W.heap.size:=λg U=>⟨(j3 g U).1,(j3 g U).2,j2.lt U⟩
   have ao:=QY pre x;have HR:=iF (Xd x g3 g2 g1);have X1:=Ne W;refine Dj (Bs rfl (Bw Gx) (C1 Pa (Ak (Cw (Bs rfl Gx (EF [_,_,_,_] CC rfl rfl ?_))))));intro bj bk az;refine eI [_,_,_,_] az ?_;intro bl ae a0 bm bn;revert V j2 O N sx X1;refine eE a0 ?_;intro V j2 O N sx X1;refine Ak (Iw (Keeps.of_ext X1) λW2 f2=>?_)
   have a1:∀k,k=ab.heap.size+1 -> ¬False/\(jf Y (Ck pre).length Z).ownBlock≠some k:=λk e=>⟨id,λh=>(M k h).1 (e▸an)⟩
   revert ae V;refine eF f2 ?_;intro ae V;replace j2:=j2.fr f2 a1;replace O:=O.fr f2 Ab;replace N:=mQ N f2 (λk G=>by omega);replace sx:=sx.fr f2 (λb hb e=>by omega);have bo:=f2.size;have a2:∀k,A k->ab.heap.size<=k/\k<W2.heap.size:=λk G=>by have:=hA k G;omega
   have HA:=iF a2;generalize EO x=ev at *;obtain ⟨en,ec⟩:=ev;dsimp only at ao HR;have HN:=iF ao;have X3:=mI (λk=>k=ak\/(jf Y (Ck pre).length Z).ownBlock=some k) W2;have hK:∀k,A k\/(au.heap.size<=k/\k<ab.heap.size) -> ¬(k=ak\/(jf Y (Ck pre).length Z).ownBlock=some k):=λk G h=>by
    rcases h with h|h
    . rcases G with G|G
      . have:=HA.out k G;omega
      . omega
    . rcases G with G|G
      . exact (M k h).1 G
      . have:=M k h;omega
   by_cases he:ec=0
   . have hN:=HN.out;rw [AG he] at hN;subst he;refine Gv (Dj (Bs rfl (Bw (By B5)) (A3 [_,_,_,_] Ac rfl rfl rfl ae rfl rfl rfl (cC rfl (HR.out _ _ _ _ Ae Ab) ?_))));rintro _ bp ⟨⟨⟩,a3⟩;revert V j2 O N X3;refine eE a3 ?_;intro V j2 O N X3;refine C1 Mv (C1 Px (C1 Px (C1 Pa (C1 Pa (Ak (Cw (Dj (Bs rfl (Bw (By B5)) (C1 Mv (C1 V2 (Ak (Cw (bF rfl B9 (F4 (Ah ?_)))))))))))))));exact Jk (Keeps.of_fr X3 hK) ⟨Y,Z,by rw [hN];exact V,by rw [hN];exact j2,by rw [hN];exact λg U=>⟨(M g U).1,(M g U).2.1⟩,O,N,by rw [hN];exact j5⟩
   . have hN:=HN.out;rw [At he] at hN;refine Gv (Dj (Bs rfl (Bw (By B5)) (A3 [_,_,_,_] Ac rfl rfl rfl ae rfl rfl rfl (cC rfl (HR.out _ _ _ _ Ae Ab) ?_))));rintro _ bq ⟨⟨⟩,a4⟩;revert V j2 O N X3;refine eY a4 ?_;intro br V j2 O N X3;refine C1 Mv (C1 Px (C1 Px (C1 Pa (C1 Pa (Ak (Cw (Dj (Bs rfl (Bw (By B5)) (C1 Mv (C1 V2 (Ak (Cw (W7 rfl Ae (Bs rfl (By B5) (eK ?_)))))))))))))));refine C1 (D3 [_,_,_,_] Ac CC rfl rfl rfl rfl) (Aw (Df [_,_,_,_] Ac CC rfl rfl rfl rfl rfl rfl rfl rfl rfl) rfl ?_ aFh);rintro _ bs ⟨bt,rfl,af,bu⟩;have bv:=af.blk;have a5:=af.ext;have a9:=af.pos;have ba:=af.size;revert V j2 O N X3;refine eE a5 ?_;intro V j2 O N X3;refine Dk (R:=λ_=>False) (sh:=rejShape) (z:=ec) Ac CC rfl rfl rfl rfl AU rfl rfl rfl Ae (λ_ h=>by exact h) (mS Ae) ⟨_,_,_,_,_,rfl⟩ Ab Ab rfl ?_;rintro ac ad bb ah ai bc aa;replace V:=mH V aa (λh=>by have:=M _ h;omega);replace O:=mH O aa (λh=>by have:=M _ h;omega);replace N:=mQ N aa (λk G=>by have:=M _ G;omega);replace X3:=mL X3 aa (λk G=>iG (iH G));refine eS [_] V ?_;intro bd ap aj _;replace ah:=OwnQ.fr ah aj (λk G=>⟨id,λe=>by (obtain rfl:=iQ (show some ac=some k from e);rcases ai with h|h;have:=M _ h;omega;omega)⟩);revert O N X3;refine eF aj ?_;intro O N X3;refine Ak (Ah ?_)
     refine Jk (Keeps.of_fr X3 hK) ⟨some ⟨ac,0,none⟩,ad,by rw [hN];exact ap,by rw [hN];assumption,λg U=>?_,O,N,λe=>by rw [hN] at e;simp at e⟩;obtain rfl:=iQ (show some ac=some g from U);rcases ai with h|h
     . exact ⟨(M _ h).1,(M _ h).2.1⟩
     . exact ⟨λhA=>by have:=HA.out _ hA;omega,Ab⟩
 . rintro A W hA ⟨Y,Z,V,j2,j3,O,N,j5⟩ hm G;refine Ix (DF (It (EN (FI (Ap Ac rfl rfl rfl (λwz hz=>by rw [show wz=W from hz];exact V.cell rfl)) rfl (FI (I5 rfl) rfl (G0 (DF (Ka (QR G rfl rfl (λw2 aq=>?_))))))))));exact ⟨Y,Z,rfl,j2.fr aq (λk e=>⟨id,λh=>(j3 k h).1 (e▸hm)⟩),mQ N aq (λk e=>by omega),j5⟩
def C6 {P:Program} {n:Nat} {l:Sl} {tab:Tab} {sz:Nat} {fn:Func} {R:Ending->wD->Prop} {G b s:Nat} {V:Sk} {vs:lV} {v3:Value} (h:fn.results = #[.cell j G,.tmp s]) (T:TabOk P tab) (X:AD tab G=some (V,sz)) (Y:V.agg=true) (Z:look l j=some (pt b)) (hb:Blk w b vs) (hl:vs.length=sz)
 (hz:look l s=some v3) (hR:R (.returned (.tuple #[.agg vs.toArray,v3])) w):QW n (bodyPost P fn R) .ret l w:=by
 unfold QW;intro a U;refine ⟨U.defers,.tuple #[.agg vs.toArray,v3],?_,hR⟩;have e:(loadVar G ⟨b,0,none⟩).run P w = .ok (.agg vs.toArray) w:=by
  simp only [iV,je,iP,loadVar,CB (T _ _ _ X),Y,if_true,Cb (T _ _ _ X)];rw [<-hl,CG hb.row]
 have M:=U.has j _ Z;have N:=U.has s _ hz;simp only [jL] at M N;simp [results,h,M,N,e,asAddr]
def Xe (q:Bool) (t:Nd) (h:t.size<=1000000) (G:t.isStmt=true\/t.isBlock=true) (S:nP) (a:oA) (c:Nat) (w:wD) (M:t.sits S w a):Calls prog 111 #[t.val a c,.bool q] w (CopyR (t.inv q) w):=WX q (t.size+1) t S a c w Ab h G M
def Xf:VD:=⟨[],0,0⟩
def S0 {l:List VD} (h:j<l.length) (s:lB):Eb (l.take (j+1)) s=if l[j].name=s then some l[j] else Eb (l.take j) s:=by
 unfold Eb;rw [iI h,List.reverse_append,List.reverse_singleton,lK,List.find?_cons];by_cases G:l[j].name=s
 . simp [G]
 . simp [G]
def VDs.get {S:nP} {l:List VD} {a:oA} (h:VDs S w l a) (G:l≠[]):∃b o,a=some ⟨b,o,none⟩/\S b /\ ∀i v,l[i]? = some v->Row w ⟨b,o+i*3,none⟩ v.cells:=by
 rcases h with h|⟨b,o,M,N,O⟩
 . exact absurd h G
 . exact ⟨b,o,M,N,λi v U=>O i v U⟩
def VDs.ltV {S:nP} {l:List VD} {a:oA} (h:VDs S w l a):VDs (· < w.heap.size) w l a:=h.lt2.wide λ_ h=>h.2
def PJ (l:List VD) (hl:l.length<=1000000) (s:lB) (S:nP) (a:oA) (c:Nat) (w:wD) (h:VDs S w l a) :
 Calls prog 141 #[.slice a l.length c,str s] w λe w'=>e = .returned (.tuple #[((Eb l s).getD Xf).val,.bool (Eb l s).isSome])/\Ext w w':=by
 have X:=Ne w;have h:=h.ltV;refine Ad func141 ntmps141 rfl rfl (cS (eA [_,_,_] ?_));intro b1 w2 h5 x6 p7 z8;revert X h;refine eE x6 ?_;intro X h;refine eK ?_;refine C1 (AL rfl rfl (iO _ Ab)) (C1 Pa (cT ?_));refine Au ?_;refine AP (ι:=Nat) (λj=>[(0,.slice a l.length c),(1,str s),(4,pt b1),(6,.int .i64 ((j:Int)-1))])
  (λj w'=>j<=l.length/\VDs (· < w.heap.size) w' l a/\Blk w' b1 [.string ⟨#[]⟩,.int .u8 0,.int .i64 0]/\Ext w w'/\Eb l s=Eb (l.take j) s)
  (λj=>j) l.length sB ⟨iW _,h,h5,X,by rw [iZ]⟩ ?_
 rintro j w1 ⟨hj,h,O,X,G⟩;cases j with
 | zero=>
  have e0:Eb l s=none:=by rw [G];rfl
  rw [e0];refine eK ?_;refine C1 (xB [_,_,_]) (eS [_,_,_] O ?_);intro aa ab U _;have X:=X.fr U Ab;refine eK ?_;refine C6 rfl Ac rfl rfl rfl Ae rfl rfl ?_;exact ⟨rfl,X⟩
 | succ j=>
  have M:j<l.length:=by omega
  obtain ⟨kb,ko,rfl,kS,N⟩:=h.get (by intro e;subst e;simp at M);have r0:=N j l[j] (iE M);have hn:=S0 M s;rw [hn] at G;generalize l[j]=v at *;have V:(((j+1:Nat):Int)-1)=(j:Int):=by omega
  obtain ⟨vn,vk,vl⟩:=v;replace r0:Row w1 ⟨kb,ko+j*3,none⟩ [str vn,.int .u8 vk,.int .i64 vl]:=r0;dsimp only at G;rw [V]
  focus
   refine eK ?_;refine Az rfl (λY=>?_) (λY=>?_);refine eK ?_;refine eS [_,_,_] O ?_;intro ac ad Z _;have X:=X.fr Z Ab;refine eK ?_;rotate_left;refine eK ?_;refine C1 (AL rfl rfl (iO _ Ab)) (C1 Pa (Ak ?_));rotate_left
  . refine C6 rfl Ac rfl rfl rfl Ae rfl rfl ?_;rw [AG Ae] at G;rw [G];exact ⟨rfl,X⟩
  . rw [At Ae] at G;exact AA j sB ⟨Ab,h,O,X,G⟩ Ab
end Bk
