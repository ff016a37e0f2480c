/- Texts that the proofs of GradebookSolves need. No condition. (Part 2 of 7.) -/
import Derived.Test.YteiiipaobncfgaaGreatPGsm1
set_option linter.unusedSimpArgs false
set_option linter.unusedVariables false
set_option linter.defProp false
set_option maxRecDepth 100000
set_option maxHeartbeats 4000000
open Go.Proofs.Tryz
open Or renaming inl->gP,inr->gQ
open Go.Result renaming andThen->gY
open Except renaming bind->ir
open Go renaming Calls->iv
open Go.Value renaming slice->iD,int->iW,ownBlock->jB
open Nat renaming blt->iE,ble->jr,beq->jv
open Go.Region renaming ready->iH,binds->jh
open List renaming replicate->iL,range->jj
open Go.Builtin renaming zeroCells->i9
open Go.IntKind renaming wrap->jo
open Array renaming replicate->jt
open Go.Oper renaming wp->jy
open Go.Addr renaming add->jA
open Go.Sem renaming run->jP
namespace Bk
abbrev Ne:=@Ext.refl
abbrev lW:=@Nd.sits.fr
abbrev lX:=@Fr.of_ext
abbrev lY:=@Blk.fr
abbrev lZ:=@Fr.refl
abbrev l5:=@Row.ext
abbrev l6:=@Nd.sits.wide
abbrev l7:=@Blk.cell
abbrev l8:=@Fr.fr
abbrev l9:=@Blk.ext
abbrev mb:=@Row.at0
abbrev me:=@Ext.fr
abbrev mf:=@Ext.alloc
abbrev mh:=@Ext.trans
abbrev mi:=@Blk.row
abbrev mo:=@Row.fr
abbrev mu:=@Own.fr
abbrev mw:=@Arr.get
abbrev mA:=@rowSits.fr
abbrev mB:=@VDs.fr
abbrev mH:=@rowSits.ext
abbrev mK:=@CW.sub
abbrev mN:=@PG.sits.fr
abbrev mQ:=@Nd.sits.ext
abbrev mR:=@Own.nil
abbrev mU:=@TB.blk
abbrev mV:=@VDs.wide
abbrev mY:=@Ext.drew
end Bk
open Bk.Nd renaming size->mg,isExpr->mj,isBlock->mm,name->mr,isPlace->mt,kind->mz,sits->mF,kids->mL
open Bk.Value renaming one->mq
namespace Bk
open Go Go.RowKit Go.Proofs
variable {w w':wD} {B n:Nat} {k:Int} {xs:List Int} {α:Type} {v:Value} {l:List Nd} {e:Ending} {zs:lV} {x:Nd} {S:nP} {vs:List VD} {a:oA} {ty:TypeId} {s:lB}
def WE:∀args w,(callFunc 78 args).run prog w = .ok (.enter 78 args) w:=enters_of func78 AU rfl
def WG:∀args w,(callFunc 79 args).run prog w = .ok (.enter 79 args) w:=enters_of func79 AU rfl
def UK:∀args w,(callFunc 77 args).run prog w = .ok (.enter 77 args) w:=enters_of func77 AU rfl
def UL:∀args w,(callFunc 80 args).run prog w = .ok (.enter 80 args) w:=enters_of func80 AU rfl
def YT (c:UInt8) (r:lB) (w:wD) (hs:(c::r).length<=9223372036854775807) :
 Calls prog 44 #[str (c::r)] w λe w'=>e = .returned (.tuple #[.int .u8 (E7 (c::r)).1,.int .i64 (E7 (c::r)).2])/\w=w':=by
 have hf:E7 (c::r)=if I7 c then (1,I8 JN (c::r)) else if JM c then (2,I8 JM (c::r)) else if La c then (4,I8 La (c::r)) else if c=35 then (5,I8 Qk (c::r)) else (3,LS (c::r)):=rfl
 have HF:=gO hf;clear hf
 have HS:=gO hs;simp only [gV] at hs
 go_enter func44,ntmps44
 go_wp2_with fail
 refine (Qm c _).mono ?_;rintro e w1 ⟨rfl,rfl⟩
 cases hl:I7 c
 . have HL:=gO hl;clear hl
   simp only
   go_wp2_with fail
   refine (Pd c _).mono ?_;rintro e w1 ⟨rfl,rfl⟩
   cases hd:JM c
   . have HD:=gO hd;clear hd
     simp only
     go_wp2_with fail
     refine (TR c _).mono ?_;rintro e w1 ⟨rfl,rfl⟩
     cases hb:La c
     . have HB:=gO hb;clear hb
       simp only
       by_cases h35:c=35
       . have H35:=gO h35
         have e35:(({ data:=(c::r).toArray }:ByteArray)[0]'(by simp [ByteArray.size])).toNat=35:=by show c.toNat=35;rw [h35];rfl
         clear h35
         go_wp2_with fail
         refine (Pe 80 Qk YS UL _ _ HS.out).mono ?_;rintro e w1 ⟨rfl,rfl⟩;simp only
         go_wp2_with fail
         go_ret2
         rw [HF.out,HL.out,HD.out,HB.out,AH H35.out];exact ⟨rfl,rfl⟩
       . have H35:=gO h35
         have e35:((({ data:=(c::r).toArray }:ByteArray)[0]'(by simp [ByteArray.size])).toNat:Int)≠35:=by
          show (c.toNat:Int)≠35
          intro h;apply h35;apply UInt8.toNat_inj.1;show c.toNat=35;omega
         clear h35
         go_wp2_with fail
         refine (bK c r _ HS.out).mono ?_;rintro e w1 ⟨rfl,rfl⟩;simp only
         go_wp2_with fail
         go_ret2
         rw [HF.out,HL.out,HD.out,HB.out,At H35.out];exact ⟨rfl,rfl⟩
     . have HB:=gO hb;clear hb
       simp only
       go_wp2_with fail
       refine (Pe 79 La TR WG _ _ HS.out).mono ?_;rintro e w1 ⟨rfl,rfl⟩;simp only
       go_wp2_with fail
       go_ret2
       rw [HF.out,HL.out,HD.out,HB.out];exact ⟨rfl,rfl⟩
   . have HD:=gO hd;clear hd
     simp only
     go_wp2_with fail
     refine (Pe 78 JM Pd WE _ _ HS.out).mono ?_;rintro e w1 ⟨rfl,rfl⟩;simp only
     go_wp2_with fail
     go_ret2
     rw [HF.out,HL.out,HD.out];exact ⟨rfl,rfl⟩
 . have HL:=gO hl;clear hl
   simp only
   go_wp2_with fail
   refine (Pe 77 JN UI UK _ _ HS.out).mono ?_;rintro e w1 ⟨rfl,rfl⟩;simp only
   go_wp2_with fail
   go_ret2
   rw [HF.out,HL.out];exact ⟨rfl,rfl⟩
def KH (s:lB) (w:wD) (hs:s.length<=9223372036854775807) :
 Calls prog 23 #[str s] w λe w'=>e = .returned (.bool (Cv s))/\Ext w w':=by
 cases s with
 | nil=>
  go_enter func23,ntmps23
  go_wp2_with fail
  go_ret
  exact ⟨rfl,Ne _⟩
 | cons c r=>
  have hn:Cv (c::r)=(decide ((c::r).length<=16)&&((E7 (c::r)).1==1)&&((E7 (c::r)).2==(c::r).length) && !FW (c::r)):=by simp [Cv]
  have HN:=gO hn;clear hn
  have HS:=gO hs;simp only [gV] at hs
  by_cases h16:16<(c::r).length
  . simp only [gV] at h16
    have d1:decide ((16:Int)<(r.length:Int)+1)=true:=by simp;omega
    have H16:=gO h16;clear h16
    go_enter func23,ntmps23
    go_wp2_with fail
    go_ret
    rw [HN.out]
    exact ⟨AX (by have:=H16.out;simp;omega),Ne _⟩
  . simp only [gV] at h16
    have d1:decide ((16:Int)<(r.length:Int)+1)=false:=by simp;omega
    go_enter func23,ntmps23
    go_wp2_with fail
    refine (YT c r _ HS.out).mono ?_;rintro e w1 ⟨rfl,rfl⟩
    generalize E7 (c::r)=ft at *
    obtain ⟨k,n⟩:=ft
    by_cases hk:k=1
    . by_cases hl:n=(c::r).length
      . subst hk hl
        simp only [gV]
        go_wp2_with fail
        refine (UJ _ _ HS.out).mono ?_;rintro e w2 ⟨rfl,hx⟩;simp only
        go_wp2_with fail
        go_ret
        rw [HN.out]
        exact ⟨AX (by simp;omega),hx⟩
      . subst hk
        have dl:((n:Int)==(r.length:Int)+1)=false:=by simp only [gV] at hl;rw [beq_eq_false_iff_ne];omega
        have HL:=gO hl;clear hl
        simp only
        go_wp2_with fail
        go_ret
        rw [HN.out]
        exact ⟨AX (by have:=HL.out;simp at this ⊢;simp [this]),Ne _⟩
    . have dk:((k:Int)==1)=false:=by rw [beq_eq_false_iff_ne];omega
      have HK:=gO hk;clear hk
      simp only
      go_wp2_with fail
      go_ret
      rw [HN.out]
      exact ⟨AX (by have:=HK.out;simp [this]),Ne _⟩
def GO (k n:Int) (s:lB) (a:oA) (l c:Nat) (w:wD) :
 Calls prog 169 #[.agg #[.int .u8 k,.int .i64 n,str s,.slice a l c]] w λe w'=>e = .returned (.bool (plain n s))/\Ext w w':=by
 go_enter func169,ntmps169
 go_wp2_with fail
 all_goals go_ret
 all_goals exact ⟨AX (by unfold plain;simp [*]),LQ⟩
def In (k n:Int) (s:lB) (a:oA) (l c:Nat) (w:wD) (hs:s.length<=9223372036854775807) :
 Calls prog 201 #[.agg #[.int .u8 k,.int .i64 n,str s,.slice a l c]] w λe w'=>e = .returned (.bool (named n s))/\Ext w w':=by
 by_cases h0:n=0
 . subst h0
   go_enter func201,ntmps201
   go_wp2_with (go_at_call 23;refine (KH _ _ hs).mono ?_;rintro e w2 ⟨rfl,hx⟩)
   go_ret
   exact ⟨AX (by simp [named]),(by refine mh ?_ ‹_›;refine mf ?_ _;exact Ne _)⟩
 . have d0:(n==0)=false:=by simp [h0]
   go_enter func201,ntmps201
   go_wp2_with fail
   go_ret
   exact ⟨AX (by simp [named,h0]),(by refine mf ?_ _;exact Ne _)⟩
def Ec (S:nP) (f:FuncId) (p:Nd->Bool) (t:Nd):Prop:=
 ∀(a:oA) (c:Nat) (w:wD),t.sits S w a->Calls prog f #[t.val a c] w λe w'=>e = .returned (.bool (p t))/\Ext w w'
def GP (f:FuncId):Prop:= ∀args w,(callFunc f args).run prog w = .ok (.enter f args) w
def TS (f:FuncId) (p:Nd->Bool) (he:GP f) (l:List Nd) (a:oA) (c:Nat) (S:nP) (w:wD) (hl:l.length<=9223372036854775807) (hs:rowSits S w l a) (ht:∀t∈l,Ec S f p t) :
 Calls prog 170 #[.slice a l.length c,.func (.func f) #[] #[]] w λe w'=>e = .returned (.bool (l.all p))/\Ext w w':=by
 have HT:=gO ht;clear ht
 unfold GP at he
 go_enter func170,ntmps170
 go_wp2_with fail
 go_loopw [9] (λi wr=> ∃j:Nat,j<=l.length/\i = .int .i64 j/\Hid (l.all p=(l.drop j).all p)/\Ext w wr) (λi _=>l.length-(RowKit.intOf i).toNat)
 case atStart=>exact ⟨0,ii _,rfl,gO rfl,Ne _⟩
 case round=>
  obtain ⟨j,hj,rfl,HJ,hx⟩:=hrel
  by_cases hlt:j<l.length
  . have hg:l[j]? = some l[j]:=gN hlt
    have hmem:l[j]∈l:=ig hlt;have hdrop:=iB hlt
    generalize l[j]=t at *
    obtain ⟨b,o,a',c',rfl,hSb,g0,g1,g2,g3,hsk⟩:=FQ (hs.ext hx) hg
    have HG:=gO hg;clear hg
    have hall:l.all p=(p t&&(l.drop (j+1)).all p):=by rw [HJ.out,hdrop,kU]
    have HA:=gO hall;clear hdrop hall
    go_wp2_with fail
    refine (HT.out t hmem a' c' _ (hsk.ext ((Ne _).alloc _))).mono ?_;rintro e w1 ⟨rfl,hx1⟩
    cases hp:p t
    . have HP:=gO hp;clear hp
      simp only
      go_wp2_with fail
      go_ret
      rw [HA.out,HP.out]
      exact ⟨rfl,(by say "0:B";repeat (first|(say "0:(EXC0";exact Ne _;say "0:)EXC0")|(say "0:(EXC1";assumption;say "0:)EXC1")|(say "0:(EXC2";refine mf ?_ _;say "0:)EXC2")|(say "0:(EXC3";refine mY ?_;say "0:)EXC3")|(say "0:(EXC4";refine mh ?_ ‹_›;say "0:)EXC4")))⟩
    . have HP:=gO hp;clear hp
      simp only
      go_wp2_with fail
      go_roundw
      case rel=>exact ⟨j+1,by omega,by go_num,gO (by rw [HA.out,HP.out];simp),(by say "1:B";repeat (first|(say "1:(EXC0";exact Ne _;say "1:)EXC0")|(say "1:(EXC1";assumption;say "1:)EXC1")|(say "1:(EXC2";refine mf ?_ _;say "1:)EXC2")|(say "1:(EXC3";refine mY ?_;say "1:)EXC3")|(say "1:(EXC4";refine mh ?_ ‹_›;say "1:)EXC4")))⟩
      case measure=>simp [RowKit.intOf];omega
  . go_wp2_with fail
    go_ret
    rw [HJ.out,jd (by omega)]
    exact ⟨rfl,hx⟩
def Ck:List Nd->List (FuncId×(Nd->Bool))->Bool
 | [],[]=>true
 | t::r,f::fs=>f.2 t&&Ck r fs
 | _,_=>false
def Ml:∀(l:List Nd) (G:List (FuncId×(Nd->Bool))),l.length≠G.length->Ck l G=false
 | [],[],h=>absurd rfl h
 | [],_::_,_=>rfl
 | _::_,[],_=>rfl
 | t::r,f::G,h=>by simp only [Ck];rw [Ml r G (by simpa using h)];simp
def Ge (k n:Int) (s:lB) (l:List Nd) (a:oA) (c:Nat) (fs:List (FuncId×(Nd->Bool))) (tb tc:Nat) (S:nP) (w:wD)
 (hl:l.length<=9223372036854775807) (hfl:fs.length<=100) (hs:rowSits S w l a)
 (htb:∀i f,fs[i]? = some f->w.cell? ⟨tb,i,none⟩=some (.func (.func f.1) #[] #[])) (he:∀f∈fs,GP f.1) (ht:∀f∈fs,∀t∈l,Ec S f.1 f.2 t) :
 Calls prog 198 #[.agg #[.int .u8 k,.int .i64 n,str s,.slice a l.length c],.slice (some ⟨tb,0,none⟩) fs.length tc] w λe w'=>e = .returned (.bool (Ck l fs))/\Ext w w':=by
 have HT:=gO ht;clear ht
 have HE:=gO he;clear he
 have HB:=gO htb;clear htb
 by_cases hlen:l.length=fs.length
 . have dn:((l.length:Int) != (fs.length:Int))=false:=by rw [hlen];simp
   have HL:=gO hlen
   have hlen1:l.length<=fs.length:=by omega
   have hlen2:fs.length<=l.length:=by omega
   clear hlen
   go_enter func198,ntmps198
   go_wp2_with fail
   go_loopw [15] (λi wr=> ∃j:Nat,j<=fs.length/\i = .int .i64 j/\Hid (Ck l fs=Ck (l.drop j) (fs.drop j))/\Ext (w.alloc (.cells #[.int .u8 k,.int .i64 n,str s,.slice a l.length c] 29)) wr) (λi _=>fs.length-(RowKit.intOf i).toNat)
   case atStart=>exact ⟨0,ii _,rfl,gO rfl,Ne _⟩
   case round=>
    obtain ⟨j,hj,rfl,HJ,hx⟩:=hrel;have hcs:=hx.cells
    by_cases hlt:j<fs.length
    . have hlt':j<l.length:=by omega
      have hg:l[j]? = some l[j]:=gN hlt';have hmem:l[j]∈l:=ig hlt';have hdrop:=iB hlt';have hgf:fs[j]? = some fs[j]:=gN hlt;have hmemf:fs[j]∈fs:=ig hlt;have hdropf:=iB hlt
      generalize l[j]=t at *
      generalize fs[j]=f at *
      have hxx:Ext w wr:=mh ((Ne _).alloc _) hx;obtain ⟨b,o,a',c',rfl,hSb,g0,g1,g2,g3,hsk⟩:=FQ (hs.ext hxx) hg
      have HG:=gO hg;clear hg
      have ht0:=hxx.keep (HB.out j f hgf)
      have HGF:=gO hgf;clear hgf
      have hall:Ck l fs=(f.2 t&&Ck (l.drop (j+1)) (fs.drop (j+1))):=by rw [HJ.out,hdrop,hdropf];rfl
      have HA:=gO hall;clear hdrop hall hdropf
      have hen:=HE.out f hmemf
      unfold GP at hen
      go_wp2_with fail
      refine (HT.out f hmemf t hmem a' c' _ hsk).mono ?_;rintro e w1 ⟨rfl,hx1⟩
      cases hp:f.2 t
      . have HP:=gO hp;clear hp
        simp only
        go_wp2_with fail
        go_ret
        rw [HA.out,HP.out]
        exact ⟨rfl,(by say "2:B";repeat (first|(say "2:(EXC0";exact Ne _;say "2:)EXC0")|(say "2:(EXC1";assumption;say "2:)EXC1")|(say "2:(EXC2";refine mf ?_ _;say "2:)EXC2")|(say "2:(EXC3";refine mY ?_;say "2:)EXC3")|(say "2:(EXC4";refine mh ?_ ‹_›;say "2:)EXC4")))⟩
      . have HP:=gO hp;clear hp
        simp only
        go_wp2_with fail
        go_roundw
        case rel=>exact ⟨j+1,by omega,by go_num,gO (by rw [HA.out,HP.out];simp),(by say "3:B";repeat (first|(say "3:(EXC0";exact Ne _;say "3:)EXC0")|(say "3:(EXC1";assumption;say "3:)EXC1")|(say "3:(EXC2";refine mf ?_ _;say "3:)EXC2")|(say "3:(EXC3";refine mY ?_;say "3:)EXC3")|(say "3:(EXC4";refine mh ?_ ‹_›;say "3:)EXC4")))⟩
        case measure=>simp [RowKit.intOf];omega
    . go_wp2_with fail
      go_ret
      rw [HJ.out,jd (by omega),jd (by omega)]
      exact ⟨rfl,(by say "4:B";repeat (first|(say "4:(EXC0";exact Ne _;say "4:)EXC0")|(say "4:(EXC1";assumption;say "4:)EXC1")|(say "4:(EXC2";refine mf ?_ _;say "4:)EXC2")|(say "4:(EXC3";refine mY ?_;say "4:)EXC3")|(say "4:(EXC4";refine mh ?_ ‹_›;say "4:)EXC4")))⟩
 . have dn:((l.length:Int) != (fs.length:Int))=true:=by rw [bne_iff_ne];omega
   have hk:=Ml l fs hlen
   have HK:=gO hk;clear hk hlen
   go_enter func198,ntmps198
   go_wp2_with fail
   go_ret
   rw [HK.out]
   exact ⟨rfl,(by say "5:B";repeat (first|(say "5:(EXC0";exact Ne _;say "5:)EXC0")|(say "5:(EXC1";assumption;say "5:)EXC1")|(say "5:(EXC2";refine mf ?_ _;say "5:)EXC2")|(say "5:(EXC3";refine mY ?_;say "5:)EXC3")|(say "5:(EXC4";refine mh ?_ ‹_›;say "5:)EXC4")))⟩
def WH {Q:Nat->α->Prop} {x:α} (h:Q 0 x):∀i f,[x][i]? = some f->Q i f:=by
 intro i f G;rcases i with _|i
 . simp at G;exact G▸h
 . simp at G
def bO {Q:Nat->α->Prop} {x y:α} (h:Q 0 x) (M:Q 1 y):∀i f,[x,y][i]? = some f->Q i f:=by
 intro i f G;rcases i with _|_|i
 . simp at G;exact G▸h
 . simp at G;exact G▸M
 . simp at G
def fV {Q:Nat->α->Prop} {x y z:α} (h:Q 0 x) (M:Q 1 y) (N:Q 2 z):∀i f,[x,y,z][i]? = some f->Q i f:=by
 intro i f G;rcases i with _|_|_|i
 . simp at G;exact G▸h
 . simp at G;exact G▸M
 . simp at G;exact G▸N
 . simp at G
def fW {Q:Nat->α->Prop} {x y z u:α} (h:Q 0 x) (M:Q 1 y) (N:Q 2 z) (O:Q 3 u):∀i f,[x,y,z,u][i]? = some f->Q i f:=by
 intro i f G;rcases i with _|_|_|_|i
 . simp at G;exact G▸h
 . simp at G;exact G▸M
 . simp at G;exact G▸N
 . simp at G;exact G▸O
 . simp at G
def NN {Q:α->Prop} {x:α} (h:Q x):∀f∈[x],Q f:=by intro f G;simp at G;exact G▸h
def UM {Q:α->Prop} {x y:α} (h:Q x) (M:Q y):∀f∈[x,y],Q f:=by
 intro f G;simp at G;rcases G with rfl|rfl<;>assumption
def dY {Q:α->Prop} {x y z:α} (h:Q x) (M:Q y) (N:Q z):∀f∈[x,y,z],Q f:=by
 intro f G;simp at G;rcases G with rfl|rfl|rfl<;>assumption
def dZ {Q:α->Prop} {x y z u:α} (h:Q x) (M:Q y) (N:Q z) (O:Q u):∀f∈[x,y,z,u],Q f:=by
 intro f G;simp at G;rcases G with rfl|rfl|rfl|rfl<;>assumption
def DJ:GP 200:=enters_of func200 AU rfl
def Qr (n:Int) (s:lB) (l:List Nd):(Nd.mk 1 n s l).isExpr=(decide (0<=n)&&s.isEmpty&&l.isEmpty):=by rw [Nd.isExpr.eq_def];simp
def Qs (k n:Int) (s:lB) (l:List Nd) (h:k=2\/k=4\/k=5):(Nd.mk k n s l).isExpr=(named n s&&l.isEmpty):=by
 rcases h with rfl|rfl|rfl<;>rw [Nd.isExpr.eq_def]<;>simp
def Qt (f:FuncId) (n:Int) (s:lB) (l:List Nd):(Nd.mk 3 n s l).isExpr=(named n s&&Ck l [(f,mj)]):=by
 rcases l with _|⟨x,_|⟨y,l⟩⟩<;>rw [Nd.isExpr.eq_def]<;>simp [Ck]
def UN (f:FuncId) (k n:Int) (s:lB) (l:List Nd) (h:k=6\/k=7):(Nd.mk k n s l).isExpr=(plain n s&&Ck l [(f,mj)]):=by
 rcases l with _|⟨x,_|⟨y,l⟩⟩<;>rcases h with rfl|rfl<;>rw [Nd.isExpr.eq_def]<;>simp [Ck]
def Su (f:FuncId) (k n:Int) (s:lB) (l:List Nd) (h:8<=k) (G:k<=23):(Nd.mk k n s l).isExpr=(plain n s&&Ck l [(f,mj),(f,mj)]):=by
 have M:¬k=1:=by omega
 have N:¬(k=2\/k=4\/k=5):=by omega
 have O:¬k=3:=by omega
 have U:¬(k=6\/k=7):=by omega
 rcases l with _|⟨x,_|⟨y,_|⟨z,l⟩⟩⟩<;>rw [Nd.isExpr.eq_def]<;>simp [Ck,M,N,O,U,h,G]
def Qu (k n:Int) (s:lB) (l:List Nd) (h:k<1\/23<k):(Nd.mk k n s l).isExpr=false:=by
 have G:¬k=1:=by omega
 have M:¬(k=2\/k=4\/k=5):=by omega
 have N:¬k=3:=by omega
 have O:¬(k=6\/k=7):=by omega
 have U:¬(8<=k/\k<=23):=by omega
 rw [Nd.isExpr.eq_def];simp [G,M,N,O,U]
def WI (S:nP) (N:Nat):∀t:Nd,t.size<N->t.wf->Ec S 200 mj t:=by
 induction N with
 | zero=>intro t h;omega
 | succ N ih=>
  rintro ⟨k,n,s,l⟩ hN hwf a c w hs;simp only [Nd.wf,mg,mF,mz,Nd.num,mr,mL,Nd.val] at *;obtain ⟨hk0,hk1,hn0,hn1,hsl,hll,hrw⟩:=hwf
  have hkid:∀t∈l,Ec S 200 mj t:=λt ht=>ih t (by have:=Ei ht;omega) (BB hrw t ht)
  have HKID:=gO hkid;clear hkid ih hrw
  have HSL:=gO hsl;clear hsl
  by_cases c1:k=1
  . subst c1
    have hr:=Qr n s l
    have HR:=gO hr;clear hr
    go_enter func200,ntmps200
    go_wp2_with fail
    all_goals go_ret
    all_goals rw [HR.out]
    all_goals exact ⟨AX (by rw [jH];first|(simp [*];done)|(simp [*];intros;omega)),LQ⟩
  by_cases c2:k=2\/k=4\/k=5
  . have hr:=Qs k n s l c2
    have HR:=gO hr;clear hr
    cases hnm:named n s
    all_goals have HNM:=gO hnm;clear hnm
    all_goals rcases c2 with rfl|rfl|rfl
    all_goals go_enter func200,ntmps200
    all_goals go_wp2_with (go_at_call 201;refine (In _ _ _ _ _ _ _ HSL.out).mono ?_;rintro e w1 ⟨rfl,hx1⟩;have hc1:=hx1.cells;rw [HNM.out])
    all_goals go_ret
    all_goals rw [HR.out,HNM.out]
    all_goals exact ⟨AX (by first|rfl|(rw [jH];simp)),LQ⟩
  by_cases c3:k=3
  . subst c3
    have hr:=Qt 200 n s l
    have HR:=gO hr;clear hr
    cases hnm:named n s
    all_goals have HNM:=gO hnm;clear hnm
    all_goals go_enter func200,ntmps200
    all_goals go_wp2_with (first|(go_at_call 201;refine (In _ _ _ _ _ _ _ HSL.out).mono ?_;rintro e w1 ⟨rfl,hx1⟩;have hc1:=hx1.cells;rw [HNM.out])|(go_at_call 198;refine (Ge _ _ _ l a c [(200,mj)] _ _ S _ hll (by decide) (hs.ext (by refine mf ?_ _;refine mh ?_ ‹_›;refine mf ?_ _;exact Ne _)) (WH (by go_simp)) (NN DJ) (NN HKID.out)).mono ?_;rintro e w2 ⟨rfl,hx2⟩))
    all_goals go_ret
    all_goals rw [HR.out,HNM.out]
    all_goals exact ⟨AX (by simp),LQ⟩
  by_cases c4:k=6\/k=7
  . have hr:=UN 200 k n s l c4
    have HR:=gO hr;clear hr
    cases hnm:plain n s
    all_goals have HNM:=gO hnm;clear hnm
    all_goals rcases c4 with rfl|rfl
    all_goals go_enter func200,ntmps200
    all_goals go_wp2_with (first|(go_at_call 169;refine (GO _ _ _ _ _ _ _).mono ?_;rintro e w1 ⟨rfl,hx1⟩;have hc1:=hx1.cells;rw [HNM.out])|(go_at_call 198;refine (Ge _ _ _ l a c [(200,mj)] _ _ S _ hll (by decide) (hs.ext LQ) (WH (by go_simp)) (NN DJ) (NN HKID.out)).mono ?_;rintro e w2 ⟨rfl,hx2⟩))
    all_goals go_ret
    all_goals rw [HR.out,HNM.out]
    all_goals exact ⟨AX (by simp),LQ⟩
  by_cases c5:8<=k/\k<=23
  . obtain ⟨c5a,c5b⟩:=c5
    have d1:(k==1)=false:=by rw [beq_eq_false_iff_ne];omega
    have d2:(k==2)=false:=by rw [beq_eq_false_iff_ne];omega
    have d3:(k==3)=false:=by rw [beq_eq_false_iff_ne];omega
    have d4:(k==4)=false:=by rw [beq_eq_false_iff_ne];omega
    have d5:(k==5)=false:=by rw [beq_eq_false_iff_ne];omega
    have d6:(k==6)=false:=by rw [beq_eq_false_iff_ne];omega
    have d7:(k==7)=false:=by rw [beq_eq_false_iff_ne];omega
    clear c1 c2 c3 c4;have hr:=Su 200 k n s l c5a c5b
    have HR:=gO hr;clear hr
    cases hnm:plain n s
    all_goals have HNM:=gO hnm;clear hnm
    all_goals go_enter func200,ntmps200
    all_goals go_wp2_with (first|(go_at_call 169;refine (GO _ _ _ _ _ _ _).mono ?_;rintro e w1 ⟨rfl,hx1⟩;have hc1:=hx1.cells;rw [HNM.out])|(go_at_call 198;refine (Ge _ _ _ l a c [(200,mj),(200,mj)] _ _ S _ hll (by decide) (hs.ext (by refine mf ?_ _;refine mh ?_ ‹_›;refine mf ?_ _;exact Ne _)) (bO (by go_simp) (by go_simp)) (UM DJ DJ) (UM HKID.out HKID.out)).mono ?_;rintro e w2 ⟨rfl,hx2⟩))
    all_goals go_ret
    all_goals rw [HR.out,HNM.out]
    all_goals exact ⟨AX (by simp),LQ⟩
  . have hr:=Qu k n s l (by omega)
    have HR:=gO hr;clear hr
    have d1:(k==1)=false:=by rw [beq_eq_false_iff_ne];omega
    have d2:(k==2)=false:=by rw [beq_eq_false_iff_ne];omega
    have d3:(k==3)=false:=by rw [beq_eq_false_iff_ne];omega
    have d4:(k==4)=false:=by rw [beq_eq_false_iff_ne];omega
    have d5:(k==5)=false:=by rw [beq_eq_false_iff_ne];omega
    have d6:(k==6)=false:=by rw [beq_eq_false_iff_ne];omega
    have d7:(k==7)=false:=by rw [beq_eq_false_iff_ne];omega
    clear c1 c2 c3 c4
    go_enter func200,ntmps200
    go_wp2_with fail
    all_goals go_ret
    all_goals rw [HR.out]
    all_goals exact ⟨AX (by first|rfl|(simp;omega)),LQ⟩
def FA:GP 199:=enters_of func199 AU rfl
def WJ:GP 202:=enters_of func202 AU rfl
def UO:GP 171:=enters_of func171 AU rfl
def GQ:GP 140:=enters_of func140 AU rfl
def FB (S:nP) (t:Nd) (h:t.wf):Ec S 200 mj t:=WI S (t.size+1) t Ab h
def Gr (S:nP) (t:Nd) (h:t.wf):Ec S 199 mt t:=by
 have HE:=gO (FB S t h);intro a c w hs;obtain ⟨k,n,s,l⟩:=t;have hr:(Nd.mk k n s l).isPlace=((k==2||k==3)&&(Nd.mk k n s l).isExpr):=rfl
 have HR:=gO hr;clear hr
 have HSI:=gO hs;clear hs h
 simp only [mz,Nd.num,mr,mL,Nd.val]
 by_cases h2:k=2\/k=3
 . rcases h2 with rfl|rfl
   all_goals go_enter func199,ntmps199
   all_goals go_wp2_with (go_at_call 200;refine (HE.out a c _ (HSI.out.ext LQ)).mono ?_;rintro e w1 ⟨rfl,hx1⟩)
   all_goals go_ret
   all_goals rw [HR.out]
   all_goals exact ⟨AX (by simp),LQ⟩
 . have d2:(k==2)=false:=by rw [beq_eq_false_iff_ne];omega
   have d3:(k==3)=false:=by rw [beq_eq_false_iff_ne];omega
   clear h2
   go_enter func199,ntmps199
   go_wp2_with fail
   go_ret
   rw [HR.out]
   exact ⟨AX (by simp [d2,d3]),(by refine mf ?_ _;exact Ne _)⟩
def YU (S:nP) (t:Nd) (h:t.wf):Ec S 202 Nd.isVar t:=by
 have HE:=gO (FB S t h);intro a c w hs;obtain ⟨k,n,s,l⟩:=t;have hr:(Nd.mk k n s l).isVar=(k==2&&(Nd.mk k n s l).isExpr):=rfl
 have HR:=gO hr;clear hr
 have HSI:=gO hs;clear hs h
 simp only [mz,Nd.num,mr,mL,Nd.val]
 by_cases h2:k=2
 . subst h2
   go_enter func202,ntmps202
   go_wp2_with (go_at_call 200;refine (HE.out a c _ (HSI.out.ext (by refine mf ?_ _;exact Ne _))).mono ?_;rintro e w1 ⟨rfl,hx1⟩)
   go_ret
   rw [HR.out]
   exact ⟨AX (by simp),(by refine mh ?_ ‹_›;refine mf ?_ _;exact Ne _)⟩
 . have d2:(k==2)=false:=by rw [beq_eq_false_iff_ne];omega
   clear h2
   go_enter func202,ntmps202
   go_wp2_with fail
   go_ret
   rw [HR.out]
   exact ⟨AX (by simp [d2]),(by refine mf ?_ _;exact Ne _)⟩
def UP (h:k=40\/k=41\/k=42\/k=56) (n:Int) (s:lB) (l:List Nd):(Nd.mk k n s l).isStmt=(plain n s&&Ck l [(199,mt),(200,mj)]):=by
 rcases h with rfl|rfl|rfl|rfl<;>rcases l with _|⟨x,_|⟨y,_|⟨z,_|⟨u,_|⟨v,l⟩⟩⟩⟩⟩<;>rw [Nd.isStmt.eq_def]<;>simp [Ck,kq]
def UQ (hk:k=40\/k=41\/k=42\/k=56) (n:Int) (s:lB) (l:List Nd) (a:oA) (c:Nat) (S:nP) (w:wD)
 (hs:rowSits S w l a) (hsl:s.length<=9223372036854775807) (hll:l.length<=9223372036854775807) (hrw:CY l) :
 Calls prog 171 #[.agg #[.int .u8 k,.int .i64 n,str s,.slice a l.length c]] w λe w'=>e = .returned (.bool (Nd.mk k n s l).isStmt)/\Ext w w':=by
 have HEX:=gO λt (ht:t∈l)=>FB S t (BB hrw t ht)
 have HPL:=gO λt (ht:t∈l)=>Gr S t (BB hrw t ht)
 have HSL:=gO hsl;clear hsl hrw
 have hr:=UP hk n s l
 have HR:=gO hr;clear hr
 cases hnm:plain n s
 all_goals have HNM:=gO hnm;clear hnm
 all_goals rcases hk with rfl|rfl|rfl|rfl
 all_goals go_enter func171,ntmps171
 all_goals go_wp2_with (first|(go_at_call 169;refine (GO _ _ _ _ _ _ _).mono ?_;rintro e w1 ⟨rfl,hx1⟩;have hc1:=hx1.cells;rw [HNM.out])|(go_at_call 198;refine (Ge _ _ _ l a c [(199,mt),(200,mj)] _ _ S _ hll (by decide) (hs.ext LQ) (bO (by go_simp) (by go_simp)) (UM FA DJ) (UM HPL.out HEX.out)).mono ?_;rintro e w2 ⟨rfl,hx2⟩))
 all_goals go_ret
 all_goals rw [HR.out,HNM.out]
 all_goals exact ⟨AX (by simp),LQ⟩
def UR (h:k=43) (n:Int) (s:lB) (l:List Nd):(Nd.mk k n s l).isStmt=(plain n s&&Ck l [(199,mt),(199,mt)]):=by
 rcases h with rfl<;>rcases l with _|⟨x,_|⟨y,_|⟨z,_|⟨u,_|⟨v,l⟩⟩⟩⟩⟩<;>rw [Nd.isStmt.eq_def]<;>simp [Ck,kq]
def US (hk:k=43) (n:Int) (s:lB) (l:List Nd) (a:oA) (c:Nat) (S:nP) (w:wD)
 (hs:rowSits S w l a) (hsl:s.length<=9223372036854775807) (hll:l.length<=9223372036854775807) (hrw:CY l) :
 Calls prog 171 #[.agg #[.int .u8 k,.int .i64 n,str s,.slice a l.length c]] w λe w'=>e = .returned (.bool (Nd.mk k n s l).isStmt)/\Ext w w':=by
 have HPL:=gO λt (ht:t∈l)=>Gr S t (BB hrw t ht)
 have HSL:=gO hsl;clear hsl hrw
 have hr:=UR hk n s l
 have HR:=gO hr;clear hr
 cases hnm:plain n s
 all_goals have HNM:=gO hnm;clear hnm
 all_goals rcases hk with rfl
 all_goals go_enter func171,ntmps171
 all_goals go_wp2_with (first|(go_at_call 169;refine (GO _ _ _ _ _ _ _).mono ?_;rintro e w1 ⟨rfl,hx1⟩;have hc1:=hx1.cells;rw [HNM.out])|(go_at_call 198;refine (Ge _ _ _ l a c [(199,mt),(199,mt)] _ _ S _ hll (by decide) (hs.ext (by refine mf ?_ _;refine mh ?_ ‹_›;refine mf ?_ _;exact Ne _)) (bO (by go_simp) (by go_simp)) (UM FA FA) (UM HPL.out HPL.out)).mono ?_;rintro e w2 ⟨rfl,hx2⟩))
 all_goals go_ret
 all_goals rw [HR.out,HNM.out]
 all_goals exact ⟨AX (by simp),LQ⟩
def UT (h:k=44\/k=45) (n:Int) (s:lB) (l:List Nd):(Nd.mk k n s l).isStmt=(named n s&&Ck l [(199,mt)]):=by
 rcases h with rfl|rfl<;>rcases l with _|⟨x,_|⟨y,_|⟨z,_|⟨u,_|⟨v,l⟩⟩⟩⟩⟩<;>rw [Nd.isStmt.eq_def]<;>simp [Ck,kq]
def UU (hk:k=44\/k=45) (n:Int) (s:lB) (l:List Nd) (a:oA) (c:Nat) (S:nP) (w:wD)
 (hs:rowSits S w l a) (hsl:s.length<=9223372036854775807) (hll:l.length<=9223372036854775807) (hrw:CY l) :
 Calls prog 171 #[.agg #[.int .u8 k,.int .i64 n,str s,.slice a l.length c]] w λe w'=>e = .returned (.bool (Nd.mk k n s l).isStmt)/\Ext w w':=by
 have HPL:=gO λt (ht:t∈l)=>Gr S t (BB hrw t ht)
 have HSL:=gO hsl;clear hsl hrw
 have hr:=UT hk n s l
 have HR:=gO hr;clear hr
 cases hnm:named n s
 all_goals have HNM:=gO hnm;clear hnm
 all_goals rcases hk with rfl|rfl
 all_goals go_enter func171,ntmps171
 all_goals go_wp2_with (first|(go_at_call 201;refine (In _ _ _ _ _ _ _ HSL.out).mono ?_;rintro e w1 ⟨rfl,hx1⟩;have hc1:=hx1.cells;rw [HNM.out])|(go_at_call 198;refine (Ge _ _ _ l a c [(199,mt)] _ _ S _ hll (by decide) (hs.ext LQ) (WH (by go_simp)) (NN FA) (NN HPL.out)).mono ?_;rintro e w2 ⟨rfl,hx2⟩))
 all_goals go_ret
 all_goals rw [HR.out,HNM.out]
 all_goals exact ⟨AX (by simp),LQ⟩
def UV (h:k=46\/k=47\/k=48\/k=49) (n:Int) (s:lB) (l:List Nd):(Nd.mk k n s l).isStmt=(plain n s&&Ck l [(199,mt)]):=by
 rcases h with rfl|rfl|rfl|rfl<;>rcases l with _|⟨x,_|⟨y,_|⟨z,_|⟨u,_|⟨v,l⟩⟩⟩⟩⟩<;>rw [Nd.isStmt.eq_def]<;>simp [Ck,kq]
def UW (hk:k=46\/k=47\/k=48\/k=49) (n:Int) (s:lB) (l:List Nd) (a:oA) (c:Nat) (S:nP) (w:wD)
 (hs:rowSits S w l a) (hsl:s.length<=9223372036854775807) (hll:l.length<=9223372036854775807) (hrw:CY l) :
 Calls prog 171 #[.agg #[.int .u8 k,.int .i64 n,str s,.slice a l.length c]] w λe w'=>e = .returned (.bool (Nd.mk k n s l).isStmt)/\Ext w w':=by
 have HPL:=gO λt (ht:t∈l)=>Gr S t (BB hrw t ht)
 have HSL:=gO hsl;clear hsl hrw
 have hr:=UV hk n s l
 have HR:=gO hr;clear hr
 cases hnm:plain n s
 all_goals have HNM:=gO hnm;clear hnm
 all_goals rcases hk with rfl|rfl|rfl|rfl
 all_goals go_enter func171,ntmps171
 all_goals go_wp2_with (first|(go_at_call 169;refine (GO _ _ _ _ _ _ _).mono ?_;rintro e w1 ⟨rfl,hx1⟩;have hc1:=hx1.cells;rw [HNM.out])|(go_at_call 198;refine (Ge _ _ _ l a c [(199,mt)] _ _ S _ hll (by decide) (hs.ext LQ) (WH (by go_simp)) (NN FA) (NN HPL.out)).mono ?_;rintro e w2 ⟨rfl,hx2⟩))
 all_goals go_ret
 all_goals rw [HR.out,HNM.out]
 all_goals exact ⟨AX (by simp),LQ⟩
def UX (h:k=52\/k=53) (n:Int) (s:lB) (l:List Nd):(Nd.mk k n s l).isStmt=(plain n s&&Ck l [(200,mj),(140,mm),(140,mm),(200,mj)]):=by
 rcases h with rfl|rfl<;>rcases l with _|⟨x,_|⟨y,_|⟨z,_|⟨u,_|⟨v,l⟩⟩⟩⟩⟩<;>rw [Nd.isStmt.eq_def]<;>simp [Ck,kq]
def UY (hk:k=52\/k=53) (n:Int) (s:lB) (l:List Nd) (a:oA) (c:Nat) (S:nP) (w:wD)
 (hs:rowSits S w l a) (hsl:s.length<=9223372036854775807) (hll:l.length<=9223372036854775807) (hrw:CY l) (hb:∀t∈l,Ec S 140 mm t) :
 Calls prog 171 #[.agg #[.int .u8 k,.int .i64 n,str s,.slice a l.length c]] w λe w'=>e = .returned (.bool (Nd.mk k n s l).isStmt)/\Ext w w':=by
 have HBL:=gO hb;clear hb
 have HEX:=gO λt (ht:t∈l)=>FB S t (BB hrw t ht)
 have HSL:=gO hsl;clear hsl hrw
 have hr:=UX hk n s l
 have HR:=gO hr;clear hr
 cases hnm:plain n s
 all_goals have HNM:=gO hnm;clear hnm
 all_goals rcases hk with rfl|rfl
 all_goals go_enter func171,ntmps171
 all_goals go_wp2_with (first|(go_at_call 169;refine (GO _ _ _ _ _ _ _).mono ?_;rintro e w1 ⟨rfl,hx1⟩;have hc1:=hx1.cells;rw [HNM.out])|(go_at_call 198;refine (Ge _ _ _ l a c [(200,mj),(140,mm),(140,mm),(200,mj)] _ _ S _ hll (by decide) (hs.ext LQ) (fW (by go_simp) (by go_simp) (by go_simp) (by go_simp)) (dZ DJ GQ GQ DJ) (dZ HEX.out HBL.out HBL.out HEX.out)).mono ?_;rintro e w2 ⟨rfl,hx2⟩))
 all_goals go_ret
 all_goals rw [HR.out,HNM.out]
 all_goals exact ⟨AX (by simp),LQ⟩
def UZ (h:k=54) (n:Int) (s:lB) (l:List Nd):(Nd.mk k n s l).isStmt=(named n s&&Ck l [(200,mj),(140,mm),(200,mj)]):=by
 rcases h with rfl<;>rcases l with _|⟨x,_|⟨y,_|⟨z,_|⟨u,_|⟨v,l⟩⟩⟩⟩⟩<;>rw [Nd.isStmt.eq_def]<;>simp [Ck,kq]
def U0 (hk:k=54) (n:Int) (s:lB) (l:List Nd) (a:oA) (c:Nat) (S:nP) (w:wD)
 (hs:rowSits S w l a) (hsl:s.length<=9223372036854775807) (hll:l.length<=9223372036854775807) (hrw:CY l) (hb:∀t∈l,Ec S 140 mm t) :
 Calls prog 171 #[.agg #[.int .u8 k,.int .i64 n,str s,.slice a l.length c]] w λe w'=>e = .returned (.bool (Nd.mk k n s l).isStmt)/\Ext w w':=by
 have HBL:=gO hb;clear hb
 have HEX:=gO λt (ht:t∈l)=>FB S t (BB hrw t ht)
 have HSL:=gO hsl;clear hsl hrw
 have hr:=UZ hk n s l
 have HR:=gO hr;clear hr
 cases hnm:named n s
 all_goals have HNM:=gO hnm;clear hnm
 all_goals rcases hk with rfl
 all_goals go_enter func171,ntmps171
 all_goals go_wp2_with (first|(go_at_call 201;refine (In _ _ _ _ _ _ _ HSL.out).mono ?_;rintro e w1 ⟨rfl,hx1⟩;have hc1:=hx1.cells;rw [HNM.out])|(go_at_call 198;refine (Ge _ _ _ l a c [(200,mj),(140,mm),(200,mj)] _ _ S _ hll (by decide) (hs.ext (by refine mf ?_ _;refine mh ?_ ‹_›;refine mf ?_ _;exact Ne _)) (fV (by go_simp) (by go_simp) (by go_simp)) (dY DJ GQ DJ) (dY HEX.out HBL.out HEX.out)).mono ?_;rintro e w2 ⟨rfl,hx2⟩))
 all_goals go_ret
 all_goals rw [HR.out,HNM.out]
 all_goals exact ⟨AX (by simp),LQ⟩
def U1 (h:k=55) (n:Int) (s:lB) (l:List Nd):(Nd.mk k n s l).isStmt=(named n s&&Ck l [(140,mm)]):=by
 rcases h with rfl<;>rcases l with _|⟨x,_|⟨y,_|⟨z,_|⟨u,_|⟨v,l⟩⟩⟩⟩⟩<;>rw [Nd.isStmt.eq_def]<;>simp [Ck,kq]
def U2 (hk:k=55) (n:Int) (s:lB) (l:List Nd) (a:oA) (c:Nat) (S:nP) (w:wD)
 (hs:rowSits S w l a) (hsl:s.length<=9223372036854775807) (hll:l.length<=9223372036854775807) (hrw:CY l) (hb:∀t∈l,Ec S 140 mm t) :
 Calls prog 171 #[.agg #[.int .u8 k,.int .i64 n,str s,.slice a l.length c]] w λe w'=>e = .returned (.bool (Nd.mk k n s l).isStmt)/\Ext w w':=by
 have HBL:=gO hb;clear hb
 have HSL:=gO hsl;clear hsl hrw
 have hr:=U1 hk n s l
 have HR:=gO hr;clear hr
 cases hnm:named n s
 all_goals have HNM:=gO hnm;clear hnm
 all_goals rcases hk with rfl
 all_goals go_enter func171,ntmps171
 all_goals go_wp2_with (first|(go_at_call 201;refine (In _ _ _ _ _ _ _ HSL.out).mono ?_;rintro e w1 ⟨rfl,hx1⟩;have hc1:=hx1.cells;rw [HNM.out])|(go_at_call 198;refine (Ge _ _ _ l a c [(140,mm)] _ _ S _ hll (by decide) (hs.ext (by refine mf ?_ _;refine mh ?_ ‹_›;refine mf ?_ _;exact Ne _)) (WH (by go_simp)) (NN GQ) (NN HBL.out)).mono ?_;rintro e w2 ⟨rfl,hx2⟩))
 all_goals go_ret
 all_goals rw [HR.out,HNM.out]
 all_goals exact ⟨AX (by simp),LQ⟩
def U3 (h:k=50\/k=51) (n:Int) (s:lB) (l:List Nd):(Nd.mk k n s l).isStmt=(named n s&&decide (l.length<=8)&&l.all Nd.isVar):=by
 rcases h with rfl|rfl<;>rw [Nd.isStmt.eq_def]<;>simp
def U4 (hk:k=50\/k=51) (n:Int) (s:lB) (l:List Nd) (a:oA) (c:Nat) (S:nP) (w:wD)
 (hs:rowSits S w l a) (hsl:s.length<=9223372036854775807) (hll:l.length<=9223372036854775807) (hrw:CY l) :
 Calls prog 171 #[.agg #[.int .u8 k,.int .i64 n,str s,.slice a l.length c]] w λe w'=>e = .returned (.bool (Nd.mk k n s l).isStmt)/\Ext w w':=by
 have HVA:=gO λt (ht:t∈l)=>YU S t (BB hrw t ht)
 have HSL:=gO hsl;clear hsl hrw
 have hr:=U3 hk n s l
 have HR:=gO hr;clear hr
 cases hnm:named n s
 all_goals have HNM:=gO hnm;clear hnm
 all_goals by_cases h8:l.length<=8
 all_goals have d8:decide ((l.length:Int)<=8)=decide (l.length<=8):=by simp only [decide_eq_decide];omega
 all_goals first|rw [decide_eq_true h8] at d8|rw [decide_eq_false h8] at d8
 all_goals have H8:=gO h8;clear h8
 all_goals rcases hk with rfl|rfl
 all_goals go_enter func171,ntmps171
 all_goals go_wp2_with (first|(go_at_call 201;refine (In _ _ _ _ _ _ _ HSL.out).mono ?_;rintro e w1 ⟨rfl,hx1⟩;have hc1:=hx1.cells;rw [HNM.out])|(go_at_call 170;refine (TS 202 Nd.isVar WJ l a c S _ hll (hs.ext LQ) HVA.out).mono ?_;rintro e w2 ⟨rfl,hx2⟩))
 all_goals go_ret
 all_goals rw [HR.out,HNM.out]
 all_goals exact ⟨AX (by simp [H8.out]),LQ⟩
def Qv (k n:Int) (s:lB) (l:List Nd) (h:k<40\/56<k):(Nd.mk k n s l).isStmt=false:=by
 rw [Nd.isStmt.eq_def];simp only [];rw [At Ab,At Ab,At Ab,At Ab,At Ab,At Ab,At Ab,At Ab]
def Qw (k n:Int) (s:lB) (l:List Nd) (a:oA) (c:Nat) (w:wD) (h:k<40\/56<k) :
 Calls prog 171 #[.agg #[.int .u8 k,.int .i64 n,str s,.slice a l.length c]] w λe w'=>e = .returned (.bool (Nd.mk k n s l).isStmt)/\Ext w w':=by
 have hr:=Qv k n s l h
 have HR:=gO hr;clear hr
 have d40:(k==40)=false:=by rw [beq_eq_false_iff_ne];omega
 have d41:(k==41)=false:=by rw [beq_eq_false_iff_ne];omega
 have d42:(k==42)=false:=by rw [beq_eq_false_iff_ne];omega
 have d43:(k==43)=false:=by rw [beq_eq_false_iff_ne];omega
 have d44:(k==44)=false:=by rw [beq_eq_false_iff_ne];omega
 have d45:(k==45)=false:=by rw [beq_eq_false_iff_ne];omega
 have d46:(k==46)=false:=by rw [beq_eq_false_iff_ne];omega
 have d47:(k==47)=false:=by rw [beq_eq_false_iff_ne];omega
 have d48:(k==48)=false:=by rw [beq_eq_false_iff_ne];omega
 have d49:(k==49)=false:=by rw [beq_eq_false_iff_ne];omega
 have d50:(k==50)=false:=by rw [beq_eq_false_iff_ne];omega
 have d51:(k==51)=false:=by rw [beq_eq_false_iff_ne];omega
 have d52:(k==52)=false:=by rw [beq_eq_false_iff_ne];omega
 have d53:(k==53)=false:=by rw [beq_eq_false_iff_ne];omega
 have d54:(k==54)=false:=by rw [beq_eq_false_iff_ne];omega
 have d55:(k==55)=false:=by rw [beq_eq_false_iff_ne];omega
 have d56:(k==56)=false:=by rw [beq_eq_false_iff_ne];omega
 clear h
 go_enter func171,ntmps171
 go_wp2_with fail
 go_ret
 rw [HR.out]
 exact ⟨rfl,(by refine mf ?_ _;exact Ne _)⟩
def Sw (k n:Int) (s:lB) (l:List Nd) (a:oA) (c:Nat) (S:nP) (w:wD)
 (O:rowSits S w l a) (G:s.length<=9223372036854775807) (M:l.length<=9223372036854775807) (N:CY l) (U:∀t∈l,Ec S 140 mm t) :
 Calls prog 171 #[.agg #[.int .u8 k,.int .i64 n,str s,.slice a l.length c]] w λe w'=>e = .returned (.bool (Nd.mk k n s l).isStmt)/\Ext w w':=by
 by_cases h:k<40\/56<k
 . exact Qw k n s l a c w h
 by_cases V:k=40\/k=41\/k=42\/k=56
 . exact UQ V n s l a c S w O G M N
 by_cases X:k=43
 . exact US X n s l a c S w O G M N
 by_cases Y:k=44\/k=45
 . exact UU Y n s l a c S w O G M N
 by_cases Z:k=46\/k=47\/k=48\/k=49
 . exact UW Z n s l a c S w O G M N
 by_cases aa:k=52\/k=53
 . exact UY aa n s l a c S w O G M N U
 by_cases ab:k=54
 . exact U0 ab n s l a c S w O G M N U
 by_cases ac:k=55
 . exact U2 ac n s l a c S w O G M N U
 by_cases ad:k=50\/k=51
 . exact U4 ad n s l a c S w O G M N
 omega
def Qx (k n:Int) (s:lB) (l:List Nd) (a:oA) (c:Nat) (S:nP) (w:wD)
 (hs:rowSits S w l a) (hll:l.length<=9223372036854775807) (ht:∀t∈l,Ec S 171 Nd.isStmt t) :
 Calls prog 140 #[.agg #[.int .u8 k,.int .i64 n,str s,.slice a l.length c]] w λe w'=>e = .returned (.bool (Nd.mk k n s l).isBlock)/\Ext w w':=by
 have hall:∀r:List Nd,DZ r=r.all Nd.isStmt:=by
  intro r
  induction r with
  | nil=>rfl
  | cons x r ih=>simp [DZ,ih]
 have hr:(Nd.mk k n s l).isBlock=(k==57&&plain n s&&l.all Nd.isStmt):=by rw [mm,hall]
 have HR:=gO hr;clear hr hall
 have HT:=gO ht;clear ht
 by_cases h57:k=57
 . subst h57
   cases hnm:plain n s
   all_goals have HNM:=gO hnm;clear hnm
   all_goals go_enter func140,ntmps140
   all_goals go_wp2_with (first|(go_at_call 169;refine (GO _ _ _ _ _ _ _).mono ?_;rintro e w1 ⟨rfl,hx1⟩;have hc1:=hx1.cells;rw [HNM.out])|(go_at_call 170;refine (TS 171 Nd.isStmt UO l a c S _ hll (hs.ext (by refine mh ?_ ‹_›;refine mf ?_ _;exact Ne _)) HT.out).mono ?_;rintro e w2 ⟨rfl,hx2⟩))
   all_goals go_ret
   all_goals rw [HR.out,HNM.out]
   all_goals exact ⟨AX (by simp),LQ⟩
 . have d57:(k==57)=false:=by rw [beq_eq_false_iff_ne];omega
   clear h57
   go_enter func140,ntmps140
   go_wp2_with fail
   go_ret
   rw [HR.out]
   exact ⟨AX (by simp [d57]),(by refine mf ?_ _;exact Ne _)⟩
def IR (S:nP) (N:Nat):(∀t:Nd,t.size<N->t.wf->Ec S 171 Nd.isStmt t)/\(∀t:Nd,t.size<N->t.wf->Ec S 140 mm t):=by
 induction N with
 | zero=>exact ⟨λt h=>absurd h (Nat.not_lt_zero _),λt h=>absurd h (Nat.not_lt_zero _)⟩
 | succ N U=>
  refine ⟨?_,?_⟩
  . rintro ⟨k,n,s,l⟩ V G a c w O;simp only [Nd.wf,mg,mF] at *;exact Sw k n s l a c S w O G.2.2.2.2.1 G.2.2.2.2.2.1 G.2.2.2.2.2.2 (λt M=>U.2 t (by have:=Ei M;omega) (BB G.2.2.2.2.2.2 t M))
  . rintro ⟨k,n,s,l⟩ V G a c w O;simp only [Nd.wf,mg,mF] at *;exact Qx k n s l a c S w O G.2.2.2.2.2.1 (λt M=>U.1 t (by have:=Ei M;omega) (BB G.2.2.2.2.2.2 t M))
def WK (S:nP) (t:Nd) (h:t.wf):Ec S 171 Nd.isStmt t:=(IR S (t.size+1)).1 t Ab h
def U5 (S:nP) (t:Nd) (h:t.wf):Ec S 140 mm t:=(IR S (t.size+1)).2 t Ab h
attribute [local irreducible] Go.Calls
mutual
def Ci {S:nP} {w:wD}:∀(l:List Nd) (a:oA),rowSits S w l a->rowSits (· < w.heap.size) w l a
 | [],_,_=>by simp [rowSits]
 | t::r,a,h=>by
  simp only [rowSits] at h ⊢;obtain ⟨b,o,a',c,rfl,hb,h0,h1,h2,h3,hs,hr⟩:=h;exact ⟨b,o,a',c,rfl,Cs h0,h0,h1,h2,h3,Cd t a' hs,Ci r _ hr⟩
def Cd {S:nP} {w:wD}:∀(t:Nd) (a:oA),t.sits S w a->t.sits (· < w.heap.size) w a
 | .mk _ _ _ l,a,h=>by
  simp only [mF] at h ⊢;exact Ci l a h
end
def CM:∀ {l:List Nd} {x:Nd},x∈l->x.size<=AV l
 | [],x,h=>by cases h
 | t::r,x,h=>by
  simp only [AV];rcases io.1 h with rfl|h
  . omega
  . have:=CM h;omega
def Cz (l:List Nd):l.length<=AV l:=by
 induction l with
 | nil=>simp [AV]
 | cons x r h=>
  have:1<=x.size:=by cases x;simp only [mg];omega
  simp only [AV,gV];omega
abbrev AZ (xs:List Int):lV:=xs.map (.int .i64 ·)
def IntsAt (w:wD) (xs:List Int) (a:oA):Prop:=Rows (λ_=>True) w (AZ xs) a
def IntsAt.ext {w w':wD} {xs:List Int} {a:oA} (h:IntsAt w xs a) (x:Ext w w'):IntsAt w' xs a:=Rows.ext h x
instance:LfE w w' (IntsAt w xs a) (IntsAt w' xs a):=⟨λx h=>Bk.IntsAt.ext h x⟩
def IntsAt.get (h:IntsAt w xs a) (G:xs≠[]):∃b o,a=some ⟨b,o,none⟩/\Row w ⟨b,o,none⟩ (AZ xs):=by
 rcases h with h|⟨b,o,M,-,N⟩
 . exact absurd (List.map_eq_nil_iff.1 h) G
 . exact ⟨b,o,M,N⟩
def IntsAt.at {w:wD} {xs:List Int} {b o:Nat} (h:Row w ⟨b,o,none⟩ (AZ xs)) {i:Nat} (M:i<xs.length):Row w ⟨b,o+i*1,none⟩ [.int .i64 (xs.getD i 0)]:=by
 intro j v G
 match j,G with
 | 0,G=>
  simp only [iw,gU] at G;subst G;have:=h.at (i:=i) (v:=.int .i64 (xs.getD i 0)) (by simp [AZ,iJ,gN M,gT]);simpa [jA] using this
def LookR (xs:List Int) (q:Bool) (w:wD):Ending->wD->Prop:=λe w'=> ∃a c,e = .returned (.tuple #[.slice a xs.length c,.bool q])/\IntsAt w' xs a/\xs.length<=1000000/\Ext w w'
def LookR.ret {q:Bool} (h:LookR xs q w e w'):∃v,e = .returned v:=by
 obtain ⟨_,_,h,-⟩:=h;exact ⟨_,h⟩
structure Keep (I:wD->Prop) (w:wD):Prop where
 h:I w
 s:∀w1 w2,I w1->Ext w1 w2->I w2
def Keep.ext {I:wD->Prop} (h:Keep I w) (x:Ext w w'):Keep I w':=⟨h.s _ _ h.h x,h.s⟩
instance {I:wD->Prop}:LfE w w' (Keep I w) (Keep I w'):=⟨λx h=>Bk.Keep.ext h x⟩
def Le (at_:lB->Option (List Int)) (f:FuncId) (fi:lV) (I:wD->Prop):Prop:= ∀(s:lB) (w:wD),Keep I w->Calls prog f (fi++[str s]++[]).toArray w (LookR ((at_ s).getD []) (at_ s).isSome w)
def dQ (r:Int×Int) (w:wD):Ending->wD->Prop:=λe w'=>e = .returned (.tuple #[.int .i64 r.1,.int .i64 r.2])/\Ext w w'
inductive ExprSh:Nd->Prop where
 | num {n:Int}:ExprSh (.mk 1 n [] [])
 | ref {k:Int} {s:lB}:(k=2\/k=4\/k=5)->Cv s=true->ExprSh (.mk k 0 s [])
 | item {s:lB} {x:Nd}:Cv s=true->x.isExpr=true->ExprSh (.mk 3 0 s [x])
 | un {k:Int} {x:Nd}:(k=6\/k=7)->x.isExpr=true->ExprSh (.mk k 0 [] [x])
 | bin {k:Int} {x y:Nd}:8<=k/\k<=23->x.isExpr=true->y.isExpr=true->ExprSh (.mk k 0 [] [x,y])
def Mm {t:Nd} (h:t.isExpr=true):ExprSh t:=by
 obtain ⟨k,n,s,l⟩:=t;unfold mj at h;by_cases M:k=1
 . rw [AH M] at h;simp only [gR,jn,decide_eq_true_eq] at h;obtain ⟨⟨Y,rfl⟩,rfl⟩:=h;subst M;exact .num
 rw [At M] at h;by_cases N:k=2\/k=4\/k=5
 . rw [AH N] at h;simp only [gR,named,beq_iff_eq,jn] at h;obtain ⟨⟨rfl,O⟩,rfl⟩:=h;exact .ref N O
 rw [At N] at h;by_cases U:k=3
 . rw [AH U] at h;simp only [gR,named,beq_iff_eq] at h;obtain ⟨⟨rfl,O⟩,G⟩:=h;subst U;split at G
   . exact .item O G
   . cases G
 rw [At U] at h;by_cases V:k=6\/k=7
 . rw [AH V] at h;simp only [gR,plain,beq_iff_eq,jn] at h;obtain ⟨⟨rfl,rfl⟩,G⟩:=h;split at G
   . exact .un V G
   . cases G
 rw [At V] at h;by_cases X:8<=k/\k<=23
 . rw [AH X] at h;simp only [gR,plain,beq_iff_eq,jn] at h;obtain ⟨⟨rfl,rfl⟩,G⟩:=h;split at G
   . simp only [gR] at G;exact .bin X G.1 G.2
   . cases G
 rw [At X] at h;cases h
def Ph (k:Int) (o:Option (List Int)):Int×Int:=match o with
 | none=>(0,6)
 | some c=>if k=2 then if c.length=1 then (c.getD 0 0,0) else (0,7) else if k=4 then if c.length=0 then (0,13) else (c.getD (c.length-1) 0,0) else (c.length,0)
def U6 {at_:lB->Option (List Int)} (h:k=2\/k=4\/k=5):AW at_ (.mk k 0 s [])=Ph k (at_ s):=by
 unfold AW Ph;rcases h with rfl|rfl|rfl
 . simp only [show ¬((2:Int)=1) by decide,if_false,if_true];all_goals (cases at_ s<;>rfl)
 . simp only [show ¬((4:Int)=1) by decide,show ¬((4:Int)=2) by decide,show ¬((4:Int)=3) by decide,if_false,if_true];all_goals (cases at_ s<;>rfl)
 . simp only [show ¬((5:Int)=1) by decide,show ¬((5:Int)=2) by decide,show ¬((5:Int)=3) by decide,show ¬((5:Int)=4) by decide,if_false,if_true];all_goals (cases at_ s<;>rfl)
def Lf (o:Option (List Int)) (r:Int×Int):Int×Int:=match o with
 | none=>(0,6)
 | some c=>if r.2≠0 then (0,r.2) else if r.1<0\/(c.length:Int)<=r.1 then (0,12) else (c.getD r.1.toNat 0,0)
def Sx {at_:lB->Option (List Int)}:AW at_ (.mk 3 0 s [x])=Lf (at_ s) (AW at_ x):=by
 conv=>lhs;unfold AW
 unfold Lf;simp only [show ¬((3:Int)=1) by decide,show ¬((3:Int)=2) by decide,if_false,if_true];all_goals (cases at_ s<;>rfl)
def WL {at_:lB->Option (List Int)} (hk:k=6\/k=7):AW at_ (.mk k 0 [] [x])=if (AW at_ x).2≠0 then (0,(AW at_ x).2) else EH k (AW at_ x).1:=by
 conv=>lhs;unfold AW
 rw [At Ab,At Ab,At Ab,At Ab,At Ab]
def U7 {at_:lB->Option (List Int)} {y:Nd} (hk:8<=k/\k<=23):AW at_ (.mk k 0 [] [x,y])=if (AW at_ x).2≠0 then (0,(AW at_ x).2) else if (AW at_ y).2≠0 then (0,(AW at_ y).2) else EG k (AW at_ x).1 (AW at_ y).1:=by
 conv=>lhs;unfold AW
 rw [At Ab,At Ab,At Ab,At Ab,At Ab]
def Qy {at_:List UInt8->Option (List Int)} {f:FuncId} {fi:List Value} {I:World->Prop} (hf:BZ prog f=true) (HL:Le at_ f fi I) {n:Int} (hk:k=2\/k=4\/k=5) (s:List UInt8) (a:Option Addr) (m c:Nat) (w:World) (hI:Keep I w) :
 Calls prog 241 #[.agg #[.int .u8 k,.int .i64 n,str s,.slice a m c],.func (.func f) fi.toArray #[]] w (dQ (Ph k (at_ s)) w):=by
 have X:=Ne w;have HA:=gO (HL s)
 generalize at_ s=o at *
 cases o with
 | none=>
  simp only [Option.getD_none,Option.isSome_none] at HA;refine Ad func241 ntmps241 rfl rfl ?_
  refine cS (eB [_,_,_,_] ?_);intro b1 w2 h4 x5 _ _;revert hI X;refine eE x5 ?_;intro hI X;refine C1 Pa (C1 Pa (cN (C1 Mv (C1 Pf (C1 (Pl h4) (Ax (A8 (ca:=[]) hf rfl rfl (HA.out _ Ae) (λ_ _ h=>h.ret)) rfl ?_ aFh))))));rintro _ ae ⟨a8,c9,⟨⟩,af,ag,aa⟩;replace X:=X.ext aa;refine C1 Mv (C1 Px (C1 Px (C1 Pa (C1 Pa (cT (Aj (cS (C1 Mv (C1 Pt (cT (BO rfl (cS (C1 Pa (C1 Pa (cT (AR (As (Bc rfl rfl rfl ?_))))))))))))))))))
  exact ⟨rfl,X⟩
 | some xs=>
  simp only [kf,Option.isSome_some] at HA;refine Ad func241 ntmps241 rfl rfl ?_
  focus
   refine cS (eB [_,_,_,_] ?_);intro ah ai G ab _ _;revert hI X;refine eE ab ?_;intro hI X;refine C1 Pa (C1 Pa (cN (C1 Mv (C1 Pf (C1 (Pl G) (Ax (A8 (ca:=[]) hf rfl rfl (HA.out _ Ae) (λ_ _ h=>h.ret)) rfl ?_ aFh))))));rintro _ ac ⟨aj,ak,⟨⟩,M,ad,O⟩;revert G X;refine eE O ?_;intro G X;refine C1 Mv (C1 Px (C1 Px (C1 Pa (C1 Pa (cT (Aj (cS (C1 Mv (C1 Pt (cT (Ba rfl (Ao (Ai (Aj (cS (C1 Pg (C1 (Pl G) (cT (Au (cS (C1 V1 (C1 Pa (cT (Ay rfl (λU=>?_) (λU=>?_)))))))))))))))))))))))));refine Aj (cS (C1 Mv (C1 Pz (C1 V2 (cT (BS rfl (λV=>?_) (λV=>?_)))))));refine cS (C1 Pa (C1 Pa (cT (AR (As (AJ (As (Bc rfl rfl rfl ?_))))))));rotate_left;refine Ao (Ai ?_);rotate_left;refine cS (C1 V1 (C1 Pa (cT (Dz (cS (C1 V1 (C1 Pa (cT (Ay rfl (λY=>?_) (λY=>?_))))))))));refine Aj (cS (C1 Mv (C1 Pz (C1 V1 (cT (Ay rfl (λZ=>?_) (λZ=>?_)))))));refine cS (C1 Pa (C1 Pa (cT (AR (As (AJ (As (Bc rfl rfl rfl ?_))))))));rotate_left;refine Ao (Ai ?_);rotate_left;refine Ao (Ah (Ai (cS (C1 Mv (C1 Pz (C1 Pa (C1 Pa (cT (AR (Bc rfl rfl rfl ?_))))))))));rotate_left
  . exact ⟨by rw [Ph,AH Ae,At Ab],X⟩
  . have N:xs≠[]:=by rintro rfl;simp at *
    obtain ⟨gb,go,rfl,hr⟩:=M.get N;have r1:=IntsAt.at hr (i:=0) Ab
    generalize hv:xs.getD 0 0=v at *
    refine cS (C1 Mv (C1 Pi (C1 (Pw r1) (C1 Pa (C1 Pa (cT (AR (AJ (As (Bc rfl rfl rfl ?_))))))))))
    exact ⟨by rw [Ph,AH Ae,AH Ab,hv],X⟩
  . exact ⟨by rw [Ph,At Ab,AH Ae,AH Ab],X⟩
  . have N:xs≠[]:=by rintro rfl;simp at *
    obtain ⟨gb,go,rfl,hr⟩:=M.get N;have r1:=IntsAt.at hr (i:=((xs.length:Int)-1).toNat) Ab
    have hj:((xs.length:Int)-1).toNat=xs.length-1:=by omega
    generalize hv:xs.getD ((xs.length:Int)-1).toNat 0=v at *
    rw [hj] at hv
    refine cS (C1 Mv (C1 Mv (C1 Pz (C1 (AL rfl rfl (gX _ Ab)) (C1 Pi (C1 (UC r1) (C1 Pa (C1 Pa (cT (AR (AJ (As (Bc rfl rfl rfl ?_)))))))))))))
    exact ⟨by rw [Ph,At Ab,AH Ae,At Ab,hv],X⟩
  . focus
     rotate_left
    exact ⟨by rw [Ph,At Ab,At Ab],X⟩
def WM (h:rowSits S w [x] a):∃b o xa xc,a=some ⟨b,o,none⟩/\S b/\Row w ⟨b,o+0*4,none⟩ (x.cells xa xc)/\x.sits S w xa:=by
 obtain ⟨b,o,e,G,M⟩:=BG h AK;obtain ⟨xa,xc,r,s⟩:=M 0 x rfl;exact ⟨b,o,xa,xc,e,G,r,s⟩
def bQ {y:Nd} (h:rowSits S w [x,y] a):∃b o xa xc ya yc,a=some ⟨b,o,none⟩/\S b/\Row w ⟨b,o+0*4,none⟩ (x.cells xa xc)/\x.sits S w xa/\Row w ⟨b,o+1*4,none⟩ (y.cells ya yc)/\y.sits S w ya:=by
 obtain ⟨b,o,e,M,G⟩:=BG h AK;obtain ⟨xa,xc,r,s⟩:=G 0 x rfl;obtain ⟨ya,yc,N,O⟩:=G 1 y rfl;exact ⟨b,o,xa,xc,ya,yc,e,M,r,s,N,O⟩
def bT (at_:lB->Option (List Int)) (f:FuncId) (fi:lV) (I:wD->Prop) (t:Nd):Prop:= ∀(S:nP) (a:oA) (c:Nat) (w:wD),t.sits S w a->Keep I w->Calls prog 234 #[t.val a c,.func (.func f) fi.toArray #[]] w (dQ (AW at_ t) w)
def Qz {at_:List UInt8->Option (List Int)} {f:FuncId} {fi:List Value} {I:World->Prop} (hf:BZ prog f=true) (HL:Le at_ f fi I) {n:Int} (s:List UInt8) (HX:bT at_ f fi I x) (S:Nat->Prop) (a:Option Addr) (c:Nat) (w:World) (hs:rowSits S w [x] a) (N:Keep I w) :
 Calls prog 241 #[.agg #[.int .u8 3,.int .i64 n,str s,.slice a 1 c],.func (.func f) fi.toArray #[]] w (dQ (Lf (at_ s) (AW at_ x)) w):=by
 have X:=Ne w;have HA:=gO (HL s)
 unfold bT at HX
 replace HX:=gO HX;obtain ⟨kb,ko,xa,xc,rfl,-,U,O⟩:=WM hs;replace O:=Cd _ _ O
 generalize AW at_ x=r at *
 generalize at_ s=o at *
 cases o with
 | none=>
  simp only [Option.getD_none,Option.isSome_none] at HA;refine Ad func241 ntmps241 rfl rfl ?_
  refine cS (eB [_,_,_,_] ?_);intro b1 w2 h4 x5 _ _;revert N X;refine eE x5 ?_;intro N X;refine C1 Pa (C1 Pa (cN (C1 Mv (C1 Pf (C1 (Pl h4) (Ax (A8 (ca:=[]) hf rfl rfl (HA.out _ Ae) (λ_ _ h=>h.ret)) rfl ?_ aFh))))));rintro _ aj ⟨a8,c9,⟨⟩,ak,al,ac⟩;replace X:=X.ext ac;refine C1 Mv (C1 Px (C1 Px (C1 Pa (C1 Pa (cT (Aj (cS (C1 Mv (C1 Pt (cT (BO rfl (cS (C1 Pa (C1 Pa (cT (AR (As (Bc rfl rfl rfl ?_))))))))))))))))))
  exact ⟨rfl,X⟩
 | some xs=>
  simp only [kf,Option.isSome_some] at HA;refine Ad func241 ntmps241 rfl rfl ?_
  focus
   refine cS (eB [_,_,_,_] ?_);intro am an G ad _ _;revert N X U O;refine eE ad ?_;intro N X U O;refine C1 Pa (C1 Pa (cN (C1 Mv (C1 Pf (C1 (Pl G) (Ax (A8 (ca:=[]) hf rfl rfl (HA.out _ Ae) (λ_ _ h=>h.ret)) rfl ?_ aFh))))));rintro _ ag ⟨ao,ap,⟨⟩,M,ah,V⟩;revert G N X U O;refine eE V ?_;intro G N X U O;refine C1 Mv (C1 Px (C1 Px (C1 Pa (C1 Pa (cT (Aj (cS (C1 Mv (C1 Pt (cT (Ba rfl (Ao (Ai (Aj (cS (C1 Pg (C1 (Pl G) (cT (Au (cS (C1 V1 (C1 Pa (cT (NH (cS (C1 V1 (C1 Pa (cT (Wt (cS (C1 Pf (C1 (Pl G) (C1 Pi (BT [_,_,_,_] Ac rfl rfl rfl U rfl rfl rfl (C1 Mv (cC rfl (HX.out _ _ _ _ Ae Ae) ?_))))))))))))))))))))))))))))))))))));rintro _ ai ⟨⟨⟩,Y⟩;revert M X;refine eE Y ?_;intro M X;refine C1 Mv (C1 Px (C1 Px (C1 Pa (C1 Pa (cT (Aj (cS (C1 Mv (C1 V2 (cT (BS rfl (λZ=>?_) (λZ=>?_))))))))))));refine cS (C1 Mv (C1 Pa (C1 Pa (cT (AR (As (AJ (As (Bc rfl rfl rfl ?_)))))))));rotate_left;refine Ao (Ai (Aj (cS (C1 Mv (C1 V3 (C1 Mv (B0 rfl rfl rfl (λaa=>?_) (λaa=>?_))))))));refine FO (FO (FO (FO (C1 TL (cT (BO rfl (cS (C1 Pa (C1 Pa (cT (AR (As (AJ (As (Bc rfl rfl rfl ?_)))))))))))))))
   rotate_left;refine FN (C1 Mv (FN (C1 Mv (FN (C1 Pz (FN (C1 V6 (C1 Sh (cT (Ay rfl (λab=>?_) (λab=>?_)))))))))));refine cS (C1 Pa (C1 Pa (cT (AR (As (AJ (As (Bc rfl rfl rfl ?_))))))));rotate_left;refine Ao (Ai ?_);rotate_left
  . exact ⟨by rw [Lf,AH Ab],X⟩
  . exact ⟨by rw [Lf,At Ab,AH (gP Ab)],X⟩
  . exact ⟨by rw [Lf,At Ab,AH (gQ Ab)],X⟩
  . have ae:xs≠[]:=by rintro rfl;simp at *;omega
    obtain ⟨gb,go,rfl,af⟩:=M.get ae;have r1:=IntsAt.at af (i:=r.1.toNat) Ab
    generalize hv:xs.getD r.1.toNat 0=v at *
    refine cS (C1 Mv (C1 Mv (C1 Pi (C1 (UC r1) (C1 Pa (C1 Pa (cT (AR (AJ (As (Bc rfl rfl rfl ?_)))))))))))
    exact ⟨by rw [Lf,At Ab,At Ab,hv],X⟩
def QA {at_:List UInt8->Option (List Int)} {f:FuncId} {fi:List Value} {I:World->Prop} (hf:BZ prog f=true) (HL:Le at_ f fi I) (N:Nat):∀(t:Nd),t.size<N->t.isExpr=true->bT at_ f fi I t:=by
 induction N with
 | zero=>intro t h;omega
 | succ N ih=>
  intro t hN G;have ar:=Mm G;clear G;intro S a c w Y M;have X:=Ne w
  cases ar with
  | num=>
   rename_i n
   have e:AW at_ (.mk 1 n [] [])=(n,0):=by unfold AW;rw [AH rfl]
   rw [e]
   change Calls prog 234 #[.agg #[.int .u8 1,.int .i64 n,str [],.slice a 0 c],.func (.func f) fi.toArray #[]] w _
   refine Ad func234 ntmps234 rfl rfl ?_
   refine cS (eB [_,_,_,_] ?_);intro b1 w2 h4 x5 _ _;revert M X Y;refine eE x5 ?_;intro M X Y;clear x5;refine C1 Pa (C1 Pa (cT (Aj (cS (C1 Pg (C1 (Pl h4) (cT (Au (cS (C1 V1 (C1 Pa (cT (Wt (cS (C1 Pf (C1 (Pl h4) (C1 Pa (C1 Pa (cT (AR (AJ (As (Bc rfl rfl rfl ?_)))))))))))))))))))))))
   exact ⟨rfl,X⟩
  | ref hk hn=>
   rename_i k s
   rw [U6 hk];have HV:=gO (Qy hf HL (n:=0) hk s a 0 c);clear HL ih Y
   generalize Ph k (at_ s)=r at *
   change Calls prog 234 #[.agg #[.int .u8 k,.int .i64 0,str s,.slice a 0 c],.func (.func f) fi.toArray #[]] w _
   refine Ad func234 ntmps234 rfl rfl ?_
   focus
    refine cS (eB [_,_,_,_] ?_);intro a1 a2 O ag _ _;revert M X;refine eE ag ?_;intro M X;clear ag;refine C1 Pa (C1 Pa (cT (Aj (cS (C1 Pg (C1 (Pl O) (cT (Au (cS (C1 V1 (C1 Pa (cT (Dz (Aj (cS (C1 V1 (C1 Pa (cT (Ay rfl (λau=>?_) (λau=>?_))))))))))))))))))));refine Ao (Ai (YO (cS (A1 [_,_,_,_] Ac rfl rfl rfl O rfl rfl rfl (C1 Mv (cC rfl (HV.out _ Ae) ?_))))));rintro _ av ⟨⟨⟩,ah⟩;revert O M X;refine eE ah ?_;intro O M X;clear ah;refine C1 Px (C1 Px (C1 Pa (C1 Pa (cT (AR (AJ (As (Bc rfl rfl rfl ?_))))))));rotate_left;refine cS (C1 V1 (C1 Pa (cT (Dz (cS (C1 V1 (C1 Pa (cT (Ay rfl (λai=>?_) (λai=>?_))))))))));refine Ao (Ai (YO (cS (A1 [_,_,_,_] Ac rfl rfl rfl O rfl rfl rfl (C1 Mv (cC rfl (HV.out _ Ae) ?_))))));rintro _ aw ⟨⟨⟩,ac⟩;revert O M X;refine eE ac ?_;intro O M X;clear ac;refine C1 Px (C1 Px (C1 Pa (C1 Pa (cT (AR (AJ (As (Bc rfl rfl rfl ?_))))))));rotate_left;refine Al (C1 V1 (C1 Pa (cT (TM (cS (A1 [_,_,_,_] Ac rfl rfl rfl O rfl rfl rfl (C1 Mv (cC rfl (HV.out _ Ae) ?_))))))));rintro _ ax ⟨⟨⟩,ad⟩;revert O M X;refine eE ad ?_;intro O M X;clear ad;refine C1 Px (C1 Px (C1 Pa (C1 Pa (cT (AR (AJ (As (Bc rfl rfl rfl ?_))))))))
    rotate_left
   all_goals exact ⟨rfl,X⟩
  | item hn G=>
   rename_i s x
   rw [Sx];simp only [mg,AV] at hN;have HV:=gO (Qz hf HL (n:=0) s (ih x Ab G) S a c);clear HL ih
   generalize Lf (at_ s) (AW at_ x)=r at *
   have Y:rowSits S w [x] a:=Y
   change Calls prog 234 #[.agg #[.int .u8 3,.int .i64 0,str s,.slice a 1 c],.func (.func f) fi.toArray #[]] w _
   refine Ad func234 ntmps234 rfl rfl ?_
   refine cS (eB [_,_,_,_] ?_);intro a3 a4 ab af _ _;revert M X;refine eE af ?_;intro M X;clear Y;replace Y:=mH Y af;clear af;refine C1 Pa (C1 Pa (cT (Aj (cS (C1 Pg (C1 (Pl ab) (cT (Au (cS (C1 V1 (C1 Pa (cT (NH (Aj (cS (C1 V1 (C1 Pa (cT (NH (cS (C1 V1 (C1 Pa (cT (Wt (Ao (Ai (Wt (cS (A1 [_,_,_,_] Ac rfl rfl rfl ab rfl rfl rfl (C1 Mv (cC rfl (HV.out _ Ae Ae) ?_)))))))))))))))))))))))))))))));rintro _ a5 ⟨⟨⟩,aj⟩;revert ab M X Y;refine eE aj ?_;intro ab M X Y;clear aj;refine C1 Px (C1 Px (C1 Pa (C1 Pa (cT (AR (AJ (As (Bc rfl rfl rfl ?_))))))))
   exact ⟨rfl,X⟩
  | un hk G=>
   rename_i k x
   rw [WL hk];simp only [mg,AV] at hN;have HX:=ih x Ab G
   unfold bT at HX
   replace HX:=gO HX;obtain ⟨kb,ko,xa,xc,rfl,-,Z,G⟩:=WM Y;replace G:=Cd _ _ G;clear HL ih Y
   generalize AW at_ x=r at *
   change Calls prog 234 #[.agg #[.int .u8 k,.int .i64 0,str [],.slice (some ⟨kb,ko,none⟩) 1 c],.func (.func f) fi.toArray #[]] w _
   refine Ad func234 ntmps234 rfl rfl ?_
   focus
    refine cS (eB [_,_,_,_] ?_);intro a6 a7 aa ak _ _;revert M X Z G;refine eE ak ?_;intro M X Z G;clear ak;refine C1 Pa (C1 Pa (cT (Aj (cS (C1 Pg (C1 (Pl aa) (cT (Au (cS (C1 V1 (C1 Pa (cT (Dz (Aj (cS (C1 V1 (C1 Pa (cT (Dz (cS (C1 V1 (C1 Pa (cT (Dz (cS (C1 V1 (C1 Pa (cT (Dz (Al (C1 V1 (C1 Pa (cT (Dz (Ao (Ah (Ai (cS (C1 Pf (C1 (Pl aa) (C1 Pi (BT [_,_,_,_] Ac rfl rfl rfl Z rfl rfl rfl (C1 Mv (cC rfl (HX.out _ _ _ _ Ae Ae) ?_))))))))))))))))))))))))))))))))))))))))))));rintro _ a8 ⟨⟨⟩,al⟩;revert aa M X Z G;refine eE al ?_;intro aa M X Z G;clear al;refine C1 Mv (C1 Px (C1 Px (C1 Pa (C1 Pa (cT (Aj (cS (C1 Mv (C1 V2 (cT (BS rfl (λam=>?_) (λam=>?_))))))))))));refine cS (C1 Mv (C1 Pa (C1 Pa (cT (AR (As (Bc rfl rfl rfl ?_)))))));rotate_left;refine Ao (Ai (Aj (cS (C1 Pf (C1 (Pl aa) (C1 Pz (C1 V1 (cT (Wt (cS (C1 Pg (C1 (Pl aa) (C1 Mv (cC rfl (O8 _ _ _) ?_))))))))))))));rintro _ ay ⟨⟨⟩,rfl⟩;refine C1 Px (C1 Px (C1 Pa (C1 Pa (cT (AR (As (Bc rfl rfl rfl ?_)))))));rotate_left
   . exact ⟨by rw [AH Ab],X⟩
   . exact ⟨by rw [At Ab],X⟩
  | bin hk G hy=>
   rename_i k x y
   rw [U7 hk];simp only [mg,AV] at hN;have HX:=ih x Ab G;have HY:=ih y Ab hy
   unfold bT at HX HY
   replace HX:=gO HX;replace HY:=gO HY;obtain ⟨kb,ko,xa,xc,ya,yc,rfl,-,Z,G,V,hy⟩:=bQ Y;replace G:=Cd _ _ G;replace hy:=Cd _ _ hy;clear HL ih Y
   generalize AW at_ x=r at *
   generalize AW at_ y=r' at *
   change Calls prog 234 #[.agg #[.int .u8 k,.int .i64 0,str [],.slice (some ⟨kb,ko,none⟩) 2 c],.func (.func f) fi.toArray #[]] w _
   refine Ad func234 ntmps234 rfl rfl ?_
   focus
    refine cS (eB [_,_,_,_] ?_);intro a9 ba U an _ _;revert M X Z V G hy;refine eE an ?_;intro M X Z V G hy;clear an;refine C1 Pa (C1 Pa (cT (Aj (cS (C1 Pg (C1 (Pl U) (cT (Au (cS (C1 V1 (C1 Pa (cT (Dz (Aj (cS (C1 V1 (C1 Pa (cT (Dz (cS (C1 V1 (C1 Pa (cT (Dz (cS (C1 V1 (C1 Pa (cT (Dz (Al (C1 V1 (C1 Pa (cT (Dz (Ao (Ah (Ai (cS (C1 Pf (C1 (Pl U) (C1 Pi (BT [_,_,_,_] Ac rfl rfl rfl Z rfl rfl rfl (C1 Mv (cC rfl (HX.out _ _ _ _ Ae Ae) ?_))))))))))))))))))))))))))))))))))))))))))));rintro _ bb ⟨⟨⟩,ao⟩;revert U M X Z V G hy;refine eE ao ?_;intro U M X Z V G hy;clear ao;refine C1 Mv (C1 Px (C1 Px (C1 Pa (C1 Pa (cT (Aj (cS (C1 Mv (C1 V2 (cT (BS rfl (λap=>?_) (λap=>?_))))))))))));refine cS (C1 Mv (C1 Pa (C1 Pa (cT (AR (As (Bc rfl rfl rfl ?_)))))));rotate_left;refine Ao (Ai (Aj (cS (C1 Pf (C1 (Pl U) (C1 Pz (C1 V1 (cT (NH (Ao (Ai (cS (C1 Pf (C1 (Pl U) (C1 Pi (C1 (YN V) (C1 Mv (cC rfl (HY.out _ _ _ _ Ae Ae) ?_))))))))))))))))));rintro _ az ⟨⟨⟩,ae⟩;revert U M X Z V G hy;refine eE ae ?_;intro U M X Z V G hy;clear ae;refine C1 Mv (C1 Px (C1 Px (C1 Pa (C1 Pa (cT (Aj (cS (C1 Mv (C1 V2 (cT (BS rfl (λaq=>?_) (λaq=>?_))))))))))))
    refine cS (C1 Mv (C1 Pa (C1 Pa (cT (AR (As (Bc rfl rfl rfl ?_)))))));rotate_left;refine Ao (Ai (cS (C1 Pg (C1 (Pl U) (C1 Mv (C1 Mv (cC rfl (TO _ _ _ _) ?_)))))));rintro _ a0 ⟨⟨⟩,rfl⟩;refine C1 Px (C1 Px (C1 Pa (C1 Pa (cT (AR (Bc rfl rfl rfl ?_))))));rotate_left
   . exact ⟨by rw [AH Ab],X⟩
   . exact ⟨by rw [At Ab,AH Ab],X⟩
   . exact ⟨by rw [At Ab,At Ab],X⟩
def OwnI (w:wD) (B:Nat) (v:Value) (xs:List Int):Prop:=Own w B 3 1 v xs.length (AZ xs)
def OwnI.ext {w w':wD} {B:Nat} {v:Value} {xs:List Int} (h:OwnI w B v xs) (x:Ext w w'):OwnI w' B v xs:=Own.ext h x
instance:LfE w w' (OwnI w B v xs) (OwnI w' B v xs):=⟨λx h=>Bk.OwnI.ext h x⟩
def OwnI.fr (h:OwnI w B v xs) (x:Fr S w w') (G:∀k,v.ownBlock=some k -> ¬S k):OwnI w' B v xs:=mu h x G
instance:LfF S w w' (OwnI w B v xs) (∀k,v.ownBlock=some k -> ¬S k) (OwnI w' B v xs):=⟨λx s h=>Bk.OwnI.fr h x s⟩
def OwnI.open (h:OwnI w B v xs):(v = .slice none 0 0/\xs=[]) \/ ∃g cap zs,v = .slice (some ⟨g,0,none⟩) xs.length cap/\B<=g/\TB w g (AZ xs++zs) 3/\xs.length+zs.length=cap/\cap<=maxLen:=by
 obtain ⟨-,⟨G,M⟩|⟨g,cap,cur,G,M,N,V,O,X,U⟩⟩:=h
 . exact gP ⟨G,List.length_eq_zero_iff.1 M⟩
 . refine gQ ⟨g,cap,cur.toList.drop xs.length,G,M,?_,?_,O⟩
   . unfold TB;rw [N,<-U,kh,iX]
   . simp only [kd,ju];omega
def OwnI.mk {g:Nat} (G:B<=g) (h:TB w g (AZ xs++zs) 3) (M:xs.length+zs.length<=maxLen):OwnI w B (.slice (some ⟨g,0,none⟩) xs.length (xs.length+zs.length)) xs:=by
 refine ⟨by simp [AZ],gQ ⟨g,_,(AZ xs++zs).toArray,rfl,G,h,Ab,M,by simp [AZ],?_⟩⟩;have e:xs.length*1=(AZ xs).length:=by simp [AZ]
 rw [e];simp
def OwnI.nil:OwnI w B (.slice none 0 0) []:=mR
def OwnI.shape (h:OwnI w B v xs):∃a c,v = .slice a xs.length c:=by
 rcases h.open with ⟨G,M⟩|⟨g,cap,zs,G,-⟩
 . exact ⟨none,0,by rw [G,M];rfl⟩
 . exact ⟨_,_,G⟩
def OwnI.at {w:wD} {B:Nat} {a:oA} {n c:Nat} {xs:List Int} (h:OwnI w B (.slice a n c) xs):IntsAt w xs a:=by
 rcases h.open with ⟨G,U⟩|⟨g,cap,zs,G,-,V,-⟩
 . exact gP (by rw [U];rfl)
 . simp only [iK] at G;obtain ⟨rfl,-⟩:=G;refine gQ ⟨g,0,rfl,trivial,λi v M=>?_⟩;have N:i<(AZ xs).length:=by
    rcases it i (AZ xs).length with O|O
    . exact O
    . rw [ic O] at M;cases M
   exact V.blk.row i v (by rw [gW N];exact M)
def OwnI.low (h:OwnI w B v xs) (M:∀k,v.ownBlock=some k->n<=k):OwnI w n v xs:=by
 obtain ⟨k1,N|⟨g,cap,cur,rfl,U,O⟩⟩:=h
 . exact ⟨k1,gP N⟩
 . exact ⟨k1,gQ ⟨g,cap,cur,rfl,M g rfl,O⟩⟩
def OwnI.lt (h:OwnI w B v xs) {k:Nat} (G:v.ownBlock=some k):B<=k/\k<w.heap.size:=Own.blk h G
def U8 (w:wD) (q:Nat):Ext w (w.drewN q):=by
 induction q with
 | zero=>exact Ne w
 | succ q h=>exact h.drew
def N7 (w:wD) (q:Nat):Ext w (Sort.ahead w q):=by
 induction q with
 | zero=>exact Ne w
 | succ q h=>exact h.drew
def Ed {e:TypeId} {b:Nat}:∀(us pre G post:lV) (w:wD),us.length=G.length->TB w b (pre++G++post) e->TB (w.setCells b pre.length us) b (pre++us++post) e
 | [],pre,G,post,w,M,h=>by
  obtain rfl:G=[]:=List.length_eq_zero_iff.1 M.symm;exact h
 | u::us,pre,[],post,w,M,h=>by simp at M
 | u::us,pre,m::G,post,w,M,h=>by
  have N:=TB.set (i:=pre.length) h u;have U:(pre++m::G++post).set pre.length u=(pre++[u])++G++post:=by simp
  rw [U] at N;have O:=Ed us (pre++[u]) G post _ (by simpa using M) N;rw [show pre++u::us++post=(pre++[u])++us++post by simp];rw [iq,jO] at O;exact O
def Ee (b:Nat):∀(us:lV) (o:Nat) (w:wD),Fr (· = b) w (w.setCells b o us)
 | [],o,w=>lZ _ w
 | u::us,o,w=>(Fr.setCell (S:=(· = b)) (lZ _ w) ⟨b,o,none⟩ u (gP rfl)).trans (Ee b us (o+1) _)
def U9 {b n:Nat} {e:TypeId} {ys:List Int} (h:TB w b (AZ xs++zs) e) (N:ys.length=xs.length):TB (Sort.putRow (iW .i64) w b 0 ys.toArray) b (AZ ys++zs) e/\Fr (· = b) w (Sort.putRow (iW .i64) w b 0 ys.toArray):=by
 refine ⟨?_,?_⟩
 . unfold TB at h ⊢;unfold Sort.putRow Sort.mapBlock;simp only [jN,if_true,h,jI];unfold Sort.onCells;simp only [gU,Obj.cells.injEq,and_true];apply lg;simp only [Sort.putCells,Array.toList_mapIdx];apply jG;intro i;simp only [List.getElem?_mapIdx,ii,true_and,iY,lk,jM];by_cases M:i<ys.length
   . have G:i<xs.length:=by omega
     rw [gW (by simpa [AZ] using G),gW (by simpa [AZ] using M)];simp [AZ,iJ,gN M,gN G,M]
   . rw [ik (by simp [AZ];omega),ik (by simp [AZ];omega)];simp only [AZ,kG,N];cases zs[i-xs.length]? with
     | none=>rfl
     | some v=>rw [jI,At Ab]
 . refine ⟨rfl,rfl,rfl,by simp [Sort.putRow,Sort.mapBlock],λk U O=>?_⟩;unfold Sort.putRow Sort.mapBlock;simp only [jN];rw [At (λe=>O e.symm)]
def CloneR (xs:List Int) (w:wD):Ending->wD->Prop:=λe w'=> ∃a c,e = .returned (.slice a xs.length c)/\OwnI w' w.heap.size (.slice a xs.length c) xs/\(∀k,(iD a xs.length c).ownBlock=some k->w.heap.size<=k/\k<w'.heap.size)/\Ext w w'
def CloneR.ret (h:CloneR xs w e w'):∃v,e = .returned v:=by
 obtain ⟨_,_,h,-⟩:=h;exact ⟨_,h⟩
def FC (xs:List Int) (hx:xs.length<=1000000) (a:oA) (c:Nat) (w:wD) (h:IntsAt w xs a):Calls prog 88 #[.slice a xs.length c] w (CloneR xs w):=by
 have key:∀(v:Value) (w':wD),w'.ownsRow w.heap.size 3 1 v xs.length (AZ xs)->Ext w w'->CloneR xs w (.returned v) w':=λv w' G M=>by
  have G:OwnI w' w.heap.size v xs:=G;obtain ⟨U,V,rfl⟩:=G.shape;exact ⟨U,V,rfl,G,λk X=>G.lt X,M⟩
 cases a with
 | none=>
  obtain rfl:xs=[]:=by
   rcases h with h|⟨b,o,h,-⟩
   . simpa [AZ] using h
   . cases h
  have N:=Any.slices_Clone_int_nil Tryz.lays2n15 0 c w;refine i7 N ?_;rintro e w' ⟨rfl,rfl⟩;exact key _ _ mR (Ne _)
 | some p=>
  by_cases O:xs=[]
  . subst O;have N:=Any.slices_Clone_int_zero Tryz.lays2n15 p c w;refine i7 N ?_;rintro e w' ⟨v,rfl,G,-,M⟩;exact key _ _ G M
  . obtain ⟨b,o,Y,Z⟩:=h.get O;cases Y;have N:=Any.slices_Clone_int Tryz.lays2n15 b o xs.length c xs w (ip _) Ab (λj hj=>by
     have:=Z.at (i:=j) (v:=.int .i64 (xs.getD j 0)) (by simp [AZ,iJ,gN hj,gT]);exact this)
    refine i7 N ?_;rintro e w' ⟨v,rfl,G,-,M⟩;rw [im] at G;exact key _ _ G M
def PutR (v:Value) (ys:List Int) (B:Nat) (w:wD):Ending->wD->Prop:=λe w'=> ∃a c,e = .returned (.slice a ys.length c)/\OwnI w' B (.slice a ys.length c) ys/\(∀k,(iD a ys.length c).ownBlock=some k->v.ownBlock=some k\/w.heap.size<=k)/\Fr (λk=>v.ownBlock=some k) w w'
def PutR.ret {ys:List Int} (h:PutR v ys B w e w'):∃u,e = .returned u:=by
 obtain ⟨_,_,h,-⟩:=h;exact ⟨_,h⟩
def Mn {g:Nat} {vs:lV} {e:TypeId} (h:TB w g vs e):Row w ⟨g,0,none⟩ vs:=h.blk.row
def QB (xs:List Int):∀v∈AZ xs,v.oneCell'=true:=λv h=>by
 obtain ⟨x,-,rfl⟩:=List.mem_map.1 h;rfl
def Hm (xs ys:List Int):AZ (xs++ys)=AZ xs++AZ ys:=by simp [AZ]
def FD:maxLen=9223372036854775807:=rfl
def Mo (xs:List Int) (hx:xs.length<=1000000) (B:Nat) (v:Value) (x:Int) (V:Nat) (w:wD) (hB:B<=w.heap.size) (h:OwnI w B v xs) (hv:Row w ⟨V,0,none⟩ [.int .i64 x]) :
 Calls prog 247 #[v,.int .i64 xs.length,.slice (some ⟨V,0,none⟩) 1 1] w (PutR v (xs++[x]) B w):=by
 have Z:∀(j:Nat) (u:Value),[iW .i64 x][j]? = some u->w.cell? ⟨V,0+j,none⟩=some u:=λj u M=>by
  have:=hv.at (i:=j) M;simpa using this
 have grow:∀(a:oA) (c:Nat),v = .slice a xs.length c->c<xs.length+1->xs.length<=c->(a=none->xs.length=0)->(∀q,a=some q -> ∀(j:Nat) (u:Value),(AZ xs)[j]? = some u->w.cell? (q.add j)=some u) ->
  Calls prog 247 #[v,.int .i64 xs.length,.slice (some ⟨V,0,none⟩) 1 1] w (PutR v (xs++[x]) B w):=λa c ab h1 h2 X h4=>by
  subst ab;have hc:=Any2.slices_Insert_int_end_grow Tryz.lays2n21 a xs.length c V 0 1 1 (AZ xs) [.int .i64 x] w B7 h2 h1 Ab (by simp [AZ]) rfl X h4 Z (by simp [Value.oneCell']);refine i7 hc ?_;rintro e w' ⟨rfl,rfl⟩;change PutR _ _ _ _ (.returned (.slice (some ⟨w.heap.size,0,none⟩) (xs.length+1) (grownCap w (xs.length+1) c 3))) (w.drew.alloc (.cells ((AZ xs++[iW .i64 x]).toArray++i9 (iW .i64 0).cells (grownCap w (xs.length+1) c 3-(xs.length+1))) 3));have g1:=grownCap_ge w (xs.length+1) c 3;have g2:=grownCap_le_maxLen w (xs.length+1) c 3 (by rw [FD];omega);generalize grownCap w (xs.length+1) c 3=G at *;have ez:(i9 (iW .i64 0).cells (G-(xs.length+1))).toList.length=G-(xs.length+1):=by
   rw [ju,size_zeroCells];show (G-(xs.length+1))*1=_;omega
  have hT:TB (w.drew.alloc (.cells ((AZ xs++[iW .i64 x]).toArray++i9 (iW .i64 0).cells (G-(xs.length+1))) 3)) w.heap.size (AZ (xs++[x])++(i9 (iW .i64 0).cells (G-(xs.length+1))).toList) 3:=by
   have:=JF w.drew (AZ (xs++[x])++(i9 (iW .i64 0).cells (G-(xs.length+1))).toList) 3;rw [Hm];rw [Hm] at this;have e1:((AZ xs++[iW .i64 x]).toArray++i9 (iW .i64 0).cells (G-(xs.length+1)))=(AZ xs++AZ [x]++(i9 (iW .i64 0).cells (G-(xs.length+1))).toList).toArray:=by
    apply lg;simp [AZ]
   rw [e1];exact this
  have hO:=OwnI.mk (B:=B) hB hT (by rw [ez,iq,jO];omega);have N:(xs++[x]).length=xs.length+1:=by simp
  rw [ez,N,show xs.length+1+(G-(xs.length+1))=G by omega] at hO;refine ⟨some ⟨w.heap.size,0,none⟩,G,by rw [N],by rw [N];exact hO,λk hk=>?_,.of_ext ((Ne w).drew.alloc _)⟩;simp only [jB,gU] at hk;exact gQ Ab
 rcases h.open with ⟨rfl,rfl⟩|⟨g,cap,zs,rfl,h2,X,h4,h5⟩
 . exact grow none 0 rfl AK AK (λ_=>rfl) (λq hq=>by cases hq)
 . have hr:∀q,some (⟨g,0,none⟩:Addr)=some q -> ∀(j:Nat) (u:Value),(AZ xs)[j]? = some u->w.cell? (q.add j)=some u:=λq hq j u M=>by
    cases hq;have ac:j<(AZ xs).length:=by
     rcases it j (AZ xs).length with h'|h'
     . exact h'
     . rw [ic h'] at M;cases M
    exact Mn X j u (by rw [gW ac];exact M)
   by_cases hc:cap<xs.length+1
   . exact grow _ cap rfl hc Ab (λh=>by cases h) hr
   . obtain ⟨z,Y,rfl⟩:∃z Y,zs=z::Y:=by
      cases zs with
      | nil=>simp at h4;omega
      | cons z Y=>exact ⟨z,Y,rfl⟩
     have O:w.cell? ⟨g,0+xs.length,none⟩=some z:=(Mn X).at (i:=xs.length) (by rw [ik (by simp [AZ])];simp [AZ]);have ad:∀j,j<1->(w.cell? ⟨g,0+xs.length+j,none⟩).isSome=true:=λj M=>by
      obtain rfl:j=0:=by omega
      rw [jT,O];rfl
     have U:xs.length+1<=cap:=by omega
     have aa:cap<=9223372036854775807:=by rw [FD] at h5;exact h5
     have ae:∀j,j<1->w.frozen? ⟨g,0+xs.length+j,none⟩=false:=λj M=>X.blk.free
     have af:=Any2.slices_Insert_int_end_room Tryz.lays2n21 g 0 xs.length cap V 0 1 1 [.int .i64 x] w B7 U aa rfl ad ae Z (by simp [Value.oneCell']);refine i7 af ?_;rintro e w' ⟨rfl,rfl⟩;have e0:0+xs.length=(AZ xs).length:=by simp [AZ]
     rw [e0];have hT:=Ed [.int .i64 x] (AZ xs) [z] Y w rfl (by simpa using X);have hF:=Ee g [.int .i64 x] (AZ xs).length w;rw [show AZ xs++[iW .i64 x]=AZ (xs++[x]) by simp [AZ]] at hT;have hO:=OwnI.mk (B:=B) h2 hT (by simp at h4 ⊢;omega);have N:(xs++[x]).length=xs.length+1:=by simp
     rw [N,show xs.length+1+Y.length=cap by simp at h4;omega] at hO;exact ⟨some ⟨g,0,none⟩,cap,by rw [N],by rw [N];exact hO,λk hk=>gP hk,hF.weaken λb hb=>by subst hb;rfl⟩
def Pj {g:Nat} {vs:lV} {e:TypeId} (h:TB w g vs e):TB w.drew g vs e:=h.ext (Ne w).drew
def N8 {b:Nat} {vs:lV} (h:Blk w b vs):(∃t,w.shape? b=some (t,vs.length)) /\ ∀o,w.frozen? ⟨b,o,none⟩=false:=by
 obtain ⟨ty,h⟩:=h;refine ⟨⟨ty,by unfold World.shape?;rw [h];simp⟩,λo=>?_⟩;unfold World.frozen?;rw [h];simp
def QC (n:Nat):(i9 (iW .i64 0).cells n).toList.length=n:=by
 rw [ju,size_zeroCells];show n*1=_;omega
def Sy (xs:List Int) (hx:xs.length<=1000000) (Y:xs≠[]) (B:Nat) (v:Value) (x:Int) (V:Nat) (w:wD) (hB:B<=w.heap.size) (h:OwnI w B v xs) (hv:Blk w V [.int .i64 x]) (ae:v.ownBlock≠some V) :
 Calls prog 247 #[v,.int .i64 0,.slice (some ⟨V,0,none⟩) 1 1] w (PutR v (x::xs) B w):=by
 have aa:∀(j:Nat) (u:Value),[iW .i64 x][j]? = some u->w.cell? ⟨V,0+j,none⟩=some u:=λj u X=>by
  have:=hv.row.at (i:=j) X;simpa using this
 have hn:0<xs.length:=by
  cases xs with
  | nil=>exact absurd rfl Y
  | cons y ys=>simp
 have ab:∀u∈[iW .i64 x],u.oneCell'=true:=by simp [Value.oneCell']
 have O:(x::xs).length=xs.length+1:=by simp
 rcases h.open with ⟨rfl,rfl⟩|⟨g,cap,zs,rfl,h2,h3,h4,h5⟩
 . exact absurd rfl Y
 have ac:∀(j:Nat) (u:Value),(AZ xs)[j]? = some u->w.cell? ⟨g,0+j,none⟩=some u:=λj u X=>by
  have af:j<(AZ xs).length:=by
   rcases it j (AZ xs).length with h'|h'
   . exact h'
   . rw [ic h'] at X;cases X
  exact (Mn h3).at (i:=j) (by rw [gW af];exact X)
 by_cases hc:cap<xs.length+1
 . have U:=Any2.slices_Insert_int_grow Tryz.lays2n21 g 0 xs.length cap 0 V 0 1 1 (AZ xs) [.int .i64 x] w hn B7 Ab hc Ab (by simp [AZ]) rfl ac aa (QB xs) ab;refine i7 U ?_;rintro e w' ⟨rfl,rfl⟩;change PutR _ _ _ _ (.returned (.slice (some ⟨w.heap.size,0,none⟩) (xs.length+1) (grownCap w (xs.length+1) cap 3))) ((((w.alloc (.cells (((AZ xs).take 0).toArray++i9 (iW .i64 0).cells (xs.length+1-0)++i9 (iW .i64 0).cells (grownCap w (xs.length+1) cap 3-(xs.length+1))) 3)).drew.setCells w.heap.size 0 [iW .i64 x]).drew).setCells w.heap.size (0+1) ((AZ xs).drop 0));have g1:=grownCap_ge w (xs.length+1) cap 3;have g2:=grownCap_le_maxLen w (xs.length+1) cap 3 (by rw [FD];omega);generalize grownCap w (xs.length+1) cap 3=N at *;have z1:=QC (xs.length+1-0);have z2:=QC (N-(xs.length+1));have ag:=JF w ((i9 (iW .i64 0).cells (xs.length+1-0)).toList++(i9 (iW .i64 0).cells (N-(xs.length+1))).toList) 3;have ea:(((AZ xs).take 0).toArray++i9 (iW .i64 0).cells (xs.length+1-0)++i9 (iW .i64 0).cells (N-(xs.length+1)))=((i9 (iW .i64 0).cells (xs.length+1-0)).toList++(i9 (iW .i64 0).cells (N-(xs.length+1))).toList).toArray:=by
    apply lg;simp
   rw [ea];generalize (i9 (iW .i64 0).cells (xs.length+1-0)).toList=Z1 at *;generalize (i9 (iW .i64 0).cells (N-(xs.length+1))).toList=Z2 at *;obtain ⟨z,Z,rfl⟩:∃z Z,Z1=z::Z:=by
    cases Z1 with
    | nil=>simp at z1
    | cons z Z=>exact ⟨z,Z,rfl⟩
   have t1:=Ed [.int .i64 x] [] [z] (Z++Z2) _ rfl (Pj (by simpa using ag));have t2:=Ed (AZ xs) [.int .i64 x] Z Z2 _ (by simp [AZ] at z1 ⊢;omega) (Pj (by simpa using t1));rw [show [iW .i64 x]++AZ xs=AZ (x::xs) by simp [AZ]] at t2;have hO:=OwnI.mk (B:=B) hB t2 (by rw [z2,O];omega);rw [z2,O,show xs.length+1+(N-(xs.length+1))=N by omega] at hO;have hF:Fr (λk=>k=w.heap.size) w ((((w.alloc (.cells (z::Z++Z2).toArray 3)).drew.setCells w.heap.size 0 [iW .i64 x]).drew).setCells w.heap.size (0+1) (AZ xs)):=
    (lX ((Ne w).alloc _).drew).trans ((Ee _ _ _ _).trans ((lX (Ne _).drew).trans (Ee _ _ _ _)))
   refine ⟨some ⟨w.heap.size,0,none⟩,N,by rw [O],by rw [O];exact hO,λk hk=>?_,?_⟩
   . simp only [jB,gU] at hk;exact gQ Ab
   . have hE:=(Ne w).fr hF (λk hk=>by omega);exact .of_ext hE
 . obtain ⟨z,M,rfl⟩:∃z M,zs=z::M:=by
    cases zs with
    | nil=>simp at h4;omega
    | cons z M=>exact ⟨z,M,rfl⟩
   obtain ⟨⟨tA,ah⟩,ad⟩:=N8 hv;obtain ⟨⟨tB,ai⟩,aj⟩:=N8 h3.blk;have ak:∀j,j<xs.length+1->(w.cell? ⟨g,0+j,none⟩).isSome=true:=λj X=>by
    have hl:j<(AZ xs++z::M).length:=by simp [AZ];omega
    rw [(Mn h3).at (i:=j) (gN hl)];rfl
   have U:=Any2.slices_Insert_int_shift Tryz.lays2n21 g 0 xs.length cap 0 V 0 1 1 (AZ xs) [.int .i64 x] w hn B7 Ab (by rw [FD] at h5;exact h5) (λe=>ae (by rw [e];rfl)) (by simp [AZ]) rfl ac ak (λj _=>aj _) aa (QB xs) ab
    tA tB 1 (AZ xs++z::M).length ah ai AK (ad _) (ad _)
   refine i7 U ?_;rintro e w' ⟨rfl,rfl⟩;change PutR _ _ _ _ (.returned (.slice (some ⟨g,0,none⟩) (xs.length+1) cap)) ((w.drew.setCells g 1 (AZ xs)).setCells g 0 [iW .i64 x]);obtain ⟨a,G,hm,al⟩:∃a G,AZ xs++[z]=a::G/\G.length=(AZ xs).length:=by
    cases hq:AZ xs++[z] with
    | nil=>simp at hq
    | cons a G=>
     refine ⟨a,G,rfl,?_⟩;have h8:=congrArg List.length hq;rw [iq,jO,gV] at h8;omega
   have t0:TB w.drew g ([a]++G++M) 3:=by
    have:=Pj h3;rw [show AZ xs++z::M=(AZ xs++[z])++M by simp,hm] at this;simpa using this
   have t1:=Ed (AZ xs) [a] G M _ al.symm t0;have t2:=Ed [.int .i64 x] [] [a] (AZ xs++M) _ rfl (by simpa using t1);rw [show []++[iW .i64 x]++(AZ xs++M)=AZ (x::xs)++M by simp [AZ]] at t2;have hO:=OwnI.mk (B:=B) h2 t2 (by simp at h4 ⊢;omega);rw [O,show xs.length+1+M.length=cap by simp at h4;omega] at hO;have hF:Fr (λk=>k=g) w ((w.drew.setCells g 1 (AZ xs)).setCells g 0 [iW .i64 x]):=(lX (Ne w).drew).trans ((Ee _ _ _ _).trans (Ee _ _ _ _));exact ⟨some ⟨g,0,none⟩,cap,by rw [O],by rw [O];exact hO,λk hk=>gP hk,hF.weaken λb hb=>by subst hb;rfl⟩
def N9 (xs:List Int) (hx:xs.length<=1000000) (i:Nat) (M:i<xs.length) (B:Nat) (v:Value) (w:wD) (h:OwnI w B v xs) :
 Calls prog 246 #[v,.int .i64 i,.int .i64 ((i:Int)+1)] w (PutR v (xs.eraseIdx i) B w):=by
 rcases h.open with ⟨rfl,rfl⟩|⟨g,cap,zs,rfl,Y,N,h4,U⟩
 . simp at M
 have Z:Sort.Holds (iW .i64) w g 0 xs.toArray:=λj G=>by
  have G:j<xs.length:=by simpa using G
  refine ⟨?_,N.blk.free⟩;have:=(Mn N).at (i:=j) (v:=.int .i64 xs[j]) (by rw [gW (by simpa [AZ] using G)];simp [AZ,gN G]);rw [this];simp [G]
 have O:=Any.slices_Delete_int Tryz.lays2n23 g 0 cap i (i+1) xs w Z Ab (by rw [FD] at U;exact U) Ab Ab;refine i7 O ?_;rintro e w' ⟨rfl,q,rfl⟩;have ee:xs.take i++xs.drop (i+1)++iL (i+1-i) 0=xs.eraseIdx i++[0]:=by
  rw [show i+1-i=1 by omega,List.eraseIdx_eq_take_drop_succ];simp
 rw [ee];have hl:(xs.eraseIdx i++[0]).length=xs.length:=by
  rw [iq,List.length_eraseIdx_of_lt M,jO];omega
 obtain ⟨V,f1⟩:=U9 (n:=0) (N.ext (N7 w q)) hl;rw [Hm,iI] at V;have e2:(xs.eraseIdx i).length=xs.length-(i+1-i):=by rw [List.length_eraseIdx_of_lt M];omega
 have X:=OwnI.mk (B:=B) Y V (by simp [AZ];omega);have e3:(xs.eraseIdx i).length+(AZ [0]++zs).length=cap:=by simp [AZ];omega
 rw [e3] at X;refine ⟨some ⟨g,0,none⟩,cap,by rw [e2],X,λk hk=>gP hk,?_⟩;exact ((lX (N7 w q)).trans f1).weaken λb hb=>by subst hb;rfl
def Mp (xs ys:List Int) (hx:xs.length<=1000000) (hy:ys.length<=1000000) (a N:oA) (c O:Nat) (w:wD) (h:IntsAt w xs a) (Z:IntsAt w ys N) :
 Calls prog 124 #[.slice a xs.length c,.slice N ys.length O] w λe w'=>e = .returned (.bool (decide (xs=ys)))/\Ext w w':=by
 by_cases G:xs=[]
 . subst G;have U:=Any.slices_Equal_int_empty Tryz.laysn111 a N c ys.length O w Ab;refine i7 U ?_;rintro e w' ⟨rfl,rfl⟩;refine ⟨?_,Ne _⟩;cases ys<;>simp
 . by_cases M:ys=[]
   . subst M;have X:=Ne w;have hn:(xs.length:Int)≠0:=by
      cases xs with
      | nil=>exact absurd rfl G
      | cons z r=>simp;omega
     have ed:decide (xs=([]:List Int))=false:=decide_eq_false G;rw [ed];refine Ad func124 ntmps124 rfl rfl (kR ?_);exact ⟨rfl,X⟩
   . obtain ⟨b,o,rfl,hr⟩:=h.get G;obtain ⟨b',o',rfl,V⟩:=Z.get M;have U:=Any.slices_Equal_int Tryz.laysn111 b o xs.length c b' o' ys.length O xs ys w (ip _) (ip _) Ab Ab (λj Y=>hr.at (i:=j) (v:=.int .i64 (xs.getD j 0)) (by simp [AZ,iJ,gN Y,gT]))
      (λj Y=>V.at (i:=j) (v:=.int .i64 (ys.getD j 0)) (by simp [AZ,iJ,gN Y,gT]))
     refine i7 U ?_;rintro e w' ⟨rfl,q,rfl⟩;rw [im,im];exact ⟨by rw [FT],U8 w q⟩
structure SV where
 cells:List (List Int)
 tin:List Int
 tout:List Int
def aQ (S:nP) (w:wD) (b o:Nat) (xs:List Int):Prop:= ∃a c,Row w ⟨b,o,none⟩ [.slice a xs.length c]/\Rows S w (AZ xs) a
def ICs (S:nP) (w:wD) (l:List (List Int)) (a:oA):Prop:=Arr S 1 (aQ S) w l a
abbrev SV.row (s:SV) (a:oA) (c:Nat) (ta:oA) (tc:Nat) (oa:oA) (oc:Nat):lV:=[.slice a s.cells.length c,.slice ta s.tin.length tc,.slice oa s.tout.length oc]
structure SV.sits (S:nP) (w:wD) (s:SV) (a ta oa:oA):Prop where
 cells:ICs S w s.cells a
 tin:Rows S w (AZ s.tin) ta
 tout:Rows S w (AZ s.tout) oa
section
variable {S' T:nP} {l:List (List Int)} {ta oa:oA} {s:SV}
def ICs.ext (h:ICs S w l a) (x:Ext w w'):ICs S w' l a:=h.mono aFh (λ_ _ _ _ _ ⟨a,c,h1,h2⟩=>⟨a,c,h1.ext x,h2.ext x⟩)
instance  : LfE w w' (ICs S w l a) (ICs S w' l a):=⟨λx h=>Bk.ICs.ext h x⟩
def ICs.fr (h:ICs S w l a) (x:Fr T w w') (G:∀b,S b -> ¬T b):ICs S w' l a:=h.mono aFh (λb _ _ _ M ⟨a,c,h1,h2⟩=>⟨a,c,h1.fr x (G b M),h2.fr x G⟩)
instance  : LfF T w w' (ICs S w l a) (∀b,S b -> ¬T b) (ICs S w' l a):=⟨λx s h=>Bk.ICs.fr h x s⟩
def ICs.wide (h:ICs S w l a) (G:∀b,S b->S' b):ICs S' w l a:=h.mono G (λ_ _ _ _ _ ⟨a,c,h1,h2⟩=>⟨a,c,h1,h2.wide G⟩)
def ICs.ltA (h:ICs S w l a):ICs (· < w.heap.size) w l a:=by
 rcases h with h|⟨b,o,N,V,M⟩
 . exact gP h
 . cases l with
   | nil=>exact gP rfl
   | cons v r=>
    refine gQ ⟨b,o,N,?_,λi x O=>?_⟩
    . obtain ⟨a,c,G,-⟩:=M 0 v rfl;exact Cs (mb G rfl)
    . obtain ⟨a,c,G,U⟩:=M i x O;exact ⟨a,c,G,U.ltA⟩
def ICs.get (h:ICs S w l a) (G:l≠[]):∃b o,a=some ⟨b,o,none⟩/\S b /\ ∀i x,l[i]? = some x->aQ S w b (o+i*1) x:=by
 rcases h with h|⟨b,o,M,N,O⟩
 . exact absurd h G
 . exact ⟨b,o,M,N,λi v U=>O i v U⟩
def SV.sits.ext (h:s.sits S w a ta oa) (x:Ext w w'):s.sits S w' a ta oa:=⟨h.cells.ext x,h.tin.ext x,h.tout.ext x⟩
instance  : LfE w w' (s.sits S w a ta oa) (s.sits S w' a ta oa):=⟨λx h=>Bk.SV.sits.ext h x⟩
def SV.sits.fr (h:s.sits S w a ta oa) (x:Fr T w w') (G:∀b,S b -> ¬T b):s.sits S w' a ta oa:=⟨h.cells.fr x G,h.tin.fr x G,h.tout.fr x G⟩
instance  : LfF T w w' (s.sits S w a ta oa) (∀b,S b -> ¬T b) (s.sits S w' a ta oa):=⟨λx s h=>Bk.SV.sits.fr h x s⟩
def SV.sits.wide (h:s.sits S w a ta oa) (G:∀b,S b->S' b):s.sits S' w a ta oa:=⟨h.cells.wide G,h.tin.wide G,h.tout.wide G⟩
def SV.sits.ltA (h:s.sits S w a ta oa):s.sits (· < w.heap.size) w a ta oa:=⟨h.cells.ltA,h.tin.ltA,h.tout.ltA⟩
end
def IG (v:VD):Prop:=((v.kind=1\/v.kind=3)/\v.len=0)\/(v.kind=2/\1<=v.len/\v.len<=16)
def C3 (l:List VD):Prop:=l.length<=32 /\ ∀v∈l,IG v
def CT (v:VD):Int:=if v.kind=1 then 1 else v.len
def Mq (v:VD) (xs:List Int):Prop:=if v.kind=3 then xs.length<=1000 else (xs.length:Int)=CT v
def FitsP (l:List VD) (s:SV):Prop:=C3 l/\s.cells.length=l.length/\s.tin.length<=4096/\s.tout.length<=4096 /\ ∀(i:Nat) (v:VD) (xs:List Int),l[i]? = some v->s.cells[i]? = some xs->Mq v xs
def Pk (l:List VD) (hl:l.length<=1000000) (S:nP) (a:oA) (c:Nat) (w:wD) (N:VDs S w l a) :
 Calls prog 152 #[.slice a l.length c] w λe w'=> ∃q,e = .returned (.bool q)/\(q=true↔C3 l)/\Ext w w':=by
 have X:=Ne w;refine Ad func152 ntmps152 rfl rfl ?_;by_cases V:l.length<=32
 . refine cS (C1 Pa (cT (Aj (cS (C1 Mv (C1 Pz (C1 V5 (cT (Dz (Ao (Ai ?_)))))))))));refine Aj (cS (C1 Mv (C1 Pz (C1 Mv (cT ?_)))));refine Au ?_;refine AQ (ι:=Nat) (λj=>[(2,.bool false),(8,.slice a l.length c),(9,.int .i64 l.length),(10,.int .i64 j)])
    (λj w'=>j<=l.length/\(∀v∈l.take j,IG v)/\VDs S w' l a/\Ext w w') (λj=>l.length-j) 0 sB ⟨ii _,AK,N,X⟩ ?_
   rintro j w1 ⟨hj,O,N,X⟩;by_cases U:j<l.length
   . obtain ⟨kb,ko,rfl,kS,hk⟩:=mw N Ab;have rx:=hk j _ (gN U);have G:¬IG l[j] -> ¬C3 l:=λh h2=>h (h2.2 _ (ig U))
     have M:IG l[j] -> ∀v∈l.take (j+1),IG v:=λh v hv=>by
      rw [gS U,i6,iu] at hv;rcases hv with hv|rfl
      . exact O v hv
      . exact h
     generalize l[j]=x at *;obtain ⟨xn,xk,xl⟩:=x;replace rx:Row w1 ⟨kb,ko+j*3,none⟩ [str xn,.int .u8 xk,.int .i64 xl]:=rx;simp only [IG] at G M
     focus
      refine eK ?_;refine xA [_,_,_] ?_;intro ah ai ae;refine eI [_,_,_] ae ?_;intro aj ak af _ _;revert X N;refine eE af ?_;intro X N;refine eK ?_;refine Ay rfl (λag=>?_) (λag=>?_);refine eK ?_;refine BS rfl (λY=>?_) (λY=>?_);refine kR ?_;rotate_left;refine Ao (Ah (Ah (Ai (Al (C1 V7 (C1 Mv (Ak ?_)))))));rotate_left;refine eK ?_;refine Ay rfl (λZ=>?_) (λZ=>?_);refine eK ?_;refine BS rfl (λaa=>?_) (λaa=>?_);refine kR ?_;rotate_left;refine Ao (Ah (Ah (Ai (Al (C1 V7 (C1 Mv (Ak ?_)))))));rotate_left;refine eK ?_;refine Ay rfl (λab=>?_) (λab=>?_);refine eK ?_;refine B0 rfl rfl rfl (λac=>?_) (λac=>?_);refine kR ?_;rotate_left;refine eK ?_;refine Ay rfl (λad=>?_) (λad=>?_);refine kR ?_;rotate_left;refine Ao (Ah (Ah (Ai (Al (C1 V7 (C1 Mv (Ak ?_)))))));rotate_left;refine kR ?_;rotate_left
     . exact ⟨false,rfl,⟨λh=>(by cases h),λh=>absurd h (G Ab)⟩,X⟩
     . exact AA (j+1) sB ⟨Ab,M Ab,N,X⟩ Ab
     . exact ⟨false,rfl,⟨λh=>(by cases h),λh=>absurd h (G Ab)⟩,X⟩
     . exact AA (j+1) sB ⟨Ab,M Ab,N,X⟩ Ab
     . exact ⟨false,rfl,⟨λh=>(by cases h),λh=>absurd h (G Ab)⟩,X⟩
     . exact ⟨false,rfl,⟨λh=>(by cases h),λh=>absurd h (G Ab)⟩,X⟩
     . exact AA (j+1) sB ⟨Ab,M Ab,N,X⟩ Ab
     . exact ⟨false,rfl,⟨λh=>(by cases h),λh=>absurd h (G Ab)⟩,X⟩
   . obtain rfl:j=l.length:=by omega
     rw [im] at O;refine kR ?_;exact ⟨true,rfl,⟨λ_=>⟨V,O⟩,λ_=>rfl⟩,X⟩
 . refine kR ?_;exact ⟨false,rfl,⟨λh=>(by cases h),λh=>absurd h.1 V⟩,X⟩
def TU (v:VD) (w:wD):Calls prog 153 #[v.val] w λe w'=>e = .returned (.int .i64 (CT v))/\Ext w w':=by
 have X:=Ne w;obtain ⟨O,G,U⟩:=v;unfold CT;by_cases M:G=1
 . subst M;refine Ad func153 ntmps153 rfl rfl (cS (Du [_,_,_] rfl rfl rfl ?_));intro b1 w2 N;have V:=N.blk;dsimp only at V;have Y:=N.ext;have X:=X.ext Y;refine kR ?_;exact ⟨rfl,X⟩
 . change Calls prog _ #[.agg #[str O,.int .u8 G,.int .i64 U]] w _;simp only [At M];refine Ad func153 ntmps153 rfl rfl (cS (eB [_,_,_] ?_));intro Z aa ab h _ _;have X:=X.ext h;refine kR ?_;exact ⟨rfl,X⟩
def bU (l:List VD) (hl:l.length<=1000000) (s:SV) (S:nP) (a ca ta oa:oA) (c cc tc oc:Nat) (w:wD) (hn:s.cells.length<=1000000) (G:VDs S w l a) (hv:s.sits S w ca ta oa) :
 Calls prog 156 #[.slice a l.length c,.agg (s.row ca cc ta tc oa oc).toArray] w λe w'=> ∃q,e = .returned (.bool q)/\(q=true↔FitsP l s)/\Ext w w':=by
 have X:=Ne w;replace G:VDs (· < w.heap.size) w l a:=G.lt2.wide λ_ h=>h.2
 have hv:=hv.ltA;have HV:=gO (λw1 h=>Pk l hl (· < w.heap.size) a c w1 h);obtain ⟨cells,tin,tout⟩:=s;obtain ⟨M,-,-⟩:=hv;simp only at M hn;change Calls prog _ #[_,.agg #[.slice ca cells.length cc,.slice ta tin.length tc,.slice oa tout.length oc]] w _;have hf:¬FitsP l ⟨cells,tin,tout⟩ -> ∀w',Ext w w' -> ∃q,Ending.returned (.bool false) = .returned (.bool q)/\(q=true↔FitsP l ⟨cells,tin,tout⟩)/\Ext w w':=λh w' x=>⟨false,rfl,⟨λh=>(by cases h),λU=>absurd U h⟩,x⟩
 by_cases e1:C3 l
 . have V:Hid (∀w1,VDs (· < w.heap.size) w1 l a->Calls prog 152 #[.slice a l.length c] w1 λe w'=>e = .returned (.bool true)/\Ext w1 w'):=gO λw1 h=>(HV.out w1 h).mono λe w' ⟨q,h1,U,h3⟩=>⟨by rw [h1,U.2 e1],h3⟩
   clear HV;by_cases e2:cells.length=l.length
   . by_cases e3:tin.length<=4096
     . by_cases e4:tout.length<=4096
       . refine Ad func156 ntmps156 rfl rfl ?_;refine cS (eB [_,_,_] ?_);intro b1 w2 N x5 p6 z7;revert X G M;refine eE x5 ?_;intro X G M;refine kC (V.out _ Ae) ?_;rintro _ w9 ⟨⟨⟩,x8⟩;revert N X G M;refine eY x8 ?_;intro bc N X G M;refine C1 Pt (C1 Mv (Bn rfl rfl rfl (rfl) (C1 Pg (Bn rfl rfl rfl (rfl) (C1 (Pl N) (Bn rfl rfl rfl (rfl) (C1 Pz (Bn rfl rfl rfl (rfl) (C1 Mv (Bn rfl rfl rfl (rfl) (C1 Pz ?_)))))))))));refine Bn rfl rfl rfl (rfl) (C1 V2 (C1 (BR rfl rfl rfl) (C1 Mv (EA (C1 Pf (EA (C1 (Pl N) (EA (C1 Pz (EA (C1 V5 ?_)))))))))));refine C1 NY (C1 Mv (EA (C1 Pf (EA (C1 (Pl N) (EA (C1 Pz (EA (C1 V5 (C1 NY (cT ?_)))))))))));refine Dz (Ao (Ai (Aj (cS (C1 Mv (C1 Pz (C1 Mv (cT ?_))))))));refine Au ?_;refine AQ (ι:=Nat) (λj=>[(3,pt b1),(4,.bool false),(30,.slice a l.length c),(31,.int .i64 l.length),(32,.int .i64 j)])
          (λj w'=>j<=l.length/\(∀(i:Nat) (v:VD) (xs:List Int),i<j->l[i]? = some v->cells[i]? = some xs->Mq v xs)/\Blk w' b1 [.slice ca cells.length cc,.slice ta tin.length tc,.slice oa tout.length oc]/\VDs (· < w.heap.size) w' l a/\ICs (· < w.heap.size) w' cells ca/\Ext w w'/\b1+1<=w'.heap.size) (λj=>l.length-j) 0 sB ⟨ii _,λi v xs h=>by omega,N,G,M,X,Ab⟩ ?_
         clear N G M X;rintro j w1 ⟨hj,ac,N,G,M,X,hz⟩;by_cases ad:j<l.length
         . obtain ⟨kb,ko,rfl,kS,hk⟩:=mw G Ab;obtain ⟨db,bd,rfl,dS,hd⟩:=M.get (by intro e;rw [e] at e2;simp at e2;omega);have rx:=hk j _ (gN ad);obtain ⟨xa,xc,ry,-⟩:=hd j _ (gN Ab);have Y:¬Mq l[j] cells[j] -> ¬FitsP l ⟨cells,tin,tout⟩:=λh U=>h (U.2.2.2.2 j _ _ (gN ad) (gN (show j<cells.length by omega)))
           have Z:Mq l[j] cells[j] -> ∀(i:Nat) (v:VD) (xs:List Int),i<j+1->l[i]? = some v->cells[i]? = some xs->Mq v xs:=λh i v xs hi h1 U=>by
            by_cases e:i=j
            . subst e;rw [gN ad] at h1;rw [gN Ab] at U;rw [<-gZ h1,<-gZ U];exact h
            . exact ac i v xs Ab h1 U
           have HX:=gO (λw1=>TU l[j] w1);clear hk hd ac;generalize l[j]=x at *;generalize cells[j]=xs at *;obtain ⟨xn,xk,xl⟩:=x;replace rx:Row w1 ⟨kb,ko+j*3,none⟩ [str xn,.int .u8 xk,.int .i64 xl]:=rx;unfold VD.val at HX;unfold Mq at Y Z;dsimp only at Y Z HX;by_cases ae:xk=3
           . rw [AH ae] at Y Z
             focus
              refine eK ?_;refine eA [_,_,_] ?_;intro be bf ar au bg bh;revert X G N M ry;refine eE au ?_;intro X G N M ry;refine C1 Pa (eS [_,_,_] ar ?_);intro bi a5 af a6;revert X G N M ry;refine eF af ?_;intro X G N M ry;refine eK ?_;refine Ay rfl (λag=>?_) (λag=>?_);refine kR ?_;rotate_left;refine Ao (Ah (Ai (Al (C1 V7 (C1 Mv (Ak ?_))))));rotate_left
             . exact hf (Y Ab) _ X
             . exact AA (j+1) sB ⟨Ab,Z Ab,N,G,M,X,Ab⟩ Ab
           . rw [At ae] at Y Z
             focus
              refine eK ?_;refine eA [_,_,_] ?_;intro bj bk av aw bl bm;revert X G N M ry;refine eE aw ?_;intro X G N M ry;refine C1 Pa (eS [_,_,_] av ?_);intro ah ai aj a7;revert X G N M ry;refine eF aj ?_;intro X G N M ry;refine eK ?_;refine Aq (λwz=>Ext ah wz) 8 (.pure 0 (.pure 1 (.pure 2 (.pure 3 (.pure 4 (.pure 5 (.pure 6 (.fork 7 .tail .none)))))))) mixed AU (Aa (Af (Aa (Aa (Af (Aa Ag)))))) ?_;intro ak ab _;have O:(λwz=>Ext ah wz) ak:=ab;simp only at O;have aa:=ai;have a8:=N;have al:=ry;revert X G N M;refine eY ab ?_;intro a9 X G N M;refine ⟨O,?_⟩;refine eT ?_;refine Tq rfl (Ap Ac rfl rfl rfl (λwz hz=>mb (l5 al hz) rfl)) (Tq rfl Pz (Tq rfl (xL [_,_,_] (λwz hz=>(l9 aa hz))) ?_));refine tC rfl rfl (HX.out _) ?_;rintro _ ba ⟨⟨⟩,am⟩;revert O X G N M;refine eY am ?_;intro bb O X G N M;refine ⟨O,?_⟩;refine Ar rfl ?_;refine eK ?_;refine BS rfl (λan=>?_) (λan=>?_);refine kR ?_;rotate_left;refine Ao (Ah (Ai (Al (C1 V7 (C1 Mv (Ak ?_))))));rotate_left
             . exact hf (Y Ab) _ X
             . exact AA (j+1) sB ⟨Ab,Z Ab,N,G,M,X,Ab⟩ Ab
         . obtain rfl:j=l.length:=by omega
           refine kR ?_;exact ⟨true,rfl,⟨λ_=>⟨e1,e2,e3,e4,λi v xs h1 U=>ac i v xs (by have:=List.getElem?_eq_some_iff.1 h1;exact this.1) h1 U⟩,λ_=>rfl⟩,X⟩
       . refine Ad func156 ntmps156 rfl rfl ?_;refine cS (eB [_,_,_] ?_);intro bn bo ao ax _ _;revert X G;refine eE ax ?_;intro X G;refine kC (V.out _ Ae) ?_;rintro _ bp ⟨⟨⟩,ay⟩;revert ao X;refine eE ay ?_;intro ao X;refine kR ?_;exact hf (λh=>e4 h.2.2.2.1) _ X
     . refine Ad func156 ntmps156 rfl rfl ?_;refine cS (eB [_,_,_] ?_);intro bq br ap az _ _;revert X G;refine eE az ?_;intro X G;refine kC (V.out _ Ae) ?_;rintro _ bs ⟨⟨⟩,a0⟩;revert ap X;refine eE a0 ?_;intro ap X;refine kR ?_;exact hf (λh=>e3 h.2.2.1) _ X
   . refine Ad func156 ntmps156 rfl rfl ?_;refine cS (eB [_,_,_] ?_);intro bt bu aq a1 _ _;revert X G;refine eE a1 ?_;intro X G;refine kC (V.out _ Ae) ?_;rintro _ bv ⟨⟨⟩,a2⟩;revert aq X;refine eE a2 ?_;intro aq X;refine kR ?_;exact hf (λh=>e2 h.2.1) _ X
 . have V:Hid (∀w1,VDs (· < w.heap.size) w1 l a->Calls prog 152 #[.slice a l.length c] w1 λe w'=>e = .returned (.bool false)/\Ext w1 w'):=gO λw1 h=>(HV.out w1 h).mono λe w' ⟨q,h1,U,h3⟩=>⟨by rw [h1,show q=false by cases q with|false=>rfl|true=>exact absurd (U.1 rfl) e1],h3⟩
   clear HV;refine Ad func156 ntmps156 rfl rfl ?_;refine cS (eB [_,_,_] ?_);intro bw bx _ a3 _ _;revert X G;refine eE a3 ?_;intro X G;refine kC (V.out _ Ae) ?_;rintro _ bz ⟨⟨⟩,a4⟩;have X:=X.ext a4;refine kR ?_;exact hf (λh=>e1 h.1) _ X
structure BoxV where
 v:Int
 l:Int
 i:Int
 deriving DecidableEq
def BoxV.ok (b:BoxV):Prop:=(0<=b.v/\b.v<=1000)/\(0<=b.l/\b.l<=1000)/\0<=b.i/\b.i<=1000
instance (b:BoxV):Decidable b.ok:=by unfold BoxV.ok;infer_instance
instance (v:VD):Decidable (IG v):=by unfold IG;infer_instance
instance (l:List VD):Decidable (C3 l):=by unfold C3;infer_instance
def JT (b:BoxV) (v:VD):Int×Int:=if v.kind=3 then (0,b.l) else (CT v,CT v)
def CV (vs:List VD) (b:BoxV):List (Int×Int):=vs.map (JT b)++[(0,b.i)]
def FX (x y:Int):Int:=if 1099511627776/y<x then 1099511627777 else x*y
def Mr (least y:Int):Nat->Int×Int
 | 0=>(0,1)
 | n+1=>(if least<=n then min ((Mr least y n).1+(Mr least y n).2) 1099511627777 else (Mr least y n).1,FX (Mr least y n).2 y)
def Ms (p:Int×Int) (y:Int):Int:=(Mr p.1 y (p.2+1).toNat).1
def DK (l:List (Int×Int)) (y:Int):Int:=l.foldl (λs p=>FX s (Ms p y)) 1
def Hn (vs:List VD) (b:BoxV):Int×Int:=
 if b.ok/\C3 vs then (if 1099511627776<DK (CV vs b) (2*b.v+1) then (0,5) else (DK (CV vs b) (2*b.v+1),0)) else (0,1)
def Pm {x:Int} (G:1<=x) (M:x<=1099511627777) (N:1<=k):1<=FX x k/\FX x k<=1099511627777:=by
 unfold FX;split
 . omega
 . rename_i h;have O:x<=1099511627776/k:=by omega
   have U:x*k<=1099511627776/k*k:=Int.mul_le_mul_of_nonneg_right O Ab;have V:=Int.ediv_mul_le 1099511627776 (b:=k) Ab;have X:1*1<=x*k:=Int.mul_le_mul G N Ab Ab;omega
def Po (G y:Int) (M:1<=y):∀n,1<=(Mr G y n).2/\(Mr G y n).2<=1099511627777
 | 0=>by simp [Mr]
 | n+1=>by
  have h:=Po G y M n;simp only [Mr];exact Pm h.1 h.2 M
def Pp (G y:Int) (M:1<=y):∀n:Nat,0<=(Mr G y n).1/\(Mr G y n).1<=1099511627777/\(G<(n:Int)->1<=(Mr G y n).1\/G<0/\n=0)
 | 0=>by simp [Mr]
 | n+1=>by
  have h:=Pp G y M n;have N:=Po G y M n;simp only [Mr];split
  . refine ⟨Ab,Ab,λ_=>gP Ab⟩
  . exact ⟨h.1,h.2.1,λO=>by omega⟩
def WN {p:Int×Int} (G:1<=k) (M:0<=p.1) (N:p.1<=p.2):1<=Ms p k/\Ms p k<=1099511627777:=by
 have h:=Pp p.1 k G (p.2+1).toNat;unfold Ms;refine ⟨?_,h.2.1⟩;rcases h.2.2 Ab with h|h
 . exact h
 . omega
def Oa:∀(l:List (Int×Int)) (s y:Int),1<=y->(∀p∈l,0<=p.1/\p.1<=p.2)->1<=s->s<=1099511627777->1<=l.foldl (λs p=>FX s (Ms p y)) s/\l.foldl (λs p=>FX s (Ms p y)) s<=1099511627777
 | [],s,y,_,_,G,M=>⟨G,M⟩
 | p::l,s,y,N,O,G,M=>by
  have U:=O p AK;have h:=Pm G M (WN N U.1 U.2).1;exact Oa l _ y N (λq V=>O q (by simp [V])) h.1 h.2
def WO {b:BoxV} (h:b.ok) {v:VD} (G:IG v):0<=(JT b v).1/\(JT b v).1<=(JT b v).2/\(JT b v).2<=1000:=by
 unfold JT;obtain ⟨-,M,-⟩:=h;split
 . simp only;omega
 . rename_i N;unfold CT;unfold IG at G;split<;>omega
def Pq {b:BoxV} (M:b.ok) (O:C3 vs):∀p∈CV vs b,0<=p.1/\p.1<=p.2/\p.2<=1000:=by
 intro p G;unfold CV at G;rw [i6,List.mem_map,iu] at G;rcases G with ⟨v,h,rfl⟩|rfl
 . exact WO M (O.2 v h)
 . obtain ⟨-,-,N⟩:=M;exact ⟨AK,N.1,N.2⟩
def KI (vs:List VD) (b:BoxV):(CV vs b).length=vs.length+1:=by simp [CV]
def Lg:∀(us p q r:lV),us.length=q.length->A7 (p++q++r) p.length us=p++us++r
 | [],p,[],r,_=>by simp [A7]
 | u::us,p,v::q,r,h=>by
  simp only [gV,Nat.add_right_cancel_iff] at h;have e:(p++v::q++r).set p.length u=(p++[u])++q++r:=by
   rw [iI,jC,km _ _ (ip _),jw,lh];simp
  rw [A7,e];have:=Lg us (p++[u]) q r h;rw [iq,gV,iG,iY] at this;rw [this];simp
def FE {G:List lV} {j:Nat} (h:∀cs∈G,cs.length=n) (O:j<G.length):G.flatten=(G.take j).flatten++G[j]++(G.drop (j+1)).flatten/\(G.take j).flatten.length=j*n:=by
 constructor
 . have N:=(iX j G).symm;rw [iB O] at N;refine (congrArg List.flatten N).trans ?_;rw [kB,jS,iI]
 . rw [El (λcs M=>h cs (jz M)),iO];congr 1;omega
def Sz {G:List lV} {j:Nat} {us:lV} (h:∀cs∈G,cs.length=n) (M:j<G.length) (U:us.length=n):A7 G.flatten (j*n) us=(G.set j us).flatten:=by
 obtain ⟨N,O⟩:=FE h M;have V:G[j].length=n:=h _ (ig M);rw [N,<-O,Lg us _ _ _ Ab];have e:G.set j us=G.take j++us::G.drop (j+1):=by rw [List.set_eq_take_append_cons_drop,AH M]
 rw [e,kB,jS,iI]
structure ArrS {α:Type} (sh:Shape α) (C D:Nat) (w:wD) (g:Nat) (xs:List α):Prop where
 ex:∃css:List lV,Blk w g css.flatten/\css.length=xs.length /\ ∀(i:Nat) (x:α) (cs:lV),xs[i]? = some x->css[i]? = some cs->sh.rep w (λb=>C<=b/\b<D) x cs
section
variable {sh:Shape α} {C D g:Nat} {xs:List α}
def ArrS.lt (h:ArrS sh C D w g xs):g<w.heap.size:=by
 obtain ⟨G,M,-⟩:=h.ex;exact M.lt
def ArrS.fr {T:nP} (h:ArrS sh C D w g xs) (x:Fr T w w') (N:∀k,T k->(k<C\/D<=k)/\k≠g):ArrS sh C D w' g xs:=by
 obtain ⟨G,O,U,V⟩:=h.ex;exact ⟨G,O.fr x (λM=>(N g M).2 rfl),U,λi y cs X Y=>sh.mono (V i y cs X Y) aFh (λb o u hb Z=>x.keep (λM=>by have:=(N b M).1;omega) Z)⟩
instance {T:nP}:LfF T w w' (ArrS sh C D w g xs) (∀k,T k->(k<C\/D<=k)/\k≠g) (ArrS sh C D w' g xs):=⟨λx s h=>Bk.ArrS.fr h x s⟩
def ArrS.ext (h:ArrS sh C D w g xs) (x:Ext w w'):ArrS sh C D w' g xs:=by
 obtain ⟨G,M,N,O⟩:=h.ex;exact ⟨G,M.ext x,N,λi y cs U V=>sh.mono (O i y cs U V) aFh (λb o u Y X=>x.keep X)⟩
instance  : LfE w w' (ArrS sh C D w g xs) (ArrS sh C D w' g xs):=⟨λx h=>Bk.ArrS.ext h x⟩
def ArrS.wide (h:ArrS sh C D w g xs) (Y:D<=B):ArrS sh C B w g xs:=by
 obtain ⟨G,N,O,U⟩:=h.ex;exact ⟨G,N,O,λi y cs V X=>sh.mono (U i y cs V X) (λ_ h=>⟨h.1,Ab⟩) (λ_ _ _ _ h=>h)⟩
def ArrS.lens (h:ArrS sh C D w g xs) {G:List lV} (U:G.length=xs.length) (N:∀(i:Nat) (x:α) (cs:lV),xs[i]? = some x->G[i]? = some cs->sh.rep w (λb=>C<=b/\b<D) x cs):∀cs∈G,cs.length=sh.sz:=λcs M=>by
 obtain ⟨k,O,rfl⟩:=List.mem_iff_getElem.1 M;exact sh.len (N k xs[k] G[k] (gN Ab) (gN O))
def ArrS.row (h:ArrS sh C D w g xs) {j:Nat} {x:α} (N:xs[j]? = some x):∃cs,Row w ⟨g,0+j*sh.sz,none⟩ cs/\sh.rep w (λb=>C<=b/\b<D) x cs:=by
 obtain ⟨G,X,Y,V⟩:=h.ex;have Z:j<xs.length:=by
  rcases it j xs.length with h|h
  . exact h
  . rw [ic h] at N;cases N
 have hc:G[j]? = some G[j]:=gN Ab;obtain ⟨e1,e2⟩:=FE (h.lens Y V) (show j<G.length by omega);refine ⟨G[j],λi v O=>?_,V j x _ N hc⟩;have U:i<G[j].length:=by
  rcases it i G[j].length with h|h
  . exact h
  . rw [ic h] at O;cases O
 have M:G.flatten[j*sh.sz+i]? = some v:=by
  rw [e1,iI,ik Ab,e2,lp,gW U];exact O
 have:=X.cell M;have e:(⟨g,0+j*sh.sz,none⟩:Addr).add i=⟨g,j*sh.sz+i,none⟩:=by unfold jA;by_cases h0:i=0<;>simp [h0]
 rw [e];exact this
def ArrS.made {z:α} (M:Blk w g (iL n zs).flatten) (N:∀w S,sh.rep w S z zs):ArrS sh C D w g (iL n z):=by
 refine ⟨iL n zs,M,AK,λi x cs O U=>?_⟩;have h:=iF O;have G:=iF U;rw [List.mem_replicate] at h G;rw [h.2,G.2];exact N _ _
def TV {j:Nat} {x:α} {us:lV} {w1:wD} {h:List lV} (Y:h.length=xs.length) (V:∀(i:Nat) (x:α) (cs:lV),xs[i]? = some x->h[i]? = some cs->sh.rep w (λb=>C<=b/\b<D) x cs) (Z:j<xs.length) (hg:g<C\/D<=g) (X:sh.rep w (λb=>C<=b/\b<D) x us) (O:Put w w1 g (A7 h.flatten (j*sh.sz) us)):ArrS sh C D w1 g (xs.set j x):=by
 have hl:∀cs∈h,cs.length=sh.sz:=λcs U=>by
  obtain ⟨k,hk,rfl⟩:=List.mem_iff_getElem.1 U;exact sh.len (V k xs[k] h[k] (gN Ab) (gN hk))
 rw [Sz hl Ab (sh.len X)] at O;refine ⟨h.set j us,O.blk,by simp [Y],λi y cs M N=>?_⟩;have key:sh.rep w (λb=>C<=b/\b<D) y cs:=by
  by_cases G:i=j
  . subst G;rw [jl Z] at M;rw [jl Ab] at N;rw [<-gZ M,<-gZ N];exact X
  . rw [iV (λe=>G e.symm)] at M N;exact V i y cs M N
 exact sh.mono key aFh (λb o u hb hu=>O.fr.keep (λe=>by omega) hu)
end
section
variable {P:Program} {l:Sl} {tab:Tab} {zt:Ey} {sh:Shape α}
def GR (K:wD->Prop):Option Value->wD->Prop
 | none,w=>K w
 | some _,_=>False
def Ob {zs:lV} {k:Nat} (h:zs.length=k):∀N:Nat,(jj (N*k)).map (λi=>zs.toArray[i%k]!)=(iL N zs).flatten
 | 0=>by simp
 | N+1=>by
  rw [jQ,Nat.one_mul,List.range_add,jm,Ob h N,lD,kB];congr 1;simp only [jS,List.flatten_nil,kH,List.map_map];apply kP
  . simp [h]
  . intro i G M;simp only [kG,lN] at G;simp only [kz,List.getElem_range,Function.comp];have:(N*k+i)%k=i:=by rw [Nat.mul_comm,Nat.mul_add_mod,Nat.mod_eq_of_lt G]
    rw [this];simp [M]
def BH {K X:wD->Prop} (h:∀(_:Unit) w1,K w1->X w1):∀v w1,GR K v w1->X w1:=λv w1 G=>by
 cases v with
 | none=>exact h () w1 G
 | some v=>exact G.elim
def Dq {t e sz C D:Nat} {sE:Sk} {x y:Operand} {N:Nat} {z:α} (T:TabOk P tab) (Z:Ct P zt) (ht:AB tab t=some (.slice e,B)) (hE:AB tab e=some (sE,sz)) (hz:CP zt e=some zs) (hzl:zs.length=sz)
 (hby:Dt P e=true) (hx:ev l x=some (.int .i64 (N:Int))) (hy:ev l y=some (.int .i64 (N:Int))) (hN:N<=100000000000) (hz0:∀w S,sh.rep w S z zs) :
 BE P n l (.makeSlice t x y) ty w (Gd λo w'=> ∃g,o = .slice (some ⟨g,0,none⟩) N N/\ArrS sh C D w' g (iL N z)/\g=w.heap.size/\w'.heap.size=g+1/\Ext w w'):=by
 unfold BE;intro a dst pos after gd next Q ha hn _;obtain ⟨i,v0,z1,z2,z3⟩:=E5 Z hz;obtain ⟨i',hi',hs'⟩:=(T _ _ _ hE).info;rw [z1] at hi';obtain rfl:=gZ hi';have hbb:i.bytes<=1000:=by
  unfold Dt at hby;rw [z1] at hby;exact iA hby
 have hu:=(T _ _ _ ht).under;have b:(i.bytes:Int)*(N:Int)<=281474976710656:=by
  have:i.bytes*N<=1000*100000000000:=lS hbb hN;have h2:((i.bytes*N:Nat):Int)<=281474976710656:=by omega
  rwa [Int.natCast_mul] at h2
 have hr:=run_make (P:=P) w t e i v0 hu z1 z2 .i64 .i64 N N Ab (Int.le_refl _) b Ab;simp only [Int.toNat_natCast] at hr;have e2:(execOp a.eval ⟨dst,.makeSlice t x y,ty,pos,after,gd⟩).run P w = .ok (.value (.slice (some ⟨w.heap.size,0,none⟩) N N)) (w.alloc (.cells (madeCells v0.cells (N*i.size)) e)):=by
  simp only [execOp,ha.ev hx,ha.ev hy,ij,hr,jq,iC]
 have ecell:madeCells v0.cells (N*i.size)=(iL N zs).flatten.toArray:=by
  rw [z3];have hsz:zs.length=i.size:=by omega
  apply lg;simp only [madeCells,Array.toList_map,Array.toList_range,lk];rw [hsz];exact Ob hsz N
 unfold jy;rw [e2,ecell];have hnew:=EB w (iL N zs).flatten e;exact hn _ _ ⟨w.heap.size,rfl,.made hnew.blk hz0,rfl,hnew.size,hnew.ext⟩
def Cj {x y:Operand} {t sz C D g j:Nat} {s:Sk} {us:lV} {xs:List α} {z:α} (T:TabOk P tab) (ht:AB tab t=some (s,sz)) (hx:ev l x=some (.pointer (some ⟨g,0+j*sh.sz,none⟩))) (hy:ev l y=some v) (hv:v.cells=us.toArray) (hl:us.length=sz) (h1:us.all mq=true)
 (hA:ArrS sh C D w g xs) (hj:j<xs.length) (hg:g<C\/D<=g) (hr:sh.rep w (λb=>C<=b/\b<D) z us) :
 BE P n l (.store t x y) ty w (GR λw'=>ArrS sh C D w' g (xs.set j z)/\Fr (· = g) w w'/\w'.heap.size=w.heap.size):=by
 obtain ⟨css,c1,c2,c3⟩:=hA.ex;have hfl:=El (hA.lens c2 c3);have hus:=sh.len hr;have hjs:j*sh.sz+sh.sz<=css.flatten.length:=by
  rw [hfl,c2,<-Nat.succ_mul];exact jD _ hj
 have hd:=D1 (P:=P) (n:=n) (l:=l) (ty:=ty) T ht hx hy hv hl h1 c1 (by rw [lJ];omega);unfold BE at hd ⊢;intro a dst pos after gd next Q ha hn c;refine hd a dst pos after gd next Q ha (λv' w' h=>h.elim) (λw' hP=>c w' ?_);have hP':Put w w' g (A7 css.flatten (j*sh.sz) us):=by rw [show j*sh.sz=0+j*sh.sz by omega];exact hP
 exact ⟨TV c2 c3 hj hg hr hP',hP'.fr,hP'.size⟩
def FY {x y:Operand} {t sz C D g j:Nat} {s:Sk} {us:lV} {xs:List α} {z:α} (T:TabOk P tab) (h:AB tab t=some (s,sz)) (G:ev l x=some (.pointer (some ⟨g,0+j*sh.sz,none⟩))) (M:ev l y=some v) (N:v.cells=us.toArray) (O:us.length=sz) (U:us.all mq=true)
 (V:ArrS sh C D w g xs) (X:j<xs.length) (Y:g<C) (Z:D<=w.heap.size) (hr:sh.rep w (λb=>C<=b) z us) :
 BE P n l (.store t x y) ty w (GR λw'=>ArrS sh C w.heap.size w' g (xs.set j z)/\Fr (· = g) w w'/\w'.heap.size=w.heap.size):=
 Cj T h G M N O U (V.wide Z) X (gP Y) (sh.lt hr)
end
section
variable {P:Program} {l:Sl} {tab:Tab} {zt:Ey}
end
def FZ {P:Program} {l:Sl} {Q:Exit->Act->wD->Prop} {x y:Code} {ι:Type} (L:ι->Sl) (I:ι->wD->Prop) (h:CW P n x (Exit.then (λa w=> ∃i,Env n (L i) a/\I i w) Q) l w) (k:∀i w,I i w->CW P n y Q (L i) w):CW P n (.seq x y) Q l w:=
 bD _ h (λa w ⟨i,he,hi⟩=>by have:=k i w hi;unfold CW at this;exact this a he)
def BY {l:Sl} {Q:Exit->Act->wD->Prop} {ι:Type} {L:ι->Sl} {I:ι->wD->Prop} (i:ι) (G:TG (L i) l) (h:I i w):QW n (Exit.then (λa w=> ∃i,Env n (L i) a/\I i w) Q) .normal l w:=
 Uu λ_ M=>⟨i,M.sub G,h⟩
mutual
def Mt {S:nP} {w:wD}:∀(l:List Nd) (a:oA),rowSits S w l a->rowSits (· < w.heap.size) w l a
 | [],_,_=>by simp [rowSits]
 | t::r,a,h=>by
  simp only [rowSits] at h ⊢;obtain ⟨b,o,a',c,rfl,hb,h0,h1,h2,h3,hs,hr⟩:=h;exact ⟨b,o,a',c,rfl,Cs h0,h0,h1,h2,h3,YV t a' hs,Mt r _ hr⟩
def YV {S:nP} {w:wD}:∀(t:Nd) (a:oA),t.sits S w a->t.sits (· < w.heap.size) w a
 | .mk _ _ _ l,a,h=>by
  simp only [mF] at h ⊢;exact Mt l a h
end
mutual
def Lh {S:nP} {w:wD}:∀(l:List Nd) (a:oA),rowSits S w l a->rowSits (λb=>S b/\b<w.heap.size) w l a
 | [],_,_=>by simp [rowSits]
 | t::r,a,h=>by
  simp only [rowSits] at h ⊢;obtain ⟨b,o,a',c,rfl,hb,h0,h1,h2,h3,hs,hr⟩:=h;exact ⟨b,o,a',c,rfl,⟨hb,Cs h0⟩,h0,h1,h2,h3,QD t a' hs,Lh r _ hr⟩
def QD {S:nP} {w:wD}:∀(t:Nd) (a:oA),t.sits S w a->t.sits (λb=>S b/\b<w.heap.size) w a
 | .mk _ _ _ l,a,h=>by
  simp only [mF] at h ⊢;exact Lh l a h
end
def Ho (k:Int) (w:wD) (h0:0<=k) (h1:k<=255):Calls prog 151 #[.int .u8 k] w λe w'=>e = .returned (.int .u8 (A9 k))/\w=w':=by
 refine Ad func151 ntmps151 rfl rfl ?_
 focus
  refine eK ?_;refine Ay rfl (λG=>?_) (λG=>?_);refine kR ?_;rotate_left;refine eK ?_;refine Ay rfl (λM=>?_) (λM=>?_);refine kR ?_;rotate_left;refine eK ?_;refine Ay rfl (λN=>?_) (λN=>?_);refine kR ?_;rotate_left;refine eK ?_;refine Ay rfl (λO=>?_) (λO=>?_);refine kR ?_;rotate_left;refine eK ?_;refine Ay rfl (λU=>?_) (λU=>?_);refine kR ?_;rotate_left;refine eK ?_;refine Ay rfl (λV=>?_) (λV=>?_);refine kR ?_;rotate_left;refine eK ?_;refine Ay rfl (λX=>?_) (λX=>?_);refine kR ?_;rotate_left;refine eK ?_;refine Ay rfl (λY=>?_) (λY=>?_);refine kR ?_;rotate_left;refine eK ?_;refine Ay rfl (λZ=>?_) (λZ=>?_);refine kR ?_;rotate_left;refine eK ?_;refine Ay rfl (λh=>?_) (λh=>?_);refine kR ?_;rotate_left;refine kR ?_;rotate_left
 all_goals (refine ⟨congrArg (λx=>Ending.returned (.int .u8 x)) ?_,rfl⟩;unfold A9;(repeat' split)<;>omega)
def CopyR (u:Nd) (w:wD):Ending->wD->Prop:=λe w'=> ∃a c,e = .returned (u.val a c)/\u.sits (λb=>w.heap.size<=b/\b<w'.heap.size) w' a/\Ext w w'
def CopyR.ret {u:Nd} (h:CopyR u w e w'):∃v,e = .returned v:=by
 obtain ⟨_,_,h,-⟩:=h;exact ⟨_,h⟩
def CopyC (u:Nd) (w:wD):Ending->wD->Prop:=λe w'=> ∃a c,e = .returned (u.val a c)/\u.sits (λb=>w.heap.size<=b/\b<w'.heap.size) w' a/\Ext w w'/\u.kids.length<=c
def CopyC.ret {u:Nd} (h:CopyC u w e w'):∃v,e = .returned v:=by
 obtain ⟨_,_,h,-⟩:=h;exact ⟨_,h⟩
def CopyC.copy {u:Nd} (h:CopyC u w e w'):CopyR u w e w':=by
 obtain ⟨a,c,G,M,N,-⟩:=h;exact ⟨a,c,G,M,N⟩
def TX {b e sz c:Nat} {cs:lV} (h:Own w b e sz (.slice a n c) n cs):n<=c:=by
 rcases h.2 with ⟨G,-⟩|⟨g',M,cur,G,-,-,N,-⟩
 . simp only [iK] at G;omega
 . simp only [iK] at G;obtain ⟨-,-,rfl⟩:=G;exact N
def EJ {n:Int} (h:(Nd.mk k n s l).sits S w a):rowSits S w l a:=h
def YW (N:Nat):∀(t:Nd) (S:nP) (a:oA) (c:Nat) (w:wD),t.size<N->t.size<=1000000->t.sits S w a->Calls prog 59 #[t.val a c] w (CopyC t w):=by
 induction N with
 | zero=>intro t S a c w h;omega
 | succ N ih=>
  rintro ⟨k,n,s,l⟩ S a c w hN hM U;have aq:=Cz l;simp only [mg] at hN hM;have hC:∀x∈l,∀(S:nP) (a:oA) (c:Nat) (w:wD),x.sits S w a->Calls prog 59 #[x.val a c] w (CopyC x w):=λx hx S a c w h=>by
   have:=CM hx;exact ih x S a c w Ab Ab h
  have HC:=gO hC;have U:=Ci _ _ (EJ U);have X:=Ne w;refine Ad func59 ntmps59 rfl rfl (cS (eB [_,_,_,_] ?_));intro b1 w2 h4 x5 p6 z7;revert U X;refine eE x5 ?_;intro U X;refine eA [_,_,_,_] ?_;intro b8 w9 aj ak a7 a8;revert h4 U X;refine eE ak ?_;intro h4 U X;refine eK ?_;refine AQ (ι:=Nat×List Nd×oA×Nat) (λx=>[(1,pt b1),(2,pt b8),(3,.slice x.2.2.1 x.2.1.length x.2.2.2),(7,.slice a l.length c),(8,.int .i64 l.length),(9,.int .i64 x.1)])
   (λx w'=>OwnL ndShape w' (b8+1) 29 (.slice x.2.2.1 x.2.1.length x.2.2.2) x.2.1/\x.1<=l.length/\x.2.1=l.take x.1/\rowSits (· < w.heap.size) w' l a/\Blk w' b1 [.int .u8 k,.int .i64 n,str s,.slice a l.length c]/\Blk w' b8 [.int .u8 0,.int .i64 0,str [],.slice none 0 0]/\Ext w w'/\b8+1<=w'.heap.size)
   (λx=>l.length-x.1) (0,[],none,0) sB ⟨OwnL.nil,ii _,rfl,U,h4,aj,X,Ab⟩ ?_
  rintro ⟨j,xs,ra,rc⟩ w1 ⟨G,hj,Y,U,O,M,X,hg⟩;simp only at G hj Y U O M X hg;have al:∀g,(iD ra xs.length rc).ownBlock=some g->g<w1.heap.size:=λg h=>G.lt h
  have a9:xs.length<=l.length:=by rw [Y,iO];omega
  refine mK (m:=[(1,pt b1),(2,pt b8),(3,.slice ra xs.length rc),(7,.slice a l.length c),(8,.int .i64 l.length),(9,.int .i64 j)]) ?_ sB;by_cases Z:j<l.length
  . obtain ⟨kb,ko,rfl,kS,ad⟩:=BG U (by intro e;subst e;simp at Z);obtain ⟨xa,xc,rx,sx⟩:=ad j l[j] (gN Z);have HX:=gO (HC.out l[j] (ig Z));have ac:xs++[l[j]]=l.take (j+1):=by rw [Y,gS Z]
    generalize l[j]=x at *;refine eK ?_;refine xA [_,_,_,_] ?_;intro ba bb am;refine eI [_,_,_,_] am ?_;intro bc bd an be bf;revert G M X U O sx;refine eE an ?_;intro G M X U O sx;refine kQ (HX.out _ _ _ _ Ae) ?_;rintro _ ar ⟨bg,au,⟨⟩,aa,ae,av⟩;revert G M X U O;refine eY ae ?_;intro aw G M X U O;refine Ax (xS [_,_,_,_]) rfl ?_ aFh;rintro _ ax ⟨ay,rfl,V,az⟩;have a0:=V.blk;have af:=V.ext;have a1:=V.pos;have a2:=V.size;revert aa G M X U O;refine eE af ?_;intro aa G M X U O;refine Sr (sh:=ndShape) (z:=x) Ac CJ rfl rfl rfl rfl AU rfl rfl rfl G (mi Ae) ⟨_,_,rfl,l6 Ae (λb h=>⟨Ab,λe=>by have:=al _ e;omega⟩)⟩ Ab Ab rfl ?_;rintro a3 ag a4 a5 ab;have a6:=ab.size;revert M X U O;refine eF ab ?_;intro M X U O;refine eK ?_;refine AA (j+1,xs++[x],some ⟨_,0,none⟩,_) sB ⟨Ae,by simp only;omega,ac,U,O,M,X,Ab⟩ Ab
  . obtain rfl:j=l.length:=by omega
    rw [im] at Y;subst Y;refine eK ?_;refine eV [_] [_,_,_,_] O ?_;intro bh bi ao _;revert G M X;refine eF ao ?_;intro G M X;refine eK ?_;refine eS [_,_,_,_] M ?_;intro bj ah ap _;revert G X;refine eF ap ?_;intro G X;refine kX ah ?_;have ai:=TX G.ex.choose_spec.1;exact ⟨ra,rc,rfl,QD (Nd.mk k n s xs) ra (TP (G.sits (S:=λb=>w.heap.size<=b) (λb h=>by omega))),X,ai⟩
def TY (t:Nd) (h:t.size<=1000000) (S:nP) (a:oA) (c:Nat) (w:wD) (G:t.sits S w a):Calls prog 59 #[t.val a c] w (CopyC t w):=YW (t.size+1) t S a c w Ab h G
def JU (t:Nd) (G:t.size<=1000000) (S:nP) (a:oA) (c:Nat) (w:wD) (M:t.sits S w a):Calls prog 59 #[t.val a c] w (CopyR t w):=i7 (TY t G S a c w M) (λ_ _ h=>h.copy)
def QE (xs ys:List Nd) (i:Nat):Prop:=ys.length=xs.length /\ ∀k,k<xs.length->ys[k]? = if k<i\/xs.length-i<=k then xs[xs.length-1-k]? else xs[k]?
def YX (xs:List Nd):QE xs xs 0:=⟨rfl,λk h=>by rw [At Ab]⟩
def Va {xs ys:List Nd} {i:Nat} (h:QE xs ys i) (M:xs.length<=2*i+1):ys=xs.reverse:=by
 apply jG;intro k;by_cases G:k<xs.length
 . rw [h.2 k G,List.getElem?_reverse G];split
   . rfl
   . have:xs.length-1-k=k:=by omega
     rw [this]
 . rw [ic (by rw [h.1];omega),ic (by rw [List.length_reverse];omega)]
def SA {xs ys:List Nd} {i:Nat} (h:QE xs ys i) (X:2*i+1<xs.length) {y:Nd} (G:ys[i]? = some x) (M:ys[xs.length-1-i]? = some y):QE xs ((ys.set i y).set (xs.length-1-i) x) (i+1):=by
 refine ⟨by simp [h.1],λk V=>?_⟩;have Y:=h.1;rw [h.2 i Ab,At Ab] at G;rw [h.2 (xs.length-1-i) Ab,At Ab] at M;by_cases N:k=xs.length-1-i
 . subst N;rw [jl (by simp [h.1];omega),AH Ab,show xs.length-1-(xs.length-1-i)=i by omega,G]
 . rw [iV (λe=>N e.symm)];by_cases O:k=i
   . subst O;rw [jl Ab,AH Ab,M]
   . rw [iV (λe=>O e.symm),h.2 k V];by_cases U:k<i\/xs.length-i<=k
     . rw [AH U,AH Ab]
     . rw [At U,At Ab]
def Vb (C D g cap:Nat) (xs:List Nd) (w:wD) (G:ArrS ndShape C D w g xs) (hg:g<C\/D<=g) (hl:xs.length<=1000000):Calls prog 150 #[.slice (some ⟨g,0,none⟩) xs.length cap] w λe w'=>e = .returned (.tuple #[])/\ArrS ndShape C D w' g xs.reverse/\Fr (· = g) w w':=by
 have X:=lZ (· = g) w;by_cases hn:xs.length=0
 . have e0:xs=[]:=jF hn;subst e0;refine Ad func150 ntmps150 rfl rfl (eK ?_);refine C1 (AL rfl rfl (gX _ Ab)) (eK ?_);refine AQ (ι:=Unit) (λ_=>[(2,.int .i64 0),(3,.int .i64 (-1))]) (λ_ w'=>ArrS ndShape C D w' g []/\Fr (· = g) w w') (λ_=>0) () sB ⟨G,X⟩ ?_;rintro _ w1 ⟨G,X⟩;refine Aj (cS (C1 Mv (C1 Mv (C1 V3 (cT (NH (B9 (Az (Az (A0 (Bm rfl ?_)))))))))));exact ⟨rfl,G,X⟩
 refine Ad func150 ntmps150 rfl rfl (eK ?_);refine C1 (AL rfl rfl (gX _ Ab)) (eK ?_);obtain ⟨m0,ad⟩:∃m:Nat,((xs.length:Int)-1)=(m:Int):=⟨xs.length-1,Ab⟩;rw [ad];refine AQ (ι:=Nat×Nat×List Nd) (λx=>[(0,.slice (some ⟨g,0,none⟩) xs.length cap),(2,.int .i64 x.1),(3,.int .i64 x.2.1)]) (λx w'=>ArrS ndShape C D w' g x.2.2/\QE xs x.2.2 x.1/\x.1+x.2.1+1=xs.length/\Fr (· = g) w w') (λx=>x.2.1) (0,m0,xs) sB ⟨G,YX xs,by simp only;omega,X⟩ ?_;rintro ⟨i,m,ys⟩ w1 ⟨G,hR,hm,X⟩;simp only at G hR hm;refine mK (m:=[(0,.slice (some ⟨g,0,none⟩) xs.length cap),(2,.int .i64 i),(3,.int .i64 m)]) ?_ sB;have ah:=hR.1;by_cases ai:i<m
 . obtain ⟨x,hx⟩:∃x,ys[i]? = some x:=⟨_,gN Ab⟩;obtain ⟨y,hy⟩:∃y,ys[m]? = some y:=⟨_,gN Ab⟩;obtain ⟨_,r1,xa,xc,rfl,sx⟩:=G.row hx;obtain ⟨_,r2,ya,yc,rfl,sy⟩:=G.row hy;have U:=SA hR Ab hx (show ys[xs.length-1-i]? = some y by rw [show xs.length-1-i=m by omega];exact hy);rw [show xs.length-1-i=m by omega] at U;replace r1:Row w1 ⟨g,0+i*4,none⟩ _:=r1;replace r2:Row w1 ⟨g,0+m*4,none⟩ _:=r2;refine eK ?_;refine E6 (λN=>Ext w1 N) (λN=>Fr (λx=>x=g) w1 N) [2,3,13,14,15] [2,3] 13 14 (.free 2 (.free 3 (.pure 0 (.pure 1 (.pure 4 (.pure 5 (.pure 6 (.pure 7 (.pure 8 (.pure 9 (.pure 10 (.pure 11 (.pure 12 (.put 13 (.tail 14))))))))))))))) (λ_ h=>lX h) mixed AU (Af (Aa (Aa (Af Ag)))) ?_;intro V O _;have Y:(λN=>Ext w1 N) V:=O;simp only at Y;have M:(λN=>Fr (λx=>x=g) w1 N) V:=lX O;simp only at M;have Z:=r1;have aa:=r2;revert G X sx sy;refine eE O ?_;intro G X sx sy;refine Bp Ae rfl (Av rfl) rfl (Bp Ae rfl (Av rfl) rfl (Am Ae rfl (Av rfl) rfl (Am Ae rfl (Av rfl) rfl (Am Ae rfl (Av rfl) rfl (Am Ae rfl (Av rfl) rfl (Am Ae rfl (AO Ac rfl rfl rfl rfl Ab Ab) rfl (Am Ae rfl (BC Ac rfl rfl rfl (λN hz=>(l5 aa hz)) rfl) rfl (Am Ae rfl (Av rfl) rfl (Am Ae rfl (Av rfl) rfl (Am Ae rfl (AO Ac rfl rfl rfl rfl Ab Ab) rfl (Am Ae rfl (BC Ac rfl rfl rfl (λN hz=>(l5 Z hz)) rfl) rfl (Am Ae rfl (AO Ac rfl rfl rfl rfl Ab Ab) rfl (DB rfl (Cj (sh:=ndShape) (j:=i) (z:=y) (us:=[_,_,_,_]) Ac rfl rfl rfl rfl rfl rfl G Ab hg ⟨_,_,rfl,Ae⟩) (BH ?_))))))))))))))
   rintro _ aj ⟨ak,ab,al⟩;have M:=M.fr ab Ab;revert X sx;refine eF ab ?_;intro X sx;refine ⟨Ae,(DA rfl (C1 Pi (A6 (Cj (sh:=ndShape) (j:=m) (z:=x) (us:=[_,_,_,_]) Ac rfl rfl rfl rfl rfl rfl Ae (by rw [jx];omega) hg ⟨_,_,rfl,Ae⟩) (BH ?_))))⟩;rintro _ ae ⟨af,ac,ag⟩;have X:=X.fr ac Ab;refine eK ?_;refine C1 (AL rfl rfl (gX _ Ab)) (eK ?_);refine AA (i+1,m-1,(ys.set i y).set m x) (by (refine An rfl ?_;refine An rfl ?_;refine B4 rfl (by go_num) ?_;exact BK)) ⟨Ae,U,by simp only;omega,X⟩ (by simp only;omega)
 . have e:=Va hR Ab;subst e;refine Aj (cS (C1 Mv (C1 Mv (C1 V3 (cT (Dz (B9 (Az (Az (A0 (Bm rfl ?_)))))))))));exact ⟨rfl,G,X⟩
def Dg (q:Bool) (k:Int) (x:Nd):Nd:=if k=57\/x.kind=57 then x.inv q else x
def SC (q:Bool) (l:List Nd):Cc q l=l.map (Dg q 57):=by
 induction l with
 | nil=>rfl
 | cons t r h=>simp only [Cc,iR,h,Dg,true_or,if_true]
def QF (q:Bool) (h:k≠57) (l:List Nd):Dv q l=l.map (Dg q k):=by
 induction l with
 | nil=>rfl
 | cons t r G=>simp only [Dv,iR,G,Dg,h,false_or]
def Gf (f:Nd->Nd) (l:List Nd) (j:Nat):List Nd:=(l.take j).map f++iL (l.length-j) BW
def SD (f:Nd->Nd) (l:List Nd) (j:Nat) (h:j<=l.length):(Gf f l j).length=l.length:=by
 simp only [Gf,iq,kG,iO,List.length_replicate];omega
def SE (f:Nd->Nd) (l:List Nd) (j:Nat) (h:j<l.length):(Gf f l j).set j (f l[j])=Gf f l (j+1):=by
 unfold Gf;have G:((l.take j).map f).length=j:=by simp;omega
 rw [km _ _ Ab,G,jw,show l.length-j=(l.length-(j+1))+1 by omega,lE,lh,gS h,jm,iI];rfl
def SF (f:Nd->Nd) (l:List Nd):Gf f l l.length=l.map f:=by simp [Gf]
def SG {n:Int} (h:(Nd.mk k n s l).isStmt=true\/(Nd.mk k n s l).isBlock=true):(∀x∈l,k=57\/x.kind=57->x.isStmt=true\/x.isBlock=true)/\(k=52\/k=53\/k=54->l≠[])/\40<=k/\k<=57:=by
 rcases h with h|h
 . have X:=N1 h;simp only [mz] at X;have G:∀x:Nd,x.isExpr=true -> ¬x.kind=57:=λx G=>by have:=Gn G;omega
   have key:∀x∈l,x.isBlock=true\/x.isExpr=true:=by
    cases B3 h with
    | call _ _ _ Y=>intro x G;exact gQ (GK (iN.1 Y x G))
    | upd _ M O=>intro x G;simp only [io,iZ,or_false] at G;rcases G with rfl|rfl<;>first|exact gQ (Be Ae)|exact gQ Ae
    | swap M O=>intro x G;simp only [io,iZ,or_false] at G;rcases G with rfl|rfl<;>exact gQ (Be Ae)
    | stack _ _ M=>intro x G;simp only [io,iZ,or_false] at G;rw [G];exact gQ (Be M)
    | tape _ M=>intro x G;simp only [io,iZ,or_false] at G;rw [G];exact gQ (Be M)
    | branch _ M O Z h4=>intro x G;simp only [io,iZ,or_false] at G;rcases G with rfl|rfl|rfl|rfl<;>first|exact gQ Ae|exact gP Ae
    | local_ _ M O Z=>intro x G;simp only [io,iZ,or_false] at G;rcases G with rfl|rfl|rfl<;>first|exact gQ Ae|exact gP Ae
    | lstack _ M=>intro x G;simp only [io,iZ,or_false] at G;rw [G];exact gP M
   refine ⟨λx U N=>?_,λN=>?_,Ab,Ab⟩
   . rcases N with rfl|N
     . omega
     . rcases key x U with hb|he
       . exact gQ hb
       . exact absurd N (G x he)
   . rintro rfl;cases B3 h with
     | call aa=>omega
 . obtain ⟨e,V⟩:=D5 h;simp only [mL,Nd.mk.injEq,and_true] at e V;obtain ⟨rfl,-,-⟩:=e;exact ⟨λx G _=>gP (rowStmt_iff.1 V x G),λN=>by omega,Ab,Ab⟩
def QG (q:Bool) {n:Int} (hk:¬k=57):(Nd.mk k n s l).inv q=if k=52\/k=53\/k=54 then .mk k n s (Gp (l.map (Dg q k))) else .mk (if k=50\/k=51 then (if q then k else A9 k) else A9 k) n s (l.map (Dg q k)):=by
 conv=>lhs;unfold Nd.inv
 rw [At hk,QF q hk];by_cases h1:k=52\/k=53\/k=54
 . rw [AH h1,AH h1]
 . rw [At h1,At h1];by_cases h2:k=50\/k=51
   . rw [AH h2,AH h2]
   . rw [At h2,At h2]
def QH (w:wD) (S:nP):ndShape.rep w S BW [.int .u8 0,.int .i64 0,.string ⟨#[]⟩,.slice none 0 0]:=⟨none,0,rfl,WB⟩
def ArrS.sits {C D g:Nat} {xs:List Nd} (h:ArrS ndShape C D w g xs) (M:S g) (N:∀b,C<=b->b<D->S b):rowSits S w xs (some ⟨g,0,none⟩):=
 Jd M xs 0 (λi x O=>by
  obtain ⟨cs,U,a,c,rfl,V⟩:=h.row O;exact ⟨a,c,U,l6 V (λb G=>N b G.1 G.2)⟩)
def DL {C g:Nat} {n:Int} {xs:List Nd} {m:Nat} (M:xs.length=m) (h:ArrS ndShape C w'.heap.size w' g xs) (N:w.heap.size<=g) (U:w.heap.size<=C) (X:Ext w w'):CopyR (.mk k n s xs) w (.returned (.agg #[.int .u8 k,.int .i64 n,str s,.slice (some ⟨g,0,none⟩) m m])) w':=by
 subst M;exact ⟨some ⟨g,0,none⟩,xs.length,rfl,TP (h.sits ⟨N,h.lt⟩ (λb O G=>⟨Ab,G⟩)),X⟩
def WP (q:Bool) (N:Nat):∀(t:Nd) (S:nP) (a:oA) (c:Nat) (w:wD),t.size<N->t.size<=1000000->(t.isStmt=true\/t.isBlock=true)->t.sits S w a->Calls prog 111 #[t.val a c,.bool q] w (CopyR (t.inv q) w):=by
 induction N with
 | zero=>intro t S a c w h;omega
 | succ N ih=>
  rintro ⟨k,n,s,l⟩ S a c w hN hM hv hs;have hlen:=Cz l;simp only [mg] at hN hM;obtain ⟨v1,v2,v3,v4⟩:=SG hv;clear hv;have hC:∀x∈l,(k=57\/x.kind=57) -> ∀(S:nP) (a:oA) (c:Nat) (w:wD),x.sits S w a->Calls prog 111 #[x.val a c,.bool q] w (CopyR (x.inv q) w):=λx hx hk S a c w h=>by
   have:=CM hx;exact ih x S a c w Ab Ab (v1 x hx hk) h
  clear ih v1;have HC:=gO hC;clear hC;have hs:=Ci _ _ (EJ hs);have X:=Ne w;refine Ad func111 ntmps111 rfl rfl ?_;refine cS (eB [_,_,_,_] ?_);intro b1 w2 h4 x5 p6 z7;revert hs X;refine eE x5 ?_;intro hs X;refine eA [_,_,_,_] ?_;intro b8 w9 r cd et eu;revert h4 hs X;refine eE cd ?_;intro h4 hs X;refine cT ?_;refine FZ (ι:=Nat×Nat) (λx=>[(1,.bool q),(2,pt b1),(4,pt b8),(5,pt x.1)])
   (λx w'=>ArrS ndShape (b1+4) (b1+4) w' x.2 (iL l.length BW)/\Blk w' x.1 [.int .u8 k,.int .i64 n,str s,.slice (some ⟨x.2,0,none⟩) l.length l.length]/\b8<x.1/\b8<x.2/\x.1≠x.2/\x.1<b1+4/\x.2<b1+4/\Blk w' b1 [.int .u8 k,.int .i64 n,str s,.slice a l.length c]/\Blk w' b8 [.int .u8 0,.int .i64 0,str [],.slice none 0 0]/\rowSits (· < w.heap.size) w' l a/\Ext w w'/\w'.heap.size=b1+4) ?_ ?_
  . focus
     refine Aq (λwz=>Ext w9 wz) 12 (.pure 0 (.pure 1 (.pure 2 (.pure 3 (.pure 4 (.pure 5 (.pure 6 (.pure 7 (.pure 8 (.fork 9 (.pure 10 (.fork 11 .tail .none)) (.fork 11 (.fork 9 (.pure 10 .tail) .none) .none))))))))))) mixed AU (Aa Ag) ?_;intro aw a4 _;have o:(λwz=>Ext w9 wz) aw:=a4;simp only at o;have ce:=r;have cw:=h4;have T:=hs;revert r h4 hs X;refine eY a4 ?_;intro ev r h4 hs X;refine ⟨o,?_⟩;refine eT ?_;refine AE rfl (Dq (sh:=ndShape) (C:=b1+4) (D:=b1+4) (N:=l.length) (z:=BW) Ac CJ rfl rfl rfl rfl AU rfl rfl Ab QH) rfl ?_ aFh ?kra5;rintro _ cx ⟨cf,rfl,U,ew,ex,a5⟩;revert o r h4 hs X;refine eY a5 ?_;intro cy o r h4 hs X;refine ⟨o,?_⟩;refine Tq rfl (xB [_,_,_,_]) ?_;refine AE rfl (Bb CJ rfl) rfl ?_ aFh AC;rintro _ cz ⟨a6,rfl,O⟩;have ac:=O.blk;dsimp only at ac;have a7:=O.ext;have c0:=O.pos;have c1:=O.size;revert U o r h4 hs X;refine eE a7 ?_;intro U o r h4 hs X;refine ⟨o,?_⟩;refine Ar rfl (eS [_,_,_,_] ac ?_);intro c2 a8 a9 c3;revert U r h4 hs X;refine eF a9 ?_;intro U r h4 hs X;refine Ak ?_;rotate_left;refine AE rfl (Bb CJ rfl) rfl ?_ aFh AC;rintro _ c4 ⟨ba,rfl,Q⟩;have R:=Q.blk;dsimp only at R;have bb:=Q.ext;have c5:=Q.pos;have c6:=Q.size;revert o r h4 hs X;refine eE bb ?_;intro o r h4 hs X;refine ⟨o,?_⟩;refine AE rfl (Dq (sh:=ndShape) (C:=b1+4) (D:=b1+4) (N:=l.length) (z:=BW) Ac CJ rfl rfl rfl rfl AU rfl rfl Ab QH) rfl ?_ aFh AC;rintro _ c7 ⟨bc,rfl,V,c8,c9,bd⟩;revert R o r h4 hs X;refine eY bd ?_;intro da R o r h4 hs X;refine ⟨o,?_⟩;refine Tq rfl (xB [_,_,_,_]) ?_;refine Ar rfl (eS [_,_,_,_] R ?_);intro db be bf dc;revert V r h4 hs X;refine eF bf ?_;intro V r h4 hs X;refine Ak ?_;rotate_left
    . have hq:aw.heap.size=w9.heap.size:=congrArg Array.size Ae;exact BY (a6,cf) sB ⟨U,a8,by simp only;omega,by simp only;omega,by simp only;omega,by simp only;omega,by simp only;omega,h4,r,hs,X,Ab⟩
    . have hq:aw.heap.size=w9.heap.size:=congrArg Array.size Ae;exact BY (ba,bc) sB ⟨V,be,by simp only;omega,by simp only;omega,by simp only;omega,by simp only;omega,by simp only;omega,h4,r,hs,X,Ab⟩
  . clear h4 r hs X;rintro ⟨bm,g⟩ w1 ⟨hA,hbm,o1,o2,o3,o4,o5,d,f,hs,X,hz⟩;simp only at hA hbm o1 o2 o3 o4 o5;refine mK (m:=[(1,.bool q),(2,pt b1),(4,pt b8),(5,pt bm)]) ?_ sB;have e0:iL l.length BW=Gf (Dg q k) l 0:=by simp [Gf]
    rw [e0] at hA;refine FZ (ι:=Unit) (λ_=>[(1,.bool q),(2,pt b1),(4,pt b8),(5,pt bm)])
     (λ_ w'=>ArrS ndShape (b1+4) w'.heap.size w' g (l.map (Dg q k))/\Blk w' bm [.int .u8 k,.int .i64 n,str s,.slice (some ⟨g,0,none⟩) l.length l.length]/\Blk w' b1 [.int .u8 k,.int .i64 n,str s,.slice a l.length c]/\Blk w' b8 [.int .u8 0,.int .i64 0,str [],.slice none 0 0]/\Ext w w'/\b1+4<=w'.heap.size) ?_ ?_
    . refine cS (C1 Pf (C1 (Pl d) (C1 Pz (C1 Mv (cT ?_)))));refine Au ?_;refine AQ (ι:=Nat) (λj=>[(1,.bool q),(2,pt b1),(4,pt b8),(5,pt bm),(21,.slice a l.length c),(22,.int .i64 l.length),(23,.int .i64 j)])
       (λj w'=>j<=l.length/\ArrS ndShape (b1+4) w'.heap.size w' g (Gf (Dg q k) l j)/\Blk w' bm [.int .u8 k,.int .i64 n,str s,.slice (some ⟨g,0,none⟩) l.length l.length]/\Blk w' b1 [.int .u8 k,.int .i64 n,str s,.slice a l.length c]/\Blk w' b8 [.int .u8 0,.int .i64 0,str [],.slice none 0 0]/\rowSits (· < w.heap.size) w' l a/\Ext w w'/\b1+4<=w'.heap.size)
       (λj=>l.length-j) 0 sB ⟨ii _,hA.wide Ab,hbm,d,f,hs,X,Ab⟩ ?_
      clear hA hbm d f hs X hz e0;rintro j w2 ⟨hj,hA,hbm,d,f,hs,X,hz⟩;by_cases hlt:j<l.length
      . obtain ⟨kb,ko,rfl,kS,hkid⟩:=BG hs (by intro e;subst e;simp at hlt);obtain ⟨xa,xc,rx,sx⟩:=hkid j l[j] (gN hlt);have HX:=gO (HC.out l[j] (ig hlt));have hxz:=CM (ig hlt);have hnext:=SE (Dg q k) l j hlt;have hdl:=SD (Dg q k) l j hj;clear hkid HC;by_cases hk:k=57\/(l[j]).kind=57
        . have HX2:=gO (HX.out hk);have hfx:Dg q k l[j]=(l[j]).inv q:=by unfold Dg;rw [AH hk]
          rw [hfx] at hnext;clear HX hfx;generalize l[j]=x at *
          focus
           refine eK ?_;refine eA [_,_,_,_] ?_;intro ey ez cg ch e1 e2;revert hA hbm f X d hs rx sx;refine eE ch ?_;intro hA hbm f X d hs rx sx;refine C1 Pa (eS [_,_,_,_] cg ?_);intro aa p bg dd;revert hA hbm f X d hs rx sx;refine eF bg ?_;intro hA hbm f X d hs rx sx;refine eK ?_;refine B0 rfl rfl rfl (λbh=>?_) (λbh=>?_);refine eK ?_;refine Aq (λwz=>Ext aa wz) 6 (.pure 0 (.pure 1 (.pure 2 (.pure 3 (.pure 4 (.fork 5 .tail .none)))))) mixed AU (Af (Aa (Aa (Af (Aa Ag))))) ?_;intro bi ad _;have u:(λwz=>Ext aa wz) bi:=ad;simp only at u;have G:=p;have I:=hA;have i:=hbm;have v:=f;have A:=d;have T:=hs;have ae:=rx;have J:=sx;revert p hA hbm f X d hs rx sx;refine eY ad ?_;intro de p hA hbm f X d hs rx sx;refine ⟨u,?_⟩;refine eT ?_;refine Tq rfl (xL [_,_,_,_] (λwz hz=>(l9 G hz))) (Tq rfl Mv ?_);refine tC rfl rfl (HX2.out _ _ _ _ Ae) ?_;rintro _ df ⟨dg,dh,⟨⟩,af,bj⟩;revert u p hA hbm f X d hs rx sx;refine eY bj ?_;intro di u p hA hbm f X d hs rx sx;refine ⟨u,?_⟩;refine Ar rfl (C1 Pi (A6 (FY (sh:=ndShape) (j:=j) (z:=x.inv q) (us:=[_,_,_,_]) Ac rfl rfl rfl rfl rfl rfl Ae Ab Ab Ab ⟨_,_,rfl,l6 Ae (λb h=>by omega)⟩) (BH ?_)));rintro _ dj ⟨dk,ag,dl⟩;revert af p;refine eZ ag ?_;intro dm af p;clear hA;revert hbm f X d hs rx sx;refine eF ag ?_;intro hbm f X d hs rx sx;refine Ak (Ah (Ai (Al (C1 V7 (C1 Mv (Ak ?_))))));rotate_left;refine eK ?_;refine Aq (λwz=>Ext aa wz) 6 (.pure 0 (.pure 1 (.pure 2 (.pure 3 (.pure 4 (.fork 5 .tail .none)))))) mixed AU (Af (Aa (Aa (Af (Aa Ag))))) ?_;intro bk ah _;have B:(λwz=>Ext aa wz) bk:=ah;simp only at B;have G:=p;have I:=hA;have i:=hbm;have v:=f;have A:=d;have T:=hs;have ae:=rx;have J:=sx;revert p hA hbm f X d hs rx sx;refine eY ah ?_;intro dn p hA hbm f X d hs rx sx;refine ⟨B,?_⟩;refine eT ?_;refine Tq rfl (xL [_,_,_,_] (λwz hz=>(l9 G hz))) (Tq rfl Mv ?_);refine tC rfl rfl (HX2.out _ _ _ _ Ae) ?_
           rintro _ dp ⟨dq,dr,⟨⟩,ai,bl⟩;revert B p hA hbm f X d hs rx sx;refine eY bl ?_;intro ds B p hA hbm f X d hs rx sx;refine ⟨B,?_⟩;refine Ar rfl (C1 Pi (A6 (FY (sh:=ndShape) (j:=j) (z:=x.inv q) (us:=[_,_,_,_]) Ac rfl rfl rfl rfl rfl rfl Ae Ab Ab Ab ⟨_,_,rfl,l6 Ae (λb h=>by omega)⟩) (BH ?_)));rintro _ dt ⟨du,aj,dv⟩;revert ai p;refine eZ aj ?_;intro dw ai p;clear hA;revert hbm f X d hs rx sx;refine eF aj ?_;intro hbm f X d hs rx sx;refine Ak (Ah (Ai (Al (C1 V7 (C1 Mv (Ak ?_))))));rotate_left
          all_goals exact AA (j+1) sC ⟨Ab,by rw [<-hnext];exact ArrS.wide Ae Ab,hbm,d,f,hs,X,Ab⟩ Ab
        . have hfx:Dg q k l[j]=l[j]:=by unfold Dg;rw [At hk]
          rw [hfx] at hnext;clear HX hfx;generalize l[j]=x at *;have e3:¬k=57:=λe=>hk (gP e)
          have e4:¬x.kind=57:=λe=>hk (gQ e)
          have HX2:=gO (JU x Ab);refine eK ?_;refine eA [_,_,_,_] ?_;intro e5 e6 ci cj e7 e8;revert hA hbm f X d hs rx sx;refine eE cj ?_;intro hA hbm f X d hs rx sx;refine C1 Pa (eS [_,_,_,_] ci ?_);intro bn E bo dx;revert hA hbm f X d hs rx sx;refine eF bo ?_;intro hA hbm f X d hs rx sx;refine eK ?_;refine Aq (λwz=>Ext bn wz) 5 (.pure 0 (.pure 1 (.pure 2 (.pure 3 (.fork 4 .tail .none))))) mixed AU (Af (Aa (Aa (Af (Aa Ag))))) ?_;intro bp ak _;have F:(λwz=>Ext bn wz) bp:=ak;simp only at F;have ab:=E;have I:=hA;have i:=hbm;have v:=f;have A:=d;have T:=hs;have ae:=rx;have J:=sx;revert E hA hbm f X d hs rx sx;refine eY ak ?_;intro dy E hA hbm f X d hs rx sx;refine ⟨F,?_⟩;refine eT ?_;refine Tq rfl (xL [_,_,_,_] (λwz hz=>(l9 ab hz))) ?_;refine tC rfl rfl (HX2.out _ _ _ _ Ae) ?_;rintro _ dz ⟨d0,d1,⟨⟩,al,bq⟩;revert F E hA hbm f X d hs rx sx;refine eY bq ?_;intro d2 F E hA hbm f X d hs rx sx;refine ⟨F,?_⟩;refine Ar rfl (C1 Pi (A6 (FY (sh:=ndShape) (j:=j) (z:=x) (us:=[_,_,_,_]) Ac rfl rfl rfl rfl rfl rfl Ae Ab Ab Ab ⟨_,_,rfl,l6 Ae (λb h=>by omega)⟩) (BH ?_)));rintro _ d3 ⟨d4,am,d5⟩;revert al E;refine eZ am ?_;intro d6 al E;clear hA;revert hbm f X d hs rx sx;refine eF am ?_;intro hbm f X d hs rx sx;refine Ak (Ah (Ai (Al (C1 V7 (C1 Mv (Ak ?_))))))
          all_goals exact AA (j+1) sB ⟨Ab,by rw [<-hnext];exact ArrS.wide Ae Ab,hbm,d,f,hs,X,Ab⟩ Ab
      . obtain rfl:j=l.length:=by omega
        rw [SF] at hA;refine cS (C1 V3 (cT (Aj (Dz (B9 (Az (Az (A0 ?_))))))));exact BY () sB ⟨hA,hbm,d,f,X,hz⟩
    . clear hA hbm d f hs X hz e0 HC;rintro _ w3 ⟨hA,hbm,d,f,X,hz⟩;have hxl:(l.map (Dg q k)).length=l.length:=by simp
      by_cases k57:k=57
      . subst k57;have ht:(Nd.mk 57 n s l).inv q = .mk 57 n s (Cc q l).reverse:=by
         conv=>lhs;unfold Nd.inv
         rw [AH rfl]
        rw [ht,SC];generalize l.map (Dg q 57)=xs at *;rw [<-hxl] at hbm;refine eK ?_;refine C1 (AL rfl rfl (gX _ Ab)) ?_;refine eK ?_;refine cC rfl (Vb (b1+4) _ _ _ _ _ Ae (gP Ab) Ab) ?_;rintro _ e9 ⟨⟨⟩,ax,br⟩;revert f X d hbm;refine eZ br ?_;intro fa f X d hbm;clear hA br;refine eK ?_;refine eS [_,_,_,_] f ?_;intro fb ck cl fc;revert ax X d hbm;refine eF cl ?_;intro ax X d hbm;refine eK ?_;refine xC ck ?_;exact DL AK (ax.wide Ab) Ab Ab X
      rw [QG q k57];by_cases k5:k=52\/k=53\/k=54
      . rw [AH k5];have hne:=v2 k5;generalize l.map (Dg q k)=xs at *;have hpos:0<xs.length:=by rw [hxl];exact List.length_pos_iff.2 hne
        obtain ⟨x,hx⟩:∃x,xs[0]? = some x:=⟨_,gN hpos⟩;obtain ⟨y,hy⟩:∃y,xs[xs.length-1]? = some y:=⟨_,gN Ab⟩;obtain ⟨_,r1,xa,xc,rfl,sx⟩:=hA.row hx;obtain ⟨_,r2,ya,yc,rfl,sy⟩:=hA.row hy;have em:((xs.length:Int)-1).toNat=xs.length-1:=by omega
        have hsw:Gp xs=(xs.set 0 y).set ((xs.length:Int)-1).toNat x:=by
         unfold Gp;rw [em,gT,gT,hx,hy];rfl
        rw [hsw];have hsl:((xs.set 0 y).set ((xs.length:Int)-1).toNat x).length=xs.length:=by simp
        replace r1:Row w3 ⟨g,0+0*4,none⟩ (x.cells xa xc):=r1;replace r2:Row w3 ⟨g,0+((xs.length:Int)-1).toNat*4,none⟩ (y.cells ya yc):=by rw [em];exact r2
        rw [<-hxl] at hbm;clear hx hy hsw;rcases k5 with rfl|rfl|rfl
        . focus
           refine eK ?_;refine C1 (AL rfl rfl (gX _ Ab)) ?_;refine eK ?_;refine E6 (λwz=>Ext w3 wz) (λwz=>Fr (λx=>x=g) w3 wz) [2,3,4,15,16,17] [2,3,4] 15 16 (.free 2 (.free 3 (.free 4 (.pure 0 (.pure 1 (.pure 5 (.pure 6 (.pure 7 (.pure 8 (.pure 9 (.pure 10 (.pure 11 (.pure 12 (.pure 13 (.pure 14 (.put 15 (.tail 16))))))))))))))))) (λ_ h=>lX h) mixed AU (Af (Aa Ag)) ?_;intro bs ay _;have bt:(λwz=>Ext w3 wz) bs:=ay;simp only at bt;have W:(λwz=>Fr (λx=>x=g) w3 wz) bs:=lX ay;simp only at W;have v:=f;have I:=hA;have J:=sx;have an:=sy;have L:=r1;have M:=r2;have A:=d;have i:=hbm;revert f X hA sx sy r1 r2 d hbm;refine eY ay ?_;intro fd f X hA sx sy r1 r2 d hbm;refine Bp Ae rfl (AY Ac rfl rfl rfl) rfl (Bp Ae rfl (Ap Ac rfl rfl rfl (λwz hz=>l7 (lY i hz Ab) rfl)) rfl (Bp Ae rfl (Av rfl) rfl (Am Ae rfl (AY Ac rfl rfl rfl) rfl (Am Ae rfl (Ap Ac rfl rfl rfl (λwz hz=>l7 (l9 i hz) rfl)) rfl (Am Ae rfl (AY Ac rfl rfl rfl) rfl (Am Ae rfl (Ap Ac rfl rfl rfl (λwz hz=>l7 (l9 i hz) rfl)) rfl (Am Ae rfl (Av rfl) rfl (Am Ae rfl (AO Ac rfl rfl rfl rfl Ab Ab) rfl (Am Ae rfl (BC Ac rfl rfl rfl (λwz hz=>(l5 M hz)) rfl) rfl (Am Ae rfl (AY Ac rfl rfl rfl) rfl (Am Ae rfl (Ap Ac rfl rfl rfl (λwz hz=>l7 (l9 i hz) rfl)) rfl ?_)))))))))))
           refine Am Ae rfl (AO Ac rfl rfl rfl rfl Ab Ab) rfl (Am Ae rfl (Dy [_,_,_,_] Ac rfl rfl rfl (λwz hz=>(l5 L hz)) rfl rfl) rfl (Am Ae rfl (AO Ac rfl rfl rfl rfl Ab Ab) rfl (DB rfl (Cj (sh:=ndShape) (j:=0) (z:=y) (us:=[_,_,_,_]) Ac rfl rfl rfl rfl rfl rfl Ae Ab (gP Ab) ⟨_,_,rfl,Ae⟩) (BH ?_))));rintro _ fe ⟨ff,az,fg⟩;revert W f X;refine eZ az ?_;intro d7 W f X;clear hA;revert sx sy;refine eF az ?_;intro sx sy;revert d hbm;refine eF az ?_;intro d hbm;refine ⟨Ae,?_⟩;refine DA rfl (C1 Pi (A6 (Cj (sh:=ndShape) (j:=((xs.length:Int)-1).toNat) (z:=x) (us:=[_,_,_,_]) Ac rfl rfl rfl rfl rfl rfl Ae (by rw [jx];omega) (gP Ab) ⟨_,_,rfl,Ae⟩) (BH ?_)));rintro _ d8 ⟨ao,ap,d9⟩;have ea:=ap.size;revert f X sx sy d hbm;refine eF ap ?_;intro f X sx sy d hbm;refine eK ?_;refine eS [_,_,_,_] f ?_;intro eb bu bv ec;revert ao X sx sy d hbm;refine eF bv ?_;intro ao X sx sy d hbm;refine eK ?_;refine xC bu ?_;rotate_left
          exact DL hsl (ArrS.wide Ae Ab) Ab Ab X
        . focus
           refine eK ?_;refine C1 (AL rfl rfl (gX _ Ab)) ?_;refine eK ?_;refine E6 (λwz=>Ext w3 wz) (λwz=>Fr (λx=>x=g) w3 wz) [2,3,4,15,16,17] [2,3,4] 15 16 (.free 2 (.free 3 (.free 4 (.pure 0 (.pure 1 (.pure 5 (.pure 6 (.pure 7 (.pure 8 (.pure 9 (.pure 10 (.pure 11 (.pure 12 (.pure 13 (.pure 14 (.put 15 (.tail 16))))))))))))))))) (λ_ h=>lX h) mixed AU (Af (Aa Ag)) ?_;intro bw a0 _;have bx:(λwz=>Ext w3 wz) bw:=a0;simp only at bx;have Y:(λwz=>Fr (λx=>x=g) w3 wz) bw:=lX a0;simp only at Y;have v:=f;have I:=hA;have J:=sx;have an:=sy;have L:=r1;have M:=r2;have A:=d;have i:=hbm;revert f X hA sx sy r1 r2 d hbm;refine eY a0 ?_;intro fh f X hA sx sy r1 r2 d hbm;refine Bp Ae rfl (AY Ac rfl rfl rfl) rfl (Bp Ae rfl (Ap Ac rfl rfl rfl (λwz hz=>l7 (lY i hz Ab) rfl)) rfl (Bp Ae rfl (Av rfl) rfl (Am Ae rfl (AY Ac rfl rfl rfl) rfl (Am Ae rfl (Ap Ac rfl rfl rfl (λwz hz=>l7 (l9 i hz) rfl)) rfl (Am Ae rfl (AY Ac rfl rfl rfl) rfl (Am Ae rfl (Ap Ac rfl rfl rfl (λwz hz=>l7 (l9 i hz) rfl)) rfl (Am Ae rfl (Av rfl) rfl (Am Ae rfl (AO Ac rfl rfl rfl rfl Ab Ab) rfl (Am Ae rfl (BC Ac rfl rfl rfl (λwz hz=>(l5 M hz)) rfl) rfl (Am Ae rfl (AY Ac rfl rfl rfl) rfl (Am Ae rfl (Ap Ac rfl rfl rfl (λwz hz=>l7 (l9 i hz) rfl)) rfl ?_)))))))))))
           refine Am Ae rfl (AO Ac rfl rfl rfl rfl Ab Ab) rfl (Am Ae rfl (Dy [_,_,_,_] Ac rfl rfl rfl (λwz hz=>(l5 L hz)) rfl rfl) rfl (Am Ae rfl (AO Ac rfl rfl rfl rfl Ab Ab) rfl (DB rfl (Cj (sh:=ndShape) (j:=0) (z:=y) (us:=[_,_,_,_]) Ac rfl rfl rfl rfl rfl rfl Ae Ab (gP Ab) ⟨_,_,rfl,Ae⟩) (BH ?_))));rintro _ fi ⟨fj,a1,fk⟩;revert Y f X;refine eZ a1 ?_;intro ed Y f X;clear hA;revert sx sy;refine eF a1 ?_;intro sx sy;revert d hbm;refine eF a1 ?_;intro d hbm;refine ⟨Ae,?_⟩;refine DA rfl (C1 Pi (A6 (Cj (sh:=ndShape) (j:=((xs.length:Int)-1).toNat) (z:=x) (us:=[_,_,_,_]) Ac rfl rfl rfl rfl rfl rfl Ae (by rw [jx];omega) (gP Ab) ⟨_,_,rfl,Ae⟩) (BH ?_)));rintro _ ee ⟨aq,ar,ef⟩;have eg:=ar.size;revert f X sx sy d hbm;refine eF ar ?_;intro f X sx sy d hbm;refine eK ?_;refine eS [_,_,_,_] f ?_;intro eh bz b0 ei;revert aq X sx sy d hbm;refine eF b0 ?_;intro aq X sx sy d hbm;refine eK ?_;refine xC bz ?_;rotate_left
          exact DL hsl (ArrS.wide Ae Ab) Ab Ab X
        . focus
           refine eK ?_;refine C1 (AL rfl rfl (gX _ Ab)) ?_;refine eK ?_;refine E6 (λwz=>Ext w3 wz) (λwz=>Fr (λx=>x=g) w3 wz) [2,3,4,15,16,17] [2,3,4] 15 16 (.free 2 (.free 3 (.free 4 (.pure 0 (.pure 1 (.pure 5 (.pure 6 (.pure 7 (.pure 8 (.pure 9 (.pure 10 (.pure 11 (.pure 12 (.pure 13 (.pure 14 (.put 15 (.tail 16))))))))))))))))) (λ_ h=>lX h) mixed AU (Af (Aa Ag)) ?_;intro b2 a2 _;have b3:(λwz=>Ext w3 wz) b2:=a2;simp only at b3;have Z:(λwz=>Fr (λx=>x=g) w3 wz) b2:=lX a2;simp only at Z;have v:=f;have I:=hA;have J:=sx;have an:=sy;have L:=r1;have M:=r2;have A:=d;have i:=hbm;revert f X hA sx sy r1 r2 d hbm;refine eY a2 ?_;intro fl f X hA sx sy r1 r2 d hbm;refine Bp Ae rfl (AY Ac rfl rfl rfl) rfl (Bp Ae rfl (Ap Ac rfl rfl rfl (λwz hz=>l7 (lY i hz Ab) rfl)) rfl (Bp Ae rfl (Av rfl) rfl (Am Ae rfl (AY Ac rfl rfl rfl) rfl (Am Ae rfl (Ap Ac rfl rfl rfl (λwz hz=>l7 (l9 i hz) rfl)) rfl (Am Ae rfl (AY Ac rfl rfl rfl) rfl (Am Ae rfl (Ap Ac rfl rfl rfl (λwz hz=>l7 (l9 i hz) rfl)) rfl (Am Ae rfl (Av rfl) rfl (Am Ae rfl (AO Ac rfl rfl rfl rfl Ab Ab) rfl (Am Ae rfl (BC Ac rfl rfl rfl (λwz hz=>(l5 M hz)) rfl) rfl (Am Ae rfl (AY Ac rfl rfl rfl) rfl (Am Ae rfl (Ap Ac rfl rfl rfl (λwz hz=>l7 (l9 i hz) rfl)) rfl ?_)))))))))))
           refine Am Ae rfl (AO Ac rfl rfl rfl rfl Ab Ab) rfl (Am Ae rfl (Dy [_,_,_,_] Ac rfl rfl rfl (λwz hz=>(l5 L hz)) rfl rfl) rfl (Am Ae rfl (AO Ac rfl rfl rfl rfl Ab Ab) rfl (DB rfl (Cj (sh:=ndShape) (j:=0) (z:=y) (us:=[_,_,_,_]) Ac rfl rfl rfl rfl rfl rfl Ae Ab (gP Ab) ⟨_,_,rfl,Ae⟩) (BH ?_))));rintro _ fm ⟨fn,a3,fo⟩;revert Z f X;refine eZ a3 ?_;intro ej Z f X;clear hA;revert sx sy;refine eF a3 ?_;intro sx sy;revert d hbm;refine eF a3 ?_;intro d hbm;refine ⟨Ae,?_⟩;refine DA rfl (C1 Pi (A6 (Cj (sh:=ndShape) (j:=((xs.length:Int)-1).toNat) (z:=x) (us:=[_,_,_,_]) Ac rfl rfl rfl rfl rfl rfl Ae (by rw [jx];omega) (gP Ab) ⟨_,_,rfl,Ae⟩) (BH ?_)));rintro _ ek ⟨au,av,el⟩;have en:=av.size;revert f X sx sy d hbm;refine eF av ?_;intro f X sx sy d hbm;refine eK ?_;refine eS [_,_,_,_] f ?_;intro eo b4 b5 ep;revert au X sx sy d hbm;refine eF b5 ?_;intro au X sx sy d hbm;refine eK ?_;refine xC b4 ?_;rotate_left
          exact DL hsl (ArrS.wide Ae Ab) Ab Ab X
      . rw [At k5];generalize l.map (Dg q k)=xs at *;have fp:¬k=52:=λe=>k5 (gP e)
        have fq:¬k=53:=λe=>k5 (gQ (gP e))
        have fs:¬k=54:=λe=>k5 (gQ (gQ e))
        by_cases k6:k=50\/k=51
        . rw [AH k6];cases q
          . simp only [iS,if_false];rcases k6 with rfl|rfl
            . refine eK ?_;refine C1 (AL rfl rfl (gX _ Ab)) ?_;refine eK ?_;refine cC rfl (Ho _ _ Ab Ab) ?_;rintro _ ft ⟨⟨⟩,rfl⟩;refine C1 Pg (eV [_] [_,_,_,_] hbm ?_);intro fu b6 cm fv;clear hbm;revert f X hA d;refine eF cm ?_;intro f X hA d;refine eK ?_;refine eS [_,_,_,_] f ?_;intro fw b7 cn eq;revert b6 X hA d;refine eF cn ?_;intro b6 X hA d;refine eK ?_;refine xC b7 ?_;exact DL hxl (ArrS.wide Ae Ab) Ab Ab X
            . refine eK ?_;refine C1 (AL rfl rfl (gX _ Ab)) ?_;refine eK ?_;refine cC rfl (Ho _ _ Ab Ab) ?_;rintro _ fx ⟨⟨⟩,rfl⟩;refine C1 Pg (eV [_] [_,_,_,_] hbm ?_);intro fy b9 co fz;clear hbm;revert f X hA d;refine eF co ?_;intro f X hA d;refine eK ?_;refine eS [_,_,_,_] f ?_;intro f0 ca cp er;revert b9 X hA d;refine eF cp ?_;intro b9 X hA d;refine eK ?_;refine xC ca ?_;exact DL hxl (ArrS.wide Ae Ab) Ab Ab X
          . simp only [if_true];rcases k6 with rfl|rfl
            . refine eK ?_;refine C1 (AL rfl rfl (gX _ Ab)) ?_;refine eK ?_;refine eS [_,_,_,_] f ?_;intro f1 cq cr f2;revert X hA hbm d;refine eF cr ?_;intro X hA hbm d;refine eK ?_;refine xC cq ?_;exact DL hxl (ArrS.wide Ae Ab) Ab Ab X
            . refine eK ?_;refine C1 (AL rfl rfl (gX _ Ab)) ?_;refine eK ?_;refine eS [_,_,_,_] f ?_;intro f3 cs ct f4;revert X hA hbm d;refine eF ct ?_;intro X hA hbm d;refine eK ?_;refine xC cs ?_;exact DL hxl (ArrS.wide Ae Ab) Ab Ab X
        . rw [At k6];have f5:¬k=50:=λe=>k6 (gP e)
          have f6:¬k=51:=λe=>k6 (gQ e)
          refine eK ?_;refine C1 (AL rfl rfl (gX _ Ab)) ?_;refine eK ?_;refine cC rfl (Ho _ _ Ab Ab) ?_;rintro _ f7 ⟨⟨⟩,rfl⟩;refine C1 Pg (eV [_] [_,_,_,_] hbm ?_);intro f8 cb cu f9;clear hbm;revert d f X hA;refine eF cu ?_;intro d f X hA;refine eK ?_;refine eS [_,_,_,_] f ?_;intro ga cc cv es;revert cb d X hA;refine eF cv ?_;intro cb d X hA;refine eK ?_;refine xC cc ?_;exact DL hxl (ArrS.wide Ae Ab) Ab Ab X
structure OwnM {α:Type} (sh:Shape α) (w:wD) (R:nP) (B:Nat) (e:TypeId) (v:Value) (xs:List α):Prop where
 ex:∃css:List lV,Own w B e sh.sz v xs.length css.flatten/\css.length=xs.length /\ ∀(i:Nat) (x:α) (cs:lV),xs[i]? = some x->css[i]? = some cs->sh.rep w (λb=>(R b\/B<=b)/\v.ownBlock≠some b) x cs
section
variable {sh:Shape α} {R:nP} {e:Nat} {xs:List α}
def OwnM.rows (h:OwnM sh w R B e v xs) (Z:xs≠[]):∃g cap,v = .slice (some ⟨g,0,none⟩) xs.length cap/\B<=g /\ ∀(i:Nat) (x:α),xs[i]? = some x -> ∃cs,Row w ⟨g,i*sh.sz,none⟩ cs/\sh.rep w (λb=>R b\/B<=b) x cs:=by
 obtain ⟨G,h1,h2,Y⟩:=h.ex;rcases h1.row with ⟨rfl,hn,-⟩|⟨g,cap,rfl,hg,aa,hr⟩
 . exact absurd (List.length_eq_zero_iff.1 hn) Z
 . refine ⟨g,cap,rfl,hg,λi x O=>?_⟩;have ab:i<xs.length:=by
    rcases it i xs.length with h|h
    . exact h
    . rw [ic h] at O;cases O
   have hc:G[i]? = some G[i]:=gN Ab;have M:∀cs∈G,cs.length=sh.sz:=λcs U=>by
    obtain ⟨k,hk,rfl⟩:=List.mem_iff_getElem.1 U;exact sh.len (Y k xs[k] G[k] (gN Ab) (gN hk))
   obtain ⟨e1,e2⟩:=FE M (show i<G.length by omega);refine ⟨G[i],λj u V=>?_,sh.mono (Y i x _ O hc) (λ_ h=>h.1) (λ_ _ _ _ h=>h)⟩;have X:j<G[i].length:=by
    rcases it j G[i].length with h|h
    . exact h
    . rw [ic h] at V;cases V
   have N:G.flatten[i*sh.sz+j]? = some u:=by
    rw [e1,iI,ik Ab,e2,lp,gW X];exact V
   have:=hr.at (i:=i*sh.sz+j) N;have e:(⟨g,i*sh.sz,none⟩:Addr).add j=⟨g,0+(i*sh.sz+j),none⟩:=by unfold jA;by_cases h0:j=0<;>simp [h0]
   rw [e];exact this
end
def DD {P:Program} {l:Sl} {Q:Exit->Act->wD->Prop} {x y:Code} {ι:Type} (L:ι->Sl) (I:ι->wD->Prop) (h:CW P n x (Exit.then (λa w=> ∃i,Env n (L i) a/\I i w) Q) l w) (k:∀i w,I i w->CW P n y Q (L i) w):CW P n x (Exit.then (Code.wp P y Q) Q) l w:=by
 unfold CW at h k ⊢;intro a G;refine Code.wp_mono (λe a w q=>?_) (h a G);cases e with
 | normal=>
  obtain ⟨i,M,N⟩:=q;exact k i w N a M
 | _=>exact q
def Pr (v:VD):v.cells.length=3:=rfl
def bW (v:VD):v.cells.all mq=true:=rfl
def QI {l:List VD} (h:VDs S w l a):Rows S w (l.flatMap VD.cells) a:=by
 rcases h with h|⟨b,o,G,M,N⟩
 . subst h;exact gP rfl
 . exact gQ ⟨b,o,G,M,N4 Pr l o (λi x O=>N i x O)⟩
def Mu {l:List VD} (h:Rows S w (l.flatMap VD.cells) a):VDs S w l a:=by
 cases l with
 | nil=>exact gP rfl
 | cons v r=>
  rcases h with h|⟨b,o,G,M,N⟩
  . simp at h
  . exact gQ ⟨b,o,G,M,λi x O=>N5 Pr (v::r) o N i x O⟩
def VCopyR (l:List VD) (w:wD):Ending->wD->Prop:=λe w'=> ∃a c,e = .returned (.slice a l.length c)/\VDs (λb=>w.heap.size<=b/\b<w'.heap.size) w' l a/\Ext w w'/\l.length<=c
def VCopyR.ret {l:List VD} (h:VCopyR l w e w'):∃v,e = .returned v:=by
 obtain ⟨_,_,h,-⟩:=h;exact ⟨_,h⟩
def SH (X:Ext w w'):VCopyR [] w (.returned (.slice none 0 0)) w':=⟨none,0,rfl,gP rfl,X,ip _⟩
def SI {l:List VD} {e g cap m:Nat} (G:0+l.length=m) (h:OwnF e 3 B w' g cap m ([]++l.flatMap VD.cells)) (M:w.heap.size<=g) (X:Ext w w'):VCopyR l w (.returned (.slice (some ⟨g,0,none⟩) m cap)) w':=by
 have N:=h.lt;subst G;exact ⟨some ⟨g,0,none⟩,cap,by rw [iY],Mu (h.rows ⟨M,N⟩),X,by have:=h.le;omega⟩
def Io (l:List VD) (hl:l.length<=1000000000) (S:nP) (a:oA) (c:Nat) (w:wD) (G:VDs S w l a) :
 Calls prog 58 #[.slice a l.length c] w (VCopyR l w):=by
 have X:=Ne w;have hd:=Hl Pr l;have ho:=Ld bW l;cases a with
 | none=>
  have h0:l=[]:=by
   rcases G with h|⟨b,o,h,-⟩
   . exact h
   . cases h
  subst h0;refine Ad func58 ntmps58 rfl rfl (eK ?_);refine C1 (Mh Ac rfl rfl) (kR ?_);exact SH X
 | some p=>
  have G:=(QI G).ltA;refine Ad func58 ntmps58 rfl rfl (eK ?_);refine C1 (Mi Ac rfl rfl) (eK ?_);refine Ax (JQ (B:=w.heap.size) Ac rfl rfl Ab) rfl ?_ aFh;rintro _ ab ⟨ac,rfl,ad,ae,af,O⟩;revert X G;refine eE O ?_;intro X G;refine C1 Mv (Ax (JR Ac CJ rfl rfl rfl rfl AU rfl rfl rfl Ae Ae hd ho Ab) rfl ?_ aFh);rintro _ U ⟨V,N,rfl,Y,Z,aa,M⟩;have X:=X.fr M Ab;refine kR ?_;exact SI rfl Ae Ab X
end Bk
namespace Bk
open Go Go.RowKit
def WF (r:Option Nat):Fence:={ Fence.wide with round:=r }
section base
variable {P:Program} {r:Option Nat} {m:Nat} {Q:Exit->Act->wD->Prop}
def wf_calls {f:FuncId} {args:Array Value} {w:wD} {R:Ending->wD->Prop}:CallsIn (WF r) m P f args w R↔Calls P f args w R:=callsIn_wide (n:=m)
def JV {p:Prop} (h:(WF r).depth.isSome=true):p:=by simp [WF,Fence.wide] at h
def YY {row:String} {args:Array Value} {w:wD} {R:Value->wD->Prop} (h:Go.Rows P row args w R):RowsIn (WF r) m P row args w R:=λc cs _=>
 let ⟨v,w',hR,hs⟩:=h c cs
 ⟨v,w',hR,stepsIn_wide.2 hs⟩
def Gs (o:Oper):Bool:=match o.op with
 | .defer _=>false
 | _=>true
def WQ {o:Oper} (h:Gs o=true):∀c,o.op≠.defer c:=λc e=>by simp [Gs,e] at h
def TZ {o:Oper} {a:Act} {w:wD} {K:Act->wD->Prop} (G:Gs o=true) (h:o.wp P a w K Q):o.wpIn (WF r) m P a w K Q:=by
 refine ⟨λ_ _=>trivial,?_⟩;rw [Oper.semAt_eq _ _ _ (WQ G)];unfold jy at h;generalize (execOp a.eval o).run P w=x at h;cases x with
 | ok v w'=>cases v<;>simp only [Oper.upon] at h<;>simp only [Oper.uponIn]<;>first
  | exact h
  | exact h.elim
  | exact ⟨JV,wf_calls.2 (i7 h (λe w h=>by cases e<;>exact h))⟩
  | exact ⟨JV,YY h⟩
 | halt v w'=>cases v<;>simp only [Oper.upon] at h<;>simp only [Oper.uponIn]<;>first|exact h|exact h.elim
def Ps {ops:Array Oper} (N:¬LetsOut Q):∀(G:List Oper) (a:Act) (w:wD),G.all Gs=true->wpList P ops Q G a w->wpListIn (WF r) m P ops Q G a w
 | [],_,_,_,h=>h
 | o::G,a,w,M,h=>by
  simp only [kU,gR] at M;unfold wpList at h;unfold wpListIn;by_cases O:Region.wanted o (yielded ops a.tmps)=true
  . rw [AH O] at h ⊢;rcases h with h|h
    . exact Oper.wpIn_mono (λa w h=>Ps N G a w M.2 h) (TZ M.1 h)
    . exact absurd h.2 N
  . rw [At O] at h ⊢;exact ⟨λ_ _=>trivial,Ps N G _ w M.2 h⟩
def Bw {K:Act->wD->Prop} (h:¬LetsOut Q):¬LetsOut (Exit.then K Q):=h
def By {i:Nat} (h:¬LetsOut Q):¬LetsOut (Exit.inBlock i Q):=h
end base
def CR (P:Program) (n:Nat) (r:Option Nat) (c:Code) (Q:Exit->Act->wD->Prop) (l:Sl) (w:wD):Prop:= ∀a,Env n l a->c.wpIn (WF r) 0 P Q a w
section code
variable {P:Program} {n:Nat} {r:Option Nat} {Q:Exit->Act->wD->Prop} {l:Sl} {w:wD}
def T0 {c:Code} (h:CR P n none c Q l w):CW P n c Q l w:=by unfold CW;exact λa G=>wpIn_wide.1 (h a G)
def eC {c:Code} (h:CW P n c Q l w):CR P n none c Q l w:=by unfold CW at h;exact λa G=>wpIn_wide.2 (h a G)
def Dh {x y:Code} (h:CR P n r x (Exit.then (y.wpIn (WF r) 0 P Q) Q) l w):CR P n r (.seq x y) Q l w:=λa G=>wpIn_seq (h a G)
def Cw {y:Code} (h:CR P n r y Q l w):QW n (Exit.then (y.wpIn (WF r) 0 P Q) Q) .normal l w:=by unfold QW;exact h
def F0 (h:QW n Q .normal l w):CR P n r .skip Q l w:=by unfold QW at h;exact λa G=>wpIn_skip (h a G)
def YZ {i:Nat} (h:QW n Q (.exit i) l w):CR P n r (.exit i) Q l w:=by unfold QW at h;exact λa G=>wpIn_exit (h a G)
def WR (h:QW n Q .ret l w):CR P n r .ret Q l w:=by unfold QW at h;exact λa G=>wpIn_ret (h a G)
def Gt {i:Nat} {c:Code} (h:CR P n r c (Exit.inBlock i Q) l w):CR P n r (.block i c) Q l w:=λa G=>wpIn_block (h a G)
def T1 {c:Operand} {x y:Code} {b:Bool} (G:ev l c=some (.bool b)) (M:b=true->CR P n r x Q l w) (N:b=false->CR P n r y Q l w):CR P n r (.cond c x y) Q l w:=
 λa h=>wpIn_cond_split (h.ev G) (λe=>M e a h) (λe=>N e a h)
def Bs {M:Nat} {G:List Oper} (N:G.all Gs=true) (O:¬LetsOut Q) (h:LW P n G.toArray Q G l w):CR P n r (.region M G.toArray false) Q l w:=by unfold LW at h;exact λa U=>wpIn_region_lit (Ps O G a w N (h a U))
end code
section draw
variable {P:Program} {ops:Array Oper} {Q:Exit->Act->wD->Prop} {S:wD->Prop} {K:Nat}
def GS (P:Program) (ops:Array Oper) (Q:Exit->Act->wD->Prop) (S:wD->Prop) (K:Nat):Nat->Array Bool->Act->wD->Prop
 | 0,listed,a,w=>iH .any ops listed=[]/\Q .normal a w
 | fuel+1,listed,a,w=>
  (iH .any ops listed=[]->Q .normal a w) /\
  ∀i∈iH .any ops listed,(i<K->wpOp P ops Q i (λa' w'=>S w'/\GS P ops Q S K fuel (listed.setIfInBounds i true) a' w') a w) /\
   (K<=i->wpOpIn (WF none) 0 P ops Q i (GS P ops Q S K fuel (listed.setIfInBounds i true)) a w)
def Y0 {i:Nat} {a:Act} {w:wD} {G:Act->wD->Prop} (N:¬LetsOut Q) (O:∀o,ops[i]? = some o->Gs o=true) (h:wpOp P ops Q i G a w):wpOpIn (WF none) 0 P ops Q i G a w:=by
 unfold wpOp at h;unfold wpOpIn;cases ho:ops[i]? with
 | none=>rw [ho] at h;exact h
 | some o=>
  rw [ho] at h;simp only at h ⊢;by_cases M:Region.wanted o (yielded ops a.tmps)=true
  . rw [AH M] at h ⊢;rcases h with h|h
    . exact TZ (O o ho) h
    . exact absurd h.2 N
  . rw [At M] at h ⊢;exact ⟨λ_ _=>trivial,h⟩
def GT (N:¬LetsOut Q) (O:∀(i:Nat) (o:Oper),ops[i]? = some o->Gs o=true):∀(G:Nat) (M:Array Bool) (a:Act) (w:wD),GS P ops Q S K G M a w->wpAnyIn (WF none) 0 P .any ops Q G M a w
 | 0,_,_,_,h=>h
 | G+1,_,_,_,h=>⟨h.1,λi X=>by
  by_cases Y:i<K
  . exact wpOpIn_mono (λU w' V=>GT N O G _ U w' V.2) (Y0 N (O i) ((h.2 i X).1 Y))
  . exact wpOpIn_mono (λU w' V=>GT N O G _ U w' V) ((h.2 i X).2 Ab)⟩
def Pu {i:Nat} {oi:Oper} {v:Value} (hi:ops[i]? = some oi) (hK:i<K) (af:Ej ops K i) (Y:∀(j:Nat) (o:Oper) cs b,ops[j]? = some o->o.op≠.select cs b)
 (hQ:∀c a w,Q (.panic c) (a.put oi.dst v) w->Q (.panic c) a w) :
 ∀(M:Nat) (G:Array Bool) (a:Act) (w:wD),DC ops G ->
  (∀j Z,ops[j]? = some Z->j≠i->G.getD j true=false->(∀e∈Z.after,jh .any e=true->e.on≠i)->oi.apart ops Z=true) ->
  i∈iH .any ops G->YieldsIf P ops S oi v a->S w ->
  GS P ops Q S K M (G.setIfInBounds i true) (a.put oi.dst v) w->GS P ops Q S K (M+1) G a w:=by
 intro M
 induction M with
 | zero=>
  intro G a w _ _ hr hy hS H;refine ⟨λh=>(by rw [h] at hr;cases hr),λj hj=>?_⟩;by_cases N:j=i
  . subst N;exact ⟨λ_=>hy.wpOp hi hS ⟨hS,H⟩,λh=>by omega⟩
  . have:=ready_mono hj N;rw [H.1] at this;cases this
 | succ M ih=>
  intro G a w ac O hr hy hS H;refine ⟨λh=>(by rw [h] at hr;cases hr),λj hj=>?_⟩;by_cases N:j=i
  . subst N;exact ⟨λ_=>hy.wpOp hi hS ⟨hS,H⟩,λh=>by omega⟩
  . obtain ⟨aa,Z,V,ab⟩:=mem_ready.1 hj;have U:¬G.getD i false=true:=λhc=>by
     have h0:=(mem_ready.1 hr).1;rcases it i G.size with h'|h'
     . simp [h'] at h0 hc;rw [h0] at hc;cases hc
     . simp [iQ h'] at hc
    have ag:j<K:=by
     rcases it j K with h|h
     . exact h
     . exact absurd (af G j Z ac h V ab) U
    have h1:=(H.2 j (ready_mono hj N)).1 ag;have ad:∀e∈Z.after,jh .any e=true->e.on≠i:=λe he hb ah=>U (ah▸ab e he hb)
    have h2:=wpOp_putIf V (O j Z V N aa ad) (λcs b=>Y i oi cs b hi) (λcs b=>Y j Z cs b V) hQ hy h1;have X:∀k ok,ops[k]? = some ok->k≠i->(G.setIfInBounds j true).getD k true=false ->
     (∀e∈ok.after,jh .any e=true->e.on≠i)->oi.apart ops ok=true:=λk ok hk ai U aj=>by
     refine O k ok hk ai ?_ aj;by_cases ae:j=k
     . subst ae;exact aa
     . rw [getD_set_ne true ae] at U;exact U
    refine ⟨λ_=>wpOp_mono (λa' w' h3=>⟨h3.2.1,ih (G.setIfInBounds j true) a' w' (ac.set hj) X (ready_mono hr (lw N)) h3.1 h3.2.1 ?_⟩) h2,λh=>by omega⟩;rw [kF _ _ N];exact h3.2.2
def HM (P:Program) (ops:Array Oper) (Q:Exit->Act->wD->Prop) (S:wD->Prop) (K:Nat):Sc->Act->wD->Prop
 | .done,a,w=>Q .normal a w
 | .pure i r,a,w=> ∃o v,ops.toList[i]? = some o/\YieldsIf P ops S o v a/\HM P ops Q S K r (a.put o.dst v) w
 | .fork i x r,a,w=>i<K/\wpOp P ops Q i (λa' w'=>S w'/\HM P ops Q S K x a' w') a w/\HM P ops Q S K r a w
 | .none,_,_=>True
 | .tail,a,w=>wpListIn (WF none) 0 P ops Q (ops.toList.drop K) a w
def Jf:∀(f k:Nat) (G:Array Bool) (a:Act) (w:wD),K<=k->f+k=ops.size->Fi ops f k G=true->wpListIn (WF none) 0 P ops Q (ops.toList.drop k) a w->GS P ops Q S K f G a w
 | 0,k,G,a,w,V,X,M,h=>by
  have:ops.toList.drop k=[]:=jd (by simp;omega);rw [this] at h;exact ⟨by simpa [Fi] using M,h⟩
 | f+1,k,G,a,w,V,X,M,h=>by
  simp only [Fi,gR,beq_iff_eq] at M;have N:k<ops.toList.length:=by simp;omega
  rw [iB N] at h;refine ⟨λe=>absurd (M.1.symm.trans e) AK,λi O=>?_⟩;rw [M.1] at O;simp only [iu] at O;subst O;refine ⟨λh=>by omega,λ_=>?_⟩;have Y:ops[i]? = some ops.toList[i]:=by simp
  unfold wpListIn at h;unfold wpOpIn;rw [Y];simp only;split
  . rename_i U;rw [AH U] at h;exact Oper.wpIn_mono (λZ w' h'=>Jf f (i+1) _ Z w' Ab Ab M.2 h') h
  . rename_i U;rw [At U] at h;exact ⟨h.1,Jf f (i+1) _ _ w Ab Ab M.2 h.2⟩
def HM.any (hs:Region.noSelect ops=true) (O:∀i,i<K->Ej ops K i) (hQ:Df Q) :
 ∀(s:Sc) (f:Nat) (G:Array Bool) (a:Act) (w:wD),DC ops G->S w->HM P ops Q S K s a w ->
  (Sc.ok ops K true s f G=true->GS P ops Q S K f G a w) /\
  (Sc.ok ops K false s f G=true -> ∀i∈s.alts,∀f',f=f'+1->i<K/\wpOp P ops Q i (λZ w'=>S w'/\GS P ops Q S K f' (G.setIfInBounds i true) Z w') a w)
 | .done,f,G,a,w,N,U,h=>by
  refine ⟨λM=>?_,λM=>by simp [Sc.ok] at M⟩;have X:iH .any ops G=[]:=by simpa [Sc.ok] using M
  cases f with
  | zero=>exact ⟨X,h⟩
  | succ f=>exact ⟨λ_=>h,by rw [X];simp⟩
 | .none,f,G,a,w,N,U,h=>⟨λM=>by simp [Sc.ok] at M,λM=>by simp [Sc.alts]⟩
 | .tail,f,G,a,w,N,U,h=>⟨λM=>by
  simp only [Sc.ok,gR] at M;exact Jf f K G a w (ip _) (iM M.1) M.2 h,λM=>by simp [Sc.ok] at M⟩
 | .pure i r,0,G,a,w,N,U,h=>⟨λM=>by simp [Sc.ok] at M,λM=>by simp [Sc.ok] at M⟩
 | .pure i r,f+1,G,a,w,N,U,h=>⟨λM=>by
  simp only [Sc.ok,gR] at M;obtain ⟨o,v,ho,hy,X⟩:=h;have hi:ops[i]? = some o:=by simpa using ho
  have V:i∈iH .any ops G:=by simpa using M.1.1.2
  exact Pu hi (iA M.1.1.1) (O i (iA M.1.1.1)) (jV hs) (λc a w=>hQ o.dst v c a w) f G a w N (kD hi M.1.2) V hy U
   ((HM.any hs O hQ r f _ _ w (N.set V) U X).1 M.2),λM=>by simp [Sc.ok] at M⟩
 | .fork i x r,0,G,a,w,N,U,h=>⟨λM=>by simp [Sc.ok] at M,λM=>by simp [Sc.ok] at M⟩
 | .fork i x r,f+1,G,a,w,N,U,h=>by
  have key:i∈iH .any ops G->Sc.ok ops K true x f (G.setIfInBounds i true)=true->wpOp P ops Q i (λZ w'=>S w'/\GS P ops Q S K f (G.setIfInBounds i true) Z w') a w:=λV M=>
   wpOp_mono (λZ w' h'=>⟨h'.1,(HM.any hs O hQ x f _ Z w' (N.set V) h'.1 h'.2).1 M⟩) h.2.1
  have X:=HM.any hs O hQ r (f+1) G a w N U h.2.2;refine ⟨λM=>?_,λM j Y f' hf=>?_⟩
  . simp only [Sc.ok,gR] at M;obtain ⟨⟨⟨h1,h4⟩,h2⟩,h3⟩:=M;refine ⟨λe=>by rw [e] at h4;simp at h4,λj Y=>?_⟩;have:=iN.1 h1 j Y;simp only [List.contains_eq_mem,io,decide_eq_true_eq] at this;rcases this with rfl|aa
    . exact ⟨λ_=>key Y h2,λhK=>absurd h.1 Ab⟩
    . obtain ⟨k1,k2⟩:=X.2 h3 j aa f rfl;exact ⟨λ_=>k2,λhK=>by omega⟩
  . simp only [Sc.ok,gR] at M;obtain rfl:f=f':=by omega
    simp only [Sc.alts,io] at Y;rcases Y with rfl|Y
    . exact ⟨h.1,key (by simpa using M.1.1) M.1.2⟩
    . exact X.2 M.2 j Y f rfl
end draw
def MW (P:Program) (n:Nat) (ops:Array Oper) (Q:Exit->Act->wD->Prop) (S:wD->Prop) (K:Nat) (s:Sc) (l:Sl) (w:wD):Prop:= ∀a,Env n l a->HM P ops Q S K s a w
def LI (P:Program) (n:Nat) (ops:Array Oper) (Q:Exit->Act->wD->Prop) (os:List Oper) (l:Sl) (w:wD):Prop:= ∀a,Env n l a->wpListIn (WF none) 0 P ops Q os a w
section draws
variable {P:Program} {n:Nat} {ops:Array Oper} {Q:Exit->Act->wD->Prop} {S:wD->Prop} {K:Nat} {l:Sl} {w:wD}
 {d i:Nat} {ty:TypeId} {pos:String} {after:Array Edge} {r x:Sc} {rest:List Oper}
def QJ {X:Nat} {G:List Oper} (S:wD->Prop) (K:Nat) (s:Sc) (Y:P.follows .mixedOrders=true) (M:(Region.noSelect G.toArray&&I4 G.toArray K&&iE K G.length&&G.all Gs&&Sc.ok G.toArray K true s G.length (jt G.length false))=true) (Z:Df Q) (hL:¬LetsOut Q)
 (h:∀w1,Ext w w1->w1.heap=w.heap->S w1/\MW P n G.toArray Q S K s l w1):CW P n (.region X G.toArray true) Q l w:=by
 refine T0 λa ha=>?_
 simp only [gR] at M;obtain ⟨h1,h2⟩:=h w.drew (Ne w).drew rfl;have N:∀i,i<K->Ej G.toArray K i:=DT M.1.1.1.2 (by have:=iA M.1.1.2;simp;omega);have O:DC G.toArray (jt G.length false):=λk o _ V=>by
  exfalso;rcases it k G.length with U|U
  . simp [U] at V
  . simp [iQ,U] at V
 refine wpIn_region_any Y (GT (S:=S) (K:=K) hL (λi o ho=>iN.1 M.1.2 o (iF (by simpa using ho))) _ _ _ _ ?_);have:=(HM.any M.1.1.1.1 N Z s G.length (jt G.length false) a w.drew O h1 (h2 a ha)).1 M.2;simpa using this
def T2 {G:List Oper} (M:L4 K ops.toList=some G) (h:LI P n ops Q G l w):MW P n ops Q S K .tail l w:=by
 unfold LI at h;intro a N;show wpListIn _ _ P ops Q (ops.toList.drop K) a w;rw [GJ M];exact h a N
def Pv:MW P n ops Q S K .none l w:=λ_ _=>trivial
def GU {op:Op} {v:Value} (M:ops.toList[i]? = some ⟨some d,op,ty,pos,after,none⟩) (h:Br P n l S op ty v) (N:iE d n=true) (k:MW P n ops Q S K r ((d,v)::l) w) :
 MW P n ops Q S K (.pure i r) l w:=by
 unfold Br at h;exact λa G=>⟨_,v,M,gP ⟨rfl,λw O=>h a w _ _ _ _ G O⟩,k _ (G.put N v)⟩
def PA {op:Op} {G:Option Value->wD->Prop} (X:ops.toList[i]? = some ⟨some d,op,ty,pos,after,none⟩) (M:iE i K=true) (U:BE P n l op ty w G) (Y:iE d n=true)
 (k:∀v w1,G (some v) w1->S w1/\MW P n ops Q S K x ((d,v)::l) w1) (Z:∀w1,¬G none w1) (kr:MW P n ops Q S K r l w):MW P n ops Q S K (.fork i x r) l w:=λa N=>by
 unfold BE at U;refine ⟨iA M,?_,kr a N⟩;have O:ops[i]? = some ⟨some d,op,ty,pos,after,none⟩:=by simpa using X
 unfold wpOp;rw [O];simp only;rw [AH (Bd rfl)];left;exact U a _ _ _ _ _ _ N (λv w1 V=>⟨(k v w1 V).1,(k v w1 V).2 _ (N.put Y v)⟩) (λw1 h=>absurd h (Z w1))
def WS {G:List Oper} (M:¬LetsOut Q) (N:G.all Gs=true) (h:LW P n ops Q G l w):LI P n ops Q G l w:=by unfold LW at h;exact λa O=>Ps M G a w N (h a O)
def Mw {y:Nat} {x:Operand} {xs:List Operand} {tys:Array TypeId} {vs:lV} {R:Ending->wD->Prop} (V:ev l x=some (.func (.yield y) #[] #[])) (O:evs l xs=some vs) (Y:YieldAt (WF none) 0 P y vs.toArray w R) (X:∀e w1,R e w1 -> ∃v,e = .returned v) (Z:iE d n=true)
 (k:∀v w1,R (.returned v) w1->LI P n ops Q rest ((d,v)::l) w1):LI P n ops Q (⟨some d,.call ⟨.value x,xs.toArray,tys⟩,ty,pos,after,none⟩::rest) l w:=λa U=>by
 obtain ⟨fn,tmps,G,N,hy,hr⟩:=Y;have M:xs.map a.eval=vs:=U.evs O;have e:(execOp a.eval ⟨some d,.call ⟨.value x,xs.toArray,tys⟩,ty,pos,after,none⟩).run P w = .ok (.round y fn tmps G N) w:=by
  simp only [execOp,resolve,U.ev V,Deferred.ofValue,ij,iC,gY,invoke];simpa [<-M] using hy
 unfold wpListIn;rw [AH (Bd rfl)];refine ⟨λ_ _=>trivial,?_⟩;rw [Oper.semAt_eq _ _ _ (λc e=>by cases e),e];refine ⟨JV,RoundIn.mono hr λe w1 h=>?_⟩;obtain ⟨v,rfl⟩:=X e w1 h;exact k v w1 h _ (U.put Z v)
end draws
def EK {α:Type} (c:Nat) (J:(nP)->List α->wD->Prop):Prop:=
 ∀A A' xs W W',J A xs W->Fr A W W'->(∀k,A k->c<=k)->(∀k,A' k->c<=k)->(∀k,k<W.heap.size->A' k->A k)->J A' xs W'
def Keeps (S:nP) (W W':wD):Prop:=Fr (λk=> ¬S k) W W'
def Keeps.size {S:nP} {W W':wD} (h:Keeps S W W'):W.heap.size<=W'.heap.size:=Fr.size h
def Keeps.block {S:nP} {W W':wD} (h:Keeps S W W') (k:Nat) (G:S k) (M:k<W.heap.size):W'.heap[k]? = W.heap[k]? := Fr.block h k M (λe=>e G)
def Keeps.refl (S:nP) (W:wD):Keeps S W W:=lZ _ _
def Keeps.trans {S:nP} {A B C:wD} (h:Keeps S A B) (k:Keeps S B C):Keeps S A C:=Fr.trans h k
def Keeps.of_fr {S T:nP} {A B:wD} (h:Fr T A B) (G:∀k,S k -> ¬T k):Keeps S A B:=⟨h.os,h.tape,h.output,h.size,λk M N=>h.block k M (G k (Classical.not_not.1 N))⟩
def Keeps.of_ext {S:nP} {A B:wD} (h:Ext A B):Keeps S A B:=⟨h.os,h.tape,h.output,h.size,λ_ G _=>h.block G⟩
def Keeps.less {S T:nP} {A B:wD} (h:Keeps S A B) (G:∀k,T k->S k):Keeps T A B:=⟨Fr.os h,Fr.tape h,Fr.output h,Fr.size h,λk M N=>Fr.block h k M (λe=>N (λt=>e (G k t)))⟩
def IterOk {α:Type} (P:Program) (gf:Nat) (lb:lV) (rep:Nat->wD->lV->α->Prop) (Rt:nP) (S:List α) (w:wD):Prop:=
 ∀(y:Nat) (J Jx:(nP)->List α->wD->Prop) (W:wD),Keeps Rt w W->EK W.heap.size J->EK W.heap.size Jx ->
  (∀A pre x vs W1,(∀k,A k->W.heap.size<=k/\k<W1.heap.size)->J A pre W1->rep W.heap.size W1 vs x->(pre++[x]) <+: S ->
   YieldAt (WF none) 0 P y vs.toArray W1 λe W2=>Keeps (λk=>A k\/Rt k) W1 W2/\((e = .returned (.bool true)/\J A (pre++[x]) W2)\/(e = .returned (.bool false)/\Jx A (pre++[x]) W2))) ->
  J (λ_=>False) [] W ->
  Calls P gf (.func (.yield y) #[] #[]::lb).toArray W λe W'=>(∃v,e = .returned v) /\ ∃A,(∀k,A k->W.heap.size<=k)/\(J A S W' \/ ∃pre,pre <+: S/\Jx A pre W')
def JW {α:Type} (P:Program) (gf:Nat) (lb:lV) (rep:Nat->wD->lV->α->Prop) (Rt:nP) (Pre Fin:List α->Prop) (w:wD):Prop:=
 ∀(y:Nat) (J Jx:(nP)->List α->wD->Prop) (W:wD),Keeps Rt w W->EK W.heap.size J->EK W.heap.size Jx ->
  (∀A pre x vs W1,(∀k,A k->W.heap.size<=k/\k<W1.heap.size)->J A pre W1->rep W.heap.size W1 vs x->Pre (pre++[x]) ->
   YieldAt (WF none) 0 P y vs.toArray W1 λe W2=>Keeps (λk=>A k\/Rt k) W1 W2/\((e = .returned (.bool true)/\J A (pre++[x]) W2)\/(e = .returned (.bool false)/\Jx A (pre++[x]) W2))) ->
  J (λ_=>False) [] W ->
  Calls P gf (.func (.yield y) #[] #[]::lb).toArray W λe W'=>(∃v,e = .returned v) /\ ∃A,(∀k,A k->W.heap.size<=k)/\((∃S,Fin S/\J A S W') \/ ∃pre,Pre pre/\Jx A pre W')
def IterOk.gen {α:Type} {P:Program} {G:Nat} {M:lV} {rep:Nat->wD->lV->α->Prop} {N:nP} {S:List α} {w:wD} (h:IterOk P G M rep N S w):JW P G M rep N (· <+: S) (· = S) w:=
 λy J Jx W O U V X Y=>(h y J Jx W O U V X Y).mono λ_ _ ⟨Z,A,h7,h8⟩=>⟨Z,A,h7,h8.imp (λh=>⟨S,rfl,h⟩) id⟩
def Vc {W:wD} {r:Nat} {o G:Obj} (h:W.heap[r]? = some o):Fr (λk=>k=r) W (W.putObj r G):=
 ⟨rfl,rfl,rfl,AK,λk _ M=>ji M⟩
def En {α:Type} (Kp:nP) (J Jx:(nP)->List α->wD->Prop) (A:nP) (xs:List α) (W:wD):Exit->Act->wD->Prop
 | .normal,_,W'=>Keeps Kp W W'/\J A xs W'
 | .ret,_,W'=>Keeps Kp W W'/\Jx A xs W'
 | _,_,_=>False
def B5 {α:Type} {Kp:nP} {J Jx:(nP)->List α->wD->Prop} {A:nP} {xs:List α} {W:wD}:¬LetsOut (En Kp J Jx A xs W):=λ⟨_,_,h⟩=>h
def JX {P:Program} {fn:Func} {R:Ending->wD->Prop} (h:∀w,¬R .outgrown w):¬LetsOut (bodyPost P fn R):=λ⟨_,w,e⟩=>h w e
def Li {α:Type} {P:Program} {g:Operand} {ps:Array Tmp} {assign body:Code} {Q:Exit->Act->wD->Prop} {a:Act} {w:wD} {gf:Nat} {lb:lV} {rep:Nat->wD->lV->α->Prop} {Rt:nP} {Pre Fin:List α->Prop}
 (hg:a.eval g = .func (.func gf) #[] lb.toArray) (eg:BZ P gf=true) (hit:JW P gf lb rep Rt Pre Fin w) (hps:∀c W vs x,rep c W vs x->vs.length=ps.size) (hRt:∀k,Rt k->k<w.heap.size)
 (J Jx:(nP)->List α->wD->Prop) (hJ:EK w.heap.size J) (hJx:EK w.heap.size Jx) (h0:J (λ_=>False) [] w)
 (hround:∀r A pre x vs W,(∀k,A k->w.heap.size<=k/\k<W.heap.size)->A (w.heap.size+1)->J A pre W->rep (w.heap.size+2) W vs x->Pre (pre++[x]) ->
  assign.wpIn (WF (some r)) 0 P (Exit.then (λa₁ W₁=>Keeps (λk=>A k\/Rt k) W W₁ /\ ∀W₂,Fr (λk=>k=w.heap.size+1) W₁ W₂->body.wpIn (WF (some r)) 0 P (En (λk=>A k\/Rt k) J Jx A (pre++[x]) W₂) a₁ W₂) (λ_ _ _=>False))
   { tmps:=(ps.zip vs.toArray).foldl (λt (p,v)=>t.setIfInBounds p v) a.tmps,defers:=[] } W)
 (hdone:∀A S W,Fin S->(∀k,A k->w.heap.size<=k)->J A S W->A w.heap.size->W.heap[w.heap.size]? = some (.deferred (some []))->Q .normal { a with defers:={ target:=.collected w.heap.size,args:= #[] }::a.defers } W)
 (hstop:∀A pre W,(∀k,A k->w.heap.size<=k)->Pre pre->Jx A pre W->A w.heap.size->W.heap[w.heap.size]? = some (.deferred (some []))->Q .ret { a with defers:={ target:=.collected w.heap.size,args:= #[] }::a.defers } W) :
 (Code.rangeFunc g ps assign body).wpIn (WF none) 0 P Q a w:=by
 refine wpIn_rangeFunc ?_;intro fn hfn
 show ∃l mark w₁ d w₁' f args w₂,(Instr.enterLoop fn a.tmps ps assign body none).run P w = .ok (l,mark) w₁/\_
 obtain ⟨n,hn⟩:∃n,n=w.heap.size:=⟨_,rfl⟩;rw [<-hn] at hJ hJx hround hdone hstop
 obtain ⟨rec,hrec⟩:∃rec:LoopState->Option Code->Loop,rec=λst pe=>{ state:=st,pending:=pe,fn,tmps:=a.tmps,params:=ps,assign,body,defers:=n }:=⟨_,rfl⟩
 obtain ⟨W1,hW1⟩:∃W1,(w.alloc (.deferred (some []))).alloc (.loop (rec .ready none))=W1:=⟨_,rfl⟩
 have hL1:W1.heap[n+1]? = some (.loop (rec .ready none)):=by
  rw [<-hW1,hn];have:=World.alloc_heap_new (w.alloc (.deferred (some []))) (.loop (rec .ready none));rwa [World.size_alloc] at this
 have hK1:W1.heap[n]? = some (.deferred (some [])):=by
  rw [<-hW1,hn];exact (Below.heap_alloc _ _ _ (by simp)).trans (World.alloc_heap_new w _)
 have hX1:Ext w W1:=by rw [<-hW1];exact (((Ne w).alloc _).alloc _)
 have hS1:W1.heap.size=n+2:=by rw [<-hW1];simp [hn]
 let U:(nP)->nP:=λA k=>A k\/k=n\/k=n+1
 have hU:∀ {A:nP},(∀k,A k->n+2<=k) -> ∀k,U A k->n<=k:=λh k hk=>by
  rcases hk with hk|hk|hk
  . have:=h k hk;omega
  . omega
  . omega
 have hput:∀ {A:nP} {G:(nP)->List α->wD->Prop} {xs:List α} {W:wD} {o o':Obj} {k:Nat},EK n G->(∀k,A k->n+2<=k)->k=n+1->G (U A) xs W->W.heap[k]? = some o->G (U A) xs (W.putObj k o'):=
  λhG hA hk h ho=>hG _ _ _ _ _ h ⟨rfl,rfl,rfl,by simp,λi _ hi=>ji (λe=>hi (gQ (gQ (e.trans hk))))⟩ (hU hA) (hU hA) (λ_ _ h=>h)
 have hstab:∀ {G:(nP)->List α->wD->Prop} {st:LoopState} {pe:Option Code},EK n G->EK (n+2) (λA pre W=>G (U A) pre W/\W.heap[n+1]? = some (.loop (rec st pe))/\W.heap[n]? = some (.deferred (some []))):=
  λhG A A' xs W W' h hf hA hA' hs=>by
   have hlt:n+1<W.heap.size:=(Array.getElem?_eq_some_iff.1 h.2.1).1;refine ⟨hG _ _ _ _ _ h.1 ⟨hf.os,hf.tape,hf.output,hf.size,λk hk hU=>hf.block k hk (λe=>hU (gP e))⟩ (hU hA) (hU hA') (λk hk h=>?_),(hf.block _ hlt (λe=>by have:=hA _ e;omega)).trans h.2.1,(hf.block _ (by omega) (λe=>by have:=hA _ e;omega)).trans h.2.2⟩
   rcases h with h|h
   . exact gP (hs k hk h)
   . exact gQ h
 refine ⟨n+1,[{ target:=.collected n,args:= #[] }],W1,{ target:=.fn (.func gf) lb.toArray,args:= #[.func (.yield (n+1)) #[] #[]] },W1,gf,
  (.func (.yield (n+1)) #[] #[]::lb).toArray,W1,?_,?_,λ_ _=>trivial,?_,JV,?_⟩
 . rw [<-hW1,hrec,hn];exact run_enterLoop_outer _ _ _ _ _
 . simp only [resolve,hg]
   simp [go_sem]
 . simp only [invoke,ij,DH eg,gY,iC]
   simp
 . refine wf_calls.2 (i7 (hit (n+1) (λA pre W=>J (U A) pre W/\W.heap[n+1]? = some (.loop (rec .ready none))/\W.heap[n]? = some (.deferred (some [])))
    (λA pre W=>Jx (U A) pre W/\W.heap[n+1]? = some (.loop (rec .done (some .ret)))/\W.heap[n]? = some (.deferred (some []))) W1 (Keeps.of_ext hX1) (by rw [hS1];exact hstab hJ) (by rw [hS1];exact hstab hJx) ?_ ⟨?_,hL1,hK1⟩) ?_)
   ·
    rw [hS1];rintro A pre x vs W hA ⟨hi,hl,hk⟩ hrep hpre;have hlt:n+1<W.heap.size:=(Array.getElem?_eq_some_iff.1 hl).1;have hy:=run_yield (P:=P) (args:=vs.toArray) hl (by rw [hrec];simpa using hps _ W vs x hrep);rw [hrec] at hy
    have hUA:∀k,U A k->n<=k/\k<W.heap.size:=λk hk=>by
     rcases hk with hk|hk|hk
     . have:=hA k hk;omega
     . omega
     . omega
    refine ⟨fn,_,assign,body,hy,roundIn_of_wpIn (F:=WF none) hfn (wpIn_mono (hround (n+1) (U A) pre x vs W hUA (gQ (gQ rfl)) hi hrep hpre) ?_)⟩;rintro e a₁ V₁ hp
    cases e with
    | normal=>
     obtain ⟨hk1,hb⟩:=hp;have hl1:V₁.heap[n+1]? = some (.loop (rec .ready none)):=(hk1.block _ (gP (gQ (gQ rfl))) hlt).trans hl;have hk1':V₁.heap[n]? = some (.deferred (some [])):=(hk1.block _ (gP (gQ (gP rfl))) (by omega)).trans hk;refine ⟨_,run_beginRound hl1 (by rw [hrec]),wpIn_mono (hb _ (Vc hl1)) ?_⟩;have hlt1:n+1<V₁.heap.size:=(Array.getElem?_eq_some_iff.1 hl1).1;obtain ⟨V₂,hV₂⟩:∃V₂,V₁.putObj (n+1) (.loop { rec .ready none with state:=.busy })=V₂:=⟨_,rfl⟩;rw [hV₂]
     have hl2:V₂.heap[n+1]? = some (.loop { rec .ready none with state:=.busy }):=by rw [<-hV₂];exact World.putObj_heap_same hlt1
     have hk2:V₂.heap[n]? = some (.deferred (some [])):=by rw [<-hV₂];exact (ji (by omega)).trans hk1'
     have hs2:V₂.heap.size=V₁.heap.size:=by rw [<-hV₂];simp
     have hkeep:∀ {V₃:wD} {o:Obj},Keeps (λk=>U A k\/Rt k) V₂ V₃->Keeps (λk=>A k\/Rt k) W (V₃.putObj (n+1) o):=λhk3=>⟨(Fr.os hk3).trans ((show V₂.os=V₁.os by rw [<-hV₂];rfl).trans (Fr.os hk1)),(Fr.tape hk3).trans ((show V₂.tape=V₁.tape by rw [<-hV₂];rfl).trans (Fr.tape hk1)),(Fr.output hk3).trans ((show V₂.output=V₁.output by rw [<-hV₂];rfl).trans (Fr.output hk1)),by have:=hk1.size;have:=hk3.size;simp;omega,λk hlt hkk=>by
      have hk:=Classical.not_not.1 hkk
      have hne:k≠n+1:=λe=>by
       subst e
       rcases hk with hk|hk
       . have:=hA _ hk;omega
       . have:=hRt _ hk;omega
      have hk':U A k\/Rt k:=hk.imp gP id;rw [ji hne,hk3.block k hk' (by have:=hk1.size;omega),<-hV₂,ji hne]
      exact hk1.block k hk' hlt⟩
     have fin:∀(jump:Option Code) (V₃:wD),Keeps (λk=>U A k\/Rt k) V₂ V₃ ->
      (Instr.endRound (n+1) jump).run P V₃ = .ok (.bool jump.isNone) (V₃.putObj (n+1) (.loop (rec (if jump.isNone then .ready else .done) jump))) /\
      V₃.heap[n+1]? = some (.loop { rec .ready none with state:=.busy }) /\
      (V₃.putObj (n+1) (.loop (rec (if jump.isNone then .ready else .done) jump))).heap[n+1]? = some (.loop (rec (if jump.isNone then .ready else .done) jump)) /\
      (V₃.putObj (n+1) (.loop (rec (if jump.isNone then .ready else .done) jump))).heap[n]? = some (.deferred (some [])):=λjump V₃ hk3=>by
      have hl3:V₃.heap[n+1]? = some (.loop { rec .ready none with state:=.busy }):=(hk3.block _ (gP (gQ (gQ rfl))) (by omega)).trans hl2;have:=run_endRound (P:=P) jump hl3;rw [hrec] at this ⊢
      exact ⟨this,by rw [hrec] at hl3;exact hl3,World.putObj_heap_same (Array.getElem?_eq_some_iff.1 hl3).1,(ji (by omega)).trans ((hk3.block _ (gP (gQ (gP rfl))) (by omega)).trans hk2)⟩
     rintro e a₃ V₃ hp
     cases e with
     | normal=>
      obtain ⟨hk3,hi3⟩:=hp;obtain ⟨hr,hl3,hl4,hk4⟩:=fin none V₃ hk3
      exact ⟨_,_,hr,hkeep hk3,.inl ⟨rfl,hput hJ (λk hk=>(hA k hk).1) rfl hi3 hl3,hl4,hk4⟩⟩
     | ret=>
      obtain ⟨hk3,hi3⟩:=hp;obtain ⟨hr,hl3,hl4,hk4⟩:=fin (some .ret) V₃ hk3
      exact ⟨_,_,hr,hkeep hk3,.inr ⟨rfl,hput hJx (λk hk=>(hA k hk).1) rfl hi3 hl3,hl4,hk4⟩⟩
     | exit id=>exact hp.elim
     | goto t=>exact hp.elim
     | panic ch=>exact hp.elim
     | outgrown=>exact hp.elim
    | exit id=>exact hp.elim
    | goto t=>exact hp.elim
    | ret=>exact hp.elim
    | panic ch=>exact hp.elim
    | outgrown=>exact hp.elim
   . refine hJ _ _ _ _ _ h0 ⟨hX1.os,hX1.tape,hX1.output,hX1.size,λk hk _=>hX1.block hk⟩ (λ_ h=>h.elim) (hU λ_ h=>h.elim) (λk hk h=>?_)
     rcases h with h|h|h
     . exact h
     . omega
     . omega
   ·
    rw [hS1];rintro e W2 ⟨⟨v,rfl⟩,A,hA,(⟨S,hS,hi,hl,hk⟩|⟨pre,hpre,hi,hl,hk⟩)⟩
    . exact ⟨none,_,by have:=run_endLoop (P:=P) hl (by rw [hrec];simp);rw [hrec] at this;exact this,hdone (U A) S _ hS (hU hA) (hput hJ hA rfl hi hl) (gQ (gP rfl)) ((ji (by omega)).trans hk)⟩
    . exact ⟨some .ret,_,by have:=run_endLoop (P:=P) hl (by rw [hrec];simp);rw [hrec] at this;exact this,wpIn_ret (hstop (U A) pre _ (hU hA) hpre (hput hJx hA rfl hi hl) (gQ (gP rfl)) ((ji (by omega)).trans hk))⟩
def SJ {α:Type} {P:Program} {g:Operand} {ps:Array Tmp} {G N:Code} {Q:Exit->Act->wD->Prop} {a:Act} {w:wD} {X:Nat} {lb:lV} {rep:Nat->wD->lV->α->Prop} {V:nP} {S:List α}
 (hg:a.eval g = .func (.func X) #[] lb.toArray) (eg:BZ P X=true) (Y:IterOk P X lb rep V S w) (Z:∀c W vs x,rep c W vs x->vs.length=ps.size) (aa:∀k,V k->k<w.heap.size)
 (J Jx:(nP)->List α->wD->Prop) (hJ:EK w.heap.size J) (ab:EK w.heap.size Jx) (h0:J (λ_=>False) [] w)
 (M:∀r A pre x vs W,(∀k,A k->w.heap.size<=k/\k<W.heap.size)->A (w.heap.size+1)->J A pre W->rep (w.heap.size+2) W vs x->(pre++[x]) <+: S ->
  G.wpIn (WF (some r)) 0 P (Exit.then (λa₁ W₁=>Keeps (λk=>A k\/V k) W W₁ /\ ∀W₂,Fr (λk=>k=w.heap.size+1) W₁ W₂->N.wpIn (WF (some r)) 0 P (En (λk=>A k\/V k) J Jx A (pre++[x]) W₂) a₁ W₂) (λ_ _ _=>False))
   { tmps:=(ps.zip vs.toArray).foldl (λt (p,v)=>t.setIfInBounds p v) a.tmps,defers:=[] } W)
 (O:∀A W,(∀k,A k->w.heap.size<=k)->J A S W->A w.heap.size->W.heap[w.heap.size]? = some (.deferred (some []))->Q .normal { a with defers:={ target:=.collected w.heap.size,args:= #[] }::a.defers } W)
 (U:∀A pre W,(∀k,A k->w.heap.size<=k)->pre <+: S->Jx A pre W->A w.heap.size->W.heap[w.heap.size]? = some (.deferred (some []))->Q .ret { a with defers:={ target:=.collected w.heap.size,args:= #[] }::a.defers } W) :
 (Code.rangeFunc g ps G N).wpIn (WF none) 0 P Q a w  :=
 Li hg eg Y.gen Z aa J Jx hJ ab h0 M (λA S' W e h=>by subst e;exact O A W h) U
section
variable {P:Program} {n:Nat} {l:Sl} {S:wD->Prop} {tab:Tab} {ty:TypeId}
def DM {x y:Operand} {t e M sz len cap m:Nat} {sE:Sk} {a:oA} {k:IntKind} {U:Int} (T:TabOk P tab) (Y:AB tab t=some (.slice e,M)) (Z:AB tab e=some (sE,sz)) (hx:ev l x=some (.slice a len cap)) (hy:ev l y=some (.int k U)) (N:U=(m:Int)) (hm:m<=cap) :
 Br P n l S (.slice t x none (some y) none) ty (.slice a m cap):=by
 subst N;unfold Br;intro aa w ab pos after g V _;have X:P.underlying t=some (.slice e):=(T _ _ _ Y).under;have h:P.elem t=e:=by simp [Program.elem,X]
 have G:P.underlying t=some (.slice (P.elem t)):=by rw [h];exact X
 obtain ⟨i,hi,hs⟩:=(T _ _ _ Z).info;have O:(Go.sizeOf e).run P w = .ok sz w:=by simp [Go.sizeOf,typeInfo,program,jP,bind,Sem.bind,pure,hi,hs]
 have h1:(Instr.sliceAt t (.slice a len cap) none (some (.int k (m:Int))) none).run P w = .ok (.slice a m cap) w:=by
  rw [run_sliceAt_slice w t _ _ _ _ G,run_slice_h w t a len cap G k m Ab Ab];rw [h,O];cases a<;>simp [gY,sliced,jA]
 simp [execOp,V.ev hx,V.ev hy,ij,h1,gY]
end
open Go.Proofs
variable {n e:Nat} {w:wD} {v:Value} {xs:List Nd} {P:Program} {ty:TypeId} {cs:lV} {R:nP} {l:Sl}
attribute [local irreducible] Go.Calls
mutual
def Nd.walk:Nd->List Nd
 | .mk k n s l=>.mk k n s l::BU l
def BU:List Nd->List Nd
 | []=>[]
 | t::r=>t.walk++BU r
end
def Hr:∀l m:List Nd,BU (l++m)=BU l++BU m
 | [],m=>by simp [BU]
 | t::r,m=>by simp only [jC,BU,Hr r m,iI]
def JY {l:List Nd} {j:Nat} (h:j<l.length):BU (l.take (j+1))=BU (l.take j)++l[j].walk:=by
 rw [gS h,Hr,BU,BU,kH]
def QK {l:List Nd} {j:Nat} (h:j<l.length):BU (l.take j)++l[j].walk <+: BU l:=by
 rw [<-JY h];exact ⟨BU (l.drop (j+1)),by rw [<-Hr,iX]⟩
def Y1 (b0:Nat) (W:wD) (vs:lV) (t:Nd):Prop:= ∃pa pn pc a c,vs=[.slice pa pn pc,t.val a c]/\t.sits (λb=>b0<=b) W a/\t.kids.length<=c
def SliceR (n:Nat) (w:wD):Ending->wD->Prop:=λe w'=> ∃a c,e = .returned (.slice a n c)/\Ext w w'
def SliceR.ret {e:Ending} {w':wD} (h:SliceR n w e w'):∃v,e = .returned v:=by
 obtain ⟨_,_,h,-⟩:=h;exact ⟨_,h⟩
def SK {B g cap m k:Nat} {w':wD} (h:0+k=m) (_:OwnF e 1 B w' g cap m ([]++cs)) (X:Ext w w'):SliceR k w (.returned (.slice (some ⟨g,0,none⟩) m cap)) w':=⟨_,_,by rw [<-h,iY],X⟩
def Lj (cs:lV) (n:Nat) (N:cs.length=n*1) (O:cs.all mq=true) (hl:n<=1000000000) (S:nP) (p:Addr) (c:Nat) (w:wD) (h:Rows S w cs (some p)) :
 Calls prog 88 #[.slice (some p) n c] w (SliceR n w):=by
 have X:=Ne w;have h:=h.ltA;refine Ad func88 ntmps88 rfl rfl (eK ?_);refine C1 (Mi Ac rfl rfl) (eK ?_);refine Ax (JQ (B:=w.heap.size) Ac rfl rfl Ab) rfl ?_ aFh;rintro _ w6 ⟨g1,rfl,h2,h3,h4,U⟩;revert X h;refine eE U ?_;intro X h;refine C1 Mv (Ax (JR Ac CJ rfl rfl rfl rfl AU rfl rfl rfl Ae Ae N O Ab) rfl ?_ aFh);rintro _ V ⟨Y,G,rfl,Z,aa,ab,M⟩;have X:=X.fr M Ab;refine kR ?_;exact SK rfl Ae X
def Lk (w:wD):Calls prog 88 #[.slice none 0 0] w (SliceR 0 w):=by
 have X:=Ne w;refine Ad func88 ntmps88 rfl rfl (eK ?_);refine C1 (Mh Ac rfl rfl) (kR ?_);exact ⟨_,_,rfl,X⟩
def QL {b:Nat} (h:Own w b e 1 v n cs) (G:cs.all mq=true) (M:n<=1000000000):Calls prog 88 #[v] w (SliceR n w):=by
 rcases h.row with ⟨rfl,rfl,rfl⟩|⟨g,cap,rfl,O,-,N⟩
 . exact Lk w
 . exact Lj cs n h.1 G M (λ_=>True) _ _ w (gQ ⟨g,0,rfl,trivial,N⟩)
section
variable {S:wD->Prop} {tab:Tab} {zt:Ey} {ops:Array Oper} {Q:Exit->Act->wD->Prop} {rest:List Oper} {d:Nat} {pos:String} {after:Array Edge}
def SL {x y:Operand} {t N B m cap:Nat} {sE:Sk} {zs:lV} {u:Value} {p:Addr} (T:TabOk P tab) (Z:Ct P zt) (Y:AB tab t=some (.slice e,N)) (hE:AB tab e=some (sE,1)) (hz:CP zt e=some zs) (O:zs.length=1)
 (U:Dt P e=true) (hx:ev l x=some v) (hy:ev l y=some (.slice (some p) 1 cap)) (M:Own w B e 1 v m cs) (hr:Row w p [u]) (h1:mq u=true) (V:m<=10000000000) (hB:B<=w.heap.size) (hd:iE d n=true)
 (k:∀g G w1,Own w1 B e 1 (.slice (some ⟨g,0,none⟩) (m+1) G) (m+1) (cs++[u])->(v.ownBlock=some g\/w.heap.size<=g)->g<w1.heap.size->Fr (λk=>v.ownBlock=some k) w w1->LW P n ops Q rest ((d,.slice (some ⟨g,0,none⟩) (m+1) G)::l) w1) :
 LW P n ops Q (⟨some d,.call ⟨.builtin .append,#[x,y],#[t,t]⟩,ty,pos,after,none⟩::rest) l w:=by
 refine Ax (D9 T Z Y hE hz O U rfl hx hy M hr rfl (by simp [h1]) Ab Ab hB) hd (λv w1 h=>?_) aFh;obtain ⟨X,g2,g,G,g3,g4⟩:=h;subst g3;exact k g G w1 X g4 (X.blk (k:=g) rfl).2 g2
end
def Own.below {b sz:Nat} (h:Own w b e sz v n cs) (G:Nat) (N:∀k,v.ownBlock=some k->G<=k):Own w G e sz v n cs:=by
 obtain ⟨M,O|⟨g,cap,cur,rfl,V,U⟩⟩:=h
 . exact ⟨M,gP O⟩
 . exact ⟨M,gQ ⟨g,cap,cur,rfl,N g rfl,U⟩⟩
def Own.shrink {b sz m:Nat} {p:Addr} {cap:Nat} (h:Own w b e sz (.slice (some p) n cap) n cs) (V:m<=n):Own w b e sz (.slice (some p) m cap) m (cs.take (m*sz)):=by
 have G:m*sz<=n*sz:=jD _ V;obtain ⟨M,⟨X,-⟩|⟨g,N,cur,O,Y,Z,hc,h3,h4,U⟩⟩:=h
 . simp at X
 . simp only [iK,gU] at O;obtain ⟨rfl,-,rfl⟩:=O;refine ⟨by rw [iO,M];omega,gQ ⟨g,cap,cur,rfl,Y,Z,Ab,h3,h4,?_⟩⟩;rw [<-U,List.take_take,kY];rw [<-M,<-U,iO] at G;omega
structure VSt (y c bY bP bV:Nat) (A:nP) (W:wD) (pv:Value) (d:Nat):Prop where
 y0:Blk W bY [.func (.yield y) #[] #[]]
 p0:Blk W bP [pv]
 v0:Blk W bV [.func (.func 176) #[] #[.pointer (some ⟨bY,0,none⟩),.pointer (some ⟨bP,0,none⟩),.pointer (some ⟨bV,0,none⟩)]]
 own:∃cs:lV,cs.all mq=true/\Own W c 3 1 pv d cs
 a0:A bY
 a1:A bP
 a2:A bV
 ap:∀g,pv.ownBlock=some g->A g/\g≠bY/\g≠bP/\g≠bV
 ne:bY≠bP/\bV≠bP
 lt:∀k,A k->c<=k/\k<W.heap.size
def dR (Rt A:nP) (bP:Nat) (pv:Value):nP:=λk=>Rt k\/(A k/\k≠bP/\pv.ownBlock≠some k)
def fX (y c bY bP bV:Nat) (Rt:nP) (J Jx:(nP)->List Nd->wD->Prop) (S:List Nd) (A:nP) (xs:List Nd) (W:wD) (pv:Value) (d:Nat) (q:Bool) (W':wD):Prop:=
 ∃A':nP,(∀k,A k->A' k)/\(∀k,A' k->c<=k) /\
  ((q=true /\ ∃pv',VSt y c bY bP bV A' W' pv' d/\J A' xs W'/\(∀g,pv'.ownBlock=some g->pv.ownBlock=some g\/W.heap.size<=g)/\Keeps (dR Rt A bP pv) W W')\/(q=false /\ ∃pre,pre <+: S/\Jx A' pre W'))
def VEnd (y c bY bP bV:Nat) (Rt:nP) (J Jx:(nP)->List Nd->wD->Prop) (S:List Nd) (A:nP) (xs:List Nd) (W:wD) (pv:Value) (d:Nat):Ending->wD->Prop:=λe W'=>
 ∃q,e = .returned (.bool q)/\fX y c bY bP bV Rt J Jx S A xs W pv d q W'
def VEnd.ret {c G M N:Nat} {J Jx:(nP)->List Nd->wD->Prop} {S:List Nd} {A:nP} {U:Value} {d:Nat} {e:Ending} {W':wD} (h:VEnd n c G M N R J Jx S A xs w U d e W'):∃v,e = .returned v:=by
 obtain ⟨_,h,-⟩:=h;exact ⟨_,h⟩
def T3 {c M N:Nat} {J Jx:(nP)->List Nd->wD->Prop} {S:List Nd} {A:nP} {W:wD} {d:Nat} (w:wD):¬VEnd n c e M N R J Jx S A xs W v d .outgrown w:=λ⟨_,h,_⟩=>by cases h
def YRes (Rt:nP) (J Jx:(nP)->List Nd->wD->Prop) (A:nP) (xs:List Nd) (W:wD):Ending->wD->Prop:=λe W'=>
 Keeps (λk=>A k\/Rt k) W W'/\((e = .returned (.bool true)/\J A xs W')\/(e = .returned (.bool false)/\Jx A xs W'))
def YRes.ret {J Jx:(nP)->List Nd->wD->Prop} {A:nP} {e:Ending} {W':wD} (h:YRes R J Jx A xs w e W'):∃v,e = .returned v:=by
 obtain ⟨-,⟨h,-⟩|⟨h,-⟩⟩:=h<;>exact ⟨_,h⟩
def Y2 (y c bY bP bV:Nat) (Rt:nP) (be:∀k,Rt k->k<c) (J Jx:(nP)->List Nd->wD->Prop) (hJ:EK c J) (S:List Nd)
 (hY:∀A pre x vs W1,(∀k,A k->c<=k/\k<W1.heap.size)->J A pre W1->Y1 c W1 vs x->(pre++[x]) <+: S->YieldAt (WF none) 0 prog y vs.toArray W1 (YRes Rt J Jx A (pre++[x]) W1)) (N:Nat) :
 ∀(t:Nd) (A:nP) (pre:List Nd) (a:oA) (ca:Nat) (W:wD) (pv:Value) (d:Nat),t.size<N->t.size<=1000000->d+t.size<=2000000->t.sits Rt W a->VSt y c bY bP bV A W pv d->J A pre W->(pre++t.walk) <+: S ->
  Calls prog 176 #[t.val a ca,pt bY,pt bP,pt bV] W (VEnd y c bY bP bV Rt J Jx S A (pre++t.walk) W pv d):=by
 induction N with
 | zero=>intro t A pre a ca W pv d h;omega
 | succ N ih=>
  rintro ⟨k,n,s,l⟩ A pre a ca W pv d hN hM hd hs hV bn a9;have hz:(Nd.mk k n s l).size=1+AV l:=by rw [mg]
  have cv:=Cz l;rw [hz] at hN hd;have hT:=gO (TY (.mk k n s l) hM);rw [hz] at hM;obtain ⟨V,p0,v0,⟨cs,bo,G⟩,a0,a1,a2,ap,ne,Z⟩:=hV;have l0:=Z _ a0;have l1:=Z _ a1;have l2:=Z _ a2;have HP:=gO a9;have HS:=gO hs;have HJ:=gO bn;have bf:=gO ap;have HL:=gO Z;have IH:=gO ih;have HY:=gO hY;have bg:=gO hJ;clear ap Z a9 bn hs ih hY hJ;have X:=Ne W;refine Ad func176 ntmps176 rfl rfl ?_;refine cS (eB [_,_,_,_] ?_);intro b1 w2 h4 x5 p6 z7;revert V p0 v0 G X;refine eE x5 ?_;intro V p0 v0 G X;refine C1 Pa (cT (Aj ?_));refine Aj (QJ (λwz=>Ext w2 wz) 5 (.pure 0 (.pure 1 (.pure 3 (.fork 2 (.fork 4 .tail .none) .none)))) mixed AU (Aa (Aa Ag)) (Bw (Bw (JX T3))) ?_);intro w3 x3 _;refine ⟨x3,?_⟩;refine GU rfl (Ap Ac rfl rfl rfl (λwz hz=>l7 (l9 V hz) rfl)) rfl (GU rfl (Ap Ac rfl rfl rfl (λwz hz=>l7 (l9 p0 hz) rfl)) rfl (GU rfl (Ij Ac rfl rfl rfl rfl (λwz hz=>mi (l9 h4 hz))) rfl ?_));refine PA rfl rfl (AN AU rfl (QL (G.ext x3) bo Ab) (λ_ _ h=>h.ret)) rfl ?_ aFh Pv;rintro _ w4 ⟨pa,pc,⟨⟩,x4⟩;have au:=mh x3 x4;refine ⟨au,?_⟩;refine PA rfl rfl (AN AU rfl (hT.out Rt a ca w4 (mQ HS.out (X.trans au))) (λ_ _ h=>h.ret)) rfl ?_ aFh Pv;rintro _ w5 ⟨ta,tc,⟨⟩,ts,x5,tk⟩;have ag:=mh au x5;refine ⟨ag,?_⟩;refine T2 rfl ?_;have X5:=X.trans ag
  obtain ⟨A5,av⟩:∃A5:nP,A5=λk=>A k\/(W.heap.size<=k/\k<w5.heap.size):=⟨_,rfl⟩
  have Y:∀k,A k->A5 k:=λk M=>by rw [av];exact gP M
  have ao:∀k,A5 k->c<=k/\k<w5.heap.size:=λk M=>by
   rw [av] at M;rcases M with M|M
   . have:=HL.out k M;have:=X5.size;omega
   . omega
  have bp:A5 b1:=by rw [av];have:=h4.lt;have:=ag.size;exact gQ ⟨Ab,Ab⟩
  have J5:J A5 pre w5:=bg.out A _ pre W w5 HJ.out ⟨X5.os,X5.tape,X5.output,X5.size,λk M _=>X5.block M⟩ (λk M=>(HL.out k M).1) (λk M=>(ao k M).1) (λk M h=>by rw [av] at h;exact h.elim id (λh=>by omega));clear av;have aw:pre++[Nd.mk k n s l] <+: S:=List.IsPrefix.trans ⟨BU l,by simp [Nd.walk]⟩ HP.out;refine Mw rfl rfl (HY.out _ pre (.mk k n s l) [_,_] w5 ao J5 ⟨pa,_,pc,ta,tc,rfl,l6 ts (λb hb=>by have:=au.size;omega),tk⟩ aw) (λ_ _ h=>h.ret) rfl ?_;rintro v w6 ⟨ah,b8⟩;refine WS (Bw (Bw (JX T3))) rfl ?_;rcases b8 with ⟨⟨⟩,a4⟩|⟨⟨⟩,a4⟩
  case inr=>
   clear V p0 v0 h4 G X;refine kR ?_;exact ⟨false,rfl,A5,Y,λk h=>(ao k h).1,gQ ⟨rfl,_,aw,a4⟩⟩
  have hK:Keeps (dR Rt A bP pv) W w6:=(Keeps.of_ext X5).trans (Keeps.less ah (λk M=>M.elim gQ (λh=>gP (Y k h.1))));have aq:∀k,A5 k -> ¬ ¬(A5 k\/Rt k):=λk h e=>e (gP h)
  have V:=(V.ext ag).fr ah (aq _ (Y _ a0));have p0:=(p0.ext ag).fr ah (aq _ (Y _ a1));have v0:=(v0.ext ag).fr ah (aq _ (Y _ a2));have h4:=(h4.ext ag).fr ah (aq _ bp);have G:=(G.ext ag).fr ah (λg hg=>aq _ (Y _ (bf.out g hg).1));have bq:rowSits Rt w6 l a:=((EJ HS.out).ext X5).fr ah (λb hb e=>e (gQ hb));have b9:=ah.size;have cb:=X5.size;have br:VSt y c bY bP bV A5 w6 pv d:=⟨V,p0,v0,⟨cs,bo,G⟩,Y _ a0,Y _ a1,Y _ a2,λg hg=>⟨Y _ (bf.out g hg).1,(bf.out g hg).2⟩,ne,λk h=>⟨(ao k h).1,by have:=ao k h;omega⟩⟩;clear X aq V p0 v0 G hT HY ts x3 x4 x5 au ag X5 J5 ah ao bp;refine C1 Pt (cT (Ba rfl (Ao (Ai (Aj (cS (C1 Pf (C1 (Pl h4) (C1 Pz (C1 Mv (cT ?_)))))))))));refine Au ?_;refine AQ (ι:=Nat×(nP)×Value) (λx=>[(1,pt bY),(2,pt bP),(3,pt bV),(16,.slice a l.length ca),(17,.int .i64 l.length),(18,.int .i64 x.1)])
   (λx w'=>x.1<=l.length/\VSt y c bY bP bV x.2.1 w' x.2.2 d/\J x.2.1 (pre++[.mk k n s l]++BU (l.take x.1)) w'/\rowSits Rt w' l a/\Keeps (dR Rt A bP pv) W w'/\(∀g,x.2.2.ownBlock=some g->pv.ownBlock=some g\/W.heap.size<=g)/\(∀k,A k->x.2.1 k))
   (λx=>l.length-x.1) (0,A5,pv) sB ⟨ii _,br,by simpa [BU] using a4,bq,hK,λg hg=>gP hg,Y⟩ ?_
  clear br a4 bq hK Y h4 b9 cb;rintro ⟨j,B,qv⟩ w7 ⟨hj,hV,ax,O,a5,a6,ay⟩;simp only at hj hV ax O a5 a6 ay;by_cases Z:j<l.length
  . obtain ⟨V,p0,v0,⟨ds,cc,G⟩,a0,a1,a2,ap,-,ar⟩:=hV;obtain ⟨kb,ko,rfl,kS,ba⟩:=BG O (by intro e;subst e;simp at Z);obtain ⟨xa,xc,rx,sx⟩:=ba j l[j] (gN Z);have c7:=CM (ig Z);have bh:=JY Z;have cd:=QK Z;have HB:=gO ar;have aj:=gO ap;have HR:=gO be;have l0:=ar _ a0;have l1:=ar _ a1;have l2:=ar _ a2;have c8:=be _ kS;have bs:=gO ax;have bi:=gO a5;have a7:=gO a6;have ak:∀g,qv.ownBlock=some g->c<=g/\g<w7.heap.size:=λg hg=>ar _ (ap g hg).1
    clear ba ar ap ax a5 a6 be;generalize l[j]=x at *;have X7:=lZ (λk=>k=bP\/qv.ownBlock=some k) w7;refine eK ?_;refine eA [_,_,_,_] ?_;intro ce c9 cf cg da db;revert V p0 v0 G O rx sx X7;refine eE cg ?_;intro V p0 v0 G O rx sx X7;refine C1 Pa (eS [_,_,_,_] cf ?_);intro dc aa ae cw;revert V p0 v0;refine eF ae ?_;intro V p0 v0;have G:=mu G ae (λg hg e=>by have:=ak _ hg;omega);have O:=mA O ae (λb hb h=>by have:=HR.out _ hb;omega);have rx:=mo rx ae (by simp only;omega);have sx:=lW sx ae (λb hb h=>by have:=HR.out _ hb;omega);have X7:=X7.fr ae Ab;refine eK ?_;refine Ax (xS [_]) rfl ?_ aFh;rintro _ cx ⟨cy,rfl,am,cz⟩;have af:=am.blk;dsimp only at af;have bt:=am.ext;have c0:=am.pos;have c1:=am.size;revert aa V p0 v0 G O rx sx X7;refine eE bt ?_;intro aa V p0 v0 G O rx sx X7;refine SL Ac CJ rfl rfl rfl rfl AU rfl rfl Ae (mi Ae) rfl Ab Ab rfl ?_;rintro ai ab c2 an az c3 U;have c4:=U.size;have af:=lY af U (λh=>by have:=ak _ h;omega);have aa:=lY aa U (λh=>by have:=ak _ h;omega);have V:=lY V U (λh=>(aj.out _ h).2.1 rfl);have p0:=lY p0 U (λh=>(aj.out _ h).2.2.1 rfl);have v0:=lY v0 U (λh=>(aj.out _ h).2.2.2 rfl);clear G;have O:=mA O U (λb hb h=>by have:=ak _ h;have:=HR.out _ hb;omega);clear rx;have sx:=lW sx U (λb hb h=>by have:=ak _ h;have:=HR.out _ hb;omega);have X7:=l8 X7 U (λk M=>gP (gQ M));refine eS [_] p0 ?_;intro ac bb ad c5;have an:=mu an ad (λk M e=>by (obtain rfl:=gZ (show some ai=some k from M);rcases az with h|h;exact (aj.out _ h).2.2.1 e;omega));revert af aa;refine eF ad ?_;intro af aa;have V:=lY V ad (λh=>ne.1 h);have v0:=lY v0 ad (λh=>ne.2 h);have O:=mA O ad (λb hb h=>by have:=HR.out _ hb;omega);have sx:=lW sx ad (λb hb h=>by have:=HR.out _ hb;omega);have X7:=X7.fr ad Ab;refine cT (Aj ?_)
    have dd:=X7.size;obtain ⟨D,hD⟩:∃D:nP,D=λk=>B k\/(w7.heap.size<=k/\k<ac.heap.size):=⟨_,rfl⟩
    have al:∀k,B k->D k:=λk M=>by rw [hD];exact gP M
    have bu:∀k,D k->c<=k/\k<ac.heap.size:=λk M=>by
     rw [hD] at M;rcases M with M|M
     . have:=HB.out k M;omega
     . omega
    have G:∀g,(iD (some ⟨ai,0,none⟩) (d+1) ab).ownBlock=some g->D g/\g≠bY/\g≠bP/\g≠bV/\(qv.ownBlock=some g\/w7.heap.size<=g):=λg hg=>by
     obtain rfl:=gZ (show some ai=some g from hg);rcases az with h|h
     . have:=aj.out _ h;exact ⟨al _ this.1,this.2.1,this.2.2.1,this.2.2.2,gP h⟩
     . exact ⟨by rw [hD];exact gQ ⟨Ab,Ab⟩,Ab,Ab,Ab,gQ Ab⟩
    have bv:VSt y c bY bP bV D ac (.slice (some ⟨ai,0,none⟩) (d+1) ab) (d+1):=⟨V,bb,v0,⟨_,by rw [ly,cc];rfl,an⟩,al _ a0,al _ a1,al _ a2,λg hg=>⟨(G g hg).1,(G g hg).2.1,(G g hg).2.2.1,(G g hg).2.2.2.1⟩,ne,bu⟩;have J8:J D (pre++[Nd.mk k n s l]++BU (List.take j l)) ac:=bg.out B D _ w7 ac bs.out (X7.weaken (λk M=>M.elim (λe=>e▸a1) (λe=>(aj.out _ e).1))) (λk M=>(HB.out k M).1) (λk M=>(bu k M).1) (λk M h=>by rw [hD] at h;exact h.elim id (λh=>by omega));have bj:pre++[Nd.mk k n s l]++BU (List.take j l)++x.walk <+: S:=by
     refine List.IsPrefix.trans ?_ HP.out;rw [Nd.walk,<-kO,iI,iI,iI];exact (List.prefix_append_right_inj _).2 ((List.prefix_append_right_inj _).2 cd)
    have HX:=gO (IH.out x D _ xa xc ac _ (d+1) Ab Ab Ab sx bv J8 bj);have de:D ce:=by rw [hD];exact gQ ⟨Ab,Ab⟩
    have bw:Keeps (dR Rt A bP pv) W ac:=bi.out.trans (Keeps.of_fr X7 (λk M h=>by
     rcases M with M|⟨h1,h2,h3⟩
     . rcases h with h|h
       . have:=HR.out _ M;omega
       . have:=HR.out _ M;have:=ak _ h;omega
     . rcases h with h|h
       . exact h2 h
       . rcases a7.out _ h with h|h
         . exact h3 h
         . have:=HL.out _ h1;omega))
    have df:=bi.out.size;clear hD J8 bv an az bs bi sx X7;refine eK ?_;refine Ax (A8 (fi:=[]) (ca:=[pt bY,pt bP,pt bV]) AU rfl rfl HX.out (λ_ _ h=>h.ret)) rfl ?_ aFh;rintro _ bx ⟨dg,⟨⟩,ch⟩;refine C1 Pt (cT ?_);obtain ⟨E,bz,bk,⟨rfl,ci,cj,J9,b0,a8⟩|⟨rfl,b2,ck,cl⟩⟩:=ch
    . have b3:∀k,dR Rt A bP pv k->dR Rt D bP (.slice (some ⟨ai,0,none⟩) (d+1) ab) k:=λk M=>by
       rcases M with M|⟨h1,h2,h3⟩
       . exact gP M
       . refine gQ ⟨al _ (ay _ h1),h2,λe=>?_⟩;rcases (G _ e).2.2.2.2 with h|h
         . rcases a7.out _ h with h|h
           . exact h3 h
           . have:=HL.out _ h1;omega
         . have:=HL.out _ h1;omega
      have b4:=gO (bw.trans (a8.less b3));have bl:=O.fr a8 (λb hb e=>e (gP hb));have dh:=a8.size;have bc:∀g,ci.ownBlock=some g->pv.ownBlock=some g\/W.heap.size<=g:=λg hg=>by
       rcases b0 g hg with h|h
       . rcases (G g h).2.2.2.2 with h|h
         . exact a7.out g h
         . exact gQ Ab
       . exact gQ Ab
      clear bb af aa V v0 O bw a8 G b3 b0 a7 HX aj ak;obtain ⟨V,p0,v0,⟨di,b5,G⟩,cm,b6,cn,ap,-,b7⟩:=cj;rcases G.row with ⟨-,h0,-⟩|⟨g',bd,rfl,-,-,-⟩
      . omega
      have co:=gO ap;have cp:g'≠bP:=(ap g' rfl).2.2.1;have c6:d+1<=bd:=OwnF.le (B:=0) ⟨ii _,(G.below g' (λk M=>by obtain rfl:=gZ (show some g'=some k from M);exact ip _))⟩;have hm:((d+1:Nat):Int)-1=(d:Int):=by omega
      have bm:=G.shrink (m:=d) Ab;have HQ:=gO bc;have HE:=gO b7;have cq:=gO J9;clear G ap bc b7 J9;have X9:=lZ (λk=>k=bP) bx;refine eK ?_;refine C1 (AL rfl rfl (gX _ Ab)) (C1 (DM Ac rfl rfl rfl rfl hm Ab) (eS [_] p0 ?_));intro cr ct a3 dk;have bl:=mA bl a3 (λb hb h=>by have:=HR.out _ hb;omega);have V:=lY V a3 (λh=>ne.1 h);have v0:=lY v0 a3 (λh=>ne.2 h);have bm:=mu bm a3 (λk M e=>cp ((gZ (show some g'=some k from M)).trans e));have X9:=X9.fr a3 Ab;refine Ak (Ah (Ai (Al (C1 V7 (C1 Mv (Ak ?_))))));refine AA (j+1,E,.slice (some ⟨g',0,none⟩) d bd) sB ⟨by simp only;omega,⟨V,ct,v0,⟨_,iN.2 (λx hx=>iN.1 b5 x (jz hx)),bm⟩,cm,b6,cn,λg hg=>co.out g hg,ne,λk h=>⟨(HE.out k h).1,by have:=(HE.out k h).2;omega⟩⟩,?_,bl,b4.out.trans (Keeps.of_fr X9 (λk M e=>?_)),λg hg=>HQ.out g hg,λk h=>bz _ (al _ (ay _ h))⟩ (by simp only;omega)
      . simp only;rw [bh,<-iI];exact bg.out E E _ bx cr cq.out (X9.weaken (λk e=>e▸b6)) bk bk (λ_ _ h=>h)
      . rcases M with M|M
        . have:=HR.out _ M;omega
        . exact M.2.1 e
    . refine kR ?_;exact ⟨false,rfl,E,λk h=>bz k (al k (ay k h)),bk,gQ ⟨rfl,b2,ck,cl⟩⟩
  . obtain rfl:j=l.length:=by omega
    rw [im] at ax;have cu:J B (pre++(Nd.mk k n s l).walk) w7:=by rw [Nd.walk,<-kO,<-iI];exact ax
    refine kR ?_;exact ⟨true,rfl,B,ay,λk h=>(hV.lt k h).1,gP ⟨rfl,qv,hV,cu,a6,a5⟩⟩
structure OwnQ {α:Type} (sh:Shape α) (w:wD) (R:nP) (B e:Nat) (v:Value) (xs:List α):Prop where
 ex:∃css:List lV,Own w B e sh.sz v xs.length css.flatten/\css.length=xs.length /\ ∀(i:Nat) (x:α) (cs:lV),xs[i]? = some x->css[i]? = some cs->sh.rep w (λb=>R b/\v.ownBlock≠some b) x cs
section
variable {α:Type} {sh:Shape α} {R':nP} {B:Nat} {w':wD} {xs:List α}
def OwnQ.nil:OwnQ sh w R B e (.slice none 0 0) []:=⟨⟨[],mR,rfl,AK⟩⟩
def OwnQ.ge (h:OwnQ sh w R B e v xs) {k:Nat} (G:v.ownBlock=some k):B<=k:=by
 obtain ⟨M,N,-⟩:=h.ex;exact N.ge G
def OwnQ.lt (h:OwnQ sh w R B e v xs) {k:Nat} (G:v.ownBlock=some k):k<w.heap.size:=by
 obtain ⟨M,N,-⟩:=h.ex;exact (N.blk G).2
def OwnQ.ext (h:OwnQ sh w R B e v xs) (x:Ext w w'):OwnQ sh w' R B e v xs:=by
 obtain ⟨G,M,N,O⟩:=h.ex;exact ⟨G,M.ext x,N,λi y cs U V=>sh.mono (O i y cs U V) aFh (λb o u _ X=>x.keep X)⟩
instance  : LfE w w' (OwnQ sh w R B e v xs) (OwnQ sh w' R B e v xs):=⟨λx h=>Bk.OwnQ.ext h x⟩
def OwnQ.fr {S:nP} (h:OwnQ sh w R B e v xs) (x:Fr S w w') (N:∀k,S k -> ¬R k/\v.ownBlock≠some k):OwnQ sh w' R B e v xs:=by
 obtain ⟨G,O,U,V⟩:=h.ex;exact ⟨G,O.fr x (λk X M=>(N k M).2 X),U,λi y cs Y Z=>sh.mono (V i y cs Y Z) aFh (λb o u hb hu=>x.keep (λM=>(N b M).1 hb.1) hu)⟩
instance {S:nP}:LfF S w w' (OwnQ sh w R B e v xs) (∀k,S k -> ¬R k/\v.ownBlock≠some k) (OwnQ sh w' R B e v xs):=⟨λx s h=>Bk.OwnQ.fr h x s⟩
def OwnQ.ltR (h:OwnQ sh w R B e v xs):OwnQ sh w (λb=>R b/\b<w.heap.size) B e v xs:=by
 obtain ⟨G,N,O,U⟩:=h.ex;exact ⟨G,N,O,λi y cs V X=>sh.mono (sh.lt (U i y cs V X)) (λb M=>⟨⟨M.1.1,M.2⟩,M.1.2⟩) (λ_ _ _ _ Y=>Y)⟩
def OwnQ.below (h:OwnQ sh w R B e v xs) (N:∀k,v.ownBlock=some k->n<=k):OwnQ sh w R n e v xs:=by
 obtain ⟨G,O,U,V⟩:=h.ex;refine ⟨G,?_,U,V⟩;obtain ⟨k1,X|⟨g,cap,cur,rfl,Z,Y⟩⟩:=O
 . exact ⟨k1,gP X⟩
 . exact ⟨k1,gQ ⟨g,cap,cur,rfl,N g rfl,Y⟩⟩
def eG (sh:Shape α) (w:wD) (R:nP) (B:Nat) (e:TypeId) (v:Value) (ys:List α):Option Value->wD->Prop
 | some v',w'=> ∃g cap,v' = .slice (some ⟨g,0,none⟩) ys.length cap/\OwnQ sh w' R B e v' ys/\(v.ownBlock=some g\/w.heap.size<=g)/\g<w'.heap.size/\Fr (λk=>v.ownBlock=some k) w w'
 | none,_=>False
def GV {tab:Tab} {zt:Ey} {x y:Operand} {t sz1 cap:Nat} {sE:Sk} {zs:lV} {z:α} {p:Addr} (T:TabOk P tab) (Z:Ct P zt) (ht:AB tab t=some (.slice e,sz1)) (hE:AB tab e=some (sE,sh.sz)) (hz:CP zt e=some zs) (hzl:zs.length=sh.sz)
 (hby:Dt P e=true) (hsz:iE 0 sh.sz=true) (hx:ev l x=some v) (hy:ev l y=some (.slice (some p) 1 cap)) (hown:OwnQ sh w R' B e v xs) (hw:∀b,R' b->R b) (hr:Row w p cs) (hrep:sh.rep w (λb=>R b/\v.ownBlock≠some b) z cs) (hlen:xs.length<=10000000000) (hB:B<=w.heap.size) :
 BE P n l (.call ⟨.builtin .append,#[x,y],#[t,t]⟩) ty w (eG sh w R B e v (xs++[z])):=by
 obtain ⟨css,h1,h2,h3'⟩:=hown.ex;have h3:∀(i:Nat) (x:α) (cs:lV),xs[i]? = some x->css[i]? = some cs->sh.rep w (λb=>R b/\v.ownBlock≠some b) x cs:=λi y cs hy hc=>sh.mono (h3' i y cs hy hc) (λb hb=>⟨hw b hb.1,hb.2⟩) (λ_ _ _ _ hu=>hu)
 have hd:=D9 (P:=P) (n:=n) (l:=l) (ty:=ty) T Z ht hE hz hzl hby hsz hx hy h1 hr (by rw [sh.len hrep];simp) (sh.one hrep) Ab Ab hB;unfold BE at hd ⊢;intro a dst pos after g next Q ha hn c;refine hd a dst pos after g next Q ha (λv' w' hG=>?_) (λw' hG=>hG.elim);obtain ⟨g1,g2,g,cap',g3,g4⟩:=hG;have hg:=g1.blk (k:=g) (by rw [g3];rfl);refine hn v' w' ⟨g,cap',by rw [g3];simp,⟨css++[cs],?_,by simp [h2],λi y ds hy hc=>?_⟩,g4,hg.2,g2⟩
 . have e1:(css++[cs]).flatten=css.flatten++cs:=by simp
   have e2:(xs++[z]).length=xs.length+1:=by simp
   rw [e1,e2];exact g1
 . have key:sh.rep w (λb=>R b/\v.ownBlock≠some b) y ds:=by
    by_cases hi:i<xs.length
    . rw [gW hi] at hy;rw [gW Ab] at hc;exact h3 i y ds hy hc
    . have hil:i<(xs++[z]).length:=by
       rcases it i (xs++[z]).length with h|h
       . exact h
       . rw [ic h] at hy;cases hy
      simp only [iq,gV,iG] at hil;have hi':i=xs.length:=by omega
      subst hi';rw [ik (ip _)] at hy;rw [ik Ab] at hc;simp only [jw,iw,gU] at hy;rw [h2] at hc;simp only [jw,iw,gU] at hc;subst hy hc;exact hrep
   refine sh.mono (sh.lt key) (λb hb=>⟨hb.1.1,λe=>?_⟩) (λb o u hb hu=>g2.keep hb.1.2 hu);rw [g3] at e;simp only [jB,gU] at e;subst e;rcases g4 with h|h
   . exact hb.1.2 h
   . omega
def OwnQ.rows (h:OwnQ sh w R B e v xs) (hx:xs≠[]):∃g cap,v = .slice (some ⟨g,0,none⟩) xs.length cap/\B<=g/\g<w.heap.size /\ ∀(i:Nat) (x:α),xs[i]? = some x -> ∃cs,Row w ⟨g,i*sh.sz,none⟩ cs/\sh.rep w R x cs:=by
 obtain ⟨G,V,h2,X⟩:=h.ex;have hM:OwnM sh w R B e v xs:=⟨G,V,h2,λi y cs hy hc=>sh.mono (X i y cs hy hc) (λb O=>⟨gP O.1,O.2⟩) (λ_ _ _ _ Y=>Y)⟩
 rcases V.row with ⟨rfl,hn,-⟩|⟨g,cap,rfl,hg,ad,hr⟩
 . exact absurd (List.length_eq_zero_iff.1 hn) hx
 . refine ⟨g,cap,rfl,hg,(V.blk (k:=g) rfl).2,λi x U=>?_⟩;obtain ⟨g',ac,hv,-,M⟩:=hM.rows hx;simp only [iK,gU,jW,and_true,true_and] at hv;obtain ⟨rfl,rfl⟩:=hv;have ae:i<xs.length:=by
    rcases it i xs.length with h|h
    . exact h
    . rw [ic h] at U;cases U
   have N:∀cs∈G,cs.length=sh.sz:=λcs Z=>by
    obtain ⟨j,hj,rfl⟩:=List.mem_iff_getElem.1 Z;have aa:xs[j]? = some xs[j]:=gN Ab;exact sh.len (X j _ _ aa (gN hj))
   have ab:G[i]? = some (G[i]'(by omega)):=gN Ab;obtain ⟨cs,k1,k2⟩:=M i x U;refine ⟨G[i]'(by omega),?_,sh.mono (X i x _ U ab) (λb O=>O.1) (λ_ _ _ _ Y=>Y)⟩;obtain ⟨f1,f2⟩:=FE N (j:=i) Ab;rw [f1] at hr;have hs:=hr.sub (i*sh.sz) sh.sz;rw [iY,iI,List.drop_left' f2,List.take_left' (N _ (ig _))] at hs;exact hs
end
section
variable {tab:Tab} {zt:Ey} {α:Type} {sh:Shape α}
def Di {ops:Array Oper} {Q:Exit->Act->wD->Prop} {rest:List Oper} {d:Nat} {pos:String} {after:Array Edge} {x y:Operand} {t U B cap:Nat} {R':nP} {sE:Sk} {zs:lV} {xs:List α} {z:α} {p:Addr} (T:TabOk P tab) (Z:Ct P zt) (ht:AB tab t=some (.slice e,U)) (hE:AB tab e=some (sE,sh.sz)) (hz:CP zt e=some zs) (V:zs.length=sh.sz)
 (X:Dt P e=true) (Y:iE 0 sh.sz=true) (hx:ev l x=some v) (hy:ev l y=some (.slice (some p) 1 cap)) (M:OwnQ sh w R' B e v xs) (hw:∀b,R' b->R b) (hr:Row w p cs) (N:sh.rep w (λb=>R b/\v.ownBlock≠some b) z cs) (O:xs.length<=10000000000) (hB:B<=w.heap.size) (hd:iE d n=true)
 (k:∀g G w1,OwnQ sh w1 R B e (.slice (some ⟨g,0,none⟩) (xs++[z]).length G) (xs++[z])->(v.ownBlock=some g\/w.heap.size<=g)->g<w1.heap.size->Fr (λk=>v.ownBlock=some k) w w1->LW P n ops Q rest ((d,.slice (some ⟨g,0,none⟩) (xs++[z]).length G)::l) w1) :
 LW P n ops Q (⟨some d,.call ⟨.builtin .append,#[x,y],#[t,t]⟩,ty,pos,after,none⟩::rest) l w:=
 Ax (GV T Z ht hE hz V X Y hx hy M hw hr N O hB) hd (λv w1 ⟨g,cap,h,ho,h1,h2,hf⟩=>by subst h;exact k g cap w1 ho h1 h2 hf) aFh
end
section
variable {tab:Tab} {zt:Ey}
def B6 {S:wD->Prop} {f:Fn} {cs:List Operand} {vs:lV} (h:evs l cs=some vs):Br P n l S (.makeFunc f #[] cs.toArray) ty (.func f #[] vs.toArray):=by
 unfold Br;intro a w G pos after g M _;have e:=M.evs h;simp [execOp,Instr.makeFunc,e]
end
section
variable {ops:Array Oper} {Q:Exit->Act->wD->Prop} {rest:List Oper} {tab:Tab} {pos:String} {after:Array Edge}
end
def WT (kvs:List (lB×Value)) (k:lB) (v:Value) (s:lB):Ez (Gm kvs k v) s=if s=k then some v else Ez kvs s:=by
 induction kvs with
 | nil=>
  by_cases h:s=k
  . subst h;simp [Gm,Ez]
  . simp [Gm,Ez,h]
 | cons p r O=>
  obtain ⟨N,U⟩:=p;simp only [Gm];by_cases M:k=N
  . subst M;simp only [if_true,Ez];by_cases G:s=k
    . rw [AH G,AH G]
    . rw [At G,At G,At G]
  . simp only [At M,Ez,O];by_cases G:s=N
    . subst G;rw [AH rfl,At (λe=>M e.symm),AH rfl]
    . rw [At G,At G]
def Y3 (t:Nd) (hz:t.size<=1000000) (Rt:nP) (br:Nat) (a:oA) (ca:Nat) (w:wD) (ab:∀k,Rt k->k<w.heap.size) (ac:Rt br) (O:Blk w br (t.cells a ca)) (G:t.sits Rt w a) :
 IterOk prog 175 [pt br] Y1 Rt t.walk w:=by
 intro y J Jx W hK hJ ak hY h0;have ad:=hK.size;have al:=ab _ ac;have O:=O.fr hK (λe=>e ac);have G:=G.fr hK (λb hb e=>e hb);have ae:∀k,Rt k->k<W.heap.size:=λk U=>js (ab k U) ad
 have HY:=gO hY;have HJ:=gO hJ;have H0:=gO h0;have HR:=gO ae;have X:=Ne W;show Calls _ _ #[.func (.yield y) #[] #[],pt br] W _;refine Ad func175 ntmps175 rfl rfl (cS (eB [_] ?_));intro b1 w2 V x5 p6 z7;revert O G X;refine eE x5 ?_;intro O G X;refine cN (eA [_] ?_);intro b8 w9 M af am an;revert V O G X;refine eE af ?_;intro V O G X;refine cN (eA [_] ?_);intro Y ao ag ah ap aq;revert M V O G X;refine eE ah ?_;intro M V O G X;refine cN (C1 (B6 rfl) (eS [_] ag ?_));intro N ai Z ar;revert M V O;refine eF Z ?_;intro M V O;have G:=lW G Z (λb hb e=>by have:=HR.out _ hb;omega);have X:=X.fr Z Ab;refine eK ?_;obtain ⟨A,hA⟩:∃A:nP,A=λk=>W.heap.size<=k/\k<W.heap.size+3:=⟨_,rfl⟩
 have aa:∀k,A k->W.heap.size<=k/\k<N.heap.size:=λk U=>by rw [hA] at U;omega
 have J1:J A [] N:=HJ.out (λ_=>False) A [] W N H0.out ⟨X.os,X.tape,X.output,X.size,λk U _=>X.block U⟩ (λ_ h=>h.elim) (λk U=>(aa k U).1) (λk U h=>by have:=aa k h;omega);have ha:∀k,W.heap.size<=k->k<W.heap.size+3->A k:=λk h1 h2=>by rw [hA];exact ⟨h1,h2⟩
 have hV:VSt y W.heap.size b1 b8 Y A N (.slice none 0 0) 0:=⟨V,M,ai,⟨[],rfl,mR⟩,ha _ Ab Ab,ha _ Ab Ab,ha _ Ab Ab,λg hg=>by simp [jB] at hg,⟨Ab,Ab⟩,aa⟩;have HX:=gO (Y2 y W.heap.size b1 b8 Y Rt HR.out J Jx HJ.out t.walk HY.out (t.size+1) t A [] a ca N (.slice none 0 0) 0 Ab hz Ab G hV J1 (List.prefix_refl _));refine Ax (A8 (fi:=[]) (ca:=[pt b1,pt b8,pt Y]) AU rfl rfl HX.out (λ_ _ h=>h.ret)) rfl ?_ aFh;rintro _ au ⟨av,⟨⟩,aj⟩;refine Ak (Bm rfl ?_);obtain ⟨A',-,hc,⟨rfl,pv,-,hj,-⟩|⟨rfl,pre,hp,hj⟩⟩:=aj
 . exact ⟨⟨_,rfl⟩,A',hc,gP hj⟩
 . exact ⟨⟨_,rfl⟩,A',hc,gQ ⟨pre,hp,hj⟩⟩
def WalkR (t:Nd) (w:wD):Ending->wD->Prop:=λe w'=> ∃br,e = .returned (.func (.func 175) #[] #[.pointer (some ⟨br,0,none⟩)])/\IterOk prog 175 [.pointer (some ⟨br,0,none⟩)] Y1 (λk=>w.heap.size<=k/\k<w'.heap.size) t.walk w'/\Ext w w'
def WalkR.ret {t:Nd} {e:Ending} {w':wD} (h:WalkR t w e w'):∃v,e = .returned v:=by
 obtain ⟨_,h,-⟩:=h;exact ⟨_,h⟩
def WU (t:Nd) (O:t.size<=1000000) (S:nP) (a:oA) (c:Nat) (w:wD) (U:t.sits S w a):Calls prog 148 #[t.val a c] w (WalkR t w):=by
 have X:=Ne w;refine Ad func148 ntmps148 rfl rfl (cS (eB [_,_,_,_] ?_));intro b1 w2 h4 V p6 z7;revert U X;refine eE V ?_;intro U X;refine kQ (JU _ O _ _ _ _ Ae) ?_;rintro _ Y ⟨a8,c9,⟨⟩,h,G⟩;have Z:=G.size;have X:=X.ext G;refine xA [_,_,_,_] ?_;intro aa ab M;refine eI [_,_,_,_] M ?_;intro ac ad N ae af;revert h X;refine eE N ?_;intro h X;refine cN (C1 (B6 rfl) (kR ?_));exact ⟨_,rfl,Y3 t O _ _ _ _ _ (λk hk=>hk.2) ⟨Ab,Ab⟩ Ae (l6 Ae (λb hb=>⟨Ab,Ab⟩)),X⟩
end Bk
namespace Bk
open Go Go.RowKit
def EnvD (D:List Deferred) (n:Nat) (l:Sl) (a:Act):Prop:=Env n l { a with defers:=[] }/\a.defers=D
def dT (P:Program) (D:List Deferred) (n:Nat) (c:Code) (Q:Exit->Act->wD->Prop) (l:Sl) (w:wD):Prop:= ∀a,EnvD D n l a->c.wp P Q a w
def SM (P:Program) (D:List Deferred) (n:Nat) (ops:Array Oper) (Q:Exit->Act->wD->Prop) (os:List Oper) (l:Sl) (w:wD):Prop:= ∀a,EnvD D n l a->wpList P ops Q os a w
def JZ (D:List Deferred) (n:Nat) (Q:Exit->Act->wD->Prop) (e:Exit) (l:Sl) (w:wD):Prop:= ∀a,EnvD D n l a->Q e a w
def EnvD.ev {D:List Deferred} {n:Nat} {l:Sl} {a:Act} (h:EnvD D n l a) {x:Operand} {v:Value} (G:ev l x=some v):a.eval x=v:=h.1.ev G
def EnvD.put {D:List Deferred} {n:Nat} {l:Sl} {a:Act} (h:EnvD D n l a) {d:Nat} (G:iE d n=true) (v:Value):EnvD D n ((d,v)::l) (a.put (some d) v):=⟨h.1.put G v,h.2⟩
section code
variable {P:Program} {D:List Deferred} {n:Nat} {Q:Exit->Act->wD->Prop} {l:Sl} {w:wD} {ops:Array Oper} {rest:List Oper} {d:Nat} {ty:TypeId} {pos:String} {after:Array Edge}
def Ip {x y:Code} (h:dT P D n x (Exit.then (y.wp P Q) Q) l w):dT P D n (.seq x y) Q l w:=λa G=>wp_seq (h a G)
def DE {y:Code} (h:dT P D n y Q l w):JZ D n (Exit.then (y.wp P Q) Q) .normal l w:=h
def EL {M:Nat} {G:List Oper} (h:SM P D n G.toArray Q G l w):dT P D n (.region M G.toArray false) Q l w:=λa N=>wp_region_lit (h a N)
def J0 (h:JZ D n Q .ret l w):dT P D n .ret Q l w:=λa G=>wp_ret (h a G)
def GW (h:JZ D n Q .normal l w):SM P D n ops Q [] l w:=h
def FF {op:Op} {v:Value} (h:Br P n l (· = w) op ty v) (M:iE d n=true) (k:SM P D n ops Q rest ((d,v)::l) w):SM P D n ops Q (⟨some d,op,ty,pos,after,none⟩::rest) l w:=λa G=>by
 unfold wpList;rw [AH (Bd rfl)];left;have e:(execOp a.eval ⟨some d,op,ty,pos,after,none⟩).run P w = .ok (.value v) w:=by
  unfold Br at h;have:=h { a with defers:=[] } w (some d) pos after none G.1 rfl;exact this
 unfold jy;rw [e];exact k _ (G.put M v)
def KJ {tab:Tab} {x y:Operand} {t b:Nat} {s:Sk} {v u:Value} (T:TabOk P tab) (V:AB tab t=some (s,1)) (X:ev l x=some (pt b)) (Y:ev l y=some v) (N:v.cells = #[v]) (Z:mq v=true) (hb:Blk w b [u])
 (k:∀w1,Blk w1 b [v]->Fr (· = b) w w1->SM P D n ops Q rest l w1):SM P D n ops Q (⟨none,.store t x y,ty,pos,after,none⟩::rest) l w:=λa h=>by
 obtain ⟨w1,O,U⟩:=Fy (P:=P) [v] w b 0 0 [u] hb AK (by simp [Z]);have e:(execOp a.eval ⟨none,.store t x y,ty,pos,after,none⟩).run P w = .ok .skip w1:=by
  have G:v.cells.toList=[v]:=by rw [N]
  have M:v.cells.size=1:=by rw [N];rfl
  simp only [execOp,h.ev X,h.ev Y,Instr.storeAt,Instr.sureAddr,ij,iC,gY,storeVar,Ca (T _ _ _ V),M,G,O];simp only [ne_eq,not_true,if_false,ij,iC,gY,O]
 unfold wpList;rw [AH (Bd rfl)];left;unfold jy;rw [e];exact k w1 U.blk U.fr _ h
end code
def Gu {P:Program} {f:FuncId} {fn:Func} {c:Code} {args:lV} {n:Nat} {w:wD} {R:Ending->wD->Prop}
 (M:P.funcs[f]? = some fn) (X:fn.ntmps=n) (N:fn.body=some c) (O:jr args.length n=true) (h:CW P n c (bodyPostM (WF none) 0 P fn R) (GF 0 args) w):Calls P f args.toArray w R:=by
 refine wf_calls.1 (callsIn_of_wp_marks (F:=WF none) (n:=0) M N trivial (eC h _ ?_));have U:args.length<=n:=by simpa using O
 refine ⟨by simp;omega,rfl,λd v V=>?_⟩;obtain ⟨-,G⟩:=Gk d v args 0 V;simp only [jM] at G;have:d<args.length:=by
  rcases it d args.length with h|h
  . exact h
  . rw [ic h] at G;cases G
 rw [gN this] at G;simp only [gU] at G;simp [kN,this,G]
def GX (b:Nat):List Deferred:=[{ target:=.collected b,args:= #[] }]
def QM {P:Program} {fn:Func} {tab:Tab} {t ty sz b:Nat} {s:Sk} {v:Value} {tmps:Array Value} {w:wD} (h:fn.results = #[.cell t ty]) (T:TabOk P tab) (M:AB tab ty=some (s,sz)) (N:s.agg=false) (G:tmps.getD t undef=pt b) (O:w.cell? ⟨b,0,none⟩=some v):(results fn tmps).run P w = .ok v w:=by
 have e:(loadVar ty ⟨b,0,none⟩).run P w = .ok v w:=by
  simp only [ij,iC,gY,loadVar,CB (T _ _ _ M),N];simp [load,jP,O]
 simp only [jf] at G;simp [results,h,G,e,asAddr]
def Iq {w:wD} {m:Nat} {o:Obj} (G:Obj) (h:w.heap[m]? = some o):Fr (· = m) w (w.putObj m G):=⟨rfl,rfl,rfl,AK,λk _ M=>ji M⟩
def QN {P:Program} {fn:Func} {R:Ending->wD->Prop} {n m t:Nat} {l:Sl} {w:wD} {v:Value} (G:w.heap[m]? = some (.deferred (some []))) (h:fn.results = #[.tmp t]) (N:look l t=some v) (O:∀w',Fr (· = m) w w'->R (.returned v) w'):JZ (GX m) n (bodyPostM (WF none) 0 P fn R) .ret l w:=λa M=>by
 show LeavesInM _ _ _ _ _ _ a.defers _ _;rw [M.2];refine ⟨AK,.inl ⟨_,_,rfl,run_takeDeferred G,_,results_tmp h _ _ _,?_⟩⟩;rw [show a.tmps.getD t undef=v from M.1.has t v N];exact O _ (Iq _ G)
def QO {P:Program} {fn:Func} {R:Ending->wD->Prop} {n m t ty sz b:Nat} {s:Sk} {tab:Tab} {l:Sl} {w:wD} {v:Value} (M:w.heap[m]? = some (.deferred (some []))) (h:fn.results = #[.cell t ty]) (T:TabOk P tab) (U:AB tab ty=some (s,sz)) (V:s.agg=false) (X:look l t=some (pt b)) (G:Blk w b [v]) (Y:∀w',Fr (· = m) w w'->R (.returned v) w'):JZ (GX m) n (bodyPostM (WF none) 0 P fn R) .ret l w:=λa O=>by
 show LeavesInM _ _ _ _ _ _ a.defers _ _;rw [O.2];have N:b≠m:=λe=>by
  obtain ⟨ty,G⟩:=G;rw [e,M] at G;cases G
 exact ⟨AK,.inl ⟨_,_,rfl,run_takeDeferred M,_,QM h T U V (O.1.has t _ X) (l7 (G.fr (Iq _ M) N) rfl),Y _ (Iq _ M)⟩⟩
def Ir (P:Program) (r:Option Nat) (Kp:nP) (m:Nat) (body:Code) (Q:wD->Exit->Act->wD->Prop) (W:wD):Act->wD->Prop:=λa₁ W₁=>Keeps Kp W W₁ /\ ∀W₂,Fr (· = m) W₁ W₂->body.wpIn (WF r) 0 P (Q W₂) a₁ W₂
def Is {P:Program} {n:Nat} {r:Option Nat} {Kp:nP} {m:Nat} {h:Code} {Q:wD->Exit->Act->wD->Prop} {W:wD} {G:Exit->Act->wD->Prop} {l:Sl} {w:wD} (N:Keeps Kp W w) (O:∀M,Fr (· = m) w M->CR P n r h (Q M) l M):QW n (Exit.then (Ir P r Kp m h Q W) G) .normal l w:=by
 unfold QW;exact λa U=>⟨N,λM V=>O M V a U⟩
def Gv {K:Act->wD->Prop}:¬LetsOut (Exit.then K (λ_ _ _=>False)):=λ⟨_,_,h⟩=>h
def QP {α:Type} {P:Program} {n:Nat} {g:Operand} {p q:Tmp} {G U:Code} {Q:Exit->Act->wD->Prop} {l:Sl} {w:wD} {gf:Nat} {lb:lV} {rep:Nat->wD->lV->α->Prop} {Rt:nP} {S:List α}
 (hp:iE p n=true) (hq:iE q n=true) (hg:ev l g=some (.func (.func gf) #[] lb.toArray)) (eg:BZ P gf=true) (ab:IterOk P gf lb rep Rt S w) (aa:∀c W vs x,rep c W vs x -> ∃u v,vs=[u,v]) (ac:∀k,Rt k->k<w.heap.size)
 (J Jx:(nP)->List α->wD->Prop) (hJ:EK w.heap.size J) (ad:EK w.heap.size Jx) (h0:J (λ_=>False) [] w)
 (N:∀r A pre x u v W,(∀k,A k->w.heap.size<=k/\k<W.heap.size)->A (w.heap.size+1)->J A pre W->rep (w.heap.size+2) W [u,v] x->(pre++[x]) <+: S ->
  CR P n (some r) G (Exit.then (Ir P (some r) (λk=>A k\/Rt k) (w.heap.size+1) U (λW₂=>En (λk=>A k\/Rt k) J Jx A (pre++[x]) W₂) W) (λ_ _ _=>False)) ((q,v)::(p,u)::l) W)
 (X:∀A W,(∀k,A k->w.heap.size<=k)->J A S W->A w.heap.size->W.heap[w.heap.size]? = some (.deferred (some []))->JZ (GX w.heap.size) n Q .normal l W)
 (Y:∀A pre W,(∀k,A k->w.heap.size<=k)->pre <+: S->Jx A pre W->A w.heap.size->W.heap[w.heap.size]? = some (.deferred (some []))->JZ (GX w.heap.size) n Q .ret l W) :
 CW P n (.rangeFunc g #[p,q] G U) Q l w:=by
 refine T0 λa O=>?_
 refine SJ (O.ev hg) eg ab (λc W vs x h=>by obtain ⟨u,v,rfl⟩:=aa c W vs x h;rfl) ac J Jx hJ ad h0 (λr A pre x vs W hA ae hj V M=>?_) (λA W hA hj Z hk=>?_) (λA pre W hA M hj Z hk=>?_)
 . obtain ⟨u,v,rfl⟩:=aa _ W vs x V;refine N r A pre x u v W hA ae hj V M _ ?_;have e1:Env n l { a with defers:=[] }:=⟨O.size,rfl,O.has⟩
   simpa [Act.put] using (e1.put hp u).put hq v
 . exact X A W hA hj Z hk _ ⟨⟨O.size,rfl,O.has⟩,by rw [O.defers];rfl⟩
 . exact Y A pre W hA M hj Z hk _ ⟨⟨O.size,rfl,O.has⟩,by rw [O.defers];rfl⟩
def It {D:List Deferred} {n i:Nat} {Q:Exit->Act->wD->Prop} {l:Sl} {w:wD} (h:JZ D n Q .normal l w):JZ D n (Exit.inBlock i Q) .normal l w:=h
def IS {D:List Deferred} {n i:Nat} {Q:Exit->Act->wD->Prop} {l:Sl} {w:wD} (h:JZ D n Q .ret l w):JZ D n (Exit.inBlock i Q) .ret l w:=h
def J3 {D:List Deferred} {n:Nat} {K:Act->wD->Prop} {Q:Exit->Act->wD->Prop} {l:Sl} {w:wD} (h:JZ D n Q .ret l w):JZ D n (Exit.then K Q) .ret l w:=h
section
variable {α:Type} {n:Nat} {Kp:nP} {J Jx:(nP)->List α->wD->Prop} {A:nP} {xs:List α} {W w:wD} {l:Sl}
def Jg (h:Keeps Kp W w) (G:J A xs w):QW n (En Kp J Jx A xs W) .normal l w:=by unfold QW;exact λ_ _=>⟨h,G⟩
def WV (h:Keeps Kp W w) (G:Jx A xs w):QW n (En Kp J Jx A xs W) .ret l w:=by unfold QW;exact λ_ _=>⟨h,G⟩
def Y4 {P:Program} {r:Option Nat} {Q:Exit->Act->wD->Prop} {x y:Code} {ι:Type} (L:ι->Sl) (I:ι->wD->Prop) (h:CR P n r x (Exit.then (λa w=> ∃i,Env n (L i) a/\I i w) Q) l w) (k:∀i w,I i w->CR P n r y Q (L i) w):CR P n r (.seq x y) Q l w:=λa G=>
 wpIn_seq (wpIn_mono (h a G) (λe a w q=>by
  cases e with
  | normal=>obtain ⟨i,M,N⟩:=q;exact k i w N a M
  | _=>exact q))
end
section
variable {P:Program} {n:Nat} {r:Option Nat} {Q:Exit->Act->wD->Prop} {l:Sl} {w:wD} {c:Operand} {x y:Code}
def Jh {p:Prop} [Decidable p] (h:ev l c=some (.bool (decide p))) (G:p->CR P n r x Q l w) (M:¬p->CR P n r y Q l w):CR P n r (.cond c x y) Q l w:=T1 h (λe=>G (of_decide_eq_true e)) (λe=>M (of_decide_eq_false e))
def WW {p:Prop} [Decidable p] (G:ev l c=some (.bool (decide p))) (M:p) (h:CR P n r x Q l w):CR P n r (.cond c x y) Q l w:=Jh G (λ_=>h) (λe=>absurd M e)
def aR {p:Prop} [Decidable p] (G:ev l c=some (.bool (decide p))) (M:¬p) (h:CR P n r y Q l w):CR P n r (.cond c x y) Q l w:=Jh G (λe=>absurd e M) (λ_=>h)
def WX {b:Bool} (h:ev l c=some (.bool !b)) (G:b=false->CR P n r x Q l w) (M:b=true->CR P n r y Q l w):CR P n r (.cond c x y) Q l w:=T1 h (λe=>G (by simpa using e)) (λe=>M (by simpa using e))
end
attribute [irreducible] dT SM JZ
open Go.Proofs
variable {j:Nat} {α:Type} {w:wD}
attribute [local irreducible] Go.Calls
def Nd.isRef (s:lB) (m:Nd):Bool:=decide (2<=m.kind/\m.kind<=5)&&decide (m.name=s)
def Nd.ment (s:lB) (t:Nd):Bool:=t.walk.any (Nd.isRef s)
def aS {c:Nat} {vs:lV} {x:Nd} (h:Y1 c w vs x):∃u v,vs=[u,v]:=by
 obtain ⟨G,M,N,a,c,rfl,-⟩:=h;exact ⟨_,_,rfl⟩
def Mx (t:Nd) (hz:t.size<=1000000) (s:lB) (S:nP) (a:oA) (c:Nat) (w:wD) (hs:t.sits S w a):Calls prog 178 #[t.val a c,str s] w λe w'=>e = .returned (.bool (t.ment s))/\Ext w w':=by
 have X:=Ne w;refine Gu (args:=[_,_]) func178 ntmps178 rfl rfl (cS (eB [_,_,_,_] ?_));intro b1 w2 h4 x5 p6 z7;revert hs X;refine eE x5 ?_;intro hs X;refine eB [_] ?_;intro b8 w9 N ae ax ay;revert h4 hs X;refine eE ae ?_;intro h4 hs X;refine eA [_] ?_;intro O af ab ag az z22;revert N h4 hs X;refine eE ag ?_;intro N h4 hs X;refine kQ (WU _ hz _ _ _ _ Ae) ?_;rintro _ ad ⟨aw,⟨⟩,ah,ai⟩;revert ab N X;refine eY ai ?_;intro a0 ab N X;refine cT ?_;refine Au ?_;obtain ⟨m,hm⟩:∃m,m=ad.heap.size:=⟨_,rfl⟩;refine QP rfl rfl rfl AU ah (λ_ _ _ _ h=>aS h) (λk G=>G.2)
  (λA xs W=>Blk W b8 [str s]/\Blk W O [.bool false]/\xs.any (Nd.isRef s)=false/\Ext w W)
  (λA xs W=>Blk W O [.bool true]/\xs.any (Nd.isRef s)=true/\Ext w W) ?_ ?_ ⟨N,ab,rfl,X⟩ ?_ ?_ ?_
 . rintro A A' xs W W' ⟨h1,h2,h3,x⟩ Y M - -;exact ⟨h1.fr Y (λe=>by have:=M _ e;omega),h2.fr Y (λe=>by have:=M _ e;omega),h3,me x Y (λk G=>by have:=M _ G;omega)⟩
 . rintro A A' xs W W' ⟨h1,h2,x⟩ Y M - -;exact ⟨h1.fr Y (λe=>by have:=M _ e;omega),h2,me x Y (λk G=>by have:=M _ G;omega)⟩
 . rintro r A pre x u v W M aj ⟨j1,Z,j3,V⟩ ⟨pa,pn,pc,xa,xc,e,sx,-⟩ aa;simp only [iT,and_true] at e;obtain ⟨rfl,rfl⟩:=e;have a1:=M _ aj;have ak:(pre++[x]).any (Nd.isRef s)=x.isRef s:=by rw [List.any_append,j3];simp
   obtain ⟨k,n,sn,l⟩:=x;have X1:=Ne W;refine Bs rfl Gv (xA [_,_,_,_] ?_);intro al a2 am;refine eI [_,_,_,_] am ?_;intro a3 U an a4 a5;revert j1 Z V X1;refine eE an ?_;intro j1 Z V X1;refine Ak (Is (Keeps.of_ext X1) λW2 f2=>?_)
   revert U j1 Z;refine eF f2 ?_;intro U j1 Z;have V:=me V f2 (λk G=>by omega);have a6:=f2.size;have a7:∀k,A k->k<W2.heap.size:=λk G=>by have:=M k G;omega
   have HA:=gO M;simp only [mz,Nd.num,mr,mL] at U;refine Gt (Dh (Bs rfl (Bw (By B5)) (C1 Pg (C1 (Pl U) (Ak (Cw (Gt (Y4 (ι:=Unit) (λ_=>[(3,pt b8),(4,pt O),(6,pt al),(13,.bool (decide (2<=k/\k<=5)))]) (λ_ w'=>w'=W2) ?_ ?_))))))))
   . focus
      refine Dh (Bs rfl (Bw (Bw (By (By B5)))) (C1 V1 (C1 Pa (Ak (Cw (Jh rfl (λao=>?_) (λao=>?_)))))));refine F0 ?_;rotate_left;refine Dh (Bs rfl (Bw (Bw (By (By B5)))) (C1 V1 (C1 Pa (Ak (Cw (Jh rfl (λap=>?_) (λap=>?_)))))));refine F0 ?_;rotate_left;refine Dh (Bs rfl (Bw (Bw (By (By B5)))) (C1 V1 (C1 Pa (Ak (Cw (Jh rfl (λaq=>?_) (λaq=>?_)))))));refine F0 ?_;rotate_left;refine Bs rfl (Bw (By (By B5))) (eK ?_);rotate_left
     all_goals exact BY () (An rfl (An rfl (An rfl (B4 rfl (congrArg Value.bool (decide_eq_decide.2 Ab)) BK)))) rfl
   . rintro-W3 h;subst h;have X3:=lZ (λk=>k=O) W3;have hb:∀k,A k\/(af.heap.size<=k/\k<ad.heap.size) -> ¬k=O:=λk G e=>by
      rcases G with G|G
      . have:=HA.out k G;omega
      . omega
     have hy:=ak;unfold Nd.isRef at hy;simp only [mz,mr] at hy
     focus
      refine Jh rfl (λar=>?_) (λar=>?_);refine Dh (Bs rfl (Bw (By (By B5))) (C1 Pf (C1 (Pl U) (C1 (Pl j1) (C1 V8 (Ak (Cw (Jh rfl (λau=>?_) (λau=>?_)))))))));refine Dh (Bs rfl (Bw (By (By B5))) (eS [_] Z ?_));intro a8 a9 av _;revert V X3;refine eF av ?_;intro V X3;refine Ak (Cw (WR (AJ (AJ ?_))));rotate_left;refine F0 (Ah (Ah ?_));rotate_left;refine F0 (Ah (Ah ?_));rotate_left
     . exact WV (Keeps.of_fr X3 hb) ⟨Ae,hy.trans (by simp [*]),Ae⟩
     . exact Jg (Keeps.of_fr X3 hb) ⟨Ae,Ae,hy.trans (by simp [*]),Ae⟩
     . refine Jg (Keeps.of_fr X3 hb) ⟨Ae,Ae,hy.trans ?_,Ae⟩;rw [Bool.and_eq_false_iff];exact gP (decide_eq_false Ab)
 . rintro A W M ⟨j1,Z,j3,V⟩-G;refine It (DE (Ip (EL (KJ Ac rfl rfl rfl rfl rfl Z (λw1 hb Y=>GW (DE (J0 (QO ?_ rfl Ac rfl rfl rfl hb (λw2 ac=>⟨by rw [Nd.ment,j3],me (me V Y (λk e=>by omega)) ac (λk e=>by omega)⟩)))))))));rw [Y.block _ (Array.getElem?_eq_some_iff.1 G).1 Ab];exact G
 . rintro A pre W M aa ⟨j1,Z,V⟩-G;refine IS (J3 (QO G rfl Ac rfl rfl rfl j1 (λw2 ac=>⟨?_,me V ac (λk e=>by omega)⟩)));obtain ⟨q,hq⟩:=aa;rw [Nd.ment,<-hq,List.any_append,Z];rfl
def Hs (k:Nat):Shape Unit where
 sz:=k
 rep _ _ _ cs:=cs.length=k/\cs.all mq=true
 len h:=h.1
 one h:=h.2
 mono h _ _:=h
 lt h:=h
def Gw:Shape (Int×Bool) where
 sz:=6
 rep _ _ x cs:= ∃(k n:Int) (s:lB) (a:oA) (m c:Nat),cs=[.int .u8 k,.int .i64 n,str s,.slice a m c,.int .i64 x.1,.bool x.2]
 len h:=by obtain ⟨_,_,_,_,_,_,rfl⟩:=h;rfl
 one h:=by obtain ⟨_,_,_,_,_,_,rfl⟩:=h;rfl
 mono h _ _:=h
 lt h:=h
def NodeR (w:wD):Ending->wD->Prop:=λe w'=> ∃(k n:Int) (s:lB) (a:oA) (m c:Nat),e = .returned (.agg #[.int .u8 k,.int .i64 n,str s,.slice a m c])/\Ext w w'
def NodeR.ret {e:Ending} {w':wD} (h:NodeR w e w'):∃v,e = .returned v:=by
 obtain ⟨_,_,_,_,_,_,h,-⟩:=h;exact ⟨_,h⟩
def Iu (v:Int) (w:wD) (h:0<=v):Calls prog 231 #[.int .i64 v] w (NodeR w):=by
 have X:=Ne w;refine Ad func231 ntmps231 rfl rfl (cS (eA [_,_,_,_] ?_));intro V Y N O Z z8;have X:=X.ext O;refine eK ?_;refine C1 (xB [_,_,_,_]) (eS [_,_,_,_] N ?_);intro w9 G M U;have X:=X.fr M Ab;refine kX G ?_;exact ⟨_,_,[],_,_,_,rfl,X⟩
def Vd (v:Int) (w:wD) (h : -9223372036854775808<=v):Calls prog 231 #[.int .i64 v] w (NodeR w):=by
 by_cases h0:0<=v
 . exact Iu v w h0
 by_cases h1:v = -9223372036854775808
 . subst h1;have X:=Ne w;refine Ad func231 ntmps231 rfl rfl ?_;refine cS (eA [_,_,_,_] ?_);intro b1 w2 M x6 p7 z8;have X:=X.ext x6;refine eK ?_;refine eQ rfl (Iu _ _ Ab) ?_;rintro _ aq ⟨k9,ar,au,av,aw,ax,⟨⟩,Z⟩;revert M X;refine eE Z ?_;intro M X;refine eQ rfl (Iu _ _ Ab) ?_;rintro _ ay ⟨az,a0,a1,a2,a3,a4,⟨⟩,aa⟩;revert M X;refine eE aa ?_;intro M X;refine Ax (xS [_,_,_,_,_,_,_,_]) rfl ?_ aFh;rintro _ a5 ⟨a6,rfl,ab,a7⟩;have ac:=ab.ext;revert M X;refine eE ac ?_;intro M X;refine C1 (xB [_,_,_,_]) (eS [_,_,_,_] M ?_);intro a8 ad ae _;have X:=X.fr ae Ab;refine eK ?_;refine xC ad ?_;exact ⟨_,_,[],_,_,_,rfl,X⟩
 . have X:=Ne w;have hw:0<=KE (0-v):=by
    have:KE (0-v)=0-v:=by unfold KE;rw [jo];simp [IntKind.signed,IntKind.bits];omega
    omega
   refine Ad func231 ntmps231 rfl rfl ?_;refine cS (eA [_,_,_,_] ?_);intro a9 ba G af bb bc;have X:=X.ext af;refine eK ?_;refine C1 (Ma rfl) (eQ rfl (Iu _ _ hw) ?_);rintro _ ag ⟨bd,ah,ai,aj,ak,al,⟨⟩,N⟩;revert G X;refine eE N ?_;intro G X;refine Ax (xS [_,_,_,_]) rfl ?_ aFh;rintro _ am ⟨an,rfl,O,ao⟩;have U:=O.ext;revert G X;refine eE U ?_;intro G X;refine C1 (xB [_,_,_,_]) (eS [_,_,_,_] G ?_);intro ap V Y _;have X:=X.fr Y Ab;refine eK ?_;refine xC V ?_;exact ⟨_,_,[],_,_,_,rfl,X⟩
def Gg (k n:Int) (kids:List (Int×Bool)):Int×Bool:=
 if kids.all (·.2)=true then
  if k=1 then (n,true) else if k=2\/k=3\/k=4\/k=5 then (0,false)
  else if k=6\/k=7 then ((EH k (kids.getD 0 (0,false)).1).1,decide ((EH k (kids.getD 0 (0,false)).1).2=0))
  else ((EG k (kids.getD 0 (0,false)).1 (kids.getD 1 (0,false)).1).1,decide ((EG k (kids.getD 0 (0,false)).1 (kids.getD 1 (0,false)).1).2=0))
 else (0,false)
def T4 (x:Int×Bool):Int×Bool:=if x.2=true then x else (0,false)
mutual
def Nd.cval:Nd->Int×Bool
 | .mk k n _ l=>T4 (Gg k n (GY l))
def GY:List Nd->List (Int×Bool)
 | []=>[]
 | t::r=>t.cval::GY r
end
def Ll:∀l:List Nd,GY l=l.map Nd.cval
 | []=>rfl
 | t::r=>by rw [GY,Ll r,iR]
def FoldR (t:Nd) (w:wD):Ending->wD->Prop:=λe w'=> ∃(k n:Int) (s:lB) (a:oA) (m c:Nat),e = .returned (.agg #[.int .u8 k,.int .i64 n,str s,.slice a m c,.int .i64 t.cval.1,.bool t.cval.2])/\Ext w w'
def FoldR.ret {t:Nd} {e:Ending} {w':wD} (h:FoldR t w e w'):∃v,e = .returned v:=by
 obtain ⟨_,_,_,_,_,_,h,-⟩:=h;exact ⟨_,h⟩
def EachR {α:Type} (sh:Shape α) (e:Nat) (xs:List α) (w:wD):Ending->wD->Prop:=λr w'=> ∃a c,r = .returned (.slice a xs.length c)/\OwnQ sh w' (λ_=>False) w.heap.size e (.slice a xs.length c) xs/\Ext w w'
def EachR.ret {sh:Shape α} {e:Nat} {xs:List α} {r:Ending} {w':wD} (h:EachR sh e xs w r w'):∃v,r = .returned v:=by
 obtain ⟨_,_,h,-⟩:=h;exact ⟨_,h⟩
def Y5 (l:List Nd) (hl:l.length<=1000000) (S:nP) (a:oA) (c:Nat) (w:wD) (M:rowSits S w l a)
 (hC:∀x∈l,∀(S:nP) (a:oA) (c:Nat) (w:wD),x.sits S w a->Calls prog 218 #[x.val a c] w (FoldR x w)) :
 Calls prog 229 #[.slice a l.length c,.func (.func 218) #[] #[]] w (EachR Gw 272 (l.map Nd.cval) w):=by
 have HC:=gO hC;have M:=Ci _ _ M;have X:=Ne w;refine Ad func229 ntmps229 rfl rfl (cS (C1 Pa (cN (C1 Pa (cT (Aj (cS (C1 Mv (C1 Pz (C1 Mv (cT ?_)))))))))));refine Au ?_;refine AQ (ι:=Nat×oA×Nat) (λx=>[(1,.func (.func 218) #[] #[]),(5,.slice x.2.1 ((l.take x.1).map Nd.cval).length x.2.2),(8,.slice a l.length c),(9,.int .i64 l.length),(10,.int .i64 x.1)])
  (λx w'=>OwnQ Gw w' (λ_=>False) w.heap.size 272 (.slice x.2.1 ((l.take x.1).map Nd.cval).length x.2.2) ((l.take x.1).map Nd.cval)/\x.1<=l.length/\rowSits (· < w.heap.size) w' l a/\Ext w w')
  (λx=>l.length-x.1) (0,none,0) sB ⟨OwnQ.nil,ii _,M,X⟩ ?_
 rintro ⟨j,ra,rc⟩ w1 ⟨G,hj,M,X⟩;simp only at G hj M X;have Y:∀g,(iD ra ((l.take j).map Nd.cval).length rc).ownBlock=some g->w.heap.size<=g/\g<w1.heap.size:=λg h=>⟨G.ge h,G.lt h⟩
 have az:=X.size;by_cases U:j<l.length
 . obtain ⟨kb,ko,rfl,kS,Z⟩:=BG M (by intro e;subst e;simp at U);obtain ⟨xa,xc,rx,sx⟩:=Z j l[j] (gN U);have HX:=gO (HC.out l[j] (ig U));have O:(l.take j).map Nd.cval++[l[j].cval]=(l.take (j+1)).map Nd.cval:=by rw [gS U,jm];rfl
   have a0:((l.take j).map Nd.cval).length<=1000000:=by simp;omega
   generalize l[j]=x at *;refine eK ?_;refine xA [_,_,_,_] ?_;intro a1 a2 ad;refine eI [_,_,_,_] ad ?_;intro a3 a4 ae a5 a6;revert G X M sx;refine eE ae ?_;intro G X M sx;refine eK ?_;refine Ax (A8 (fi:=[]) (ca:=[]) AU rfl rfl (HX.out _ _ _ _ Ae) (λ_ _ h=>h.ret)) rfl ?_ aFh;rintro _ af ⟨a7,ag,ah,ai,aj,ak,⟨⟩,aa⟩;revert G X M;refine eY aa ?_;intro al G X M;refine Ax (xS [_,_,_,_,_,_]) rfl ?_ aFh;rintro _ am ⟨an,rfl,N,ao⟩;have ap:=N.blk;have ab:=N.ext;have aq:=N.pos;have ar:=N.size;revert G X M;refine eE ab ?_;intro G X M;refine Di (R:=λ_=>False) (sh:=Gw) (z:=x.cval) Ac CJ rfl rfl rfl rfl AU rfl rfl rfl Ae (λ_ h=>by exact h) (mi Ae) ⟨_,_,_,_,_,_,rfl⟩ Ab Ab rfl ?_;rintro au ac av aw ax ay V;have X:=me X V (λk hk=>by have:=Y _ hk;omega);have M:=mA M V (λb hb h=>by have:=Y _ h;omega);refine C1 Pa (Ak (Ah (Ai (Al (C1 V7 (C1 Mv (Ak ?_)))))));rw [O];exact AA (j+1,some ⟨_,0,none⟩,_) sB ⟨by simp only;rw [<-O];assumption,by simp only;omega,M,X⟩ (by simp only;omega)
 . obtain rfl:j=l.length:=by omega
   rw [im] at G;refine kR ?_;simp only [im];exact ⟨_,_,rfl,G,X⟩
def KidsAt (w:wD) (a:oA) (kids:List (Int×Bool)):Prop:=kids=[] \/ ∃b o,a=some ⟨b,o,none⟩/\b<w.heap.size /\ ∀(i:Nat) (x:Int×Bool),kids[i]? = some x -> ∃(k n:Int) (s:lB) (c:oA) (m d:Nat),Row w ⟨b,o+i*6,none⟩ [.int .u8 k,.int .i64 n,str s,.slice c m d,.int .i64 x.1,.bool x.2]
def KidsAt.ext {w w':wD} {a:oA} {kids:List (Int×Bool)} (h:KidsAt w a kids) (x:Ext w w'):KidsAt w' a kids:=h.imp id λ⟨b,o,h1,h2,h3⟩=>⟨b,o,h1,js h2 x.size,λi y G=>by
 obtain ⟨k,n,s,c,m,d,r⟩:=h3 i y G;exact ⟨k,n,s,c,m,d,r.ext x⟩⟩
instance {w':wD} {a:oA} {kids:List (Int×Bool)}:LfE w w' (KidsAt w a kids) (KidsAt w' a kids):=⟨λx h=>Bk.KidsAt.ext h x⟩
def OwnQ.kidsAt {R:nP} {B e cap m:Nat} {a:oA} {kids:List (Int×Bool)} (h:OwnQ Gw w R B e (.slice a m cap) kids):KidsAt w a kids:=by
 by_cases M:kids=[]
 . exact gP M
 . obtain ⟨g,N,O,-,U,G⟩:=h.rows M;simp only [iK] at O;obtain ⟨rfl,-,-⟩:=O;refine gQ ⟨g,0,rfl,U,λi x V=>?_⟩;obtain ⟨cs,X,k,n,s,c,m,d,rfl⟩:=G i x V;exact ⟨k,n,s,c,m,d,by simpa [Gw] using X⟩
set_option maxHeartbeats 8000000 in
def Y6 (k n:Int) (s:lB) (l:List Nd) (na:oA) (nc:Nat) (kids:List (Int×Bool)) (a:oA) (c:Nat) (w:wD) (hl:kids.length<=1000000) (G:KidsAt w a kids) (h1:k=6\/k=7->kids.length=1) (h2:8<=k->kids.length=2) (h0:1<=k) :
 Calls prog 230 #[(Nd.mk k n s l).val na nc,.slice a kids.length c] w λe w'=>e = .returned (.tuple #[.int .i64 (Gg k n kids).1,.bool (Gg k n kids).2])/\Ext w w':=by
 have X:=Ne w;have HK:=gO G;clear G;refine Ad func230 ntmps230 rfl rfl ?_;refine cS (eB [_,_,_,_] ?_);intro b1 w2 Z x5 _ _;have X:=X.ext x5;refine C1 Pa (C1 Pa (cT (Aj (cS (C1 Mv (C1 Pz (C1 Mv (cT ?_))))))));refine Au ?_;refine AQ (ι:=Nat) (λj=>[(1,.slice a kids.length c),(2,pt b1),(10,.slice a kids.length c),(11,.int .i64 kids.length),(12,.int .i64 j)])
  (λj w'=>j<=kids.length/\Blk w' b1 [.int .u8 k,.int .i64 n,str s,.slice na l.length nc]/\Ext w w'/\(kids.take j).all (·.2)=true)
  (λj=>kids.length-j) 0 sB ⟨ii _,Z,X,rfl⟩ ?_
 clear Z X;rintro j w2 ⟨hj,Z,X,O⟩;by_cases aa:j<kids.length
 . rcases HK.out.ext X with G|⟨b,o,rfl,hb,G⟩
   . subst G;simp at aa
   obtain ⟨k',n',s',c',m',d',r0⟩:=G j kids[j] (gN aa);have ac:(kids.take (j+1)).all (·.2)=kids[j].2:=by rw [gS aa,ly,O];simp
   have ae:kids[j].2=false->kids.all (·.2)=false:=λh=>by
    rw [lO];exact ⟨kids[j],ig aa,by rw [h];simp⟩
   clear G;generalize kids[j]=x at *
   focus
    refine eK ?_;refine xA [_,_,_,_,_,_] ?_;intro ay az aj;refine eI [_,_,_,_,_,_] aj ?_;intro a0 ak al _ _;revert Z X;refine eE al ?_;intro Z X;refine cN (C1 Pf (C1 (Pl ak) (C1 Pt (cT ?_))));refine JG rfl (λam=>?_) (λam=>?_);refine kT ?_;rotate_left;refine Ao (Ah (Ai (Al (C1 V7 (C1 Mv (Ak ?_))))));rotate_left
   . exact ⟨by rw [Gg,At (by rw [ae Ae];simp)],X⟩
   . exact AA (j+1) sB ⟨Ab,Z,X,ac.trans Ae⟩ Ab
 . obtain rfl:j=kids.length:=by omega
   rw [im] at O;have hv:Gg k n kids=if k=1 then (n,true) else if k=2\/k=3\/k=4\/k=5 then (0,false) else if k=6\/k=7 then ((EH k (kids.getD 0 (0,false)).1).1,decide ((EH k (kids.getD 0 (0,false)).1).2=0)) else ((EG k (kids.getD 0 (0,false)).1 (kids.getD 1 (0,false)).1).1,decide ((EG k (kids.getD 0 (0,false)).1 (kids.getD 1 (0,false)).1).2=0)):=by rw [Gg,AH O]
   rw [hv];clear O hv;by_cases k5:k<=5
   . clear h1 h2 HK
     focus
      refine eK ?_;refine Ay rfl (λan=>?_) (λan=>?_);refine kT ?_;rotate_left;refine eK ?_;refine Ay rfl (λao=>?_) (λao=>?_);refine kT ?_;rotate_left;refine eK ?_;refine Ay rfl (λap=>?_) (λap=>?_);refine kT ?_;rotate_left;refine eK ?_;refine Ay rfl (λaq=>?_) (λaq=>?_);refine kT ?_;rotate_left;refine kT ?_;rotate_left
     all_goals (refine ⟨?_,X⟩;first|rw [AH Ab]|rw [At Ab,AH Ab])
   by_cases k7:k<=7
   . have ad:=h1 Ab
     match kids,ad with
     | [x],_=>
      rcases HK.out.ext X with G|⟨b,o,rfl,hb,G⟩
      . cases G
      obtain ⟨k',n',s',c',m',d',r0⟩:=G 0 x rfl;clear h1 h2 HK G
      focus
       refine eK ?_;refine Ay rfl (λar=>?_) (λar=>?_);refine eK ?_;refine Aq (λU=>Ext w2 U) 11 (.pure 0 (.pure 1 (.pure 2 (.pure 3 (.pure 4 (.pure 5 (.fork 6 (.pure 7 (.pure 8 (.pure 9 (.pure 10 .tail)))) .none))))))) mixed AU (Af (Aa Ag)) ?_;intro au af _;have V:(λU=>Ext w2 U) au:=af;simp only at V;have ab:=Z;have M:=r0;have X:=X.ext af;refine ⟨V,?_⟩;refine eT ?_;refine Tq rfl (Dr M) ?_;refine tC rfl rfl (O8 _ _ _) ?_;rintro _ a1 ⟨⟨⟩,rfl⟩;refine ⟨V,?_⟩;refine Tq rfl Mv (Tq rfl Px (Tq rfl Px (Tq rfl Pa ?_)));refine Ar rfl ?_;refine kT ?_;rotate_left;refine eK ?_;refine Aq (λU=>Ext w2 U) 11 (.pure 0 (.pure 1 (.pure 2 (.pure 3 (.pure 4 (.pure 5 (.fork 6 (.pure 7 (.pure 8 (.pure 9 (.pure 10 .tail)))) .none))))))) mixed AU (Af (Aa Ag)) ?_;intro av ag _;have N:(λU=>Ext w2 U) av:=ag;simp only at N;have ab:=Z;have M:=r0;have X:=X.ext ag;refine ⟨N,?_⟩;refine eT ?_;refine Tq rfl (Dr M) ?_;refine tC rfl rfl (O8 _ _ _) ?_;rintro _ ax ⟨⟨⟩,rfl⟩;refine ⟨N,?_⟩;refine Tq rfl Mv (Tq rfl Px (Tq rfl Px (Tq rfl Pa ?_)));refine Ar rfl ?_;refine kT ?_;rotate_left
      all_goals (refine ⟨?_,X⟩;rw [At Ab,At Ab,AH Ab];rfl)
   . have ad:=h2 Ab
     match kids,ad with
     | [x,y],_=>
      rcases HK.out.ext X with G|⟨b,o,rfl,hb,G⟩
      . cases G
      obtain ⟨k',n',s',c',m',d',r0⟩:=G 0 x rfl;obtain ⟨a2,a3,a4,a5,a6,a7,r1⟩:=G 1 y rfl;clear h1 h2 HK G;refine eK ?_;refine Aq (λU=>Ext w2 U) 15 (.pure 0 (.pure 1 (.pure 2 (.pure 3 (.pure 4 (.pure 5 (.pure 6 (.pure 7 (.pure 8 (.pure 9 (.fork 10 (.pure 11 (.pure 12 (.pure 13 (.pure 14 .tail)))) .none))))))))))) mixed AU (Af (Aa Ag)) ?_;intro aw ah _;have Y:(λU=>Ext w2 U) aw:=ah;simp only at Y;have ab:=Z;have M:=r0;have ai:=r1;have X:=X.ext ah;refine ⟨Y,?_⟩;refine eT ?_;refine Tq rfl (Dr M) ?_;refine eT ?_;refine Tq rfl (Dr ai) ?_;refine tC rfl rfl (TO _ _ _ _) ?_;rintro _ a8 ⟨⟨⟩,rfl⟩;refine ⟨Y,?_⟩;refine Tq rfl Mv (Tq rfl Px (Tq rfl Px (Tq rfl Pa ?_)));refine Ar rfl ?_;refine kT ?_;refine ⟨?_,X⟩;rw [At Ab,At Ab,At Ab];rfl
def Y7 (k n:Int) (s:lB) (a:oA) (m c:Nat) (v:Int) (q:Bool) (w:wD) :
 Calls prog 233 #[.agg #[.int .u8 k,.int .i64 n,str s,.slice a m c,.int .i64 v,.bool q]] w λe w'=>e = .returned (.agg #[.int .u8 k,.int .i64 n,str s,.slice a m c])/\Ext w w':=by
 have X:=Ne w;refine Ad func233 ntmps233 rfl rfl (cS (eB [_,_,_,_,_,_] ?_));intro b1 w2 O U p6 z7;have X:=X.ext U;refine eA [_,_,_,_] ?_;intro b8 w9 h G V Y;revert O X;refine eE G ?_;intro O X;refine eK ?_;refine eS [_,_,_,_] h ?_;intro Z M N aa;have X:=X.fr N Ab;refine kX M ?_;all_goals exact ⟨rfl,X⟩
def Y8 (kids:List (Int×Bool)) (hl:kids.length<=1000000) (a:oA) (c:Nat) (w:wD) (O:KidsAt w a kids) :
 Calls prog 232 #[.slice a kids.length c,.func (.func 233) #[] #[]] w (EachR (Hs 4) 29 (kids.map λ_=>()) w):=by
 have X:=Ne w;refine Ad func232 ntmps232 rfl rfl (cS (C1 Pa (cN (C1 Pa (cT (Aj (cS (C1 Mv (C1 Pz (C1 Mv (cT ?_)))))))))));refine Au ?_;refine AQ (ι:=Nat×oA×Nat) (λx=>[(1,.func (.func 233) #[] #[]),(5,.slice x.2.1 (iL x.1 ()).length x.2.2),(8,.slice a kids.length c),(9,.int .i64 kids.length),(10,.int .i64 x.1)])
  (λx w'=>OwnQ (Hs 4) w' (λ_=>False) w.heap.size 29 (.slice x.2.1 (iL x.1 ()).length x.2.2) (iL x.1 ())/\x.1<=kids.length/\Ext w w')
  (λx=>kids.length-x.1) (0,none,0) sB ⟨OwnQ.nil,ii _,X⟩ ?_
 rintro ⟨j,ra,rc⟩ w1 ⟨G,hj,X⟩;simp only at G hj X;have aa:∀g,(iD ra (iL j ()).length rc).ownBlock=some g->w.heap.size<=g/\g<w1.heap.size:=λg h=>⟨G.ge h,G.lt h⟩
 have au:=X.size;by_cases U:j<kids.length
 . rcases O.ext X with O|⟨b,o,rfl,hb,ab⟩
   . subst O;simp at U
   obtain ⟨k',n',s',c',m',d',r0⟩:=ab j kids[j] (gN U);have av:(iL j ()).length<=1000000:=by simp;omega
   have N:iL j ()++[()]=iL (j+1) ():=by rw [lD]
   generalize kids[j]=x at *;refine eK ?_;refine xA [_,_,_,_,_,_] ?_;intro aw ax ac;refine eI [_,_,_,_,_,_] ac ?_;intro ay az ad a0 a1;revert G X;refine eE ad ?_;intro G X;refine eK ?_;refine Ax (A8 (fi:=[]) (ca:=[]) AU rfl rfl (Y7 _ _ _ _ _ _ _ _ _) (λ_ _ h=>⟨_,h.1⟩)) rfl ?_ aFh;rintro _ af ⟨⟨⟩,ae⟩;revert G X;refine eY ae ?_;intro ag G X;refine Ax (xS [_,_,_,_]) rfl ?_ aFh;rintro _ ah ⟨ai,rfl,M,aj⟩;have ak:=M.blk;have V:=M.ext;have al:=M.pos;have am:=M.size;revert G X;refine eE V ?_;intro G X;refine Di (R:=λ_=>False) (sh:=Hs 4) (z:=()) Ac CJ rfl rfl rfl rfl AU rfl rfl rfl Ae (λ_ h=>by exact h) (mi Ae) ⟨rfl,rfl⟩ Ab Ab rfl ?_;rintro an Y ao ap aq ar Z;have X:=me X Z (λk O=>by have:=aa _ O;omega);refine C1 Pa (Ak (Ah (Ai (Al (C1 V7 (C1 Mv (Ak ?_)))))));rw [N];exact AA (j+1,some ⟨_,0,none⟩,_) sB ⟨by simp only;rw [<-N];assumption,by simp only;omega,X⟩ (by simp only;omega)
 . obtain rfl:j=kids.length:=by omega
   have e:kids.map (λ_=>())=iL kids.length ():=by rw [List.map_const']
   rw [e];refine kR ?_;exact ⟨_,_,rfl,G,X⟩
def E0 (v:Int):Prop:= -9223372036854775808<=v/\v<=9223372036854775807
def J6 (v:Int):E0 (KE v):=by
 unfold E0 KE;rw [jo];simp [IntKind.signed,IntKind.bits];split<;>omega
def T5 (b:Bool):E0 (Wl b):=by cases b<;>simp [Wl,E0]
def Oc (k x:Int):E0 (EH k x).1:=by
 unfold EH;split
 . exact J6 _
 split
 . exact T5 _
 . simp [E0]
def T6 (o:BinOp) (x y:Int):E0 (NM o x y):=by
 unfold NM;split<;>exact J6 _
def WY {x y:Int} (h:E0 x):E0 (x.tmod y):=by
 have M:=Int.natAbs_tmod x y;have N:=Nat.mod_le x.natAbs y.natAbs;unfold E0 at h ⊢;by_cases G:0<=x
 . have:=Int.tmod_nonneg y G;omega
 . have O:(-x).tmod y = - x.tmod y:=Int.neg_tmod ..;have U:=Int.tmod_nonneg y (show 0 <= -x by omega);omega
def F4 {c:Prop} [Decidable c] {a b:Int×Int} (h:E0 a.1) (G:E0 b.1):E0 (if c then a else b).1:=by split<;>assumption
def Od (k:Int) {x y:Int} (h:E0 x):E0 (EG k x y).1:=by
 unfold EG UG
 repeat' (refine F4 ?_ ?_)
 all_goals first
  | exact J6 _
  | exact T5 _
  | exact T6 _ _ _
  | exact WY h
  | (constructor<;>decide)
def SN {k n:Int} {kids:List (Int×Bool)} (h:E0 n) (G:∀x∈kids,E0 x.1):E0 (Gg k n kids).1:=by
 have M:E0 (kids.getD 0 (0,false)).1:=by
  cases kids with
  | nil=>simp [E0]
  | cons x r=>exact G x AK
 unfold Gg
 repeat' split
 all_goals first
  | exact h
  | exact Oc _ _
  | exact Od _ M
  | simp [E0]
def WZ {x:Int×Bool} (h:E0 x.1):E0 (T4 x).1:=by
 unfold T4;split
 . exact h
 . simp [E0]
mutual
def QQ:∀t:Nd,t.wf->E0 t.cval.1
 | .mk k n s l,h=>by
  simp only [Nd.wf] at h;rw [Nd.cval];exact WZ (SN ⟨h.2.2.1,h.2.2.2.1⟩ (T7 l h.2.2.2.2.2.2))
def T7:∀l:List Nd,CY l -> ∀x∈GY l,E0 x.1
 | [],_,x,hx=>by simp [GY] at hx
 | t::r,h,x,hx=>by
  simp only [CY] at h;simp only [GY,io] at hx;rcases hx with rfl|hx
  . exact QQ t h.1
  . exact T7 r h.2 x hx
end
def Iv {k n:Int} {s:lB} {l:List Nd} (h:(Nd.mk k n s l).isExpr=true):1<=k/\(∀x∈l,x.isExpr=true)/\(k=6\/k=7->l.length=1)/\(8<=k->l.length=2):=by
 rw [Nd.isExpr.eq_def] at h;simp only at h;split at h
 . rename_i G;simp only [gR,jn] at h;rw [h.2];exact ⟨Ab,AK,Ab,Ab⟩
 split at h
 . simp only [gR,jn] at h;rw [h.2];exact ⟨Ab,AK,Ab,Ab⟩
 split at h
 . match l,h with
   | [x],h=>
    simp only [gR] at h;exact ⟨Ab,by simpa using h.2,Ab,Ab⟩
   | [],h=>simp at h
   | _::_::_,h=>simp at h
 split at h
 . match l,h with
   | [x],h=>
    simp only [gR] at h;exact ⟨Ab,by simpa using h.2,λ_=>rfl,Ab⟩
   | [],h=>simp at h
   | _::_::_,h=>simp at h
 split at h
 . match l,h with
   | [x,y],h=>
    simp only [gR] at h;exact ⟨Ab,by simpa using h.2,Ab,λ_=>rfl⟩
   | [],h=>simp at h
   | [_],h=>simp at h
   | _::_::_::_,h=>simp at h
 . simp at h
def bX (N:Nat):∀(t:Nd),t.size<N->t.size<=1000000->t.wf->t.isExpr=true -> ∀(S:nP) (a:oA) (c:Nat) (w:wD),t.sits S w a->Calls prog 218 #[t.val a c] w (FoldR t w):=by
 induction N with
 | zero=>intro t h;omega
 | succ N ih=>
  rintro ⟨k,n,s,l⟩ hN hM hf hx S a c w hs;have ap:=Cz l;simp only [mg] at hN hM;have hR:=QQ _ hf;obtain ⟨e1,e2,e3,e4⟩:=Iv hx;simp only [Nd.wf] at hf;have HC:=gO (λx M=>ih x (by have:=CM M;omega) (by have:=CM M;omega) (BB hf.2.2.2.2.2.2 x M) (e2 x M));have V:(l.map Nd.cval).length=l.length:=by simp
  have Y:(Nd.mk k n s l).cval=T4 (Gg k n (l.map Nd.cval)):=by rw [Nd.cval,Ll]
  have X:=Ne w;refine Ad func218 ntmps218 rfl rfl (cS (eB [_,_,_,_] ?_));intro b1 w2 O x5 p6 z7;revert hs X;refine eE x5 ?_;intro hs X;refine eA [_,_,_,_,_,_] ?_;intro b8 w9 G ai ax ay;revert O hs X;refine eE ai ?_;intro O hs X;refine kQ (Y5 l Ab _ _ _ _ (EJ Ae) HC.out) ?_;rintro _ aj ⟨Z,aa,⟨⟩,ak,al⟩;revert G O X;refine eE al ?_;intro G O X;refine eK ?_;have U:=ak.kidsAt;have HV:=gO (Y6 k n s l a c (l.map Nd.cval) Z aa aj Ab U (λh=>by rw [V];exact e3 h) (λh=>by rw [V];exact e4 h) e1);have HE:=gO (Y8 (l.map Nd.cval) Ab Z aa);have ab:=Y;rw [Y] at hR;generalize l.map Nd.cval=kids at *;generalize Gg k n kids=cv at *;obtain ⟨v,q⟩:=cv;dsimp only at HV;cases q
  . refine kC (HV.out) ?_;rintro _ az ⟨⟨⟩,am⟩;revert G O X U;refine eE am ?_;intro G O X U;refine kQ (HE.out _ Ae) ?_;rintro _ a0 ⟨a1,a2,⟨⟩,a3,an⟩;revert G O X;refine eE an ?_;intro G O X;refine C1 Pf (eV [_] [_,_,_,_] O ?_);intro aq ar ac _;revert G X;refine eF ac ?_;intro G X;refine eK ?_;refine C1 (xB [_,_,_,_,_,_]) (eS [_,_,_,_,_,_] G ?_);intro au ad ae _;have X:=X.fr ae Ab;refine kX ad ?_;exact ⟨_,_,_,_,_,_,by rw [ab];rfl,X⟩
  . refine kC (HV.out) ?_;rintro _ a4 ⟨⟨⟩,ao⟩;revert G X;refine eE ao ?_;intro G X;refine kQ (Vd _ _ hR.1) ?_;rintro _ av ⟨a5,a6,a7,a8,a9,ba,⟨⟩,af⟩;revert G X;refine eE af ?_;intro G X;refine C1 Mv (C1 (xB [_,_,_,_,_,_]) (eS [_,_,_,_,_,_] G ?_));intro aw ag ah _;have X:=X.fr ah Ab;refine kX ag ?_;exact ⟨_,_,_,_,_,_,by rw [ab];rfl,X⟩
def Nd.const (t:Nd):Int×Bool:=if t.isExpr=true then t.cval else (0,false)
def Y9 (t:Nd) (hM:t.size<=1000000) (hf:t.wf) (S:nP) (a:oA) (c:Nat) (w:wD) (N:t.sits S w a):Calls prog 204 #[t.val a c] w λe w'=>e = .returned (.tuple #[.int .i64 t.const.1,.bool t.const.2])/\Ext w w':=by
 have h:=FB S t hf;unfold Ec at h;have X:=Ne w;by_cases O:t.isExpr=true
 . have HF:=gO (bX (t.size+1) t Ab hM hf O);have Y:t.const=t.cval:=by rw [Nd.const,AH O]
   rw [Y];rw [O] at h;have Z:=gO h;refine Ad func204 ntmps204 rfl rfl (cS (eB [_,_,_,_] ?_));intro b1 w2 h4 x5 _ _;revert N X;refine eE x5 ?_;intro N X;refine kC (Z.out _ _ _ Ae) ?_;rintro _ w9 ⟨⟨⟩,x8⟩;revert h4 N X;refine eE x8 ?_;intro h4 N X;refine kQ (HF.out _ _ _ _ Ae) ?_;rintro _ ah ⟨ai,aj,ak,al,am,an,⟨⟩,aa⟩;have X:=X.ext aa;refine xA [_,_,_,_,_,_] ?_;intro ao ap ab;refine eI [_,_,_,_,_,_] ab ?_;intro U ac ad _ _;have X:=X.ext ad;refine eK ?_;refine Aq (λwz=>Ext U wz) 5 (.pure 0 (.pure 1 (.pure 2 (.pure 3 (.pure 4 .tail))))) mixed AU (Aa Ag) ?_;intro ae V _;have M:(λwz=>Ext U wz) ae:=V;simp only at M;have G:=ac;have X:=X.ext V;refine ⟨M,(Tq rfl Pf (Tq rfl (Db G) (Tq rfl Pf (Tq rfl (Db G) (Tq rfl Pa (Ar rfl (kT ?_)))))))⟩;all_goals exact ⟨rfl,X⟩
 . have Y:t.const=(0,false):=by rw [Nd.const,At O]
   rw [Y];rw [Bool.not_eq_true] at O;rw [O] at h;have Z:=gO h;refine Ad func204 ntmps204 rfl rfl (cS (eB [_,_,_,_] ?_));intro aq ar au af _ _;revert N X;refine eE af ?_;intro N X;refine kC (Z.out _ _ _ Ae) ?_;rintro _ av ⟨⟨⟩,ag⟩;have X:=X.ext ag;refine kT ?_;exact ⟨rfl,X⟩
def Ji (t:Nd) (G:t.size<=1000000) (M:t.wf) (S:nP) (a:oA) (c:Nat) (w:wD) (h:t.sits S w a):Calls prog 182 #[t.val a c] w λe w'=>e = .returned (.bool t.const.2)/\Ext w w':=by
 have X:=Ne w;refine Ad func182 ntmps182 rfl rfl (cS (eB [_,_,_,_] ?_));intro U V Y N _ _;revert h X;refine eE N ?_;intro h X;refine kC (Y9 _ G M _ _ _ _ Ae) ?_;rintro _ Z ⟨⟨⟩,O⟩;have X:=X.ext O;refine kR ?_;exact ⟨rfl,X⟩
def Nd.idx (t:Nd) (s:lB):Bool:=decide (t.kind=3)&&(match t.kids with
 | []=>false
 | x::_=>x.ment s)
def Ds (places:List Nd) (names:List lB):Option lB:=places.findSome? λt=>names.find? λs=>t.idx s
def Eo (o:Option lB):lB×Int:=match o with
 | some s=>(s,8)
 | none=>([],0)
def Nd.okIdx (t:Nd):Prop:=t.kind=3->t.kids≠[]
def Oe (t:Nd) (G:t.size<=1000000) (hp:t.okIdx) (s:List UInt8) (S:Nat->Prop) (a:Option Addr) (c:Nat) (w:World) (M:t.sits S w a):Calls prog 177 #[t.val a c,str s] w λe w'=>e = .returned (.bool (t.idx s))/\Ext w w':=by
 obtain ⟨k,n,N,l⟩:=t;have X:=Ne w
 by_cases h3:k=3
 . subst h3;have O:l≠[]:=hp rfl
   match l,O,M,G with
   | x::r,_,M,G=>
    have U:=EJ M;obtain ⟨kb,ko,rfl,kS,h⟩:=BG U AK;obtain ⟨xa,xc,V,sx⟩:=h 0 x rfl
    have Y:x.size<=1000000:=by simp only [mg,AV] at G;omega
    have Z:(Nd.mk 3 n N (x::r)).idx s=x.ment s:=by unfold Nd.idx;simp [mz,mL]
    rw [Z]
    show Calls prog 177 #[.agg #[.int .u8 3,.int .i64 n,str N,.slice (some ⟨kb,ko,none⟩) (r.length+1) c],str s] w _
    refine Ad func177 ntmps177 rfl rfl ?_
    refine cS (eB [_,_,_,_] ?_);intro b1 w2 h4 x5 _ _;revert X V sx;refine eE x5 ?_;intro X V sx;refine C1 Pa (cN (C1 Pg (C1 (Pl h4) (C1 V1 (C1 Mv (O5 (C1 Pf (O5 (C1 (Pl h4) (O5 (C1 Pi (O5 (BT [_,_,_,_] Ac rfl rfl rfl V rfl rfl rfl (O5 (C1 Mv (O5 (cC rfl (Mx _ Y _ _ _ _ _ Ae) ?_)))))))))))))))));rintro _ w9 ⟨⟨⟩,x8⟩;replace X:=X.ext x8;refine C1 aN (C1 Pa (cT (AR (AT rfl rfl ?_))))
    exact ⟨rfl,X⟩
 . have Z:(Nd.mk k n N l).idx s=false:=by unfold Nd.idx;simp [mz,h3]
   rw [Z];refine Ad func177 ntmps177 rfl rfl ?_
   refine cS (eB [_,_,_,_] ?_);intro ac ad aa ab _ _;replace X:=X.ext ab;refine C1 Pa (cN (C1 Pg (C1 (Pl aa) (C1 V1 (C1 Mv (So (So (So (So (So (So (C1 Sh (C1 Pa (cT (AR (AT rfl rfl ?_))))))))))))))))
   exact ⟨rfl,X⟩
def Ve {f:α->Bool} {l:List α} (h:j<l.length) (M:(l.take j).find? f=none):(l.take (j+1)).find? f=if f l[j]=true then some l[j] else none:=by
 rw [gS h,lP,M];by_cases G:f l[j]=true
 . simp [G]
 . simp [G]
def Vf {f:α->Bool} {l:List α} {x:α} (h:(l.take j).find? f=some x):l.find? f=some x:=by
 rw [<-iX j l,lP,h];rfl
def SO {β:Type} {f:α->Option β} {l:List α} (h:j<l.length) (G:(l.take j).findSome? f=none):(l.take (j+1)).findSome? f=f l[j]:=by
 rw [gS h,List.findSome?_append,G];simp
def SP {β:Type} {f:α->Option β} {l:List α} {x:β} (h:(l.take j).findSome? f=some x):l.findSome? f=some x:=by
 rw [<-iX j l,List.findSome?_append,h];rfl
def PB (G:List Nd) (M:List lB) (hz:AV G<=1000000) (hp:∀t∈G,t.okIdx) (hn:M.length<=1000) (S:nP) (a:oA) (c Z:Nat) (no nc:Nat) (w:wD) (O:rowSits S w G a) (U:Row w ⟨Z,no,none⟩ (M.map str)) :
 Calls prog 179 #[.slice a G.length c,.slice (some ⟨Z,no,none⟩) M.length nc] w λe w'=>e = .returned (.tuple #[str (Eo (Ds G M)).1,.int .i64 (Eo (Ds G M)).2])/\Ext w w':=by
 have X:=Ne w;have am:=Cz G;have HP:=gO hp;have O:=Ci _ _ O;refine Ad func179 ntmps179 rfl rfl (cS (C1 Pa (C1 Pa (cT (Aj (cS (C1 Mv (C1 Pz (C1 Mv (cT ?_))))))))));refine Au ?_;refine AQ (ι:=Nat) (λi=>[(1,.slice (some ⟨Z,no,none⟩) M.length nc),(10,.slice a G.length c),(11,.int .i64 G.length),(12,.int .i64 i)])
  (λi w'=>i<=G.length/\rowSits (· < w.heap.size) w' G a/\Row w' ⟨Z,no,none⟩ (M.map str)/\Ext w w'/\(G.take i).findSome? (λt=>M.find? λs=>t.idx s)=none)
  (λi=>G.length-i) 0 sB ⟨ii _,O,U,X,rfl⟩ ?_
 rintro i w1 ⟨hi,O,U,X,N⟩;by_cases V:i<G.length
 . obtain ⟨kb,ko,rfl,kS,ab⟩:=BG O (by intro e;subst e;simp at V);obtain ⟨xa,xc,rx,sx⟩:=ab i G[i] (gN V);have an:=CM (ig V);have ae:=HP.out _ (ig V);have Y:=SO V N;have af:∀s,M.find? (λs=>G[i].idx s)=some s->Eo (Ds G M)=(s,8):=λs h=>by rw [Ds,SP (Y.trans h)];rfl
   generalize G[i]=x at *;refine eK ?_;refine xA [_,_,_,_] ?_;intro ac ao ag;refine eI [_,_,_,_] ag ?_;intro ap ah ai _ _;revert U X O sx;refine eE ai ?_;intro U X O sx;refine cN (C1 Mv (C1 Pz (C1 Mv (cT ?_))));refine Au ?_;refine AQ (ι:=Nat) (λj=>[(1,.slice (some ⟨Z,no,none⟩) M.length nc),(10,.slice (some ⟨kb,ko,none⟩) G.length c),(11,.int .i64 G.length),(12,.int .i64 i),(7,pt ac),(16,.slice (some ⟨Z,no,none⟩) M.length nc),(17,.int .i64 M.length),(18,.int .i64 j)])
    (λj w'=>j<=M.length/\Blk w' ac (x.cells xa xc)/\x.sits (· < w.heap.size) w' xa/\rowSits (· < w.heap.size) w' G (some ⟨kb,ko,none⟩)/\Row w' ⟨Z,no,none⟩ (M.map str)/\Ext w w'/\(M.take j).find? (λs=>x.idx s)=none)
    (λj=>M.length-j) 0 sB ⟨ii _,ah,sx,O,U,X,rfl⟩ ?_
   rintro j w2 ⟨hj,hb,sx,O,U,X,N⟩;by_cases aa:j<M.length
   . have r1:Row w2 ⟨Z,no+j*1,none⟩ [str M[j]]:=by
      have:=U.sub j 1;rw [iB (by simpa using aa)] at this;simpa using this
     have ad:=Ve aa N;have aj:x.idx M[j]=true->Eo (Ds G M)=(M[j],8):=λh=>af _ (Vf (ad.trans (AH h)))
     have HI:=gO (Oe x Ab ae M[j]);generalize M[j]=y at *;generalize x.idx y=q at *
     focus
      refine kC (HI.out _ _ _ _ Ae) ?_;rintro _ aq ⟨⟨⟩,ak⟩;revert hb sx O U X;refine eE ak ?_;intro hb sx O U X;refine cT (FR rfl (λal=>?_) (λal=>?_));refine kT ?_;rotate_left;refine Ao (Ah (Ai (Al (C1 V7 (C1 Mv (Ak ?_))))));rotate_left
     . exact ⟨by rw [aj Ae],X⟩
     . exact AA (j+1) sB ⟨Ab,hb,sx,O,U,X,ad.trans (At (by simp [*]))⟩ Ab
   . obtain rfl:j=M.length:=by omega
     rw [im] at N;refine cS (C1 V3 (cT (Aj (Dz (B9 (Az (Az (A0 (Ah (Ai (Al (C1 V7 (C1 Mv (Ak ?_))))))))))))));exact AA (i+1) sB ⟨Ab,O,U,X,Y.trans N⟩ Ab
 . obtain rfl:i=G.length:=by omega
   rw [im] at N;have he:Eo (Ds G M)=([],0):=by rw [Ds,N];rfl
   rw [he];refine kT ?_;exact ⟨rfl,X⟩
def Vg (t x:Nd) (a xa:oA) (c xc h:Nat) (w:wD) (G:Blk w h (x.cells xa xc)):Calls prog 181 #[t.val a c,pt h] w λe w'=>e = .returned (.bool (decide (t.name=x.name)))/\Ext w w':=by
 have X:=Ne w;refine Ad func181 ntmps181 rfl rfl (cS (eB [_,_,_,_] ?_));intro N O U M _ _;revert G X;refine eE M ?_;intro G X;refine kR ?_;exact ⟨rfl,X⟩
def SQ (s:lB) (l:List Nd):Int:=match l.findIdx? (λt=>decide (t.name=s)) with
 | some i=>(i:Int)
 | none=> -1
def PC {f:α->Bool} {l:List α} (h:j<l.length) (M:(l.take j).findIdx? f=none):(l.take (j+1)).findIdx? f=if f l[j]=true then some j else none:=by
 rw [gS h,kV,M];by_cases G:f l[j]=true
 . simp [G,lj];omega
 . simp [G,lj]
def PE {f:α->Bool} {l:List α} {i:Nat} (h:(l.take j).findIdx? f=some i):l.findIdx? f=some i:=by
 rw [<-iX j l,kV,h];rfl
def W0 (l:List Nd) (hl:l.length<=1000000) (x:Nd) (S:nP) (a xa:oA) (c xc O:Nat) (w:wD) (G:rowSits S w l a) (U:Blk w O (x.cells xa xc)) :
 Calls prog 203 #[.slice a l.length c,.func (.func 181) #[] #[pt O]] w λe w'=>e = .returned (.int .i64 (SQ x.name l))/\Ext w w':=by
 have X:=Ne w;have G:=Ci _ _ G;refine Ad func203 ntmps203 rfl rfl (cS (C1 Pa (cT (Aj (cS (C1 Mv (C1 Pz (C1 Mv (cT ?_)))))))));refine Au ?_;refine AQ (ι:=Nat) (λj=>[(0,.slice a l.length c),(1,.func (.func 181) #[] #[pt O]),(6,.slice a l.length c),(7,.int .i64 l.length),(8,.int .i64 j)])
  (λj w'=>j<=l.length/\rowSits (· < w.heap.size) w' l a/\Blk w' O (x.cells xa xc)/\Ext w w'/\(l.take j).findIdx? (λt=>decide (t.name=x.name))=none)
  (λj=>l.length-j) 0 sB ⟨ii _,G,U,X,rfl⟩ ?_
 rintro j w1 ⟨hj,G,U,X,M⟩;by_cases N:j<l.length
 . obtain ⟨kb,ko,rfl,kS,V⟩:=BG G (by intro e;subst e;simp at N);obtain ⟨ya,yc,ry,sy⟩:=V j l[j] (gN N);have Y:=PC N M;have Z:l[j].name=x.name->SQ x.name l=j:=λh=>by
    rw [AH (by simpa using h)] at Y;rw [SQ,PE Y]
   generalize l[j]=y at *
   focus
    refine eK ?_;refine Ax (A8 (fi:=[]) (ca:=[pt O]) AU rfl rfl (Vg _ x _ xa _ xc _ _ Ae) (λ_ _ h=>⟨_,h.1⟩)) rfl ?_ aFh;rintro _ ac ⟨⟨⟩,aa⟩;revert U X G;refine eE aa ?_;intro U X G;refine cT (Ay rfl (λab=>?_) (λab=>?_));refine kR ?_;rotate_left;refine Ao (Ah (Ai (Al (C1 V7 (C1 Mv (Ak ?_))))));rotate_left
   . exact ⟨by rw [Z Ae],X⟩
   . exact AA (j+1) sB ⟨Ab,G,U,X,Y.trans (At (by simpa using Ae))⟩ Ab
 . obtain rfl:j=l.length:=by omega
   rw [im] at M;have he:SQ x.name l = -1:=by rw [SQ,M]
   rw [he];refine kR ?_;exact ⟨rfl,X⟩
def W4 (s:lB) (l:List Nd):decide (0<=SQ s l)=l.any (λt=>decide (t.name=s)):=by
 unfold SQ;cases h:l.findIdx? (λt=>decide (t.name=s)) with
 | none=>
  rw [List.findIdx?_eq_none_iff] at h;have:l.any (λt=>decide (t.name=s))=false:=by rw [List.any_eq_false];intro x G;simpa using h x G
  rw [this];rfl
 | some i=>
  have M:=List.findIdx?_eq_some_iff_getElem.1 h;obtain ⟨N,O,-⟩:=M;have:l.any (λt=>decide (t.name=s))=true:=ke.2 ⟨l[i],ig N,O⟩;rw [this];simp
def QR (l:List Nd) (G:l.length<=1000000) (x:Nd) (S:nP) (a xa:oA) (c xc h:Nat) (w:wD) (N:rowSits S w l a) (O:Blk w h (x.cells xa xc)) :
 Calls prog 180 #[.slice a l.length c,.func (.func 181) #[] #[pt h]] w λe w'=>e = .returned (.bool (l.any λt=>decide (t.name=x.name)))/\Ext w w':=by
 have X:=Ne w;rw [<-W4];refine Ad func180 ntmps180 rfl rfl (kC (W0 l G x _ _ xa _ xc _ _ Ae Ae) ?_);rintro _ U ⟨⟨⟩,M⟩;have X:=X.ext M;refine kR ?_;exact ⟨rfl,X⟩
end Bk
