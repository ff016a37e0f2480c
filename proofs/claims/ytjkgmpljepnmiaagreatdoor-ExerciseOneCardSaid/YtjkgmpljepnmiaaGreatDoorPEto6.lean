/- Texts that the proofs of ExerciseTwice, ExerciseOne need. No condition. (Part 6 of 8.) -/
import Derived.Test.YtjkgmpljepnmiaaGreatDoorPEto5
set_option linter.unusedSimpArgs false
set_option linter.unusedVariables false
set_option linter.defProp false
set_option maxRecDepth 100000
set_option maxHeartbeats 4000000
open Go.Proofs.Tryz
open List renaming length_append->ZZ,getElem?_eq_getElem->Z0,length_cons->Z1,length_nil->Z4,getElem_cons_succ->Z5,set_cons_zero->Z7,getElem_mem->Z8,take_succ_eq_append_getElem->aD,take_length->aH,flatten_cons->aJ,mem_cons->aK,getElem?_eq_none->aN,not_mem_nil->aR,replicate->aT,append_assoc->aW,take_append_drop->aZ,length_take->bB,drop_eq_getElem_cons->bD,getElem?_append_left->bG,take_succ_cons->bQ,all_eq_true->bR,getElem?_append_right->bS,getD_eq_getElem?_getD->bT,cons_append->bU,mem_singleton->bW,map_cons->bZ
open Go.Lib renaming hid->Z2,indexByte->bA
open Bool renaming and_eq_true->Z3,false_eq_true->bL
open Or renaming inl->Z6,inr->aA
open Option.some renaming injEq->Z9,inj->aI
open Go.Result renaming andThen->aB,andThen_ok->bN
open Nat renaming le_refl->aC,zero_le->aE,blt->aG,lt_or_ge->aL,le_of_ble_eq_true->aU,le_trans->bE,eq_of_beq_eq_true->bF,ble->bK,beq->bM
open Go.Sem renaming run_bind->aF,run_pure->aO
open Go renaming Calls->aM
open Go.Region renaming ready->aP,binds->bO
open Go.IntWalk renaming i64_in->aQ
open Go.Value.slice renaming injEq->aS
open Go.DataW renaming trod->aV
open List.cons renaming injEq->aX
open Array renaming getElem?_eq_none->aY
open Prod.mk renaming injEq->bC
open Go.Value renaming ownBlock->bH,slice->bI
open Go.Addr renaming add->bJ
open Go.Addr.mk renaming injEq->bX
open Bk.Ext renaming refl->cB,alloc->cD,trans->cF,drew->cY
open Bk.Nd renaming size->cE,kind->cO,sits->cP,kids->cV,text->cW,name->cX,num->dB,val->dC
open Bk.Blk renaming row->cQ
namespace Bk
open Go Go.RowKit Go.Proofs
attribute [local irreducible] Go.Calls
structure Errs2 (w:wD):Prop where
 r:Errs w
 s : ∃te pe,w.cell? ⟨3,0,none⟩=some (.iface te pe)
 m : ∃m,w.cell? ⟨0,0,none⟩=some (.int .i64 m)
def Errs2.ext {w w':wD} (h:Errs2 w) (x:Ext w w'):Errs2 w':=by
 obtain ⟨r,⟨f,E,h1⟩,m,F⟩:=h;exact ⟨r.ext x,⟨f,E,x.keep h1⟩,m,x.keep F⟩
def Errs2.fr {S:nP} {w w':wD} (h:Errs2 w) (x:Fr S w w') (f : ∀k,S k->prog.globals.size<=k):Errs2 w':=by
 obtain ⟨r,⟨E,F,h1⟩,m,L⟩:=h;have g1:3<prog.globals.size:=of_decide_eq_true Bo;have M:0<prog.globals.size:=of_decide_eq_true Bo;have g3:4<prog.globals.size:=of_decide_eq_true Bo;exact ⟨r.fr x (fun h=>by have:=f _ h;omega),⟨E,F,x.keep (fun h=>by have:=f _ h;omega) h1⟩,m,x.keep (fun h=>by have:=f _ h;omega) L⟩
def D0 (s:lB):Int×Bool:=match Lib.atoiAll s with
 | .ok v=>if (0<=v/\v<=1000000000)/\Lib.itoa v=s then (v,true) else (0,false)
 | _=>(0,false)
def Zc (s:lB) (w:wD):Ending->wD->Prop:=fun e w'=>(∃v,Lib.atoiAll s = .ok v/\e = .returned (.tuple #[.int .i64 v,.nilIface])\/(∀v,Lib.atoiAll s≠.ok v) /\ ∃te pe,e = .returned (.tuple #[.int .i64 v,.iface te pe]))/\Ext w w'
def PX (s:lB) (V:s.length<=1000000) (w:wD) (h:Errs2 w):Calls prog 156 #[str s] w (Zc s w):=by
 obtain ⟨O,⟨L,M,h1⟩,-⟩:=h;obtain ⟨f,E,U⟩:=O.ex;rcases ha:Lib.atoiAll s with v | - | -
 . refine (Tryz.strconv_Atoi_ok ⟨s.toArray⟩ (by rw [EQ];omega) v (by simpa using ha) w).mono ?_;rintro e w' ⟨rfl,rfl|⟨t,rfl⟩⟩
   . exact ⟨⟨v,Z6 ⟨ha,rfl⟩⟩,cB _⟩
   . exact ⟨⟨v,Z6 ⟨ha,rfl⟩⟩,Ext.bytes _ _ _⟩
 . refine (Any.strconv_Atoi_syntax Tryz.laysC172 ⟨s.toArray⟩ (by rw [EQ];omega) (by simpa using ha) (.iface L M) w h1 (aA ⟨L,M,rfl⟩)).mono ?_;rintro e w' ⟨N,rfl,-,-,F⟩;exact ⟨⟨_,aA ⟨fun v h=>(by rw [ha] at h;cases h),_,_,rfl⟩⟩,F⟩
 . refine (Tryz.strconv_Atoi_range ⟨s.toArray⟩ (by rw [EQ];omega) (by simpa using ha) (.iface f E) w U (aA ⟨f,E,rfl⟩)).mono ?_;rintro e w' ⟨N,rfl,-,-,F⟩;exact ⟨⟨_,aA ⟨fun v h=>(by rw [ha] at h;cases h),_,_,rfl⟩⟩,F⟩
def Rg (s:List UInt8) (hs:s.length<=1000000) (w:World) (E:Errs2 w) (F:TabsF w) :
 Calls prog 111 #[str s] w fun r w'=>r = .returned (.tuple #[.int .i64 (D0 s).1,.bool (D0 s).2])/\Ext w w':=by
 have X:=cB w
 by_cases ho : ∃v,Lib.atoiAll s = .ok v
 . obtain ⟨v,V⟩:=ho;have hb:=Lib.atoiAll_bounds V
   have Y:Hid (∀f,Errs2 f->Calls prog 156 #[str s] f fun e w'=>e = .returned (.tuple #[.int .i64 v,.nilIface])/\Ext f w'):=Z2 fun f h=>(PX s hs f h).mono fun e w' ⟨⟨v',h1⟩,U⟩=>by
    rcases h1 with ⟨h1,h3⟩|⟨h1,-⟩
    . rw [V] at h1
      injection h1 with h1
      subst h1
      exact ⟨h3,U⟩
    . exact absurd V (h1 v)
   have e:D0 s=if (0<=v/\v<=1000000000)/\Lib.itoa v=s then (v,true) else (0,false):=by unfold D0;rw [V]
   rw [e];have HI:=Z2 (fun f h=>Sg v f h hb.1 hb.2);clear V e
   by_cases h1:0<=v/\v<=1000000000
   . obtain ⟨o1,o2⟩:=h1
     by_cases U:Lib.itoa v=s
     . rw [AX ⟨⟨o1,o2⟩,U⟩];rw [U] at HI;clear U;refine Ad func111 ntmps111 rfl rfl ?_
       refine cS (C1 Pa (C1 Pa (cN (C1 Mv ?_))));refine cC rfl (Y.out _ Ag) ?_;rintro _ w2 ⟨⟨⟩,Z⟩;have z3:=Z.size;replace E:=E.ext Z;replace F:=F.ext Z;replace X:=X.ext Z;clear Z;refine C1 Mv (C1 Px (C1 Px (C1 Pa (C1 Pa (cT (Ah (cS (C1 Mv (C1 (F4 Ac rfl rfl) (C1 Mv (Ba rfl rfl rfl (rfl) ?_)))))))))));refine C1 Mv (Ba rfl rfl rfl (rfl) (C1 V3 (C1 (BS rfl rfl rfl) (C1 Mv (GZ (C1 Mv (GZ (C1 V5 (C1 Mb (C1 Mv (GZ ?_)))))))))));refine C1 Mv (GZ ?_);refine cC rfl (HI.out _ Ag) ?_;rintro _ w5 ⟨⟨⟩,x4⟩;have z6:=x4.size;replace E:=E.ext x4;replace F:=F.ext x4;replace X:=X.ext x4;clear x4;refine GZ (C1 Mv (GZ (C1 V9 (C1 Mb (cT (D2 rfl (not_not_intro rfl) (Am (Ae (cS (C1 Mv (C1 Pa ?_)))))))))));refine C1 Pa (cT (AY (B6 rfl rfl rfl ?_)))
       exact ⟨rfl,X⟩
     . rw [AC (fun h=>U h.2)]
       generalize Lib.itoa v=t at *
       refine Ad func111 ntmps111 rfl rfl ?_
       refine cS (C1 Pa (C1 Pa (cN (C1 Mv ?_))));refine cC rfl (Y.out _ Ag) ?_;rintro _ ad ⟨⟨⟩,L⟩;have ae:=L.size;replace E:=E.ext L;replace F:=F.ext L;replace X:=X.ext L;clear L;refine C1 Mv (C1 Px (C1 Px (C1 Pa (C1 Pa (cT (Ah (cS (C1 Mv (C1 (F4 Ac rfl rfl) (C1 Mv (Ba rfl rfl rfl (rfl) ?_)))))))))));refine C1 Mv (Ba rfl rfl rfl (rfl) (C1 V3 (C1 (BS rfl rfl rfl) (C1 Mv (GZ (C1 Mv (GZ (C1 V5 (C1 Mb (C1 Mv (GZ ?_)))))))))));refine C1 Mv (GZ ?_);refine cC rfl (HI.out _ Ag) ?_;rintro _ af ⟨⟨⟩,M⟩;have ag:=M.size;replace E:=E.ext M;replace F:=F.ext M;replace X:=X.ext M;clear M;refine GZ (C1 Mv (GZ (C1 V9 (C1 Mb (cT (KY (cS (C1 Pa (C1 Pa (cT (AY ?_)))))))))));refine Ar (B6 rfl rfl rfl ?_)
       exact ⟨rfl,X⟩
   . rw [AC (fun h=>h1 h.1)];refine Ad func111 ntmps111 rfl rfl ?_
     focus
      refine cS (C1 Pa (C1 Pa (cN (C1 Mv ?_))));refine cC rfl (Y.out _ Ag) ?_;rintro _ ah ⟨⟨⟩,N⟩;have ai:=N.size;replace E:=E.ext N;replace F:=F.ext N;replace X:=X.ext N;clear N;refine C1 Mv (C1 Px (C1 Px (C1 Pa (C1 Pa (cT (Ah (cS (C1 Mv (C1 (F4 Ac rfl rfl) (C1 Mv (Ba rfl rfl rfl (rfl) ?_)))))))))));refine C1 Mv (Ba rfl rfl rfl (rfl) (C1 V3 (C1 (BS rfl rfl rfl) (C1 Mv ?_))));refine Dw rfl rfl rfl (fun aa=>?_) (fun aa=>?_);refine Qx (Qx (C1 T9 (C1 Mv (A0 rfl rfl rfl (rfl) rfl (A0 rfl rfl rfl (rfl) rfl (A0 rfl rfl rfl (rfl) rfl (A0 rfl rfl rfl (rfl) rfl (C1 (BA rfl rfl rfl) (cT (BY rfl (cS ?_)))))))))));refine C1 Pa (C1 Pa (cT (AY (Ar (B6 rfl rfl rfl ?_)))));rotate_left;refine Wf (C1 Mv (Wf (C1 V5 (C1 Ua (C1 Mv (Wg (Wg (Wg (Wg (C1 RL (cT ?_)))))))))));refine BY rfl (cS (C1 Pa (C1 Pa (cT (AY (Ar (B6 rfl rfl rfl ?_)))))));rotate_left
     all_goals first|exact ⟨rfl,X⟩|exact absurd Aa h1
 . have e:D0 s=(0,false):=by
    unfold D0
    rcases ha:Lib.atoiAll s with v | - | -
    . exact absurd ⟨v,ha⟩ ho
    . rfl
    . rfl
   rw [e]
   have Y:Hid (∀f,Errs2 f->Calls prog 156 #[str s] f fun e w'=> ∃v te pe,e = .returned (.tuple #[.int .i64 v,.iface te pe])/\Ext f w'):=Z2 fun f h=>(PX s hs f h).mono fun e w' ⟨⟨v',h1⟩,U⟩=>by
    rcases h1 with ⟨h1,h3⟩|⟨-,te,pe,h1⟩
    . exact absurd ⟨v',h1⟩ ho
    . exact ⟨v',te,pe,h1,U⟩
   clear e ho;refine Ad func111 ntmps111 rfl rfl ?_
   refine cS (C1 Pa (C1 Pa (cN (C1 Mv ?_))));refine Ax (Bg Bo rfl (Y.out _ Ag) (fun _ _ ⟨_,_,_,h⟩=>⟨_,h.1⟩)) rfl ?_ aFh;rintro _ aj ⟨ak,⟨ab,⟨ac,⟨⟨⟩,O⟩⟩⟩⟩;have al:=O.size;replace E:=E.ext O;replace F:=F.ext O;replace X:=X.ext O;clear O;refine C1 Mv (C1 Px (C1 Px (C1 Pa (C1 Pa (cT (Ah (cS (C1 Mv (C1 (Ow Ac rfl rfl) (C1 Mv (A0 rfl rfl rfl (rfl) rfl ?_)))))))))));refine A0 rfl rfl rfl (rfl) rfl (C1 (BA rfl rfl rfl) (C1 Mv (A0 rfl rfl rfl (rfl) rfl (A0 rfl rfl rfl (rfl) rfl (C1 (BA rfl rfl rfl) (C1 Mv (A0 rfl rfl rfl (rfl) rfl (A0 rfl rfl rfl (rfl) rfl (A0 rfl rfl rfl (rfl) rfl (A0 rfl rfl rfl (rfl) rfl (C1 (BA rfl rfl rfl) ?_)))))))))));refine cT (BY rfl (cS (C1 Pa (C1 Pa (cT (AY (Ar (B6 rfl rfl rfl ?_))))))))
   exact ⟨rfl,X⟩
def Hn (s:lB):Nat->Option Nat
 | 0=>some 0
 | n+1=>(Hn s n).bind fun e=>if bA (s.drop e) 10<0 then none else some (e+(bA (s.drop e) 10).toNat+1)
def Dc (s:lB) (n:Nat):lB×lB×Bool:=match Hn s n with
 | none=>([],[],false)
 | some e=>(s.take e,s.drop e,true)
def Vd {s:lB} (h : ¬bA s 10<0):(bA s 10).toNat<s.length:=by
 obtain ⟨o,f⟩:=Int.eq_ofNat_of_zero_le (show 0<=bA s 10 by omega);have:=(Lib.indexByte_some f).1;rw [f];exact (List.getElem?_eq_some_iff.1 this).1
def Oc {s:lB} : ∀ {n e:Nat},Hn s n=some e->e<=s.length
 | 0,e,h=>by simp [Hn] at h;omega
 | n+1,e,h=>by
  simp only [Hn,Option.bind_eq_some_iff] at h;obtain ⟨F,h1,f⟩:=h;have L:=Oc h1;split at f
  . cases f
  . rename_i E;have:=Vd E;rw [List.length_drop] at this;simp only [Z9] at f;omega
def Ty {s:lB} {n m:Nat} (h:Hn s n=none) (E:n<=m):Hn s m=none:=by
 induction m with
 | zero=>
  have:n=0:=by omega
  subst this;exact h
 | succ m f=>
  rcases aL m n with h1|h1
  . have:n=m+1:=by omega
    subst this;exact h
  . simp only [Hn,f h1,Option.bind_none]
def Ko (s:lB) (w:wD):Calls prog 112 #[str s,.int .u8 10] w fun e w'=>e = .returned (.int .i64 (bA s 10))/\w'=w:=
 (Tryz.strings_IndexByte ⟨s.toArray⟩ 10 w).mono fun e w' ⟨h1,h2⟩=>⟨h1,h2⟩
def JR (s:lB) (w:wD):Calls prog 33 #[str s,str [10]] w fun e w'=>e = .returned (.int .i64 (Lib.countByte s 10:Nat))/\w'=w:=
 (Tryz.strings_Count_one ⟨s.toArray⟩ 10 w).mono fun e w' ⟨h1,h2⟩=>⟨h1,h2⟩
def YC (s:lB) (hs:s.length<=1000000) (n:Nat) (hn:n<=1000000000) (w:wD) :
 Calls prog 71 #[str s,.int .i64 n] w fun r w'=>r = .returned (.tuple #[str (Dc s n).1,str (Dc s n).2.1,.bool (Dc s n).2.2])/\Ext w w':=by
 have X:=cB w;have HI:=Z2 (fun s f=>Ko s f);refine Ad func71 ntmps71 rfl rfl ?_;refine cS (C1 Pa (C1 Pa (C1 Pa (cN (C1 Pa (cT (Ah (cS (C1 Mv (C1 Mv (cT ?_)))))))))));refine At ?_;refine AK (ι:=Nat×Nat) (fun x=>[(0,str s),(4,.string ⟨#[]⟩),(5,.string ⟨#[]⟩),(6,.bool false),(7,.int .i64 x.2),(9,.int .i64 n),(10,.int .i64 x.1)])
  (fun x w'=>x.1<=n/\Hn s x.1=some x.2/\Ext w w') (fun x=>n-x.1) (0,0) sB ⟨aE _,rfl,X⟩ ?_
 clear X;rintro ⟨j,e⟩ f ⟨hj,M,X⟩;simp only at hj M;have aa:=Oc M;refine CW.sub (m:=[(0,str s),(4,.string ⟨#[]⟩),(5,.string ⟨#[]⟩),(6,.bool false),(7,.int .i64 e),(9,.int .i64 n),(10,.int .i64 j)]) ?_ sB;by_cases O:j<n
 . by_cases N:bA (s.drop e) 10<0
   . have U:Dc s n=([],[],false):=by
      have:Hn s (j+1)=none:=by simp only [Hn,M,Option.bind_some,AX N]
      unfold Dc;rw [Ty this O]
     rw [U];refine eK ?_;refine C1 (Fq Ac rfl rfl rfl Aa) (cC rfl (HI.out _ _) ?_);rintro _ ab ⟨⟨⟩,rfl⟩;refine eK ?_;refine ER rfl rfl rfl rfl ?_;exact ⟨rfl,X⟩
   . have E:=Vd N;rw [List.length_drop] at E;have F:Hn s (j+1)=some (e+(bA (s.drop e) 10).toNat+1):=by simp only [Hn,M,Option.bind_some,AC N]
     obtain ⟨o,V⟩:=Int.eq_ofNat_of_zero_le (show 0<=bA (s.drop e) 10 by omega);have HJ:Hid (∀f,Calls prog 112 #[str (s.drop e),.int .u8 10] f fun r w'=>r = .returned (.int .i64 (o:Int))/\w'=f):=Z2 fun f=>by rw [<-V];exact Ko _ f
     rw [V] at F E;simp only [Int.toNat_natCast] at F E;clear HI N V;refine eK ?_;refine C1 (Fq Ac rfl rfl rfl Aa) (cC rfl (HJ.out _) ?_);rintro _ ac ⟨⟨⟩,rfl⟩;refine C1 Pa (cT (Ah (cS (C1 Mv (C1 V3 (cT (F5 (Am (Ae (Aj (C1 Mv ?_)))))))))));refine C1 Mv (C1 V7 (C1 V7 (C1 Pa (Ai (Af (Ae (Aj (C1 V7 (C1 Mv (Ai ?_))))))))));exact Ay (j+1,e+o+1) sB ⟨by (try dsimp only);omega,F,X⟩ (by (try dsimp only);omega)
 . obtain rfl:j=n:=by omega
   have U:Dc s j=(s.take e,s.drop e,true):=by unfold Dc;rw [M]
   rw [U];refine eK ?_;refine AD (fun Y=>Ext f Y) 7 (.pure 0 (.pure 1 (.pure 2 (.pure 3 (.pure 4 (.pure 5 (.pure 6 .tail))))))) mixed Bo (Ab An) ?_;intro Z L _;have h:(fun Y=>Ext f Y) Z:=L;simp only at h;have ad:=L.size;have X:=X.ext L;refine ⟨h,?_⟩;refine Tq rfl Mv (Tq rfl Mv (Tq rfl (My Ac rfl rfl rfl Aa Aa) (Tq rfl Mv (Tq rfl Mv (Tq rfl (Fq Ac rfl rfl rfl Aa) (Tq rfl Pa ?_))))));refine AE rfl ?_;refine eK ?_;refine ER rfl rfl rfl rfl ?_;exact ⟨by simp only [Int.toNat_natCast],X⟩
def Bh (k:Int):lB:=
 if k=44 then [112,117,115,104,32] else if k=45 then [112,111,112,32] else if k=46 then [114,101,97,100,32] else if k=47 then [117,110,114,101,97,100,32] else if k=48 then [119,114,105,116,101,32] else if k=49 then [117,110,119,114,105,116,101,32]
 else if k=50 then [99,97,108,108,32] else if k=51 then [117,110,99,97,108,108,32] else if k=52 then [105,102,32] else if k=53 then [102,114,111,109,32] else if k=54 then [108,111,99,97,108,32] else if k=55 then [108,111,99,97,108,32,115,116,97,99,107,32] else []
def C4 (k:Int):lB:=if k=56 then [58,61] else if k=43 then [60,61,62] else CZ k
def Dq (d:Nat):lB:=aT d 9
def C2:Bool->List Nd->lB
 | _,[]=>[]
 | first,t::r=>(if first then [] else [44,32])++t.text++C2 false r
mutual
def Nd.stmtT:Nd->Nat->lB
 | .mk k _ s l,d=>
  if k=40\/k=41\/k=42\/k=56\/k=43 then match l with|[x,y]=>x.text++[32]++C4 k++[32]++y.text|_=>[]
  else if k=44\/k=45 then match l with|[x]=>Bh k++x.text++[44,32]++s|_=>[]
  else if 46<=k/\k<=49 then match l with|[x]=>Bh k++x.text|_=>[]
  else if k=50\/k=51 then Bh k++s++[40]++C2 true l++[41]
  else if k=52 then match l with|[x,y,z,u]=>Bh k++x.text++([32,123,10]++y.linesT (d+1)++Dq d++[125])++[32,101,108,115,101]++([32,123,10]++z.linesT (d+1)++Dq d++[125])++[32,102,105,32]++u.text|_=>[]
  else if k=53 then match l with|[x,y,z,u]=>Bh k++x.text++([32,123,10]++y.linesT (d+1)++Dq d++[125])++[32,108,111,111,112]++([32,123,10]++z.linesT (d+1)++Dq d++[125])++[32,117,110,116,105,108,32]++u.text|_=>[]
  else if k=54 then match l with|[x,y,z]=>Bh k++s++[32,61,32]++x.text++([32,123,10]++y.linesT (d+1)++Dq d++[125])++[32,100,101,108,111,99,97,108,32]++z.text|_=>[]
  else if k=55 then match l with|[x]=>Bh k++s++([32,123,10]++x.linesT (d+1)++Dq d++[125])|_=>[]
  else []
def Nd.linesT:Nd->Nat->lB
 | .mk _ _ _ l,d=>Cg l d
def Cg:List Nd->Nat->lB
 | [],_=>[]
 | t::r,d=>Dq d++t.stmtT d++[59,10]++Cg r d
end
def B3 (t:Nd) (d:Nat):lB:=[32,123,10]++t.linesT (d+1)++Dq d++[125]
end Bk
namespace Bk
open Go Go.RowKit Go.Proofs
structure BT (T:TypeId):Prop where
 lies:liesAt prog prog.depth T (2/prog.cellsOf T) 0 69 1=true
 ne:T≠5
def X6:(prog.info? 69).map (·.size)=some 2:=by kernel_rfl
def infoByte:(prog.info? 5).map (fun i=>(i.zero,i.size,i.bytes))=some (some (.int .u8 0),1,1):=by kernel_rfl
def Ve:prog.underlying 66=some (.pointer 69):=by kernel_rfl
def Sh:prog.underlying 170=some .unsafePointer:=by kernel_rfl
def Vf:prog.underlying 67=some (.slice 5):=by kernel_rfl
def KA (T:TypeId) (hT:BT T) (b:Nat) (w:wD) (h0:w.cell? ⟨b,0,none⟩=some (.pointer none)) (hsh:w.shape? b=some (T,2)) (hfz:w.frozen? ⟨b,0,none⟩=false) :
 Calls prog 60 #[.pointer (some ⟨b,0,none⟩)] w fun e w'=>e = .returned (.tuple #[])/\w'=w.setCell ⟨b,0,none⟩ (.pointer (some ⟨b,0,none⟩)):=by
 obtain ⟨j,hj,hjs⟩:=Option.map_eq_some_iff.1 X6
 go_enter func60,ntmps60
 go_wp2
 rw [Lib.run_to_unsafe w ⟨b,0,none⟩ Ve Sh hj (by rw [hjs];decide) hsh (Nat.zero_lt_succ 1)];simp only [aB];rw [Oper.upon_value]
 go_wp2
 rw [run_callFunc_extern func103 (by kernel_rfl) (by kernel_rfl) (by kernel_rfl) (e:=Extern.AbiNoEscape.same) (by kernel_rfl)];rw [Lib.run_noEscape];simp only [aB];rw [Oper.upon_value]
 go_wp2
 rw [Lib.run_from_unsafe w ⟨b,0,none⟩ Sh Ve hj hsh hT.lies];simp only [aB];rw [Oper.upon_value]
 go_wp2
 go_end0
 exact ⟨rfl,rfl⟩
def LR (b:Nat) (w:wD) (h0:w.cell? ⟨b,0,none⟩=some (.pointer (some ⟨b,0,none⟩))) :
 Calls prog 60 #[.pointer (some ⟨b,0,none⟩)] w fun e w'=>e = .returned (.tuple #[])/\w'=w:=by
 obtain ⟨j,hj,hjs⟩:=Option.map_eq_some_iff.1 X6
 go_enter func60,ntmps60
 go_wp2
 rw [Lib.run_neq_ptr_same w _ Ve hj]
 go_wp2
 go_end0
 exact ⟨rfl,rfl⟩
structure Fb (B b:Nat) (w w':wD):Prop where
 below:Below B w w'
 kept:Lib.OthersKept 5 (some b) w w'
def Fb.refl (B b:Nat) (w:wD):Fb B b w w:=⟨Below.refl _ _,Lib.OthersKept.refl _ _ _⟩
def Fb.trans {B b:Nat} {u v w:wD} (h:Fb B b u v) (k:Fb B b v w):Fb B b u w:=⟨h.below.trans k.below,h.kept.trans k.kept⟩
def Kq (T:TypeId) (E:BT T) (B b:Nat) (f:lV) (w:wD) (h:Lib.IsBuilderF T 5 B b f w) :
 Calls prog 60 #[.pointer (some ⟨b,0,none⟩)] w fun e w'=>e = .returned (.tuple #[])/\(Lib.BuilderAtF T 5 B b (.pointer (some ⟨b,0,none⟩)) f w'/\Fb B b w w'):=by
 rcases h with h|h
 . refine (KA T E b w h.cell0 h.shape h.frozen0).mono ?_;rintro e w' ⟨rfl,rfl⟩;exact ⟨rfl,h.used _,(Below.refl B w).setCell (p:=⟨b,0,none⟩) h.1 _,(Lib.OthersKept.refl _ _ w).setCell ⟨b,0,none⟩ rfl _⟩
 . refine (LR b w h.cell0).mono ?_;rintro e w' ⟨rfl,rfl⟩;exact ⟨rfl,h,Below.refl B _,Lib.OthersKept.refl _ _ _⟩
def PY (T:TypeId) (hT:BT T) (B b:Nat) (bs:lV) (c:Int) (w:wD) (h:Lib.IsBuilderF T 5 B b bs w) (hlen:bs.length+1<=140737488355328) (hBw:B<=w.heap.size) :
 Calls prog 147 #[.pointer (some ⟨b,0,none⟩),.int .u8 c] w fun e w'=>e = .returned .nilIface/\(Lib.IsBuilderF T 5 B b (bs++[.int .u8 c]) w'/\Fb B b w w'):=by
 obtain ⟨i0,hi,hz0,hz1,hz2⟩:=info_parts infoByte
 go_enter func147,ntmps147
 go_wp2_with (go_at_call 60;refine (Kq T hT B b bs _ h).mono ?_)
 rintro e w1 ⟨rfl,h1,hb1,hk1⟩;obtain ⟨hB,v,hbk,hown,hne⟩:=h1
 have c0:w1.cell? ⟨b,0,none⟩=some (.pointer (some ⟨b,0,none⟩)):=by rw [Lib.cell_of_heap hbk];rfl
 have c1:w1.cell? ⟨b,1,none⟩=some v:=by rw [Lib.cell_of_heap hbk];rfl
 go_wp2_with (at_builtin;refine wpList_append_ownF _ rfl _ _ 67 rfl B 5 i0 (.int .u8 0) 1 1 Vf hi hz0 hz1 hz2 rfl (by decide) _ _ _ rfl (hown.alloc _) ⟨w1.heap.size,0,none⟩ 1 1 [.int .u8 c] rfl rfl ?c1 ?c2 ?c3 ?c4 ?c5 ?_)
 case c1=>
  intro j u hj
  match j,hj with
  | 0,hj=>simp at hj;subst hj;simp [bJ]
 case c2=>intro u hu;simp at hu;subst hu;rfl
 case c3=>unfold maxLen;omega
 case c4=>omega
 case c5=>have:=hb1.size;simp;omega
 intro v' w2 hown' hgrow _
 have hlt:b<w1.heap.size:=by
  rcases aL b w1.heap.size with h'|h'
  . exact h'
  . simp [aY h'] at hbk
 have hb2:w2.heap[b]? = some (.cells #[.pointer (some ⟨b,0,none⟩),v] T (0,0)):=by
  rw [hgrow.block b (by simp;omega) (fun e=>hne e.symm),Lib.alloc_old w1 _ b hlt]
  exact hbk
 have d0:w2.cell? ⟨b,0,none⟩=some (.pointer (some ⟨b,0,none⟩)):=by rw [Lib.cell_of_heap hb2];rfl
 have d1:w2.cell? ⟨b,1,none⟩=some v:=by rw [Lib.cell_of_heap hb2];rfl
 have f1:w2.frozen? ⟨b,1,none⟩=false:=Lib.frozen_of_heap hb2 1
 obtain ⟨g,cap,rfl⟩ : ∃g cap,v' = .slice (some ⟨g,0,none⟩) (bs.length+1) cap:=by
  rcases hown'.2 with ⟨_,h0⟩|⟨g,cap,cur,fz,hv,_⟩
  . omega
  . exact ⟨g,cap,hv⟩
 go_wp2
 go_ret
 refine ⟨rfl,.inr ?_,?_,((hk1.alloc _).grown hgrow (Lib.ownsRowF_kind (hown.alloc _))).setCell ⟨b,1,none⟩ rfl _⟩
 . exact Lib.BuilderAtF.put (T:=T) (e:=5) hB hb2 (bs':=bs++[.int .u8 c]) (by simpa using hown') hT.ne
 . exact ((hb1.alloc (by have:=hb1.size;omega) _).grown hgrow (by have:=hb1.size;simp;omega) (fun k hk=>(hown.lt k hk).1)).setCell (p:=⟨b,1,none⟩) hB _
def Is (T:TypeId) (hT:BT T) (B b:Nat) (bs:lV) (s:ByteArray) (w:wD) (h:Lib.IsBuilderF T 5 B b bs w) (hlen:bs.length+s.size<=140737488355328) (hBw:B<=w.heap.size) :
 Calls prog 31 #[.pointer (some ⟨b,0,none⟩),.string s] w fun e w'=>e = .returned (.tuple #[.int .i64 s.size,.nilIface])/\(Lib.IsBuilderF T 5 B b (bs++Lib.strCells s) w'/\Fb B b w w'):=by
 obtain ⟨i0,hi,hz0,hz1,hz2⟩:=info_parts infoByte
 go_enter func31,ntmps31
 go_wp2_with (go_at_call 60;refine (Kq T hT B b bs _ h).mono ?_)
 rintro e w1 ⟨rfl,h1,hb1,hk1⟩;obtain ⟨hB,v,hbk,hown,hne⟩:=h1
 have c0:w1.cell? ⟨b,0,none⟩=some (.pointer (some ⟨b,0,none⟩)):=by rw [Lib.cell_of_heap hbk];rfl
 have c1:w1.cell? ⟨b,1,none⟩=some v:=by rw [Lib.cell_of_heap hbk];rfl
 go_wp2_with (at_builtin;refine Lib.wpList_append_own_stringF _ rfl _ _ 67 9 rfl B 5 i0 Vf Ew hi hz0 hz1 hz2 _ _ _ rfl hown s rfl ?c3 ?c4 ?c5 ?_)
 case c3=>unfold maxLen;omega
 case c4=>omega
 case c5=>have:=hb1.size;omega
 intro v' w2 hown' hgrow _
 have hlt:b<w1.heap.size:=by
  rcases aL b w1.heap.size with h'|h'
  . exact h'
  . simp [aY h'] at hbk
 have hb2:w2.heap[b]? = some (.cells #[.pointer (some ⟨b,0,none⟩),v] T (0,0)):=by
  rw [hgrow.block b hlt (fun e=>hne e.symm)]
  exact hbk
 have d0:w2.cell? ⟨b,0,none⟩=some (.pointer (some ⟨b,0,none⟩)):=by rw [Lib.cell_of_heap hb2];rfl
 have d1:w2.cell? ⟨b,1,none⟩=some v:=by rw [Lib.cell_of_heap hb2];rfl
 have f1:w2.frozen? ⟨b,1,none⟩=false:=Lib.frozen_of_heap hb2 1
 obtain ⟨ao,n',cap,rfl⟩ : ∃ao n' cap,v' = .slice ao n' cap:=by
  rcases hown'.2 with ⟨hv,_⟩|⟨g,cap,cur,fz,hv,_⟩
  . exact ⟨_,_,_,hv⟩
  . exact ⟨_,_,_,hv⟩
 go_wp2
 go_ret2
 refine ⟨rfl,.inr ?_,?_,(hk1.grown hgrow (Lib.ownsRowF_kind hown)).setCell ⟨b,1,none⟩ rfl _⟩
 . exact Lib.BuilderAtF.put (T:=T) (e:=5) hB hb2 (bs':=bs++Lib.strCells s) (by simpa [Lib.strCells_length] using hown') hT.ne
 . exact (hb1.grown hgrow (by have:=hb1.size;omega) (fun k hk=>(hown.lt k hk).1)).setCell (p:=⟨b,1,none⟩) hB _
def PZ:prog.underlying 128=some (.pointer 5):=by kernel_rfl
def cellsByte:prog.cellsOf 5=1:=by kernel_rfl
def Ec (W:wD) (q:oA):(Builtin.unsafeString_ #[128,3] 9 #[.pointer q,.int .i64 0]).run prog W = .ok (.string .empty) W:=
 Lib.run_unsafeString_none W _ _ _ q
def P0 (T:TypeId) (B b:Nat) (l:lB) (w:wD) (h:Lib.IsBuilderF T 5 B b (Lib.byteCells l) w) (h0:l≠[]) :
 Calls prog 35 #[.pointer (some ⟨b,0,none⟩)] w fun e w'=>e = .returned (.string ⟨l.toArray⟩)/\(Lib.IsBuilderF T 5 B b (Lib.byteCells l) w'/\Fb B b w w'):=by
 obtain ⟨p,hp,hAt⟩ : ∃p,(p = .pointer none\/p = .pointer (some ⟨b,0,none⟩))/\Lib.BuilderAtF T 5 B b p (Lib.byteCells l) w:=by
  rcases h with h|h
  . exact ⟨_,.inl rfl,h⟩
  . exact ⟨_,.inr rfl,h⟩
 obtain ⟨hB,v,hbk,hown,hne⟩:=hAt
 have hl0:l.length≠0:=by simpa using h0
 rw [Lib.byteCells_length] at hown
 obtain ⟨g,cap,cur,fz,rfl,hbg,hg,hfz,hnc,hcm,hcs,htake⟩ : ∃g cap cur fz,v = .slice (some ⟨g,0,none⟩) l.length cap/\B<=g/\w.heap[g]? = some (.cells cur 5 fz)/\fz.2<=l.length*1/\l.length<=cap/\cap<=maxLen/\cur.size=cap*1/\cur.toList.take (l.length*1)=Lib.byteCells l:=by
  rcases hown.2 with ⟨_,hz⟩|⟨g,cap,cur,fz,hv,r⟩
  . exact absurd hz hl0
  . exact ⟨g,cap,cur,fz,hv,r⟩
 have c1:w.drew.cell? ⟨b,1,none⟩=some (.slice (some ⟨g,0,none⟩) l.length cap):=by
  have:w.drew.heap[b]? = some (.cells #[p,.slice (some ⟨g,0,none⟩) l.length cap] T (0,0)):=hbk
  rw [Lib.cell_of_heap this];rfl
 have hSD:(Builtin.unsafeSliceData_ #[67] 128 #[.slice (some ⟨g,0,none⟩) l.length cap]).run prog w.drew = .ok (.pointer (some ⟨g,0,none⟩)) w.drew:=
  Lib.run_unsafeSliceData_row _ _ _ _ _ _ (by omega)
 have hUS:(Builtin.unsafeString_ #[128,3] 9 #[.pointer (some ⟨g,0,none⟩),.int .i64 l.length]).run prog w.drew = .ok (.string ⟨l.toArray⟩) (w.drew.freeze ⟨g,0,none⟩ l.length):=by
  refine Lib.run_unsafeString_row w.drew 128 3 9 5 PZ cellsByte g cur.size (by have hg':w.drew.heap[g]? = some (.cells cur 5 fz):=hg;simp [World.shape?,hg']) l h0 (by omega) (by unfold maxLen at hcm;omega) ?_;intro j x hx;have:=hown.cells (g:=g) rfl j (.int .u8 x.toNat) (by simp [Lib.byteCells,hx])
  exact this
 have hkeep:Lib.IsBuilderF T 5 B b (Lib.byteCells l) (w.drew.freeze ⟨g,0,none⟩ l.length):=by
  have hA:Lib.BuilderAtF T 5 B b p (Lib.byteCells l) w.drew:=⟨hB,_,hbk,by rw [Lib.byteCells_length];exact hown,hne⟩;have hF:=hA.froze (g:=g) (cap:=cap) (by rw [Lib.byteCells_length];exact c1);rw [Lib.byteCells_length] at hF
  rcases hp with rfl|rfl
  . exact .inl hF
  . exact .inr hF
 go_enter func35,ntmps35
 go_wp2
 go_region
 all_goals (go_wp2;go_ret;exact ⟨rfl,hkeep,Lib.below_freeze (Below.drew (Below.refl B w)) (p:=⟨g,0,none⟩) hbg _,((Lib.OthersKept.refl _ _ w).drew).freeze ⟨g,0,none⟩ _ ⟨cur,fz,hg⟩⟩)
def Rh (T:TypeId) (B b:Nat) (p:Value) (w:wD) (hbk:w.heap[b]? = some (.cells #[p,.slice none 0 0] T (0,0))) (hA:Lib.BuilderAtF T 5 B b p [] w) :
 Calls prog 35 #[.pointer (some ⟨b,0,none⟩)] w fun e w'=>e = .returned (.string ⟨#[]⟩)/\(Lib.BuilderAtF T 5 B b p [] w'/\Fb B b w w'):=by
 have hUS:=Ec
 have c1:w.drew.cell? ⟨b,1,none⟩=some (.slice none 0 0):=by
  have:w.drew.heap[b]? = some (.cells #[p,.slice none 0 0] T (0,0)):=hbk
  rw [Lib.cell_of_heap this];rfl
 have hSD:(Builtin.unsafeSliceData_ #[67] 128 #[.slice none 0 0]).run prog w.drew = .ok (.pointer none) w.drew:=rfl
 go_enter func35,ntmps35
 go_wp2
 go_region
 all_goals (go_wp2;go_ret;exact ⟨rfl,hA.drew,Below.drew (Below.refl B w),(Lib.OthersKept.refl _ _ w).drew⟩)
def Mp (T:TypeId) (B b g:Nat) (p:Value) (cur:Array Value) (w:wD) (hBw:B<=w.heap.size) (hbk:w.heap[b]? = some (.cells #[p,.slice (some ⟨g,0,none⟩) 0 0] T (0,0))) (fz:Nat×Nat) (hg:w.heap[g]? = some (.cells cur 5 fz)) (hA:Lib.BuilderAtF T 5 B b p [] w) :
 Calls prog 35 #[.pointer (some ⟨b,0,none⟩)] w fun e w'=>e = .returned (.string ⟨#[]⟩)/\(Lib.BuilderAtF T 5 B b p [] w'/\Fb B b w w'):=by
 have hUS:=Ec
 have hlt:b<w.heap.size:=by
  rcases aL b w.heap.size with h'|h'
  . exact h'
  . simp [aY h'] at hbk
 have c1:w.drew.cell? ⟨b,1,none⟩=some (.slice (some ⟨g,0,none⟩) 0 0):=by
  have:w.drew.heap[b]? = some (.cells #[p,.slice (some ⟨g,0,none⟩) 0 0] T (0,0)):=hbk
  rw [Lib.cell_of_heap this];rfl
 have hSD:(Builtin.unsafeSliceData_ #[67] 128 #[.slice (some ⟨g,0,none⟩) 0 0]).run prog w.drew = .ok (.pointer (some ⟨w.drew.heap.size,0,none⟩)) (w.drew.alloc (.view ⟨g,0,none⟩ 5)):=
  Lib.run_unsafeSliceData_zero w.drew _ _ 5 PZ ⟨g,0,none⟩ 0 (5,cur.size) (by have hg':w.drew.heap[g]? = some (.cells cur 5 fz):=hg;simp [World.shape?,hg'])
 have c2:(w.drew.alloc (.view ⟨g,0,none⟩ 5)).cell? ⟨b,1,none⟩=some (.slice (some ⟨g,0,none⟩) 0 0):=by
  have:(w.drew.alloc (.view ⟨g,0,none⟩ 5)).heap[b]? = _:=(Lib.alloc_old w.drew _ b hlt).trans hbk
  rw [Lib.cell_of_heap this];rfl
 have c3:(w.alloc (.view ⟨g,0,none⟩ 5)).drew.cell? ⟨b,1,none⟩=some (.slice (some ⟨g,0,none⟩) 0 0):=c2;have c0:w.cell? ⟨b,1,none⟩=some (.slice (some ⟨g,0,none⟩) 0 0):=c1
 go_enter func35,ntmps35
 go_wp2
 go_region
 all_goals (go_wp2;go_ret;exact ⟨rfl,hA.drew.alloc _,(Below.drew (Below.refl B w)).alloc hBw _,((Lib.OthersKept.refl _ _ w).drew).alloc _⟩)
def P1 (T:TypeId) (B b g cap:Nat) (p:Value) (w:wD) (hc0:cap≠0) (hbk:w.heap[b]? = some (.cells #[p,.slice (some ⟨g,0,none⟩) 0 cap] T (0,0))) (hA:Lib.BuilderAtF T 5 B b p [] w) :
 Calls prog 35 #[.pointer (some ⟨b,0,none⟩)] w fun e w'=>e = .returned (.string ⟨#[]⟩)/\(Lib.BuilderAtF T 5 B b p [] w'/\Fb B b w w'):=by
 have hUS:=Ec
 have c1:w.drew.cell? ⟨b,1,none⟩=some (.slice (some ⟨g,0,none⟩) 0 cap):=by
  have:w.drew.heap[b]? = some (.cells #[p,.slice (some ⟨g,0,none⟩) 0 cap] T (0,0)):=hbk
  rw [Lib.cell_of_heap this];rfl
 have hSD:(Builtin.unsafeSliceData_ #[67] 128 #[.slice (some ⟨g,0,none⟩) 0 cap]).run prog w.drew = .ok (.pointer (some ⟨g,0,none⟩)) w.drew:=
  Lib.run_unsafeSliceData_row _ _ _ _ _ _ hc0
 clear hc0
 go_enter func35,ntmps35
 go_wp2
 go_region
 all_goals (go_wp2;go_ret;exact ⟨rfl,hA.drew,Below.drew (Below.refl B w),(Lib.OthersKept.refl _ _ w).drew⟩)
def Od (T:TypeId) (B b:Nat) (w:wD) (h:Lib.IsBuilderF T 5 B b [] w) (N:B<=w.heap.size) :
 Calls prog 35 #[.pointer (some ⟨b,0,none⟩)] w fun e w'=>e = .returned (.string ⟨#[]⟩)/\(Lib.IsBuilderF T 5 B b [] w'/\Fb B b w w'):=by
 obtain ⟨p,Z,U⟩ : ∃p,(p = .pointer none\/p = .pointer (some ⟨b,0,none⟩))/\Lib.BuilderAtF T 5 B b p [] w:=by
  rcases h with h|h
  . exact ⟨_,.inl rfl,h⟩
  . exact ⟨_,.inr rfl,h⟩
 have f : ∀(e:Ending) (w':wD),(e = .returned (.string ⟨#[]⟩)/\(Lib.BuilderAtF T 5 B b p [] w'/\Fb B b w w'))->e = .returned (.string ⟨#[]⟩)/\(Lib.IsBuilderF T 5 B b [] w'/\Fb B b w w'):=by
  rintro e w' ⟨V,X,Y⟩;rcases Z with rfl|rfl
  . exact ⟨V,.inl X,Y⟩
  . exact ⟨V,.inr X,Y⟩
 have E:=U;obtain ⟨hB,v,F,L,aa⟩:=U;rcases L.2 with ⟨rfl,_⟩|⟨g,cap,O,fz,rfl,ab,hg,_,_,_,_,_⟩
 . exact (Rh T B b p w F E).mono f
 . by_cases M:cap=0
   . subst M;exact (Mp T B b g p O w N F fz hg E).mono f
   . exact (P1 T B b g cap p w M F E).mono f
def LS (T:TypeId) (B b:Nat) (l:lB) (w:wD) (h:Lib.IsBuilderF T 5 B b (Lib.byteCells l) w) (f:B<=w.heap.size) :
 Calls prog 35 #[.pointer (some ⟨b,0,none⟩)] w fun e w'=>e = .returned (.string ⟨l.toArray⟩)/\(Lib.IsBuilderF T 5 B b (Lib.byteCells l) w'/\Fb B b w w'):=by
 cases l with
 | nil=>exact Od T B b w h f
 | cons x r=>exact P0 T B b (x::r) w h Bn
def M7:BT 113:=⟨by kernel_rfl,Au⟩
structure Bld (B b:Nat) (l:lB) (w:wD):Prop where
 is:Lib.IsBuilderF 113 5 B b (Lib.byteCells l) w
 le:B<=w.heap.size
def Ho {T e:TypeId} {B b:Nat} {p:Value} {L:lV} {w w':wD} (h:Lib.BuilderAtF T e B b p L w) (x:Ext w w'):Lib.BuilderAtF T e B b p L w':=by
 have E:=h.lt;obtain ⟨M,v,N,f,F⟩:=h;exact ⟨M,v,(x.block E).trans N,f.kept (row:=none) ⟨Below.os x,Below.tape x,Below.output x,Below.size x,fun k O _=>x.block O⟩ (by cases U:v.ownBlock<;>simp),F⟩
def Bld.ext {B b:Nat} {l:lB} {w w':wD} (h:Bld B b l w) (x:Ext w w'):Bld B b l w':=
 ⟨h.is.elim (fun a=>.inl (Ho a x)) (fun a=>.inr (Ho a x)),bE h.le x.size⟩
instance {B b:Nat} {l:lB} {w w':wD}:LfE w w' (Bld B b l w) (Bld B b l w'):=⟨fun x h=>Bk.Bld.ext h x⟩
def Bld.alloc {B b:Nat} {l:lB} {w:wD} (h:Bld B b l w) (o:Obj):Bld B b l (w.alloc o):=h.ext ((cB _).alloc o)
def Bld.drew {B b:Nat} {l:lB} {w:wD} (h:Bld B b l w):Bld B b l w.drew:=h.ext (cB _).drew
def Bld.lt {B b:Nat} {l:lB} {w:wD} (h:Bld B b l w):b<w.heap.size:=h.is.elim (fun a=>a.lt) (fun a=>a.lt)
def Fb.of_ext {B b:Nat} {w w':wD} (x:Ext w w') (h:B<=w.heap.size):Fb B b w w':=
 ⟨Below.mono x h,fun k o f _ _=>(x.block (Array.getElem?_eq_some_iff.1 f).1).trans f⟩
def Fb.alloc {B b:Nat} {u w:wD} (h:Fb B b u w) (f:B<=u.heap.size) (o:Obj):Fb B b u (w.alloc o):=
 h.trans (.of_ext ((cB _).alloc o) (bE f h.below.size))
structure Box (k:Nat) (cs:Array Value) (T:TypeId) (w:wD):Prop where
 heap:w.heap[k]? = some (.cells cs T (0,0))
def Box.new (w:wD) (cs:Array Value) (T:TypeId):Box w.heap.size cs T (w.alloc (.cells cs T)):=⟨by show (w.heap.push _)[w.heap.size]? = _;simp⟩
def Box.new' {k:Nat} {w:wD} (cs:Array Value) (T:TypeId) (f:k=w.heap.size):Box k cs T (w.alloc (.cells cs T)):=by subst f;exact Box.new w cs T
def Box.lt {k:Nat} {cs:Array Value} {T:TypeId} {w:wD} (h:Box k cs T w):k<w.heap.size:=(Array.getElem?_eq_some_iff.1 h.heap).1
def Box.ext {k:Nat} {cs:Array Value} {T:TypeId} {w w':wD} (h:Box k cs T w) (x:Ext w w'):Box k cs T w':=⟨(x.block h.lt).trans h.heap⟩
instance {k:Nat} {cs:Array Value} {T:TypeId} {w w':wD}:LfE w w' (Box k cs T w) (Box k cs T w'):=⟨fun x h=>Bk.Box.ext h x⟩
def Box.alloc {k:Nat} {cs:Array Value} {T:TypeId} {w:wD} (h:Box k cs T w) (o:Obj):Box k cs T (w.alloc o):=h.ext ((cB _).alloc o)
def Box.drew {k:Nat} {cs:Array Value} {T:TypeId} {w:wD} (h:Box k cs T w):Box k cs T w.drew:=h.ext (cB _).drew
def Box.fb {k B b:Nat} {cs:Array Value} {T:TypeId} {w w':wD} (h:Box k cs T w) (x:Fb B b w w') (f:k≠b) (E:T≠5):Box k cs T w':=
 ⟨x.kept k _ h.heap (by simpa using f) (fun c F e=>E (by injection e))⟩
def Box.cell {k:Nat} {cs:Array Value} {T:TypeId} {w:wD} (h:Box k cs T w) (o:Nat):w.cell? ⟨k,o,none⟩=cs[o]? := by rw [Lib.cell_of_heap h.heap]
def Box.node {k:Nat} {v0 f v2 v3:Value} {T:TypeId} {w:wD} (h:Box k #[v0,f,v2,v3] T w) :
 w.cell? ⟨k,0,none⟩=some v0/\w.cell? ⟨k,1,none⟩=some f/\w.cell? ⟨k,2,none⟩=some v2/\w.cell? ⟨k,3,none⟩=some v3:=⟨h.cell 0,h.cell 1,h.cell 2,h.cell 3⟩
def rowSits.fb {B b:Nat} {w w':wD} {l:List Nd} {a:oA} (h:rowSits (· < B) w l a) (x:Fb B b w w'):rowSits (· < B) w' l a:=
 Ei aFh (fun k o _ f E=>(Below.cell (p:=⟨k,o,none⟩) x.below f).trans E) l a h
def P2 {P:Program} {B:Nat} {w w':wD} {name:String} {k:IntKind} {f:List Int} (h:Lib.TabIs P w name k f) (E:Below B w w') (F : ∀g,P.globalNamed name=some g->g<B):Lib.TabIs P w' name k f:=by
 unfold Lib.TabIs World.var? at *;cases hn:P.globalNamed name with
 | none=>rw [hn] at h;simp at h
 | some g=>rw [hn] at h;simp only [Option.bind_some] at h ⊢;rw [E.block g (F g hn)];exact h
def Tabs.below {B:Nat} {w w':wD} (h:Tabs w) (E:Below B w w') (M:prog.globals.size<=B):Tabs w':=by
 have h1:1<prog.globals.size:=of_decide_eq_true Bo;have N:2<prog.globals.size:=of_decide_eq_true Bo;refine ⟨fun i F=>(Below.cell (p:=⟨1,i,none⟩) E (by show 1<B;omega)).trans (h.sym i F),P2 h.pow E fun g f=>?_⟩
 have L:prog.globalNamed "internal/strconv.uint64pow10" = some 2:=by kernel_rfl
 rw [L] at f
 injection f with f
 omega
def Tabs.ext {w w':wD} (h:Tabs w) (x:Ext w w') (f:prog.globals.size<=w.heap.size):Tabs w':=h.below x f
def AO (B b tb tc:Nat) (l:lB) (ss:List lB) (w:wD) (h:Bld B b l w) (ht:Box tb (ss.map str).toArray 9 w) (hn:ss.length<=100) (hlen:(l++ss.flatten).length<=140737488355328) :
 Calls prog 58 #[.pointer (some ⟨b,0,none⟩),.slice (some ⟨tb,0,none⟩) ss.length tc] w fun e w'=>e = .returned (.tuple #[])/\Bld B b (l++ss.flatten) w'/\Fb B b w w':=by
 have hle:=h.le
 have htb:tb≠b:=by
  intro e;have h1:=ht.heap;rw [e] at h1
  rcases h.is with h'|h'<;>(obtain ⟨_,v,hb,_⟩:=h';rw [hb] at h1;injection h1 with h1;injection h1 with _ h1 _;exact absurd h1 (by decide))
 have HB:=Z2 h;clear h
 have HT:=Z2 ht;clear ht
 go_enter func58,ntmps58
 go_wp2_with fail
 go_loopw [8] (fun i wr=> ∃j:Nat,j<=ss.length/\i = .int .i64 j/\Bld B b (l++(ss.take j).flatten) wr/\Fb B b w wr) (fun i _=>ss.length-(intOf i).toNat)
 case atStart=>exact ⟨0,aE _,rfl,by simpa using HB.out,Fb.refl _ _ _⟩
 case round=>
  obtain ⟨j,hj,rfl,hbl,hfb⟩:=hrel
  by_cases hlt:j<ss.length
  . have hc:=(HT.out.fb hfb htb (by decide)).cell j
    have hg:(ss.map str).toArray[j]? = some (str ss[j]):=by simp [hlt]
    rw [hg] at hc
    have htk:(ss.take (j+1)).flatten=(ss.take j).flatten++ss[j]:=by rw [aD hlt,List.flatten_append];simp
    have hpre:(ss.take (j+1)).flatten.length<=ss.flatten.length:=by
     have e:ss=ss.take (j+1)++ss.drop (j+1):=(aZ _ _).symm
     have e2:ss.flatten.length=(ss.take (j+1)).flatten.length+(ss.drop (j+1)).flatten.length:=by rw [<-ZZ,<-List.flatten_append,<-e]
     omega
    generalize ss[j]=sj at *
    have HTK:=Z2 htk;clear hg
    rw [htk] at hpre;simp only [ZZ] at hlen hpre;clear htk
    have hll:(Lib.byteCells (l++(ss.take j).flatten)).length+(⟨sj.toArray⟩:ByteArray).size<=140737488355328:=by
     rw [Lib.byteCells_length,ZZ];show _+sj.length<=_;omega
    have HLL:=Z2 hll;clear hll
    go_wp2_with fail
    refine (Is 113 M7 B b _ _ _ hbl.is HLL.out hbl.le).mono ?_;rintro e w1 ⟨rfl,hi1,hf1⟩;simp only
    have hbl1:Bld B b (l++(ss.take (j+1)).flatten) w1:=by
     refine ⟨?_,bE hbl.le hf1.below.size⟩;rw [HTK.out,<-aW]
     have:Lib.byteCells (l++(ss.take j).flatten++sj)=Lib.byteCells (l++(ss.take j).flatten)++Lib.strCells ⟨sj.toArray⟩:=by
      rw [Lib.strCells_toArray];simp [Lib.byteCells]
     rw [this];exact hi1
    clear hbl hc hi1
    go_wp2_with fail
    go_roundw
    case rel=>exact ⟨j+1,by omega,by go_num,hbl1,hfb.trans hf1⟩
    case measure=>simp [intOf];omega
  . go_wp2_with fail
    go_end0
    refine ⟨rfl,?_,hfb⟩;rw [List.take_of_length_le (by omega)] at hbl
    exact hbl
def Vg (B b:Nat) (l:lB) (n:Nat) (w:wD) (h:Bld B b l w) (hn:n<=1000000) (hlen:l.length+n<=140737488355328) :
 Calls prog 102 #[.pointer (some ⟨b,0,none⟩),.int .i64 n] w fun e w'=>e = .returned (.tuple #[])/\Bld B b (l++aT n 9) w'/\Fb B b w w':=by
 have HB:=Z2 h;clear h
 go_enter func102,ntmps102
 go_wp2_with fail
 go_loopw [5] (fun i wr=> ∃j:Nat,j<=n/\i = .int .i64 j/\Bld B b (l++aT j 9) wr/\Fb B b w wr) (fun i _=>n-(intOf i).toNat)
 case atStart=>exact ⟨0,aE _,rfl,by simpa using HB.out,Fb.refl _ _ _⟩
 case round=>
  obtain ⟨j,hj,rfl,hbl,hfb⟩:=hrel
  by_cases hlt:j<n
  . go_wp2_with fail
    refine (PY 113 M7 B b _ _ _ hbl.is (by rw [Lib.byteCells_length];simp;omega) hbl.le).mono ?_;rintro e w1 ⟨rfl,hi1,hf1⟩;simp only
    have hbl1:Bld B b (l++aT (j+1) 9) w1:=by
     refine ⟨?_,bE hbl.le hf1.below.size⟩
     have:Lib.byteCells (l++aT (j+1) 9)=Lib.byteCells (l++aT j 9)++[Value.int .u8 9]:=by
      rw [List.replicate_succ',<-aW];simp [Lib.byteCells]
     rw [this];exact hi1
    clear hbl hi1
    go_wp2_with fail
    go_roundw
    case rel=>exact ⟨j+1,by omega,by go_num,hbl1,hfb.trans hf1⟩
    case measure=>simp [intOf];omega
  . go_wp2_with fail
    go_end0
    refine ⟨rfl,?_,hfb⟩
    have:j=n:=by omega
    subst this;exact hbl
def Bw (f:FuncId) (Xv:Nd->lB) (t:Nd):Prop:=
 ∀(B b:Nat) (l:lB) (w:wD) (a:oA) (c:Nat),Bld B b l w->Tabs w->prog.globals.size<=B->t.sits (· < B) w a->(l++Xv t).length<=140737488355328 ->
  Calls prog f #[.pointer (some ⟨b,0,none⟩),t.val a c] w fun e w'=>e = .returned (.tuple #[])/\Bld B b (l++Xv t) w'/\Fb B b w w'
def Nd.sits.fb {B b:Nat} {w w':wD} {t:Nd} {a:oA} (h:t.sits (· < B) w a) (x:Fb B b w w'):t.sits (· < B) w' a:=
 Nd.sits_mono aFh (fun k o _ f E=>(Below.cell (p:=⟨k,o,none⟩) x.below f).trans E) t a h
def Tabs.fb {B b:Nat} {w w':wD} (h:Tabs w) (x:Fb B b w w') (f:prog.globals.size<=B):Tabs w':=h.below x.below f
def Gp (t:Nd) (hp:Bw 192 cW t) (B b:Nat) (l:lB) (q:Bool) (w:wD) (a:oA) (c:Nat) (h:Bld B b l w) (ht:Tabs w) (hB:prog.globals.size<=B)
 (hs:t.sits (· < B) w a) (hlen:(l++wrap t.text q).length<=140737488355328) :
 Calls prog 229 #[.pointer (some ⟨b,0,none⟩),t.val a c,.bool q] w fun e w'=>e = .returned (.tuple #[])/\Bld B b (l++wrap t.text q) w'/\Fb B b w w':=by
 have hle:=h.le;have hlt:=h.lt
 have HP:=Z2 hp;clear hp
 cases q
 . have HL:Hid ((l++t.text).length<=140737488355328):=Z2 (by simpa [wrap] using hlen)
   clear hlen
   go_enter func229,ntmps229
   go_wp2_with fail
   refine (HP.out B b l _ a c (h.alloc _) (ht.ext ((cB _).alloc _) (by omega)) hB (hs.ext ((cB _).alloc _)) HL.out).mono ?_;rintro e w1 ⟨rfl,hb1,hx1⟩;simp only
   go_wp2_with fail
   ((try simp only [Exit.inBlock,Exit.then]);refine bodyPost_ret (results_none rfl _ _ _) rfl ?_)
   exact ⟨rfl,by simpa [wrap] using hb1,Fb.trans ((Fb.refl _ _ _).alloc hle _) hx1⟩
 . simp only [wrap,if_true,ZZ,Z1,Z4] at hlen
   go_enter func229,ntmps229
   go_wp2_with fail
   have hbx0:Box w.heap.size #[.int .u8 t.kind,.int .i64 t.num,str t.name,.slice a t.kids.length c] 32 (w.alloc (.cells #[.int .u8 t.kind,.int .i64 t.num,str t.name,.slice a t.kids.length c] 32)):=Box.new _ _ _;refine (AO B b (w.heap.size+1) 1 l [[40]] _ ((h.alloc _).alloc _) (Box.new' _ _ (by simp)) (by decide) (by simp;omega)).mono ?_;rintro e w1 ⟨rfl,hb1,hx1⟩;have hbx1:=(hbx0.alloc (Obj.cells #[.string { data:= #[40] }] 9)).fb hx1 (by omega) (by decide);have hxx1:Fb B b w w1:=Fb.trans (((Fb.refl _ _ _).alloc hle _).alloc hle _) hx1;obtain ⟨g0,g1,g2,g3⟩:=hbx1.node;simp only
   go_wp2_with fail
   refine (HP.out B b (l++[[40]].flatten) _ a c hb1 (ht.fb hxx1 hB) hB (hs.fb hxx1) (by simp;omega)).mono ?_;rintro e w2 ⟨rfl,hb2,hx2⟩;simp only
   go_wp2_with fail
   refine (AO B b w2.heap.size 1 _ [[41]] _ (hb2.alloc _) (Box.new' _ _ (by simp)) (by decide) (by simp;omega)).mono ?_;rintro e w3 ⟨rfl,hb3,hx3⟩;simp only
   go_wp2_with fail
   go_end0
   refine ⟨rfl,by simpa [wrap] using hb3,?_⟩
   exact (hxx1.trans hx2).trans (Fb.trans ((Fb.refl _ _ _).alloc hb2.le _) hx3)
open Go.Sort
def Vh (w:wD) (k:Nat) (f:Array Obj):Ext w (grow (w.drewN k) f):=by
 have h:(grow (w.drewN k) f).heap=w.heap++f:=rfl;refine ⟨rfl,rfl,rfl,?_,fun i E=>?_⟩
 . rw [h];simp
 . rw [h,Array.getElem?_append_left E]
def Vi (n:Int) (f : -9223372036854775808<=n) (h1:n<=9223372036854775807) (w:wD) (h:Tabs w) :
 Calls prog 62 #[.int .i64 n] w fun e w'=>e = .returned (str (Lib.itoa n))/\Ext w w':=
 (Tryz.strconv_Itoa n f h1 w h.pow).mono fun e w' ⟨E,k,os,hw⟩=>⟨E,hw▸Vh w k os⟩
def Hp (k n:Int) (s:lB) (a:oA) (l c:Nat) (w:wD) :
 Calls prog 230 #[.agg #[.int .u8 k,.int .i64 n,str s,.slice a l c]] w fun e w'=>e = .returned (.bool (Fu k))/\Ext w w':=by
 go_enter func230,ntmps230
 go_wp2_with fail
 all_goals go_ret
 all_goals exact ⟨AI (by unfold Fu;rw [Bool.eq_iff_iff];simp;try omega),(by repeat (first|exact cB _|assumption|refine cD ?_ _|refine cY ?_|refine cF ?_ ‹_›))⟩
def YD (n:Int) (s:lB) (l:List Nd) (hn0 : -9223372036854775808<=n) (hn1:n<=9223372036854775807):Bw 192 cW (.mk 1 n s l):=by
 intro B b t w a c h ht hB hs hlen
 have htx:(Nd.mk 1 n s l).text=Lib.itoa n:=by rw [Nd.text.eq_def];simp
 rw [htx] at hlen ⊢;have hle:=h.le;have hlt:=h.lt;simp only [ZZ] at hlen;simp only [cO,dB,cX,cV,dC];clear hs
 go_enter func192,ntmps192
 go_wp2_with fail
 refine (Vi n hn0 hn1 _ (ht.ext ((cB _).alloc _) (by omega))).mono ?_;rintro e w1 ⟨rfl,hx1⟩;have hb1:=(h.alloc _).ext hx1;simp only
 go_wp2_with fail
 refine (AO B b w1.heap.size 1 t [Lib.itoa n] _ (hb1.alloc _) (Box.new' _ _ (by simp)) (by simp) (by simp;omega)).mono ?_;rintro e w2 ⟨rfl,hb2,hx2⟩;simp only
 go_wp2_with fail
 go_end0
 exact ⟨rfl,by simpa using hb2,Fb.trans (Fb.of_ext (by refine cD ?_ _;refine cF ?_ ‹_›;refine cD ?_ _;exact cB _) hle) hx2⟩
def YE (n:Int) (s:lB) (l:List Nd):Bw 192 cW (.mk 2 n s l):=by
 intro B b t w a c h ht hB hs hlen
 have htx:(Nd.mk 2 n s l).text=s:=by rw [Nd.text.eq_def];simp
 rw [htx] at hlen ⊢;have hle:=h.le;have hlt:=h.lt;simp only [ZZ] at hlen;simp only [cO,dB,cX,cV,dC];clear hs
 go_enter func192,ntmps192
 go_wp2_with fail
 refine (AO B b (w.heap.size+1) 1 t [s] _ ((h.alloc _).alloc _) (Box.new' _ _ (by simp)) (by simp) (by simp;omega)).mono ?_;rintro e w2 ⟨rfl,hb2,hx2⟩;simp only
 go_wp2_with fail
 go_end0
 exact ⟨rfl,by simpa using hb2,Fb.trans (Fb.of_ext (by refine cD ?_ _;refine cD ?_ _;exact cB _) hle) hx2⟩
def YF (n:Int) (s:lB) (l:List Nd):Bw 192 cW (.mk 4 n s l):=by
 intro B b t w a c h ht hB hs hlen
 have htx:(Nd.mk 4 n s l).text=[116,111,112,40]++s++[41]:=by rw [Nd.text.eq_def];simp
 rw [htx] at hlen ⊢;have hle:=h.le;have hlt:=h.lt;simp only [ZZ,Z1,Z4] at hlen;simp only [cO,dB,cX,cV,dC];clear hs
 go_enter func192,ntmps192
 go_wp2_with fail
 refine (AO B b (w.heap.size+1) 3 t [[116,111,112,40],s,[41]] _ ((h.alloc _).alloc _) (Box.new' _ _ (by simp)) (by simp) (by simp;omega)).mono ?_;rintro e w2 ⟨rfl,hb2,hx2⟩;simp only
 go_wp2_with fail
 go_end0
 exact ⟨rfl,by simpa using hb2,Fb.trans (Fb.of_ext (by refine cD ?_ _;refine cD ?_ _;exact cB _) hle) hx2⟩
def YG (n:Int) (s:lB) (l:List Nd):Bw 192 cW (.mk 5 n s l):=by
 intro B b t w a c h ht hB hs hlen
 have htx:(Nd.mk 5 n s l).text=[115,105,122,101,40]++s++[41]:=by rw [Nd.text.eq_def];simp
 rw [htx] at hlen ⊢;have hle:=h.le;have hlt:=h.lt;simp only [ZZ,Z1,Z4] at hlen;simp only [cO,dB,cX,cV,dC];clear hs
 go_enter func192,ntmps192
 go_wp2_with fail
 refine (AO B b (w.heap.size+1) 3 t [[115,105,122,101,40],s,[41]] _ ((h.alloc _).alloc _) (Box.new' _ _ (by simp)) (by simp) (by simp;omega)).mono ?_;rintro e w2 ⟨rfl,hb2,hx2⟩;simp only
 go_wp2_with fail
 go_end0
 exact ⟨rfl,by simpa using hb2,Fb.trans (Fb.of_ext (by refine cD ?_ _;refine cD ?_ _;exact cB _) hle) hx2⟩
def W8 {S:nP} {w:wD} {x:Nd} {a:oA} (h:rowSits S w [x] a) : ∃f E xa xc,a=some ⟨f,E,none⟩/\S f/\w.cell? ⟨f,E,none⟩=some (.int .u8 x.kind)/\w.cell? ⟨f,E+1,none⟩=some (.int .i64 x.num)/\w.cell? ⟨f,E+2,none⟩=some (str x.name)/\w.cell? ⟨f,E+3,none⟩=some (.slice xa x.kids.length xc)/\x.sits S w xa:=by
 obtain ⟨b,o,F,c,rfl,L,h1,M,N,O,U⟩:=AP h (i:=0) (t:=x) rfl;exact ⟨b,o,F,c,rfl,L,by simpa using h1,by simpa using M,by simpa using N,by simpa using O,U⟩
def YH (n:Int) (s:lB) (x:Nd) (hx:Bw 192 cW x):Bw 192 cW (.mk 3 n s [x]):=by
 intro B b t w a c h ht hB hs hlen
 have htx:(Nd.mk 3 n s [x]).text=s++[91]++x.text++[93]:=by rw [Nd.text.eq_def];simp
 rw [htx] at hlen ⊢;have hle:=h.le;have hlt:=h.lt;simp only [ZZ,Z1,Z4] at hlen;simp only [cO,dB,cX,cV,dC,Z1,Z4]
 have HX:=Z2 hx;clear hx
 simp only [cP] at hs;obtain ⟨kb,ko,xa,xc,rfl,-,-⟩:=W8 hs;have hbx0:Box w.heap.size #[.int .u8 3,.int .i64 n,str s,.slice (some ⟨kb,ko,none⟩) 1 c] 32 (w.alloc (.cells #[.int .u8 3,.int .i64 n,str s,.slice (some ⟨kb,ko,none⟩) 1 c] 32)):=Box.new _ _ _
 go_enter func192,ntmps192
 go_wp2_with fail
 refine (AO B b (w.heap.size+1) 2 t [s,[91]] _ ((h.alloc _).alloc _) (Box.new' _ _ (by simp)) (by simp) (by simp;omega)).mono ?_;rintro e w1 ⟨rfl,hb1,hx1⟩;have hbx1:=(hbx0.alloc _).fb hx1 (by omega) (by decide);have hxx1:Fb B b w w1:=Fb.trans (Fb.of_ext (by refine cD ?_ _;refine cD ?_ _;exact cB _) hle) hx1;obtain ⟨g0,g1,g2,g3⟩:=hbx1.node;have hs1:=hs.fb hxx1;obtain ⟨kb',ko',xa,xc,he,hk1,k0,k1,k2,k3,hxs⟩:=W8 hs1;simp only [Z9,bX] at he;obtain ⟨rfl,rfl,-⟩:=he;simp only
 go_wp2_with fail
 refine (HX.out B b _ _ xa xc hb1 (ht.fb hxx1 hB) hB hxs (by simp;omega)).mono ?_;rintro e w2 ⟨rfl,hb2,hx2⟩;simp only
 go_wp2_with fail
 refine (AO B b w2.heap.size 1 _ [[93]] _ (hb2.alloc _) (Box.new' _ _ (by simp)) (by simp) (by simp;omega)).mono ?_;rintro e w3 ⟨rfl,hb3,hx3⟩;simp only
 go_wp2_with fail
 go_end0
 exact ⟨rfl,by simpa using hb3,(hxx1.trans hx2).trans (Fb.trans (Fb.of_ext (by refine cD ?_ _;exact cB _) hb2.le) hx3)⟩
def W9 (k n:Int) (s:lB) (x:Nd) (hk:k=6\/k=7) (hx:Bw 192 cW x):Bw 192 cW (.mk k n s [x]):=by
 intro B b t w a c h ht hB hs hlen
 have htx:(Nd.mk k n s [x]).text=CZ k++wrap x.text (Fu x.kind):=by rcases hk with rfl|rfl<;>(rw [Nd.text.eq_def];simp)
 rw [htx] at hlen ⊢;have hle:=h.le;have hlt:=h.lt;simp only [ZZ,Z1,Z4] at hlen;simp only [cO,dB,cX,cV,dC,Z1,Z4]
 have HX:=Z2 hx;clear hx htx
 simp only [cP] at hs;obtain ⟨kb,ko,xa,xc,rfl,-,-⟩:=W8 hs;have hbx0:Box w.heap.size #[.int .u8 k,.int .i64 n,str s,.slice (some ⟨kb,ko,none⟩) 1 c] 32 (w.alloc (.cells #[.int .u8 k,.int .i64 n,str s,.slice (some ⟨kb,ko,none⟩) 1 c] 32)):=Box.new _ _ _
 have hk0:0<=k/\k<=255:=by omega
 obtain ⟨hk0,hk1⟩:=hk0
 have d1:(k==1)=false:=by rw [beq_eq_false_iff_ne];omega
 have d2:(k==2)=false:=by rw [beq_eq_false_iff_ne];omega
 have d3:(k==3)=false:=by rw [beq_eq_false_iff_ne];omega
 have d4:(k==4)=false:=by rw [beq_eq_false_iff_ne];omega
 have d5:(k==5)=false:=by rw [beq_eq_false_iff_ne];omega
 have dk:(k==6)=true\/(k==6)=false/\(k==7)=true:=by rcases hk with rfl|rfl<;>simp
 clear hk
 rcases dk with d6|⟨d6,d7⟩
 all_goals
  go_enter func192,ntmps192
  go_wp2_with fail
  refine (FG _ _ hk0 hk1 (ht.ext ((cB _).alloc _) (by omega))).mono ?_;rintro e w1 ⟨rfl,rfl⟩;simp only
  go_wp2_with fail
  refine (AO B b (w.heap.size+1) 1 t [CZ k] _ ((h.alloc _).alloc _) (Box.new' _ _ (by simp)) (by simp) (by simp;omega)).mono ?_;rintro e w1 ⟨rfl,hb1,hx1⟩;have hbx1:=(hbx0.alloc _).fb hx1 (by omega) (by decide);have hxx1:Fb B b w w1:=Fb.trans (Fb.of_ext (by repeat (first|exact cB _|assumption|refine cD ?_ _|refine cY ?_|refine cF ?_ ‹_›)) hle) hx1;obtain ⟨g0,g1,g2,g3⟩:=hbx1.node;have hs1:=hs.fb hxx1;obtain ⟨kb',ko',xa,xc,he,hkB,k0,k1,k2,k3,hxs⟩:=W8 hs1;simp only [Z9,bX] at he;obtain ⟨rfl,rfl,-⟩:=he;have ht1:=ht.fb hxx1 hB;simp only
  go_wp2_with fail
  go_region_held3 (fun w'=>w'.cell? ⟨w.heap.size,3,none⟩=some (.slice (some ⟨kb,ko,none⟩) 1 c)/\w'.cell? ⟨kb,ko,none⟩=some (.int .u8 x.kind)/\w'.cell? ⟨kb,ko+1,none⟩=some (.int .i64 x.num)/\w'.cell? ⟨kb,ko+2,none⟩=some (str x.name)/\w'.cell? ⟨kb,ko+3,none⟩=some (.slice xa x.kids.length xc))
   (first|exact ⟨g3,k0,k1,k2,k3⟩|exact ⟨hx2.keep g3,hx2.keep k0,hx2.keep k1,hx2.keep k2,hx2.keep k3⟩|exact ⟨(((hbx1.drew.ext hx2).fb hx3 (by omega) (by decide)).node).2.2.2,(Below.cell (p:=⟨_,_,none⟩) hx3.below hkB).trans (hx2.keep k0),(Below.cell (p:=⟨_,_,none⟩) hx3.below hkB).trans (hx2.keep k1),(Below.cell (p:=⟨_,_,none⟩) hx3.below hkB).trans (hx2.keep k2),(Below.cell (p:=⟨_,_,none⟩) hx3.below hkB).trans (hx2.keep k3)⟩)
   (first|(go_at_call 230;refine (Hp _ _ _ _ _ _ _).mono ?_;rintro e w2 ⟨rfl,hx2⟩)|(go_at_call 229;refine (Gp x HX.out B b _ _ _ xa xc (hb1.drew.ext hx2) ((ht1.ext (cB _).drew (by have:=hb1.le;omega)).ext hx2 (by have:=hb1.le;show _<=w1.heap.size;omega)) hB (hxs.ext (cF (cB _).drew hx2)) (by simp;omega)).mono ?_;rintro e w3 ⟨rfl,hb3,hx3⟩))
  go_wp2_with fail
  go_end0
  exact ⟨rfl,by simpa [cO] using hb3,(hxx1.trans (Fb.of_ext (cF (cB _).drew hx2) hb1.le)).trans hx3⟩
def P3 {a k:Int} (h:Fu a=false):GC a k=false:=by simp [GC,h]
def P4 {a k:Int} (h:Fu a=false):G5 a k=false:=by simp [G5,h]
def P5 {a k:Int} (h:Fu a=true) {q:Bool} (f:q=true↔Ca a<Ca k):GC a k=q:=by rw [Bool.eq_iff_iff,f];simp [GC,h]
def P6 {a k:Int} (h:Fu a=true) {q:Bool} (f:q=true↔Ca a<=Ca k):G5 a k=q:=by rw [Bool.eq_iff_iff,f];simp [G5,h]
def ZA {S:nP} {w:wD} {x y:Nd} {a:oA} (h:rowSits S w [x,y] a) : ∃f E xa xc ya yc,a=some ⟨f,E,none⟩/\S f/\(w.cell? ⟨f,E,none⟩=some (.int .u8 x.kind)/\w.cell? ⟨f,E+1,none⟩=some (.int .i64 x.num)/\w.cell? ⟨f,E+2,none⟩=some (str x.name)/\w.cell? ⟨f,E+3,none⟩=some (.slice xa x.kids.length xc)/\x.sits S w xa) /\
 (w.cell? ⟨f,E+4,none⟩=some (.int .u8 y.kind)/\w.cell? ⟨f,E+4+1,none⟩=some (.int .i64 y.num)/\w.cell? ⟨f,E+4+2,none⟩=some (str y.name)/\w.cell? ⟨f,E+4+3,none⟩=some (.slice ya y.kids.length yc)/\y.sits S w ya):=by
 obtain ⟨b,o,X,c,rfl,Y,h1,Z,h3,h4,h5⟩:=AP h (i:=0) (t:=x) rfl;obtain ⟨b',o',F,c',V,aa,L,M,N,O,U⟩:=AP h (i:=1) (t:=y) rfl;simp only [Z9,bX] at V;obtain ⟨rfl,rfl,-⟩:=V;exact ⟨b,o,X,c,F,c',rfl,Y,⟨by simpa using h1,by simpa using Z,by simpa using h3,by simpa using h4,h5⟩,⟨by simpa using L,by simpa using M,by simpa using N,by simpa using O,U⟩⟩
set_option maxHeartbeats 8000000 in
def Vj (k n:Int) (s:lB) (x y:Nd) (hk8:8<=k) (hk23:k<=23) (hx:Bw 192 cW x) (hy:Bw 192 cW y):Bw 192 cW (.mk k n s [x,y]):=by
 intro B b t w a c h ht hB hs hlen
 have d1:(k==1)=false:=by rw [beq_eq_false_iff_ne];omega
 have d2:(k==2)=false:=by rw [beq_eq_false_iff_ne];omega
 have d3:(k==3)=false:=by rw [beq_eq_false_iff_ne];omega
 have d4:(k==4)=false:=by rw [beq_eq_false_iff_ne];omega
 have d5:(k==5)=false:=by rw [beq_eq_false_iff_ne];omega
 have d6:(k==6)=false:=by rw [beq_eq_false_iff_ne];omega
 have d7:(k==7)=false:=by rw [beq_eq_false_iff_ne];omega
 have htx:(Nd.mk k n s [x,y]).text=wrap x.text (GC x.kind k)++[32]++CZ k++[32]++wrap y.text (G5 y.kind k):=by
  rw [Nd.text.eq_def];simp only [];rw [AC (by omega),AC (by omega),AC (by omega),AC (by omega),AC (by omega),AC (by omega)]
 rw [htx] at hlen ⊢;have hle:=h.le;have hlt:=h.lt;simp only [ZZ,Z1,Z4] at hlen;simp only [cO,dB,cX,cV,dC,Z1,Z4]
 have HX:=Z2 hx;clear hx htx
 have HY:=Z2 hy;clear hy
 simp only [cP] at hs;obtain ⟨xk,xn,xs,xl⟩:=x;obtain ⟨yk,yn,ys,yl⟩:=y;obtain ⟨kb,ko,xa,xc,ya,yc,rfl,hkB,⟨k0,k1,k2,k3,hxs⟩,⟨m0,m1,m2,m3,hys⟩⟩:=ZA hs;simp only [cO,dB,cX,cV] at *
 go_enter func192,ntmps192
 have hkw:kb<w.heap.size:=Nat.lt_of_lt_of_le hkB hle;have m1':w.cell? ⟨kb,ko+5,none⟩=some (.int .i64 yn):=m1;have m2':w.cell? ⟨kb,ko+6,none⟩=some (str ys):=m2;have m3':w.cell? ⟨kb,ko+7,none⟩=some (.slice ya yl.length yc):=m3
 have hkw1:kb<w.heap.size+1:=by omega
 have hkw2:kb<w.heap.size+2:=by omega
 have hkw3:kb<w.heap.size+1+1:=by omega
 go_upto_region 2 with fail
 go_cut [4,5] (fun s4 s5 W=> ∃pl pr:Nat,s4 = .pointer (some ⟨pl,0,none⟩)/\s5 = .pointer (some ⟨pr,0,none⟩)/\Box w.heap.size #[.int .u8 k,.int .i64 n,str s,.slice (some ⟨kb,ko,none⟩) 2 c] 32 W/\Box pl #[.int .u8 xk,.int .i64 xn,str xs,.slice xa xl.length xc] 32 W/\Box pr #[.int .u8 yk,.int .i64 yn,str ys,.slice ya yl.length yc] 32 W/\Ext w W/\b<pl/\b<pr)
 case first=>
  go_region
  . go_wp2_with fail
    go_meet
    exact ⟨w.heap.size+1,w.heap.size+1+1,rfl,rfl,(((Box.new _ _ _).alloc _).alloc _).drew,((Box.new' _ _ (by simp)).alloc _).drew,(Box.new' _ _ (by simp)).drew,(by refine cY ?_;refine cD ?_ _;refine cD ?_ _;refine cD ?_ _;exact cB _),by omega,by omega⟩
  . go_wp2_with fail
    go_meet
    exact ⟨w.heap.size+1+1,w.heap.size+1,rfl,rfl,(((Box.new _ _ _).alloc _).alloc _).drew,(Box.new' _ _ (by simp)).drew,((Box.new' _ _ (by simp)).alloc _).drew,(by refine cY ?_;refine cD ?_ _;refine cD ?_ _;refine cD ?_ _;exact cB _),by omega,by omega⟩
 case rest=>
  obtain ⟨W,hW⟩ : ∃W:wD,W=wc:=⟨wc,rfl⟩;subst hW;obtain ⟨pl,pr,rfl,rfl,hbn,hbl,hbr,hxW,hpl,hpr⟩:=hcut;have hle1:B<=W.heap.size:=bE hle hxW.size;have ht1:=ht.ext hxW (by omega);have hxW1:Fb B b w W:=Fb.of_ext hxW hle;have hxs1:=hxs.ext hxW;have hys1:=hys.ext hxW;have hb0:=h.ext hxW;clear k0 k1 k2 k3 m0 m1 m2 m3 m1' m2' m3' hxs hys hs h ht hkw hkw1 hkw2 hkw3;have hbb:=hb0.lt;obtain ⟨c0,c1,c2,c3⟩:=hbn.node;obtain ⟨l0,l1,l2,l3⟩:=hbl.node
  go_wp2_with fail
  refine (Du _ _ (by omega) (by omega)).mono ?_;rintro e w1 ⟨rfl,rfl⟩;simp only
  go_upto_region 4 with fail
  go_cut [] (fun u3=>Bld B b (t++wrap (Nd.mk xk xn xs xl).text (GC xk k)) u3/\Fb B b W u3)
  case first=>
   cases hq:Fu xk
   . have HQ:=Z2 hq;clear hq
     refine wp_region_held_drew (S:=fun w'=>w'.cell? ⟨pl,0,none⟩=some (.int .u8 xk)/\w'.cell? ⟨pl,1,none⟩=some (.int .i64 xn)/\w'.cell? ⟨pl,2,none⟩=some (str xs)/\w'.cell? ⟨pl,3,none⟩=some (.slice xa xl.length xc)) (by kernel_rfl) ⟨l0,l1,l2,l3⟩ (fun hHeld=>?_)
     ((refine wpAnyH_take (i:=0) (oi:=_) (v:=?v0_1) rfl (by kernel_rfl) (by kernel_rfl) (by kernel_rfl) (fun _ _ _ h=>h) (Z6 ⟨by rfl,?y0_1⟩) ‹_› ?r0_1);(case y0_1=>(intro w hSw;(try dsimp only at hSw);go_simp;try (with_reducible rfl)));(try simp only [Act.put,List.getElem_toArray,List.getElem_cons_zero,Z5,List.setIfInBounds_toArray,Z7,List.set_cons_succ]))
     ((refine wpAnyH_take (i:=1) (oi:=_) (v:=?v1_2) rfl (by kernel_rfl) (by kernel_rfl) (by kernel_rfl) (fun _ _ _ h=>h) (Z6 ⟨by rfl,?y1_2⟩) ‹_› ?r1_2);(case y1_2=>(intro w hSw;(try dsimp only at hSw);go_simp;try (with_reducible rfl)));(try simp only [Act.put,List.getElem_toArray,List.getElem_cons_zero,Z5,List.setIfInBounds_toArray,Z7,List.set_cons_succ]))
     ((refine wpAnyH_take (i:=2) (oi:=_) (v:=?v2_3) rfl (by kernel_rfl) (by kernel_rfl) (by kernel_rfl) (fun _ _ _ h=>h) (Z6 ⟨by rfl,?y2_3⟩) ‹_› ?r2_3);(case y2_3=>(intro w hSw;(try dsimp only at hSw);go_simp;try (with_reducible rfl)));(try simp only [Act.put,List.getElem_toArray,List.getElem_cons_zero,Z5,List.setIfInBounds_toArray,Z7,List.set_cons_succ]))
     ((refine wpAnyH_ready (rs:=[3]) (by kernel_rfl) (by simp) ?_);(refine AllReadyH.cons (o:=_) rfl (fun K hK=>?_) AllReadyH.nil);go_simp)
     refine (Hp _ _ _ _ _ _ _).mono ?_;rintro e u2 ⟨rfl,hx2⟩;rw [HQ.out];refine hK.out _ _ ⟨hx2.keep l0,hx2.keep l1,hx2.keep l2,hx2.keep l3⟩ (fun hHeld=>?_);clear hK K;(try simp only [Act.put,List.getElem_toArray,List.getElem_cons_zero,Z5,List.setIfInBounds_toArray,Z7,List.set_cons_succ])
     ((refine wpAnyH_take (i:=4) (oi:=_) (v:=?v4_4) rfl (by kernel_rfl) (by kernel_rfl) (by kernel_rfl) (fun _ _ _ h=>h) (Z6 ⟨by rfl,?y4_4⟩) ‹_› ?r4_4);(case y4_4=>(intro w hSw;(try dsimp only at hSw);go_simp;try (with_reducible rfl)));(try simp only [Act.put,List.getElem_toArray,List.getElem_cons_zero,Z5,List.setIfInBounds_toArray,Z7,List.set_cons_succ]))
     ((refine wpAnyH_take (i:=5) (oi:=_) (v:=undef) rfl (by kernel_rfl) (by kernel_rfl) (by kernel_rfl) (fun _ _ _ h=>h) (aA ⟨by rfl,rfl⟩) ‹_› ?_);(try simp only [Act.put,List.getElem_toArray,List.getElem_cons_zero,Z5,List.setIfInBounds_toArray,Z7,List.set_cons_succ]))
     ((refine wpAnyH_take (i:=6) (oi:=_) (v:=undef) rfl (by kernel_rfl) (by kernel_rfl) (by kernel_rfl) (fun _ _ _ h=>h) (aA ⟨by rfl,rfl⟩) ‹_› ?_);(try simp only [Act.put,List.getElem_toArray,List.getElem_cons_zero,Z5,List.setIfInBounds_toArray,Z7,List.set_cons_succ]))
     ((refine wpAnyH_take (i:=7) (oi:=_) (v:=undef) rfl (by kernel_rfl) (by kernel_rfl) (by kernel_rfl) (fun _ _ _ h=>h) (aA ⟨by rfl,rfl⟩) ‹_› ?_);(try simp only [Act.put,List.getElem_toArray,List.getElem_cons_zero,Z5,List.setIfInBounds_toArray,Z7,List.set_cons_succ]))
     ((refine wpAnyH_take (i:=8) (oi:=_) (v:=undef) rfl (by kernel_rfl) (by kernel_rfl) (by kernel_rfl) (fun _ _ _ h=>h) (aA ⟨by rfl,rfl⟩) ‹_› ?_);(try simp only [Act.put,List.getElem_toArray,List.getElem_cons_zero,Z5,List.setIfInBounds_toArray,Z7,List.set_cons_succ]))
     ((refine wpAnyH_take (i:=9) (oi:=_) (v:=undef) rfl (by kernel_rfl) (by kernel_rfl) (by kernel_rfl) (fun _ _ _ h=>h) (aA ⟨by rfl,rfl⟩) ‹_› ?_);(try simp only [Act.put,List.getElem_toArray,List.getElem_cons_zero,Z5,List.setIfInBounds_toArray,Z7,List.set_cons_succ]))
     ((refine wpAnyH_take (i:=10) (oi:=_) (v:=?v10_5) rfl (by kernel_rfl) (by kernel_rfl) (by kernel_rfl) (fun _ _ _ h=>h) (Z6 ⟨by rfl,?y10_5⟩) ‹_› ?r10_5);(case y10_5=>(intro w hSw;(try dsimp only at hSw);go_simp;try (with_reducible rfl)));(try simp only [Act.put,List.getElem_toArray,List.getElem_cons_zero,Z5,List.setIfInBounds_toArray,Z7,List.set_cons_succ]))
     ((refine wpAnyH_ready (rs:=[11]) (by kernel_rfl) (by simp) ?_);(refine AllReadyH.cons (o:=_) rfl (fun K hK=>?_) AllReadyH.nil);go_simp)
     refine (Gp (.mk xk xn xs xl) HX.out B b _ _ _ xa xc (hb0.drew.ext hx2) ((ht1.ext (cB _).drew (by omega)).ext hx2 (by show _<=W.heap.size;omega)) hB (hxs1.ext (cF (cB _).drew hx2)) (by rw [<-P3 (k:=k) HQ.out];simp only [ZZ,aJ,List.flatten_nil,Z1,Z4] at hlen ⊢;omega)).mono ?_;rintro e u3 ⟨rfl,hb3,hx3⟩;rw [<-P3 (k:=k) HQ.out] at hb3;refine hK.out _ _ ((hbl.drew.ext hx2).fb hx3 (by omega) (by decide)).node (fun hHeld=>?_);clear hK K hHeld;(try simp only [Act.put,List.getElem_toArray,List.getElem_cons_zero,Z5,List.setIfInBounds_toArray,Z7,List.set_cons_succ]);(refine wpAnyH_done (by kernel_rfl) ?_ _)
     go_wp2_with fail
     go_meet
     refine ⟨?_,(Fb.of_ext (cF (cB _).drew hx2) hle1).trans hx3⟩
     exact hb3
   . have HQ:=Z2 hq;clear hq
     refine wp_region_held_drew (S:=fun w'=>w'.cell? ⟨pl,0,none⟩=some (.int .u8 xk)/\w'.cell? ⟨pl,1,none⟩=some (.int .i64 xn)/\w'.cell? ⟨pl,2,none⟩=some (str xs)/\w'.cell? ⟨pl,3,none⟩=some (.slice xa xl.length xc)) (by kernel_rfl) ⟨l0,l1,l2,l3⟩ (fun hHeld=>?_)
     ((refine wpAnyH_take (i:=0) (oi:=_) (v:=?v0_6) rfl (by kernel_rfl) (by kernel_rfl) (by kernel_rfl) (fun _ _ _ h=>h) (Z6 ⟨by rfl,?y0_6⟩) ‹_› ?r0_6);(case y0_6=>(intro w hSw;(try dsimp only at hSw);go_simp;try (with_reducible rfl)));(try simp only [Act.put,List.getElem_toArray,List.getElem_cons_zero,Z5,List.setIfInBounds_toArray,Z7,List.set_cons_succ]))
     ((refine wpAnyH_take (i:=1) (oi:=_) (v:=?v1_7) rfl (by kernel_rfl) (by kernel_rfl) (by kernel_rfl) (fun _ _ _ h=>h) (Z6 ⟨by rfl,?y1_7⟩) ‹_› ?r1_7);(case y1_7=>(intro w hSw;(try dsimp only at hSw);go_simp;try (with_reducible rfl)));(try simp only [Act.put,List.getElem_toArray,List.getElem_cons_zero,Z5,List.setIfInBounds_toArray,Z7,List.set_cons_succ]))
     ((refine wpAnyH_take (i:=2) (oi:=_) (v:=?v2_8) rfl (by kernel_rfl) (by kernel_rfl) (by kernel_rfl) (fun _ _ _ h=>h) (Z6 ⟨by rfl,?y2_8⟩) ‹_› ?r2_8);(case y2_8=>(intro w hSw;(try dsimp only at hSw);go_simp;try (with_reducible rfl)));(try simp only [Act.put,List.getElem_toArray,List.getElem_cons_zero,Z5,List.setIfInBounds_toArray,Z7,List.set_cons_succ]))
     ((refine wpAnyH_ready (rs:=[3]) (by kernel_rfl) (by simp) ?_);(refine AllReadyH.cons (o:=_) rfl (fun K hK=>?_) AllReadyH.nil);go_simp)
     refine (Hp _ _ _ _ _ _ _).mono ?_;rintro e u2 ⟨rfl,hx2⟩;rw [HQ.out];refine hK.out _ _ ⟨hx2.keep l0,hx2.keep l1,hx2.keep l2,hx2.keep l3⟩ (fun hHeld=>?_);clear hK K;(try simp only [Act.put,List.getElem_toArray,List.getElem_cons_zero,Z5,List.setIfInBounds_toArray,Z7,List.set_cons_succ])
     ((refine wpAnyH_take (i:=4) (oi:=_) (v:=?v4_9) rfl (by kernel_rfl) (by kernel_rfl) (by kernel_rfl) (fun _ _ _ h=>h) (Z6 ⟨by rfl,?y4_9⟩) ‹_› ?r4_9);(case y4_9=>(intro w hSw;(try dsimp only at hSw);go_simp;try (with_reducible rfl)));(try simp only [Act.put,List.getElem_toArray,List.getElem_cons_zero,Z5,List.setIfInBounds_toArray,Z7,List.set_cons_succ]))
     have hbk:8<=xk/\xk<=23:=by have:=HQ.out;simp [Fu] at this;exact this
     obtain ⟨hbk0,hbk1⟩:=hbk
     ((refine wpAnyH_take (i:=5) (oi:=_) (v:=?v5_10) rfl (by kernel_rfl) (by kernel_rfl) (by kernel_rfl) (fun _ _ _ h=>h) (Z6 ⟨by rfl,?y5_10⟩) ‹_› ?r5_10);(case y5_10=>(intro w hSw;(try dsimp only at hSw);go_simp;try (with_reducible rfl)));(try simp only [Act.put,List.getElem_toArray,List.getElem_cons_zero,Z5,List.setIfInBounds_toArray,Z7,List.set_cons_succ]))
     ((refine wpAnyH_take (i:=6) (oi:=_) (v:=?v6_11) rfl (by kernel_rfl) (by kernel_rfl) (by kernel_rfl) (fun _ _ _ h=>h) (Z6 ⟨by rfl,?y6_11⟩) ‹_› ?r6_11);(case y6_11=>(intro w hSw;(try dsimp only at hSw);go_simp;try (with_reducible rfl)));(try simp only [Act.put,List.getElem_toArray,List.getElem_cons_zero,Z5,List.setIfInBounds_toArray,Z7,List.set_cons_succ]))
     ((refine wpAnyH_take (i:=8) (oi:=_) (v:=?v8_12) rfl (by kernel_rfl) (by kernel_rfl) (by kernel_rfl) (fun _ _ _ h=>h) (Z6 ⟨by rfl,?y8_12⟩) ‹_› ?r8_12);(case y8_12=>(intro w hSw;(try dsimp only at hSw);go_simp;try (with_reducible rfl)));(try simp only [Act.put,List.getElem_toArray,List.getElem_cons_zero,Z5,List.setIfInBounds_toArray,Z7,List.set_cons_succ]))
     ((refine wpAnyH_ready (rs:=[7]) (by kernel_rfl) (by simp) ?_);(refine AllReadyH.cons (o:=_) rfl (fun K hK=>?_) AllReadyH.nil);go_simp)
     refine (Du _ _ (by omega) (by omega)).mono ?_;rintro e u' ⟨rfl,rfl⟩;refine hK.out _ _ ⟨hx2.keep l0,hx2.keep l1,hx2.keep l2,hx2.keep l3⟩ (fun hHeld=>?_);clear hK K;(try simp only [Act.put,List.getElem_toArray,List.getElem_cons_zero,Z5,List.setIfInBounds_toArray,Z7,List.set_cons_succ])
     ((refine wpAnyH_take (i:=9) (oi:=_) (v:=?v9_13) rfl (by kernel_rfl) (by kernel_rfl) (by kernel_rfl) (fun _ _ _ h=>h) (Z6 ⟨by rfl,?y9_13⟩) ‹_› ?r9_13);(case y9_13=>(intro w hSw;(try dsimp only at hSw);go_simp;try (with_reducible rfl)));(try simp only [Act.put,List.getElem_toArray,List.getElem_cons_zero,Z5,List.setIfInBounds_toArray,Z7,List.set_cons_succ]))
     ((refine wpAnyH_take (i:=10) (oi:=_) (v:=?v10_14) rfl (by kernel_rfl) (by kernel_rfl) (by kernel_rfl) (fun _ _ _ h=>h) (Z6 ⟨by rfl,?y10_14⟩) ‹_› ?r10_14);(case y10_14=>(intro w hSw;(try dsimp only at hSw);go_simp;try (with_reducible rfl)));(try simp only [Act.put,List.getElem_toArray,List.getElem_cons_zero,Z5,List.setIfInBounds_toArray,Z7,List.set_cons_succ]))
     ((refine wpAnyH_ready (rs:=[11]) (by kernel_rfl) (by simp) ?_);(refine AllReadyH.cons (o:=_) rfl (fun K hK=>?_) AllReadyH.nil);go_simp)
     refine (Gp (.mk xk xn xs xl) HX.out B b _ _ _ xa xc (hb0.drew.ext hx2) ((ht1.ext (cB _).drew (by omega)).ext hx2 (by show _<=W.heap.size;omega)) hB (hxs1.ext (cF (cB _).drew hx2)) (by rw [<-P5 (k:=k) HQ.out (decide_eq_true_iff)];simp only [ZZ,aJ,List.flatten_nil,Z1,Z4] at hlen ⊢;omega)).mono ?_;rintro e u3 ⟨rfl,hb3,hx3⟩;rw [<-P5 (k:=k) HQ.out (decide_eq_true_iff)] at hb3;refine hK.out _ _ ((hbl.drew.ext hx2).fb hx3 (by omega) (by decide)).node (fun hHeld=>?_);clear hK K hHeld;(try simp only [Act.put,List.getElem_toArray,List.getElem_cons_zero,Z5,List.setIfInBounds_toArray,Z7,List.set_cons_succ]);(refine wpAnyH_done (by kernel_rfl) ?_ _)
     go_wp2_with fail
     go_meet
     refine ⟨?_,(Fb.of_ext (cF (cB _).drew hx2) hle1).trans hx3⟩
     exact hb3
  case rest=>
   obtain ⟨u3,hu3⟩ : ∃u3:wD,u3=wc:=⟨wc,rfl⟩;subst hu3;obtain ⟨hb3,hxx3⟩:=hcut
   have hlen2:t.length+(wrap (Nd.mk xk xn xs xl).text (GC xk k)).length+(1+(CZ k).length+1)+(wrap (Nd.mk yk yn ys yl).text (G5 yk k)).length<=140737488355328:=by omega
   clear hlen;obtain ⟨c0,c1,c2,c3⟩:=(hbn.fb hxx3 (by omega) (by decide)).node;have hbr3:=hbr.fb hxx3 (by omega) (by decide);have ht3:=ht1.fb hxx3 hB;have hys3:=hys1.fb hxx3;have hle3:=hb3.le;clear hbl hbn hxs1 l0 l1 l2 l3 ht1 hys1 hbr hb0
   go_wp2_with fail
   refine (FG _ _ (by omega) (by omega) ht3).mono ?_;rintro e u4 ⟨rfl,rfl⟩;simp only
   go_wp2_with fail
   refine (AO B b u3.heap.size 3 _ [[32],CZ k,[32]] _ (hb3.alloc _) (Box.new' _ _ (by simp)) (by simp) (by simp only [ZZ,aJ,List.flatten_nil,Z1,Z4];omega)).mono ?_;rintro e u4 ⟨rfl,hb4,hx4⟩;have hxx4:Fb B b u3 u4:=Fb.trans (Fb.of_ext (by refine cD ?_ _;exact cB _) hle3) hx4;have hbr4:=hbr3.fb hxx4 (by omega) (by decide);obtain ⟨r0,r1,r2,r3⟩:=hbr4.node;have ht4:=ht3.fb hxx4 hB;have hys4:=hys3.fb hxx4;have hle4:=hb4.le;clear hbr3 ht3 hys3 c0 c1 c2 c3 hx4;simp only
   go_wp2_with fail
   cases hq:Fu yk
   . have HR:=Z2 hq;clear hq
     refine wp_region_held_drew (S:=fun w'=>w'.cell? ⟨pr,0,none⟩=some (.int .u8 yk)/\w'.cell? ⟨pr,1,none⟩=some (.int .i64 yn)/\w'.cell? ⟨pr,2,none⟩=some (str ys)/\w'.cell? ⟨pr,3,none⟩=some (.slice ya yl.length yc)) (by kernel_rfl) ⟨r0,r1,r2,r3⟩ (fun hHeld=>?_)
     ((refine wpAnyH_take (i:=0) (oi:=_) (v:=?v0_15) rfl (by kernel_rfl) (by kernel_rfl) (by kernel_rfl) (fun _ _ _ h=>h) (Z6 ⟨by rfl,?y0_15⟩) ‹_› ?r0_15);(case y0_15=>(intro w hSw;(try dsimp only at hSw);go_simp;try (with_reducible rfl)));(try simp only [Act.put,List.getElem_toArray,List.getElem_cons_zero,Z5,List.setIfInBounds_toArray,Z7,List.set_cons_succ]))
     ((refine wpAnyH_take (i:=1) (oi:=_) (v:=?v1_16) rfl (by kernel_rfl) (by kernel_rfl) (by kernel_rfl) (fun _ _ _ h=>h) (Z6 ⟨by rfl,?y1_16⟩) ‹_› ?r1_16);(case y1_16=>(intro w hSw;(try dsimp only at hSw);go_simp;try (with_reducible rfl)));(try simp only [Act.put,List.getElem_toArray,List.getElem_cons_zero,Z5,List.setIfInBounds_toArray,Z7,List.set_cons_succ]))
     ((refine wpAnyH_take (i:=2) (oi:=_) (v:=?v2_17) rfl (by kernel_rfl) (by kernel_rfl) (by kernel_rfl) (fun _ _ _ h=>h) (Z6 ⟨by rfl,?y2_17⟩) ‹_› ?r2_17);(case y2_17=>(intro w hSw;(try dsimp only at hSw);go_simp;try (with_reducible rfl)));(try simp only [Act.put,List.getElem_toArray,List.getElem_cons_zero,Z5,List.setIfInBounds_toArray,Z7,List.set_cons_succ]))
     ((refine wpAnyH_ready (rs:=[3]) (by kernel_rfl) (by simp) ?_);(refine AllReadyH.cons (o:=_) rfl (fun K hK=>?_) AllReadyH.nil);go_simp)
     refine (Hp _ _ _ _ _ _ _).mono ?_;rintro e u5 ⟨rfl,hx5⟩;rw [HR.out];refine hK.out _ _ ⟨hx5.keep r0,hx5.keep r1,hx5.keep r2,hx5.keep r3⟩ (fun hHeld=>?_);clear hK K;(try simp only [Act.put,List.getElem_toArray,List.getElem_cons_zero,Z5,List.setIfInBounds_toArray,Z7,List.set_cons_succ])
     ((refine wpAnyH_take (i:=4) (oi:=_) (v:=?v4_18) rfl (by kernel_rfl) (by kernel_rfl) (by kernel_rfl) (fun _ _ _ h=>h) (Z6 ⟨by rfl,?y4_18⟩) ‹_› ?r4_18);(case y4_18=>(intro w hSw;(try dsimp only at hSw);go_simp;try (with_reducible rfl)));(try simp only [Act.put,List.getElem_toArray,List.getElem_cons_zero,Z5,List.setIfInBounds_toArray,Z7,List.set_cons_succ]))
     ((refine wpAnyH_take (i:=5) (oi:=_) (v:=undef) rfl (by kernel_rfl) (by kernel_rfl) (by kernel_rfl) (fun _ _ _ h=>h) (aA ⟨by rfl,rfl⟩) ‹_› ?_);(try simp only [Act.put,List.getElem_toArray,List.getElem_cons_zero,Z5,List.setIfInBounds_toArray,Z7,List.set_cons_succ]))
     ((refine wpAnyH_take (i:=6) (oi:=_) (v:=undef) rfl (by kernel_rfl) (by kernel_rfl) (by kernel_rfl) (fun _ _ _ h=>h) (aA ⟨by rfl,rfl⟩) ‹_› ?_);(try simp only [Act.put,List.getElem_toArray,List.getElem_cons_zero,Z5,List.setIfInBounds_toArray,Z7,List.set_cons_succ]))
     ((refine wpAnyH_take (i:=7) (oi:=_) (v:=undef) rfl (by kernel_rfl) (by kernel_rfl) (by kernel_rfl) (fun _ _ _ h=>h) (aA ⟨by rfl,rfl⟩) ‹_› ?_);(try simp only [Act.put,List.getElem_toArray,List.getElem_cons_zero,Z5,List.setIfInBounds_toArray,Z7,List.set_cons_succ]))
     ((refine wpAnyH_take (i:=8) (oi:=_) (v:=undef) rfl (by kernel_rfl) (by kernel_rfl) (by kernel_rfl) (fun _ _ _ h=>h) (aA ⟨by rfl,rfl⟩) ‹_› ?_);(try simp only [Act.put,List.getElem_toArray,List.getElem_cons_zero,Z5,List.setIfInBounds_toArray,Z7,List.set_cons_succ]))
     ((refine wpAnyH_take (i:=9) (oi:=_) (v:=undef) rfl (by kernel_rfl) (by kernel_rfl) (by kernel_rfl) (fun _ _ _ h=>h) (aA ⟨by rfl,rfl⟩) ‹_› ?_);(try simp only [Act.put,List.getElem_toArray,List.getElem_cons_zero,Z5,List.setIfInBounds_toArray,Z7,List.set_cons_succ]))
     ((refine wpAnyH_take (i:=10) (oi:=_) (v:=?v10_19) rfl (by kernel_rfl) (by kernel_rfl) (by kernel_rfl) (fun _ _ _ h=>h) (Z6 ⟨by rfl,?y10_19⟩) ‹_› ?r10_19);(case y10_19=>(intro w hSw;(try dsimp only at hSw);go_simp;try (with_reducible rfl)));(try simp only [Act.put,List.getElem_toArray,List.getElem_cons_zero,Z5,List.setIfInBounds_toArray,Z7,List.set_cons_succ]))
     ((refine wpAnyH_ready (rs:=[11]) (by kernel_rfl) (by simp) ?_);(refine AllReadyH.cons (o:=_) rfl (fun K hK=>?_) AllReadyH.nil);go_simp)
     refine (Gp (.mk yk yn ys yl) HY.out B b _ _ _ ya yc (hb4.drew.ext hx5) ((ht4.ext (cB _).drew (by omega)).ext hx5 (by show _<=u4.heap.size;omega)) hB (hys4.ext (cF (cB _).drew hx5)) (by rw [<-P4 (k:=k) HR.out];simp only [ZZ,aJ,List.flatten_nil,Z1,Z4] at hlen2 ⊢;omega)).mono ?_;rintro e u6 ⟨rfl,hb6,hx6⟩;rw [<-P4 (k:=k) HR.out] at hb6;refine hK.out _ _ ((hbr4.drew.ext hx5).fb hx6 (by omega) (by decide)).node (fun hHeld=>?_);clear hK K hHeld;(try simp only [Act.put,List.getElem_toArray,List.getElem_cons_zero,Z5,List.setIfInBounds_toArray,Z7,List.set_cons_succ]);(refine wpAnyH_done (by kernel_rfl) ?_ _)
     go_wp2_with fail
     go_end0
     refine ⟨rfl,?_,(hxW1.trans hxx3).trans (hxx4.trans ((Fb.of_ext (cF (cB _).drew hx5) hle4).trans hx6))⟩
     simpa using hb6
   . have HR:=Z2 hq;clear hq
     refine wp_region_held_drew (S:=fun w'=>w'.cell? ⟨pr,0,none⟩=some (.int .u8 yk)/\w'.cell? ⟨pr,1,none⟩=some (.int .i64 yn)/\w'.cell? ⟨pr,2,none⟩=some (str ys)/\w'.cell? ⟨pr,3,none⟩=some (.slice ya yl.length yc)) (by kernel_rfl) ⟨r0,r1,r2,r3⟩ (fun hHeld=>?_)
     ((refine wpAnyH_take (i:=0) (oi:=_) (v:=?v0_20) rfl (by kernel_rfl) (by kernel_rfl) (by kernel_rfl) (fun _ _ _ h=>h) (Z6 ⟨by rfl,?y0_20⟩) ‹_› ?r0_20);(case y0_20=>(intro w hSw;(try dsimp only at hSw);go_simp;try (with_reducible rfl)));(try simp only [Act.put,List.getElem_toArray,List.getElem_cons_zero,Z5,List.setIfInBounds_toArray,Z7,List.set_cons_succ]))
     ((refine wpAnyH_take (i:=1) (oi:=_) (v:=?v1_21) rfl (by kernel_rfl) (by kernel_rfl) (by kernel_rfl) (fun _ _ _ h=>h) (Z6 ⟨by rfl,?y1_21⟩) ‹_› ?r1_21);(case y1_21=>(intro w hSw;(try dsimp only at hSw);go_simp;try (with_reducible rfl)));(try simp only [Act.put,List.getElem_toArray,List.getElem_cons_zero,Z5,List.setIfInBounds_toArray,Z7,List.set_cons_succ]))
     ((refine wpAnyH_take (i:=2) (oi:=_) (v:=?v2_22) rfl (by kernel_rfl) (by kernel_rfl) (by kernel_rfl) (fun _ _ _ h=>h) (Z6 ⟨by rfl,?y2_22⟩) ‹_› ?r2_22);(case y2_22=>(intro w hSw;(try dsimp only at hSw);go_simp;try (with_reducible rfl)));(try simp only [Act.put,List.getElem_toArray,List.getElem_cons_zero,Z5,List.setIfInBounds_toArray,Z7,List.set_cons_succ]))
     ((refine wpAnyH_ready (rs:=[3]) (by kernel_rfl) (by simp) ?_);(refine AllReadyH.cons (o:=_) rfl (fun K hK=>?_) AllReadyH.nil);go_simp)
     refine (Hp _ _ _ _ _ _ _).mono ?_;rintro e u5 ⟨rfl,hx5⟩;rw [HR.out];refine hK.out _ _ ⟨hx5.keep r0,hx5.keep r1,hx5.keep r2,hx5.keep r3⟩ (fun hHeld=>?_);clear hK K;(try simp only [Act.put,List.getElem_toArray,List.getElem_cons_zero,Z5,List.setIfInBounds_toArray,Z7,List.set_cons_succ])
     ((refine wpAnyH_take (i:=4) (oi:=_) (v:=?v4_23) rfl (by kernel_rfl) (by kernel_rfl) (by kernel_rfl) (fun _ _ _ h=>h) (Z6 ⟨by rfl,?y4_23⟩) ‹_› ?r4_23);(case y4_23=>(intro w hSw;(try dsimp only at hSw);go_simp;try (with_reducible rfl)));(try simp only [Act.put,List.getElem_toArray,List.getElem_cons_zero,Z5,List.setIfInBounds_toArray,Z7,List.set_cons_succ]))
     have hbk:8<=yk/\yk<=23:=by have:=HR.out;simp [Fu] at this;exact this
     obtain ⟨hbk0,hbk1⟩:=hbk
     ((refine wpAnyH_take (i:=5) (oi:=_) (v:=?v5_24) rfl (by kernel_rfl) (by kernel_rfl) (by kernel_rfl) (fun _ _ _ h=>h) (Z6 ⟨by rfl,?y5_24⟩) ‹_› ?r5_24);(case y5_24=>(intro w hSw;(try dsimp only at hSw);go_simp;try (with_reducible rfl)));(try simp only [Act.put,List.getElem_toArray,List.getElem_cons_zero,Z5,List.setIfInBounds_toArray,Z7,List.set_cons_succ]))
     ((refine wpAnyH_take (i:=6) (oi:=_) (v:=?v6_25) rfl (by kernel_rfl) (by kernel_rfl) (by kernel_rfl) (fun _ _ _ h=>h) (Z6 ⟨by rfl,?y6_25⟩) ‹_› ?r6_25);(case y6_25=>(intro w hSw;(try dsimp only at hSw);go_simp;try (with_reducible rfl)));(try simp only [Act.put,List.getElem_toArray,List.getElem_cons_zero,Z5,List.setIfInBounds_toArray,Z7,List.set_cons_succ]))
     ((refine wpAnyH_take (i:=8) (oi:=_) (v:=?v8_26) rfl (by kernel_rfl) (by kernel_rfl) (by kernel_rfl) (fun _ _ _ h=>h) (Z6 ⟨by rfl,?y8_26⟩) ‹_› ?r8_26);(case y8_26=>(intro w hSw;(try dsimp only at hSw);go_simp;try (with_reducible rfl)));(try simp only [Act.put,List.getElem_toArray,List.getElem_cons_zero,Z5,List.setIfInBounds_toArray,Z7,List.set_cons_succ]))
     ((refine wpAnyH_ready (rs:=[7]) (by kernel_rfl) (by simp) ?_);(refine AllReadyH.cons (o:=_) rfl (fun K hK=>?_) AllReadyH.nil);go_simp)
     refine (Du _ _ (by omega) (by omega)).mono ?_;rintro e u' ⟨rfl,rfl⟩;refine hK.out _ _ ⟨hx5.keep r0,hx5.keep r1,hx5.keep r2,hx5.keep r3⟩ (fun hHeld=>?_);clear hK K;(try simp only [Act.put,List.getElem_toArray,List.getElem_cons_zero,Z5,List.setIfInBounds_toArray,Z7,List.set_cons_succ])
     ((refine wpAnyH_take (i:=9) (oi:=_) (v:=?v9_27) rfl (by kernel_rfl) (by kernel_rfl) (by kernel_rfl) (fun _ _ _ h=>h) (Z6 ⟨by rfl,?y9_27⟩) ‹_› ?r9_27);(case y9_27=>(intro w hSw;(try dsimp only at hSw);go_simp;try (with_reducible rfl)));(try simp only [Act.put,List.getElem_toArray,List.getElem_cons_zero,Z5,List.setIfInBounds_toArray,Z7,List.set_cons_succ]))
     ((refine wpAnyH_take (i:=10) (oi:=_) (v:=?v10_28) rfl (by kernel_rfl) (by kernel_rfl) (by kernel_rfl) (fun _ _ _ h=>h) (Z6 ⟨by rfl,?y10_28⟩) ‹_› ?r10_28);(case y10_28=>(intro w hSw;(try dsimp only at hSw);go_simp;try (with_reducible rfl)));(try simp only [Act.put,List.getElem_toArray,List.getElem_cons_zero,Z5,List.setIfInBounds_toArray,Z7,List.set_cons_succ]))
     ((refine wpAnyH_ready (rs:=[11]) (by kernel_rfl) (by simp) ?_);(refine AllReadyH.cons (o:=_) rfl (fun K hK=>?_) AllReadyH.nil);go_simp)
     refine (Gp (.mk yk yn ys yl) HY.out B b _ _ _ ya yc (hb4.drew.ext hx5) ((ht4.ext (cB _).drew (by omega)).ext hx5 (by show _<=u4.heap.size;omega)) hB (hys4.ext (cF (cB _).drew hx5)) (by rw [<-P6 (k:=k) HR.out (decide_eq_true_iff)];simp only [ZZ,aJ,List.flatten_nil,Z1,Z4] at hlen2 ⊢;omega)).mono ?_;rintro e u6 ⟨rfl,hb6,hx6⟩;rw [<-P6 (k:=k) HR.out (decide_eq_true_iff)] at hb6;refine hK.out _ _ ((hbr4.drew.ext hx5).fb hx6 (by omega) (by decide)).node (fun hHeld=>?_);clear hK K hHeld;(try simp only [Act.put,List.getElem_toArray,List.getElem_cons_zero,Z5,List.setIfInBounds_toArray,Z7,List.set_cons_succ]);(refine wpAnyH_done (by kernel_rfl) ?_ _)
     go_wp2_with fail
     go_end0
     refine ⟨rfl,?_,(hxW1.trans hxx3).trans (hxx4.trans ((Fb.of_ext (cF (cB _).drew hx5) hle4).trans hx6))⟩
     simpa using hb6
def Vk (N:Nat) : ∀t:Nd,t.size<N->t.wf->t.isExpr=true->Bw 192 cW t:=by
 induction N with
 | zero=>intro t h;omega
 | succ N O=>
  rintro ⟨k,n,s,l⟩ U L f;simp only [Nd.wf,cE] at L U;obtain ⟨Z,aa,V,X,ab,ac,E⟩:=L;by_cases Y:k=1
  . subst Y;exact YD n s l V X
  by_cases c2:k=2
  . subst c2;exact YE n s l
  by_cases c4:k=4
  . subst c4;exact YF n s l
  by_cases c5:k=5
  . subst c5;exact YG n s l
  rw [Nd.isExpr.eq_def] at f;simp only [Y,c2,c4,c5,or_self,if_false,false_or] at f;by_cases c3:k=3
  . subst c3;rcases l with _|⟨x,_|⟨y,l⟩⟩
    . simp at f
    . simp at f;simp only [Ak,A6] at U E;exact YH n s x (O x Aa E.1 f.2)
    . simp at f
  simp only [c3,if_false] at f;by_cases M:k=6\/k=7
  . rcases l with _|⟨x,_|⟨y,l⟩⟩
    . simp [M] at f
    . simp [M] at f;simp only [Ak,A6] at U E;exact W9 k n s x M (O x Aa E.1 f.2)
    . simp [M] at f
  simp only [M,if_false] at f;by_cases F:8<=k/\k<=23
  . rcases l with _|⟨x,_|⟨y,_|⟨z,l⟩⟩⟩
    . simp [F] at f
    . simp [F] at f
    . simp [F] at f;simp only [Ak,A6] at U E;exact Vj k n s x y F.1 F.2 (O x Aa E.1 f.2.1) (O y Aa E.2.1 f.2.2)
    . simp [F] at f
  . simp [F] at f
def CE (t:Nd) (f:t.wf) (h:t.isExpr=true):Bw 192 cW t:=Vk (t.size+1) t Aa f h
def CJ {s:lB} (h:Bc s=true):s.length<=16:=by
 simp only [Bc,Z3,decide_eq_true_eq] at h;exact h.1.1.1.2
def LT (s:lB) (q:Bool):(wrap s q).length<=s.length+2:=by
 unfold wrap;split<;>simp
def LU (k:Int):(CZ k).length<=2:=by
 by_cases h:k.toNat<43
 . have key : ∀i:Fin 43,(symbols.getD i.val []).length<=2:=by decide
   exact key ⟨k.toNat,h⟩
 . unfold CZ;rw [bT,aN (show 43<=k.toNat by omega)];simp
def text_len (N:Nat) : ∀t:Nd,t.size<N->t.wf->t.isExpr=true->t.text.length<=30*t.size:=by
 induction N with
 | zero=>intro t h;omega
 | succ N L=>
  rintro ⟨k,n,s,l⟩ M F f;simp only [Nd.wf,cE] at F M ⊢;obtain ⟨aa,ab,O,U,ac,ad,E⟩:=F;rw [Nd.isExpr.eq_def] at f;rw [Nd.text.eq_def];simp only [] at f ⊢;by_cases V:k=1
  . have:=Lib.itoa_length_le n O U;rw [AX V];omega
  rw [AC V] at f ⊢;by_cases c2:k=2\/k=4\/k=5
  . rw [AX c2] at f;simp only [named,Z3] at f;have:=CJ f.1.2;rcases c2 with rfl|rfl|rfl
    . simp;omega
    . simp;omega
    . simp;omega
  rw [AC c2] at f;have e2 : ¬k=2:=by omega
  have e4 : ¬k=4:=by omega
  have e5 : ¬k=5:=by omega
  rw [AC e2];by_cases c3:k=3
  . rw [AX c3] at f ⊢;rcases l with _|⟨x,_|⟨y,l⟩⟩
    . simp at f
    . simp only [named,Z3] at f;have:=CJ f.1.2;simp only [Ak,A6] at M E ⊢;have X:=L x Aa E.1 f.2;simp;omega
    . simp at f
  rw [AC c3] at f ⊢;rw [AC e4,AC e5];have ae:=LU k;by_cases Y:k=6\/k=7
  . rw [AX Y] at f ⊢;rcases l with _|⟨x,_|⟨y,l⟩⟩
    . simp at f
    . simp only [Z3] at f;simp only [Ak,A6] at M E ⊢;have X:=L x Aa E.1 f.2;have hw:=LT x.text (Fu x.kind);simp only [ZZ];omega
    . simp at f
  rw [AC Y] at f ⊢;by_cases Z:8<=k/\k<=23
  . rw [AX Z] at f;rcases l with _|⟨x,_|⟨y,_|⟨z,l⟩⟩⟩
    . simp at f
    . simp at f
    . simp only [Z3] at f;simp only [Ak,A6] at M E ⊢;have X:=L x Aa E.1 f.2.1;have hy:=L y Aa E.2.1 f.2.2;have hw:=LT x.text (GC x.kind k);have hv:=LT y.text (G5 y.kind k);simp only [ZZ,Z1,Z4];omega
    . simp at f
  . rw [AC Z] at f;simp at f
def DJ (k:Int) (w:wD) (h0:0<=k) (h1:k<=255):Calls prog 191 #[.int .u8 k] w fun e w'=>e = .returned (str (Bh k))/\w=w':=by
 go_enter func191,ntmps191
 go_wp2_with fail
 all_goals go_ret
 all_goals (refine ⟨Wl ?_,rfl⟩;(try simp only [beq_iff_eq,beq_eq_false_iff_ne,ne_eq,bne_iff_ne,decide_eq_true_eq,decide_eq_false_iff_not] at *);first|(subst k;rfl)|(unfold Bh;(repeat' split)<;>first|rfl|omega))
def Gq (k:Int) (w:wD) (h0:0<=k) (h1:k<=255) (ht:Tabs w):Calls prog 193 #[.int .u8 k] w fun e w'=>e = .returned (str (C4 k))/\w=w':=by
 have HT:=Z2 ht;clear ht
 by_cases h56:k=56
 . subst h56
   go_enter func193,ntmps193
   go_wp2_with fail
   go_ret
   exact ⟨rfl,rfl⟩
 by_cases h43:k=43
 . subst h43
   go_enter func193,ntmps193
   go_wp2_with fail
   go_ret
   exact ⟨rfl,rfl⟩
 have hu:C4 k=CZ k:=by unfold C4;rw [AC h56,AC h43]
 rw [hu]
 have d1:(k==56)=false:=by simpa using h56
 have d2:(k==43)=false:=by simpa using h43
 clear hu h56 h43
 go_enter func193,ntmps193
 go_wp2_with (go_at_call 160;refine (FG _ _ h0 h1 HT.out).mono ?_;rintro e w1 ⟨rfl,rfl⟩)
 go_ret
 exact ⟨rfl,rfl⟩
def P7 (d:Nat):(Dq d).length=d:=by simp [Dq]
def Hq (t:Nd) (d:Nat):(B3 t d).length=(t.linesT (d+1)).length+d+4:=by
 simp [B3,P7];omega
attribute [local simp] P7 Hq
def Bv (f:FuncId) (Xv:Nd->Nat->lB) (t:Nd):Prop:=
 ∀(B b:Nat) (l:lB) (w:wD) (a:oA) (c d:Nat),Bld B b l w->Tabs w->prog.globals.size<=B->t.sits (· < B) w a->d+t.size<=1000000->(l++Xv t d).length<=140737488355328 ->
  Calls prog f #[.pointer (some ⟨b,0,none⟩),t.val a c,.int .i64 d] w fun e w'=>e = .returned (.tuple #[])/\Bld B b (l++Xv t d) w'/\Fb B b w w'
def Jj {S:nP} {w:wD} {x:Nd} {r:List Nd} {f E:Nat} (h:rowSits S w (x::r) (some ⟨f,E,none⟩)) :
 ∃xa xc,w.cell? ⟨f,E,none⟩=some (.int .u8 x.kind)/\w.cell? ⟨f,E+1,none⟩=some (.int .i64 x.num)/\w.cell? ⟨f,E+2,none⟩=some (str x.name)/\w.cell? ⟨f,E+3,none⟩=some (.slice xa x.kids.length xc)/\x.sits S w xa:=by
 obtain ⟨b,o,L,c,F,V,h1,M,N,O,U⟩:=AP h (i:=0) (t:=x) rfl;simp only [Z9,bX] at F;obtain ⟨rfl,rfl,-⟩:=F;exact ⟨L,c,by simpa using h1,by simpa using M,by simpa using N,by simpa using O,U⟩
def LV {S:nP} {w:wD} {O x:Nd} {r:List Nd} {f E:Nat} (h:rowSits S w (O::x::r) (some ⟨f,E,none⟩)) :
 ∃xa xc,w.cell? ⟨f,E+4,none⟩=some (.int .u8 x.kind)/\w.cell? ⟨f,E+4+1,none⟩=some (.int .i64 x.num)/\w.cell? ⟨f,E+4+2,none⟩=some (str x.name)/\w.cell? ⟨f,E+4+3,none⟩=some (.slice xa x.kids.length xc)/\w.cell? ⟨f,E+5,none⟩=some (.int .i64 x.num)/\w.cell? ⟨f,E+6,none⟩=some (str x.name)/\w.cell? ⟨f,E+7,none⟩=some (.slice xa x.kids.length xc)/\x.sits S w xa:=by
 obtain ⟨b,o,U,c,F,X,h1,L,M,N,V⟩:=AP h (i:=1) (t:=x) rfl;simp only [Z9,bX] at F;obtain ⟨rfl,rfl,-⟩:=F;exact ⟨U,c,by simpa using h1,by simpa using L,by simpa using M,by simpa using N,by simpa using L,by simpa using M,by simpa using N,V⟩
def X8 {S:nP} {w:wD} {O U x:Nd} {r:List Nd} {f E:Nat} (h:rowSits S w (O::U::x::r) (some ⟨f,E,none⟩)) :
 ∃xa xc,w.cell? ⟨f,E+8,none⟩=some (.int .u8 x.kind)/\w.cell? ⟨f,E+8+1,none⟩=some (.int .i64 x.num)/\w.cell? ⟨f,E+8+2,none⟩=some (str x.name)/\w.cell? ⟨f,E+8+3,none⟩=some (.slice xa x.kids.length xc)/\w.cell? ⟨f,E+9,none⟩=some (.int .i64 x.num)/\w.cell? ⟨f,E+10,none⟩=some (str x.name)/\w.cell? ⟨f,E+11,none⟩=some (.slice xa x.kids.length xc)/\x.sits S w xa:=by
 obtain ⟨b,o,V,c,F,Y,h1,L,M,N,X⟩:=AP h (i:=2) (t:=x) rfl;simp only [Z9,bX] at F;obtain ⟨rfl,rfl,-⟩:=F;exact ⟨V,c,by simpa using h1,by simpa using L,by simpa using M,by simpa using N,by simpa using L,by simpa using M,by simpa using N,X⟩
def ZB {S:nP} {w:wD} {O U V x:Nd} {r:List Nd} {f E:Nat} (h:rowSits S w (O::U::V::x::r) (some ⟨f,E,none⟩)) :
 ∃xa xc,w.cell? ⟨f,E+12,none⟩=some (.int .u8 x.kind)/\w.cell? ⟨f,E+12+1,none⟩=some (.int .i64 x.num)/\w.cell? ⟨f,E+12+2,none⟩=some (str x.name)/\w.cell? ⟨f,E+12+3,none⟩=some (.slice xa x.kids.length xc)/\w.cell? ⟨f,E+13,none⟩=some (.int .i64 x.num)/\w.cell? ⟨f,E+14,none⟩=some (str x.name)/\w.cell? ⟨f,E+15,none⟩=some (.slice xa x.kids.length xc)/\x.sits S w xa:=by
 obtain ⟨b,o,X,c,F,Z,h1,L,M,N,Y⟩:=AP h (i:=3) (t:=x) rfl;simp only [Z9,bX] at F;obtain ⟨rfl,rfl,-⟩:=F;exact ⟨X,c,by simpa using h1,by simpa using L,by simpa using M,by simpa using N,by simpa using L,by simpa using M,by simpa using N,Y⟩
def Gr (y:Nd) (hy:Bv 101 Nd.linesT y) :
 ∀(B b:Nat) (t:lB) (w:wD) (a:oA) (c d:Nat),Bld B b t w->Tabs w->prog.globals.size<=B->y.sits (· < B) w a->d+1+y.size<=1000000->(t++B3 y d).length<=140737488355328 ->
 Calls prog 59 #[.pointer (some ⟨b,0,none⟩),y.val a c,.int .i64 d] w fun e w'=>e = .returned (.tuple #[])/\Bld B b (t++B3 y d) w'/\Fb B b w w':=by
 intro B b t w a c d h ht hB hs hd hlen;have hle:=h.le;have hlt:=h.lt
 have HY:=Z2 hy;clear hy
 have hbx0:Box w.heap.size #[.int .u8 y.kind,.int .i64 y.num,str y.name,.slice a y.kids.length c] 32 (w.alloc (.cells #[.int .u8 y.kind,.int .i64 y.num,str y.name,.slice a y.kids.length c] 32)):=Box.new _ _ _;have hxW:Fb B b w (w.alloc (.cells #[.int .u8 y.kind,.int .i64 y.num,str y.name,.slice a y.kids.length c] 32)):=Fb.of_ext ((cB _).alloc _) hle;have hb0:Bld B b t (w.alloc (.cells #[.int .u8 y.kind,.int .i64 y.num,str y.name,.slice a y.kids.length c] 32)):=h.alloc _;have ht0:=ht.fb hxW hB;have hs0:=hs.fb hxW
 go_enter func59,ntmps59
 go_wp2_with fail
 refine (AO B b (w.heap.size+1) 1 _ [[32,123,10]] _ (hb0.alloc _) (Box.new' _ _ (by simp)) (by simp) (by (try simp at hlen ⊢)<;>omega)).mono ?_;rintro e u1 ⟨rfl,hb1,hx1⟩;have hxx1:Fb B b (w.alloc (.cells #[.int .u8 y.kind,.int .i64 y.num,str y.name,.slice a y.kids.length c] 32)) u1:=Fb.trans (Fb.of_ext ((cB _).alloc _) hb0.le) hx1;obtain ⟨g0,g1,g2,g3⟩:=(hbx0.fb hxx1 (by omega) (by decide)).node;have ht1:=ht0.fb hxx1 hB;have hs1:=hs0.fb hxx1;simp only
 go_wp2_with fail
 rw [show ((d:Int)+1)=((d+1:Nat):Int) from by omega];refine (HY.out B b _ _ a c (d+1) hb1 ht1 hB hs1 (by omega) (by (try simp at hlen ⊢)<;>omega)).mono ?_;rintro e u2 ⟨rfl,hb2,hx2⟩;have hxx2:Fb B b (w.alloc (.cells #[.int .u8 y.kind,.int .i64 y.num,str y.name,.slice a y.kids.length c] 32)) u2:=Fb.trans hxx1 hx2;obtain ⟨g0,g1,g2,g3⟩:=(hbx0.fb hxx2 (by omega) (by decide)).node;have ht2:=ht0.fb hxx2 hB;simp only
 go_wp2_with fail
 refine (Vg B b _ d _ hb2 (by omega) (by (try simp at hlen ⊢)<;>omega)).mono ?_;rintro e u3 ⟨rfl,hb3,hx3⟩;have hxx3:Fb B b (w.alloc (.cells #[.int .u8 y.kind,.int .i64 y.num,str y.name,.slice a y.kids.length c] 32)) u3:=Fb.trans hxx2 hx3;obtain ⟨g0,g1,g2,g3⟩:=(hbx0.fb hxx3 (by omega) (by decide)).node;have ht3:=ht0.fb hxx3 hB;simp only
 go_wp2_with fail
 refine (AO B b u3.heap.size 1 _ [[125]] _ (hb3.alloc _) (Box.new' _ _ (by simp)) (by simp) (by (try simp at hlen ⊢)<;>omega)).mono ?_;rintro e u4 ⟨rfl,hb4,hx4⟩;have hxx4:Fb B b (w.alloc (.cells #[.int .u8 y.kind,.int .i64 y.num,str y.name,.slice a y.kids.length c] 32)) u4:=Fb.trans (Fb.trans hxx3 (Fb.of_ext ((cB _).alloc _) hb3.le)) hx4;obtain ⟨g0,g1,g2,g3⟩:=(hbx0.fb hxx4 (by omega) (by decide)).node;have ht4:=ht0.fb hxx4 hB;simp only
 go_wp2_with fail
 go_end0
 exact ⟨rfl,by simpa [B3,Dq] using hb4,hxW.trans hxx4⟩
def Xa (n:Int) (s:lB) (x y:Nd) (hx:Bw 192 cW x) (hy:Bw 192 cW y):Bv 146 Nd.stmtT (.mk 40 n s [x,y]):=by
 intro B b t w a c d h ht hB hs hd hlen
 have htx:(Nd.mk 40 n s [x,y]).stmtT d=Bh 40++x.text++[32]++C4 40++[32]++y.text:=by rw [Nd.stmtT.eq_def];simp [Bh]
 rw [htx] at hlen ⊢;clear htx;have hle:=h.le;have hlt:=h.lt;simp only [cO,dB,cX,cV,dC,cP,cE,Ak,Z1,Z4] at hs hd ⊢
 obtain ⟨kb,ko,rfl⟩ : ∃kb ko,a=some ⟨kb,ko,none⟩:=by
  obtain ⟨b0,o0,_,_,he,_⟩:=AP hs (i:=0) rfl
  exact ⟨b0,o0,he⟩
 have HX:=Z2 hx;clear hx
 have HY:=Z2 hy;clear hy
 have hbx0:Box w.heap.size #[.int .u8 40,.int .i64 n,str s,.slice (some ⟨kb,ko,none⟩) 2 c] 32 (w.alloc (.cells #[.int .u8 40,.int .i64 n,str s,.slice (some ⟨kb,ko,none⟩) 2 c] 32)):=Box.new _ _ _;have hxW:Fb B b w (w.alloc (.cells #[.int .u8 40,.int .i64 n,str s,.slice (some ⟨kb,ko,none⟩) 2 c] 32)):=Fb.of_ext ((cB _).alloc _) hle;have hb0:Bld B b t (w.alloc (.cells #[.int .u8 40,.int .i64 n,str s,.slice (some ⟨kb,ko,none⟩) 2 c] 32)):=h.alloc _;have ht0:=ht.fb hxW hB;have hs0:=hs.fb hxW
 go_enter func146,ntmps146
 go_wp2_with fail
 refine (DJ _ _ (by omega) (by omega)).mono ?_;rintro e w1 ⟨rfl,rfl⟩;simp only
 go_wp2_with fail
 refine (AO B b (w.heap.size+1) 1 _ [Bh 40] _ (hb0.alloc _) (Box.new' _ _ (by simp)) (by simp) (by (try simp at hlen ⊢)<;>omega)).mono ?_;rintro e u1 ⟨rfl,hb1,hx1⟩;have hxx1:Fb B b (w.alloc (.cells #[.int .u8 40,.int .i64 n,str s,.slice (some ⟨kb,ko,none⟩) 2 c] 32)) u1:=Fb.trans (Fb.of_ext ((cB _).alloc _) hb0.le) hx1;obtain ⟨g0,g1,g2,g3⟩:=(hbx0.fb hxx1 (by omega) (by decide)).node;have ht1:=ht0.fb hxx1 hB;have hs1:=hs0.fb hxx1;obtain ⟨ka1,kc1,m0,m1,m2,m3,hk1⟩:=Jj hs1;simp only
 go_wp2_with fail
 refine (HX.out B b _ _ ka1 kc1 hb1 ht1 hB hk1 (by (try simp at hlen ⊢)<;>omega)).mono ?_;rintro e u2 ⟨rfl,hb2,hx2⟩;have hxx2:Fb B b (w.alloc (.cells #[.int .u8 40,.int .i64 n,str s,.slice (some ⟨kb,ko,none⟩) 2 c] 32)) u2:=Fb.trans hxx1 hx2;obtain ⟨g0,g1,g2,g3⟩:=(hbx0.fb hxx2 (by omega) (by decide)).node;have ht2:=ht0.fb hxx2 hB;have hs2:=hs0.fb hxx2;simp only
 go_wp2_with fail
 refine (Gq _ _ (by omega) (by omega) ht2).mono ?_;rintro e w1 ⟨rfl,rfl⟩;simp only
 go_wp2_with fail
 refine (AO B b u2.heap.size 3 _ [[32],C4 40,[32]] _ (hb2.alloc _) (Box.new' _ _ (by simp)) (by simp) (by (try simp at hlen ⊢)<;>omega)).mono ?_;rintro e u3 ⟨rfl,hb3,hx3⟩;have hxx3:Fb B b (w.alloc (.cells #[.int .u8 40,.int .i64 n,str s,.slice (some ⟨kb,ko,none⟩) 2 c] 32)) u3:=Fb.trans (Fb.trans hxx2 (Fb.of_ext ((cB _).alloc _) hb2.le)) hx3;obtain ⟨g0,g1,g2,g3⟩:=(hbx0.fb hxx3 (by omega) (by decide)).node;have ht3:=ht0.fb hxx3 hB;have hs3:=hs0.fb hxx3;obtain ⟨ka3,kc3,m0,m1,m2,m3,m4,m5,m6,hk3⟩:=LV hs3;simp only
 go_wp2_with fail
 refine (HY.out B b _ _ ka3 kc3 hb3 ht3 hB hk3 (by (try simp at hlen ⊢)<;>omega)).mono ?_;rintro e u4 ⟨rfl,hb4,hx4⟩;have hxx4:Fb B b (w.alloc (.cells #[.int .u8 40,.int .i64 n,str s,.slice (some ⟨kb,ko,none⟩) 2 c] 32)) u4:=Fb.trans hxx3 hx4;obtain ⟨g0,g1,g2,g3⟩:=(hbx0.fb hxx4 (by omega) (by decide)).node;have ht4:=ht0.fb hxx4 hB;have hs4:=hs0.fb hxx4;simp only
 go_wp2_with fail
 go_end0
 exact ⟨rfl,by simpa using hb4,hxW.trans hxx4⟩
def Xb (n:Int) (s:lB) (x y:Nd) (hx:Bw 192 cW x) (hy:Bw 192 cW y):Bv 146 Nd.stmtT (.mk 41 n s [x,y]):=by
 intro B b t w a c d h ht hB hs hd hlen
 have htx:(Nd.mk 41 n s [x,y]).stmtT d=Bh 41++x.text++[32]++C4 41++[32]++y.text:=by rw [Nd.stmtT.eq_def];simp [Bh]
 rw [htx] at hlen ⊢;clear htx;have hle:=h.le;have hlt:=h.lt;simp only [cO,dB,cX,cV,dC,cP,cE,Ak,Z1,Z4] at hs hd ⊢
 obtain ⟨kb,ko,rfl⟩ : ∃kb ko,a=some ⟨kb,ko,none⟩:=by
  obtain ⟨b0,o0,_,_,he,_⟩:=AP hs (i:=0) rfl
  exact ⟨b0,o0,he⟩
 have HX:=Z2 hx;clear hx
 have HY:=Z2 hy;clear hy
 have hbx0:Box w.heap.size #[.int .u8 41,.int .i64 n,str s,.slice (some ⟨kb,ko,none⟩) 2 c] 32 (w.alloc (.cells #[.int .u8 41,.int .i64 n,str s,.slice (some ⟨kb,ko,none⟩) 2 c] 32)):=Box.new _ _ _;have hxW:Fb B b w (w.alloc (.cells #[.int .u8 41,.int .i64 n,str s,.slice (some ⟨kb,ko,none⟩) 2 c] 32)):=Fb.of_ext ((cB _).alloc _) hle;have hb0:Bld B b t (w.alloc (.cells #[.int .u8 41,.int .i64 n,str s,.slice (some ⟨kb,ko,none⟩) 2 c] 32)):=h.alloc _;have ht0:=ht.fb hxW hB;have hs0:=hs.fb hxW
 go_enter func146,ntmps146
 go_wp2_with fail
 refine (DJ _ _ (by omega) (by omega)).mono ?_;rintro e w1 ⟨rfl,rfl⟩;simp only
 go_wp2_with fail
 refine (AO B b (w.heap.size+1) 1 _ [Bh 41] _ (hb0.alloc _) (Box.new' _ _ (by simp)) (by simp) (by (try simp at hlen ⊢)<;>omega)).mono ?_;rintro e u1 ⟨rfl,hb1,hx1⟩;have hxx1:Fb B b (w.alloc (.cells #[.int .u8 41,.int .i64 n,str s,.slice (some ⟨kb,ko,none⟩) 2 c] 32)) u1:=Fb.trans (Fb.of_ext ((cB _).alloc _) hb0.le) hx1;obtain ⟨g0,g1,g2,g3⟩:=(hbx0.fb hxx1 (by omega) (by decide)).node;have ht1:=ht0.fb hxx1 hB;have hs1:=hs0.fb hxx1;obtain ⟨ka1,kc1,m0,m1,m2,m3,hk1⟩:=Jj hs1;simp only
 go_wp2_with fail
 refine (HX.out B b _ _ ka1 kc1 hb1 ht1 hB hk1 (by (try simp at hlen ⊢)<;>omega)).mono ?_;rintro e u2 ⟨rfl,hb2,hx2⟩;have hxx2:Fb B b (w.alloc (.cells #[.int .u8 41,.int .i64 n,str s,.slice (some ⟨kb,ko,none⟩) 2 c] 32)) u2:=Fb.trans hxx1 hx2;obtain ⟨g0,g1,g2,g3⟩:=(hbx0.fb hxx2 (by omega) (by decide)).node;have ht2:=ht0.fb hxx2 hB;have hs2:=hs0.fb hxx2;simp only
 go_wp2_with fail
 refine (Gq _ _ (by omega) (by omega) ht2).mono ?_;rintro e w1 ⟨rfl,rfl⟩;simp only
 go_wp2_with fail
 refine (AO B b u2.heap.size 3 _ [[32],C4 41,[32]] _ (hb2.alloc _) (Box.new' _ _ (by simp)) (by simp) (by (try simp at hlen ⊢)<;>omega)).mono ?_;rintro e u3 ⟨rfl,hb3,hx3⟩;have hxx3:Fb B b (w.alloc (.cells #[.int .u8 41,.int .i64 n,str s,.slice (some ⟨kb,ko,none⟩) 2 c] 32)) u3:=Fb.trans (Fb.trans hxx2 (Fb.of_ext ((cB _).alloc _) hb2.le)) hx3;obtain ⟨g0,g1,g2,g3⟩:=(hbx0.fb hxx3 (by omega) (by decide)).node;have ht3:=ht0.fb hxx3 hB;have hs3:=hs0.fb hxx3;obtain ⟨ka3,kc3,m0,m1,m2,m3,m4,m5,m6,hk3⟩:=LV hs3;simp only
 go_wp2_with fail
 refine (HY.out B b _ _ ka3 kc3 hb3 ht3 hB hk3 (by (try simp at hlen ⊢)<;>omega)).mono ?_;rintro e u4 ⟨rfl,hb4,hx4⟩;have hxx4:Fb B b (w.alloc (.cells #[.int .u8 41,.int .i64 n,str s,.slice (some ⟨kb,ko,none⟩) 2 c] 32)) u4:=Fb.trans hxx3 hx4;obtain ⟨g0,g1,g2,g3⟩:=(hbx0.fb hxx4 (by omega) (by decide)).node;have ht4:=ht0.fb hxx4 hB;have hs4:=hs0.fb hxx4;simp only
 go_wp2_with fail
 go_end0
 exact ⟨rfl,by simpa using hb4,hxW.trans hxx4⟩
def Xc (n:Int) (s:lB) (x y:Nd) (hx:Bw 192 cW x) (hy:Bw 192 cW y):Bv 146 Nd.stmtT (.mk 42 n s [x,y]):=by
 intro B b t w a c d h ht hB hs hd hlen
 have htx:(Nd.mk 42 n s [x,y]).stmtT d=Bh 42++x.text++[32]++C4 42++[32]++y.text:=by rw [Nd.stmtT.eq_def];simp [Bh]
 rw [htx] at hlen ⊢;clear htx;have hle:=h.le;have hlt:=h.lt;simp only [cO,dB,cX,cV,dC,cP,cE,Ak,Z1,Z4] at hs hd ⊢
 obtain ⟨kb,ko,rfl⟩ : ∃kb ko,a=some ⟨kb,ko,none⟩:=by
  obtain ⟨b0,o0,_,_,he,_⟩:=AP hs (i:=0) rfl
  exact ⟨b0,o0,he⟩
 have HX:=Z2 hx;clear hx
 have HY:=Z2 hy;clear hy
 have hbx0:Box w.heap.size #[.int .u8 42,.int .i64 n,str s,.slice (some ⟨kb,ko,none⟩) 2 c] 32 (w.alloc (.cells #[.int .u8 42,.int .i64 n,str s,.slice (some ⟨kb,ko,none⟩) 2 c] 32)):=Box.new _ _ _;have hxW:Fb B b w (w.alloc (.cells #[.int .u8 42,.int .i64 n,str s,.slice (some ⟨kb,ko,none⟩) 2 c] 32)):=Fb.of_ext ((cB _).alloc _) hle;have hb0:Bld B b t (w.alloc (.cells #[.int .u8 42,.int .i64 n,str s,.slice (some ⟨kb,ko,none⟩) 2 c] 32)):=h.alloc _;have ht0:=ht.fb hxW hB;have hs0:=hs.fb hxW
 go_enter func146,ntmps146
 go_wp2_with fail
 refine (DJ _ _ (by omega) (by omega)).mono ?_;rintro e w1 ⟨rfl,rfl⟩;simp only
 go_wp2_with fail
 refine (AO B b (w.heap.size+1) 1 _ [Bh 42] _ (hb0.alloc _) (Box.new' _ _ (by simp)) (by simp) (by (try simp at hlen ⊢)<;>omega)).mono ?_;rintro e u1 ⟨rfl,hb1,hx1⟩;have hxx1:Fb B b (w.alloc (.cells #[.int .u8 42,.int .i64 n,str s,.slice (some ⟨kb,ko,none⟩) 2 c] 32)) u1:=Fb.trans (Fb.of_ext ((cB _).alloc _) hb0.le) hx1;obtain ⟨g0,g1,g2,g3⟩:=(hbx0.fb hxx1 (by omega) (by decide)).node;have ht1:=ht0.fb hxx1 hB;have hs1:=hs0.fb hxx1;obtain ⟨ka1,kc1,m0,m1,m2,m3,hk1⟩:=Jj hs1;simp only
 go_wp2_with fail
 refine (HX.out B b _ _ ka1 kc1 hb1 ht1 hB hk1 (by (try simp at hlen ⊢)<;>omega)).mono ?_;rintro e u2 ⟨rfl,hb2,hx2⟩;have hxx2:Fb B b (w.alloc (.cells #[.int .u8 42,.int .i64 n,str s,.slice (some ⟨kb,ko,none⟩) 2 c] 32)) u2:=Fb.trans hxx1 hx2;obtain ⟨g0,g1,g2,g3⟩:=(hbx0.fb hxx2 (by omega) (by decide)).node;have ht2:=ht0.fb hxx2 hB;have hs2:=hs0.fb hxx2;simp only
 go_wp2_with fail
 refine (Gq _ _ (by omega) (by omega) ht2).mono ?_;rintro e w1 ⟨rfl,rfl⟩;simp only
 go_wp2_with fail
 refine (AO B b u2.heap.size 3 _ [[32],C4 42,[32]] _ (hb2.alloc _) (Box.new' _ _ (by simp)) (by simp) (by (try simp at hlen ⊢)<;>omega)).mono ?_;rintro e u3 ⟨rfl,hb3,hx3⟩;have hxx3:Fb B b (w.alloc (.cells #[.int .u8 42,.int .i64 n,str s,.slice (some ⟨kb,ko,none⟩) 2 c] 32)) u3:=Fb.trans (Fb.trans hxx2 (Fb.of_ext ((cB _).alloc _) hb2.le)) hx3;obtain ⟨g0,g1,g2,g3⟩:=(hbx0.fb hxx3 (by omega) (by decide)).node;have ht3:=ht0.fb hxx3 hB;have hs3:=hs0.fb hxx3;obtain ⟨ka3,kc3,m0,m1,m2,m3,m4,m5,m6,hk3⟩:=LV hs3;simp only
 go_wp2_with fail
 refine (HY.out B b _ _ ka3 kc3 hb3 ht3 hB hk3 (by (try simp at hlen ⊢)<;>omega)).mono ?_;rintro e u4 ⟨rfl,hb4,hx4⟩;have hxx4:Fb B b (w.alloc (.cells #[.int .u8 42,.int .i64 n,str s,.slice (some ⟨kb,ko,none⟩) 2 c] 32)) u4:=Fb.trans hxx3 hx4;obtain ⟨g0,g1,g2,g3⟩:=(hbx0.fb hxx4 (by omega) (by decide)).node;have ht4:=ht0.fb hxx4 hB;have hs4:=hs0.fb hxx4;simp only
 go_wp2_with fail
 go_end0
 exact ⟨rfl,by simpa using hb4,hxW.trans hxx4⟩
def Xd (n:Int) (s:lB) (x y:Nd) (hx:Bw 192 cW x) (hy:Bw 192 cW y):Bv 146 Nd.stmtT (.mk 56 n s [x,y]):=by
 intro B b t w a c d h ht hB hs hd hlen
 have htx:(Nd.mk 56 n s [x,y]).stmtT d=Bh 56++x.text++[32]++C4 56++[32]++y.text:=by rw [Nd.stmtT.eq_def];simp [Bh]
 rw [htx] at hlen ⊢;clear htx;have hle:=h.le;have hlt:=h.lt;simp only [cO,dB,cX,cV,dC,cP,cE,Ak,Z1,Z4] at hs hd ⊢
 obtain ⟨kb,ko,rfl⟩ : ∃kb ko,a=some ⟨kb,ko,none⟩:=by
  obtain ⟨b0,o0,_,_,he,_⟩:=AP hs (i:=0) rfl
  exact ⟨b0,o0,he⟩
 have HX:=Z2 hx;clear hx
 have HY:=Z2 hy;clear hy
 have hbx0:Box w.heap.size #[.int .u8 56,.int .i64 n,str s,.slice (some ⟨kb,ko,none⟩) 2 c] 32 (w.alloc (.cells #[.int .u8 56,.int .i64 n,str s,.slice (some ⟨kb,ko,none⟩) 2 c] 32)):=Box.new _ _ _;have hxW:Fb B b w (w.alloc (.cells #[.int .u8 56,.int .i64 n,str s,.slice (some ⟨kb,ko,none⟩) 2 c] 32)):=Fb.of_ext ((cB _).alloc _) hle;have hb0:Bld B b t (w.alloc (.cells #[.int .u8 56,.int .i64 n,str s,.slice (some ⟨kb,ko,none⟩) 2 c] 32)):=h.alloc _;have ht0:=ht.fb hxW hB;have hs0:=hs.fb hxW
 go_enter func146,ntmps146
 go_wp2_with fail
 refine (DJ _ _ (by omega) (by omega)).mono ?_;rintro e w1 ⟨rfl,rfl⟩;simp only
 go_wp2_with fail
 refine (AO B b (w.heap.size+1) 1 _ [Bh 56] _ (hb0.alloc _) (Box.new' _ _ (by simp)) (by simp) (by (try simp at hlen ⊢)<;>omega)).mono ?_;rintro e u1 ⟨rfl,hb1,hx1⟩;have hxx1:Fb B b (w.alloc (.cells #[.int .u8 56,.int .i64 n,str s,.slice (some ⟨kb,ko,none⟩) 2 c] 32)) u1:=Fb.trans (Fb.of_ext ((cB _).alloc _) hb0.le) hx1;obtain ⟨g0,g1,g2,g3⟩:=(hbx0.fb hxx1 (by omega) (by decide)).node;have ht1:=ht0.fb hxx1 hB;have hs1:=hs0.fb hxx1;obtain ⟨ka1,kc1,m0,m1,m2,m3,hk1⟩:=Jj hs1;simp only
 go_wp2_with fail
 refine (HX.out B b _ _ ka1 kc1 hb1 ht1 hB hk1 (by (try simp at hlen ⊢)<;>omega)).mono ?_;rintro e u2 ⟨rfl,hb2,hx2⟩;have hxx2:Fb B b (w.alloc (.cells #[.int .u8 56,.int .i64 n,str s,.slice (some ⟨kb,ko,none⟩) 2 c] 32)) u2:=Fb.trans hxx1 hx2;obtain ⟨g0,g1,g2,g3⟩:=(hbx0.fb hxx2 (by omega) (by decide)).node;have ht2:=ht0.fb hxx2 hB;have hs2:=hs0.fb hxx2;simp only
 go_wp2_with fail
 refine (Gq _ _ (by omega) (by omega) ht2).mono ?_;rintro e w1 ⟨rfl,rfl⟩;simp only
 go_wp2_with fail
 refine (AO B b u2.heap.size 3 _ [[32],C4 56,[32]] _ (hb2.alloc _) (Box.new' _ _ (by simp)) (by simp) (by (try simp at hlen ⊢)<;>omega)).mono ?_;rintro e u3 ⟨rfl,hb3,hx3⟩;have hxx3:Fb B b (w.alloc (.cells #[.int .u8 56,.int .i64 n,str s,.slice (some ⟨kb,ko,none⟩) 2 c] 32)) u3:=Fb.trans (Fb.trans hxx2 (Fb.of_ext ((cB _).alloc _) hb2.le)) hx3;obtain ⟨g0,g1,g2,g3⟩:=(hbx0.fb hxx3 (by omega) (by decide)).node;have ht3:=ht0.fb hxx3 hB;have hs3:=hs0.fb hxx3;obtain ⟨ka3,kc3,m0,m1,m2,m3,m4,m5,m6,hk3⟩:=LV hs3;simp only
 go_wp2_with fail
 refine (HY.out B b _ _ ka3 kc3 hb3 ht3 hB hk3 (by (try simp at hlen ⊢)<;>omega)).mono ?_;rintro e u4 ⟨rfl,hb4,hx4⟩;have hxx4:Fb B b (w.alloc (.cells #[.int .u8 56,.int .i64 n,str s,.slice (some ⟨kb,ko,none⟩) 2 c] 32)) u4:=Fb.trans hxx3 hx4;obtain ⟨g0,g1,g2,g3⟩:=(hbx0.fb hxx4 (by omega) (by decide)).node;have ht4:=ht0.fb hxx4 hB;have hs4:=hs0.fb hxx4;simp only
 go_wp2_with fail
 go_end0
 exact ⟨rfl,by simpa using hb4,hxW.trans hxx4⟩
def Xe (n:Int) (s:lB) (x y:Nd) (hx:Bw 192 cW x) (hy:Bw 192 cW y):Bv 146 Nd.stmtT (.mk 43 n s [x,y]):=by
 intro B b t w a c d h ht hB hs hd hlen
 have htx:(Nd.mk 43 n s [x,y]).stmtT d=Bh 43++x.text++[32]++C4 43++[32]++y.text:=by rw [Nd.stmtT.eq_def];simp [Bh]
 rw [htx] at hlen ⊢;clear htx;have hle:=h.le;have hlt:=h.lt;simp only [cO,dB,cX,cV,dC,cP,cE,Ak,Z1,Z4] at hs hd ⊢
 obtain ⟨kb,ko,rfl⟩ : ∃kb ko,a=some ⟨kb,ko,none⟩:=by
  obtain ⟨b0,o0,_,_,he,_⟩:=AP hs (i:=0) rfl
  exact ⟨b0,o0,he⟩
 have HX:=Z2 hx;clear hx
 have HY:=Z2 hy;clear hy
 have hbx0:Box w.heap.size #[.int .u8 43,.int .i64 n,str s,.slice (some ⟨kb,ko,none⟩) 2 c] 32 (w.alloc (.cells #[.int .u8 43,.int .i64 n,str s,.slice (some ⟨kb,ko,none⟩) 2 c] 32)):=Box.new _ _ _;have hxW:Fb B b w (w.alloc (.cells #[.int .u8 43,.int .i64 n,str s,.slice (some ⟨kb,ko,none⟩) 2 c] 32)):=Fb.of_ext ((cB _).alloc _) hle;have hb0:Bld B b t (w.alloc (.cells #[.int .u8 43,.int .i64 n,str s,.slice (some ⟨kb,ko,none⟩) 2 c] 32)):=h.alloc _;have ht0:=ht.fb hxW hB;have hs0:=hs.fb hxW
 go_enter func146,ntmps146
 go_wp2_with fail
 refine (DJ _ _ (by omega) (by omega)).mono ?_;rintro e w1 ⟨rfl,rfl⟩;simp only
 go_wp2_with fail
 refine (AO B b (w.heap.size+1) 1 _ [Bh 43] _ (hb0.alloc _) (Box.new' _ _ (by simp)) (by simp) (by (try simp at hlen ⊢)<;>omega)).mono ?_;rintro e u1 ⟨rfl,hb1,hx1⟩;have hxx1:Fb B b (w.alloc (.cells #[.int .u8 43,.int .i64 n,str s,.slice (some ⟨kb,ko,none⟩) 2 c] 32)) u1:=Fb.trans (Fb.of_ext ((cB _).alloc _) hb0.le) hx1;obtain ⟨g0,g1,g2,g3⟩:=(hbx0.fb hxx1 (by omega) (by decide)).node;have ht1:=ht0.fb hxx1 hB;have hs1:=hs0.fb hxx1;obtain ⟨ka1,kc1,m0,m1,m2,m3,hk1⟩:=Jj hs1;simp only
 go_wp2_with fail
 refine (HX.out B b _ _ ka1 kc1 hb1 ht1 hB hk1 (by (try simp at hlen ⊢)<;>omega)).mono ?_;rintro e u2 ⟨rfl,hb2,hx2⟩;have hxx2:Fb B b (w.alloc (.cells #[.int .u8 43,.int .i64 n,str s,.slice (some ⟨kb,ko,none⟩) 2 c] 32)) u2:=Fb.trans hxx1 hx2;obtain ⟨g0,g1,g2,g3⟩:=(hbx0.fb hxx2 (by omega) (by decide)).node;have ht2:=ht0.fb hxx2 hB;have hs2:=hs0.fb hxx2;simp only
 go_wp2_with fail
 refine (Gq _ _ (by omega) (by omega) ht2).mono ?_;rintro e w1 ⟨rfl,rfl⟩;simp only
 go_wp2_with fail
 refine (AO B b u2.heap.size 3 _ [[32],C4 43,[32]] _ (hb2.alloc _) (Box.new' _ _ (by simp)) (by simp) (by (try simp at hlen ⊢)<;>omega)).mono ?_;rintro e u3 ⟨rfl,hb3,hx3⟩;have hxx3:Fb B b (w.alloc (.cells #[.int .u8 43,.int .i64 n,str s,.slice (some ⟨kb,ko,none⟩) 2 c] 32)) u3:=Fb.trans (Fb.trans hxx2 (Fb.of_ext ((cB _).alloc _) hb2.le)) hx3;obtain ⟨g0,g1,g2,g3⟩:=(hbx0.fb hxx3 (by omega) (by decide)).node;have ht3:=ht0.fb hxx3 hB;have hs3:=hs0.fb hxx3;obtain ⟨ka3,kc3,m0,m1,m2,m3,m4,m5,m6,hk3⟩:=LV hs3;simp only
 go_wp2_with fail
 refine (HY.out B b _ _ ka3 kc3 hb3 ht3 hB hk3 (by (try simp at hlen ⊢)<;>omega)).mono ?_;rintro e u4 ⟨rfl,hb4,hx4⟩;have hxx4:Fb B b (w.alloc (.cells #[.int .u8 43,.int .i64 n,str s,.slice (some ⟨kb,ko,none⟩) 2 c] 32)) u4:=Fb.trans hxx3 hx4;obtain ⟨g0,g1,g2,g3⟩:=(hbx0.fb hxx4 (by omega) (by decide)).node;have ht4:=ht0.fb hxx4 hB;have hs4:=hs0.fb hxx4;simp only
 go_wp2_with fail
 go_end0
 exact ⟨rfl,by simpa using hb4,hxW.trans hxx4⟩
def Xf (n:Int) (s:lB) (x:Nd) (hx:Bw 192 cW x):Bv 146 Nd.stmtT (.mk 44 n s [x]):=by
 intro B b t w a c d h ht hB hs hd hlen
 have htx:(Nd.mk 44 n s [x]).stmtT d=Bh 44++x.text++[44,32]++s:=by rw [Nd.stmtT.eq_def];simp
 rw [htx] at hlen ⊢;clear htx;have hle:=h.le;have hlt:=h.lt;simp only [cO,dB,cX,cV,dC,cP,cE,Ak,Z1,Z4] at hs hd ⊢
 obtain ⟨kb,ko,rfl⟩ : ∃kb ko,a=some ⟨kb,ko,none⟩:=by
  obtain ⟨b0,o0,_,_,he,_⟩:=AP hs (i:=0) rfl
  exact ⟨b0,o0,he⟩
 have HX:=Z2 hx;clear hx
 have hbx0:Box w.heap.size #[.int .u8 44,.int .i64 n,str s,.slice (some ⟨kb,ko,none⟩) 1 c] 32 (w.alloc (.cells #[.int .u8 44,.int .i64 n,str s,.slice (some ⟨kb,ko,none⟩) 1 c] 32)):=Box.new _ _ _;have hxW:Fb B b w (w.alloc (.cells #[.int .u8 44,.int .i64 n,str s,.slice (some ⟨kb,ko,none⟩) 1 c] 32)):=Fb.of_ext ((cB _).alloc _) hle;have hb0:Bld B b t (w.alloc (.cells #[.int .u8 44,.int .i64 n,str s,.slice (some ⟨kb,ko,none⟩) 1 c] 32)):=h.alloc _;have ht0:=ht.fb hxW hB;have hs0:=hs.fb hxW
 go_enter func146,ntmps146
 go_wp2_with fail
 refine (DJ _ _ (by omega) (by omega)).mono ?_;rintro e w1 ⟨rfl,rfl⟩;simp only
 go_wp2_with fail
 refine (AO B b (w.heap.size+1) 1 _ [Bh 44] _ (hb0.alloc _) (Box.new' _ _ (by simp)) (by simp) (by (try simp at hlen ⊢)<;>omega)).mono ?_;rintro e u1 ⟨rfl,hb1,hx1⟩;have hxx1:Fb B b (w.alloc (.cells #[.int .u8 44,.int .i64 n,str s,.slice (some ⟨kb,ko,none⟩) 1 c] 32)) u1:=Fb.trans (Fb.of_ext ((cB _).alloc _) hb0.le) hx1;obtain ⟨g0,g1,g2,g3⟩:=(hbx0.fb hxx1 (by omega) (by decide)).node;have ht1:=ht0.fb hxx1 hB;have hs1:=hs0.fb hxx1;obtain ⟨ka1,kc1,m0,m1,m2,m3,hk1⟩:=Jj hs1;simp only
 go_wp2_with fail
 refine (HX.out B b _ _ ka1 kc1 hb1 ht1 hB hk1 (by (try simp at hlen ⊢)<;>omega)).mono ?_;rintro e u2 ⟨rfl,hb2,hx2⟩;have hxx2:Fb B b (w.alloc (.cells #[.int .u8 44,.int .i64 n,str s,.slice (some ⟨kb,ko,none⟩) 1 c] 32)) u2:=Fb.trans hxx1 hx2;obtain ⟨g0,g1,g2,g3⟩:=(hbx0.fb hxx2 (by omega) (by decide)).node;have ht2:=ht0.fb hxx2 hB;have hs2:=hs0.fb hxx2;simp only
 go_wp2_with fail
 refine (AO B b u2.heap.size 2 _ [[44,32],s] _ (hb2.alloc _) (Box.new' _ _ (by simp)) (by simp) (by (try simp at hlen ⊢)<;>omega)).mono ?_;rintro e u3 ⟨rfl,hb3,hx3⟩;have hxx3:Fb B b (w.alloc (.cells #[.int .u8 44,.int .i64 n,str s,.slice (some ⟨kb,ko,none⟩) 1 c] 32)) u3:=Fb.trans (Fb.trans hxx2 (Fb.of_ext ((cB _).alloc _) hb2.le)) hx3;obtain ⟨g0,g1,g2,g3⟩:=(hbx0.fb hxx3 (by omega) (by decide)).node;have ht3:=ht0.fb hxx3 hB;have hs3:=hs0.fb hxx3;simp only
 go_wp2_with fail
 go_end0
 exact ⟨rfl,by simpa using hb3,hxW.trans hxx3⟩
def Xg (n:Int) (s:lB) (x:Nd) (hx:Bw 192 cW x):Bv 146 Nd.stmtT (.mk 45 n s [x]):=by
 intro B b t w a c d h ht hB hs hd hlen
 have htx:(Nd.mk 45 n s [x]).stmtT d=Bh 45++x.text++[44,32]++s:=by rw [Nd.stmtT.eq_def];simp
 rw [htx] at hlen ⊢;clear htx;have hle:=h.le;have hlt:=h.lt;simp only [cO,dB,cX,cV,dC,cP,cE,Ak,Z1,Z4] at hs hd ⊢
 obtain ⟨kb,ko,rfl⟩ : ∃kb ko,a=some ⟨kb,ko,none⟩:=by
  obtain ⟨b0,o0,_,_,he,_⟩:=AP hs (i:=0) rfl
  exact ⟨b0,o0,he⟩
 have HX:=Z2 hx;clear hx
 have hbx0:Box w.heap.size #[.int .u8 45,.int .i64 n,str s,.slice (some ⟨kb,ko,none⟩) 1 c] 32 (w.alloc (.cells #[.int .u8 45,.int .i64 n,str s,.slice (some ⟨kb,ko,none⟩) 1 c] 32)):=Box.new _ _ _;have hxW:Fb B b w (w.alloc (.cells #[.int .u8 45,.int .i64 n,str s,.slice (some ⟨kb,ko,none⟩) 1 c] 32)):=Fb.of_ext ((cB _).alloc _) hle;have hb0:Bld B b t (w.alloc (.cells #[.int .u8 45,.int .i64 n,str s,.slice (some ⟨kb,ko,none⟩) 1 c] 32)):=h.alloc _;have ht0:=ht.fb hxW hB;have hs0:=hs.fb hxW
 go_enter func146,ntmps146
 go_wp2_with fail
 refine (DJ _ _ (by omega) (by omega)).mono ?_;rintro e w1 ⟨rfl,rfl⟩;simp only
 go_wp2_with fail
 refine (AO B b (w.heap.size+1) 1 _ [Bh 45] _ (hb0.alloc _) (Box.new' _ _ (by simp)) (by simp) (by (try simp at hlen ⊢)<;>omega)).mono ?_;rintro e u1 ⟨rfl,hb1,hx1⟩;have hxx1:Fb B b (w.alloc (.cells #[.int .u8 45,.int .i64 n,str s,.slice (some ⟨kb,ko,none⟩) 1 c] 32)) u1:=Fb.trans (Fb.of_ext ((cB _).alloc _) hb0.le) hx1;obtain ⟨g0,g1,g2,g3⟩:=(hbx0.fb hxx1 (by omega) (by decide)).node;have ht1:=ht0.fb hxx1 hB;have hs1:=hs0.fb hxx1;obtain ⟨ka1,kc1,m0,m1,m2,m3,hk1⟩:=Jj hs1;simp only
 go_wp2_with fail
 refine (HX.out B b _ _ ka1 kc1 hb1 ht1 hB hk1 (by (try simp at hlen ⊢)<;>omega)).mono ?_;rintro e u2 ⟨rfl,hb2,hx2⟩;have hxx2:Fb B b (w.alloc (.cells #[.int .u8 45,.int .i64 n,str s,.slice (some ⟨kb,ko,none⟩) 1 c] 32)) u2:=Fb.trans hxx1 hx2;obtain ⟨g0,g1,g2,g3⟩:=(hbx0.fb hxx2 (by omega) (by decide)).node;have ht2:=ht0.fb hxx2 hB;have hs2:=hs0.fb hxx2;simp only
 go_wp2_with fail
 refine (AO B b u2.heap.size 2 _ [[44,32],s] _ (hb2.alloc _) (Box.new' _ _ (by simp)) (by simp) (by (try simp at hlen ⊢)<;>omega)).mono ?_;rintro e u3 ⟨rfl,hb3,hx3⟩;have hxx3:Fb B b (w.alloc (.cells #[.int .u8 45,.int .i64 n,str s,.slice (some ⟨kb,ko,none⟩) 1 c] 32)) u3:=Fb.trans (Fb.trans hxx2 (Fb.of_ext ((cB _).alloc _) hb2.le)) hx3;obtain ⟨g0,g1,g2,g3⟩:=(hbx0.fb hxx3 (by omega) (by decide)).node;have ht3:=ht0.fb hxx3 hB;have hs3:=hs0.fb hxx3;simp only
 go_wp2_with fail
 go_end0
 exact ⟨rfl,by simpa using hb3,hxW.trans hxx3⟩
def Xh (n:Int) (s:lB) (x:Nd) (hx:Bw 192 cW x):Bv 146 Nd.stmtT (.mk 46 n s [x]):=by
 intro B b t w a c d h ht hB hs hd hlen
 have htx:(Nd.mk 46 n s [x]).stmtT d=Bh 46++x.text:=by rw [Nd.stmtT.eq_def];simp
 rw [htx] at hlen ⊢;clear htx;have hle:=h.le;have hlt:=h.lt;simp only [cO,dB,cX,cV,dC,cP,cE,Ak,Z1,Z4] at hs hd ⊢
 obtain ⟨kb,ko,rfl⟩ : ∃kb ko,a=some ⟨kb,ko,none⟩:=by
  obtain ⟨b0,o0,_,_,he,_⟩:=AP hs (i:=0) rfl
  exact ⟨b0,o0,he⟩
 have HX:=Z2 hx;clear hx
 have hbx0:Box w.heap.size #[.int .u8 46,.int .i64 n,str s,.slice (some ⟨kb,ko,none⟩) 1 c] 32 (w.alloc (.cells #[.int .u8 46,.int .i64 n,str s,.slice (some ⟨kb,ko,none⟩) 1 c] 32)):=Box.new _ _ _;have hxW:Fb B b w (w.alloc (.cells #[.int .u8 46,.int .i64 n,str s,.slice (some ⟨kb,ko,none⟩) 1 c] 32)):=Fb.of_ext ((cB _).alloc _) hle;have hb0:Bld B b t (w.alloc (.cells #[.int .u8 46,.int .i64 n,str s,.slice (some ⟨kb,ko,none⟩) 1 c] 32)):=h.alloc _;have ht0:=ht.fb hxW hB;have hs0:=hs.fb hxW
 go_enter func146,ntmps146
 go_wp2_with fail
 refine (DJ _ _ (by omega) (by omega)).mono ?_;rintro e w1 ⟨rfl,rfl⟩;simp only
 go_wp2_with fail
 refine (AO B b (w.heap.size+1) 1 _ [Bh 46] _ (hb0.alloc _) (Box.new' _ _ (by simp)) (by simp) (by (try simp at hlen ⊢)<;>omega)).mono ?_;rintro e u1 ⟨rfl,hb1,hx1⟩;have hxx1:Fb B b (w.alloc (.cells #[.int .u8 46,.int .i64 n,str s,.slice (some ⟨kb,ko,none⟩) 1 c] 32)) u1:=Fb.trans (Fb.of_ext ((cB _).alloc _) hb0.le) hx1;obtain ⟨g0,g1,g2,g3⟩:=(hbx0.fb hxx1 (by omega) (by decide)).node;have ht1:=ht0.fb hxx1 hB;have hs1:=hs0.fb hxx1;obtain ⟨ka1,kc1,m0,m1,m2,m3,hk1⟩:=Jj hs1;simp only
 go_wp2_with fail
 refine (HX.out B b _ _ ka1 kc1 hb1 ht1 hB hk1 (by (try simp at hlen ⊢)<;>omega)).mono ?_;rintro e u2 ⟨rfl,hb2,hx2⟩;have hxx2:Fb B b (w.alloc (.cells #[.int .u8 46,.int .i64 n,str s,.slice (some ⟨kb,ko,none⟩) 1 c] 32)) u2:=Fb.trans hxx1 hx2;obtain ⟨g0,g1,g2,g3⟩:=(hbx0.fb hxx2 (by omega) (by decide)).node;have ht2:=ht0.fb hxx2 hB;have hs2:=hs0.fb hxx2;simp only
 go_wp2_with fail
 go_end0
 exact ⟨rfl,by simpa using hb2,hxW.trans hxx2⟩
def Xi (n:Int) (s:lB) (x:Nd) (hx:Bw 192 cW x):Bv 146 Nd.stmtT (.mk 47 n s [x]):=by
 intro B b t w a c d h ht hB hs hd hlen
 have htx:(Nd.mk 47 n s [x]).stmtT d=Bh 47++x.text:=by rw [Nd.stmtT.eq_def];simp
 rw [htx] at hlen ⊢;clear htx;have hle:=h.le;have hlt:=h.lt;simp only [cO,dB,cX,cV,dC,cP,cE,Ak,Z1,Z4] at hs hd ⊢
 obtain ⟨kb,ko,rfl⟩ : ∃kb ko,a=some ⟨kb,ko,none⟩:=by
  obtain ⟨b0,o0,_,_,he,_⟩:=AP hs (i:=0) rfl
  exact ⟨b0,o0,he⟩
 have HX:=Z2 hx;clear hx
 have hbx0:Box w.heap.size #[.int .u8 47,.int .i64 n,str s,.slice (some ⟨kb,ko,none⟩) 1 c] 32 (w.alloc (.cells #[.int .u8 47,.int .i64 n,str s,.slice (some ⟨kb,ko,none⟩) 1 c] 32)):=Box.new _ _ _;have hxW:Fb B b w (w.alloc (.cells #[.int .u8 47,.int .i64 n,str s,.slice (some ⟨kb,ko,none⟩) 1 c] 32)):=Fb.of_ext ((cB _).alloc _) hle;have hb0:Bld B b t (w.alloc (.cells #[.int .u8 47,.int .i64 n,str s,.slice (some ⟨kb,ko,none⟩) 1 c] 32)):=h.alloc _;have ht0:=ht.fb hxW hB;have hs0:=hs.fb hxW
 go_enter func146,ntmps146
 go_wp2_with fail
 refine (DJ _ _ (by omega) (by omega)).mono ?_;rintro e w1 ⟨rfl,rfl⟩;simp only
 go_wp2_with fail
 refine (AO B b (w.heap.size+1) 1 _ [Bh 47] _ (hb0.alloc _) (Box.new' _ _ (by simp)) (by simp) (by (try simp at hlen ⊢)<;>omega)).mono ?_;rintro e u1 ⟨rfl,hb1,hx1⟩;have hxx1:Fb B b (w.alloc (.cells #[.int .u8 47,.int .i64 n,str s,.slice (some ⟨kb,ko,none⟩) 1 c] 32)) u1:=Fb.trans (Fb.of_ext ((cB _).alloc _) hb0.le) hx1;obtain ⟨g0,g1,g2,g3⟩:=(hbx0.fb hxx1 (by omega) (by decide)).node;have ht1:=ht0.fb hxx1 hB;have hs1:=hs0.fb hxx1;obtain ⟨ka1,kc1,m0,m1,m2,m3,hk1⟩:=Jj hs1;simp only
 go_wp2_with fail
 refine (HX.out B b _ _ ka1 kc1 hb1 ht1 hB hk1 (by (try simp at hlen ⊢)<;>omega)).mono ?_;rintro e u2 ⟨rfl,hb2,hx2⟩;have hxx2:Fb B b (w.alloc (.cells #[.int .u8 47,.int .i64 n,str s,.slice (some ⟨kb,ko,none⟩) 1 c] 32)) u2:=Fb.trans hxx1 hx2;obtain ⟨g0,g1,g2,g3⟩:=(hbx0.fb hxx2 (by omega) (by decide)).node;have ht2:=ht0.fb hxx2 hB;have hs2:=hs0.fb hxx2;simp only
 go_wp2_with fail
 go_end0
 exact ⟨rfl,by simpa using hb2,hxW.trans hxx2⟩
def Xj (n:Int) (s:lB) (x:Nd) (hx:Bw 192 cW x):Bv 146 Nd.stmtT (.mk 48 n s [x]):=by
 intro B b t w a c d h ht hB hs hd hlen
 have htx:(Nd.mk 48 n s [x]).stmtT d=Bh 48++x.text:=by rw [Nd.stmtT.eq_def];simp
 rw [htx] at hlen ⊢;clear htx;have hle:=h.le;have hlt:=h.lt;simp only [cO,dB,cX,cV,dC,cP,cE,Ak,Z1,Z4] at hs hd ⊢
 obtain ⟨kb,ko,rfl⟩ : ∃kb ko,a=some ⟨kb,ko,none⟩:=by
  obtain ⟨b0,o0,_,_,he,_⟩:=AP hs (i:=0) rfl
  exact ⟨b0,o0,he⟩
 have HX:=Z2 hx;clear hx
 have hbx0:Box w.heap.size #[.int .u8 48,.int .i64 n,str s,.slice (some ⟨kb,ko,none⟩) 1 c] 32 (w.alloc (.cells #[.int .u8 48,.int .i64 n,str s,.slice (some ⟨kb,ko,none⟩) 1 c] 32)):=Box.new _ _ _;have hxW:Fb B b w (w.alloc (.cells #[.int .u8 48,.int .i64 n,str s,.slice (some ⟨kb,ko,none⟩) 1 c] 32)):=Fb.of_ext ((cB _).alloc _) hle;have hb0:Bld B b t (w.alloc (.cells #[.int .u8 48,.int .i64 n,str s,.slice (some ⟨kb,ko,none⟩) 1 c] 32)):=h.alloc _;have ht0:=ht.fb hxW hB;have hs0:=hs.fb hxW
 go_enter func146,ntmps146
 go_wp2_with fail
 refine (DJ _ _ (by omega) (by omega)).mono ?_;rintro e w1 ⟨rfl,rfl⟩;simp only
 go_wp2_with fail
 refine (AO B b (w.heap.size+1) 1 _ [Bh 48] _ (hb0.alloc _) (Box.new' _ _ (by simp)) (by simp) (by (try simp at hlen ⊢)<;>omega)).mono ?_;rintro e u1 ⟨rfl,hb1,hx1⟩;have hxx1:Fb B b (w.alloc (.cells #[.int .u8 48,.int .i64 n,str s,.slice (some ⟨kb,ko,none⟩) 1 c] 32)) u1:=Fb.trans (Fb.of_ext ((cB _).alloc _) hb0.le) hx1;obtain ⟨g0,g1,g2,g3⟩:=(hbx0.fb hxx1 (by omega) (by decide)).node;have ht1:=ht0.fb hxx1 hB;have hs1:=hs0.fb hxx1;obtain ⟨ka1,kc1,m0,m1,m2,m3,hk1⟩:=Jj hs1;simp only
 go_wp2_with fail
 refine (HX.out B b _ _ ka1 kc1 hb1 ht1 hB hk1 (by (try simp at hlen ⊢)<;>omega)).mono ?_;rintro e u2 ⟨rfl,hb2,hx2⟩;have hxx2:Fb B b (w.alloc (.cells #[.int .u8 48,.int .i64 n,str s,.slice (some ⟨kb,ko,none⟩) 1 c] 32)) u2:=Fb.trans hxx1 hx2;obtain ⟨g0,g1,g2,g3⟩:=(hbx0.fb hxx2 (by omega) (by decide)).node;have ht2:=ht0.fb hxx2 hB;have hs2:=hs0.fb hxx2;simp only
 go_wp2_with fail
 go_end0
 exact ⟨rfl,by simpa using hb2,hxW.trans hxx2⟩
def Xk (n:Int) (s:lB) (x:Nd) (hx:Bw 192 cW x):Bv 146 Nd.stmtT (.mk 49 n s [x]):=by
 intro B b t w a c d h ht hB hs hd hlen
 have htx:(Nd.mk 49 n s [x]).stmtT d=Bh 49++x.text:=by rw [Nd.stmtT.eq_def];simp
 rw [htx] at hlen ⊢;clear htx;have hle:=h.le;have hlt:=h.lt;simp only [cO,dB,cX,cV,dC,cP,cE,Ak,Z1,Z4] at hs hd ⊢
 obtain ⟨kb,ko,rfl⟩ : ∃kb ko,a=some ⟨kb,ko,none⟩:=by
  obtain ⟨b0,o0,_,_,he,_⟩:=AP hs (i:=0) rfl
  exact ⟨b0,o0,he⟩
 have HX:=Z2 hx;clear hx
 have hbx0:Box w.heap.size #[.int .u8 49,.int .i64 n,str s,.slice (some ⟨kb,ko,none⟩) 1 c] 32 (w.alloc (.cells #[.int .u8 49,.int .i64 n,str s,.slice (some ⟨kb,ko,none⟩) 1 c] 32)):=Box.new _ _ _;have hxW:Fb B b w (w.alloc (.cells #[.int .u8 49,.int .i64 n,str s,.slice (some ⟨kb,ko,none⟩) 1 c] 32)):=Fb.of_ext ((cB _).alloc _) hle;have hb0:Bld B b t (w.alloc (.cells #[.int .u8 49,.int .i64 n,str s,.slice (some ⟨kb,ko,none⟩) 1 c] 32)):=h.alloc _;have ht0:=ht.fb hxW hB;have hs0:=hs.fb hxW
 go_enter func146,ntmps146
 go_wp2_with fail
 refine (DJ _ _ (by omega) (by omega)).mono ?_;rintro e w1 ⟨rfl,rfl⟩;simp only
 go_wp2_with fail
 refine (AO B b (w.heap.size+1) 1 _ [Bh 49] _ (hb0.alloc _) (Box.new' _ _ (by simp)) (by simp) (by (try simp at hlen ⊢)<;>omega)).mono ?_;rintro e u1 ⟨rfl,hb1,hx1⟩;have hxx1:Fb B b (w.alloc (.cells #[.int .u8 49,.int .i64 n,str s,.slice (some ⟨kb,ko,none⟩) 1 c] 32)) u1:=Fb.trans (Fb.of_ext ((cB _).alloc _) hb0.le) hx1;obtain ⟨g0,g1,g2,g3⟩:=(hbx0.fb hxx1 (by omega) (by decide)).node;have ht1:=ht0.fb hxx1 hB;have hs1:=hs0.fb hxx1;obtain ⟨ka1,kc1,m0,m1,m2,m3,hk1⟩:=Jj hs1;simp only
 go_wp2_with fail
 refine (HX.out B b _ _ ka1 kc1 hb1 ht1 hB hk1 (by (try simp at hlen ⊢)<;>omega)).mono ?_;rintro e u2 ⟨rfl,hb2,hx2⟩;have hxx2:Fb B b (w.alloc (.cells #[.int .u8 49,.int .i64 n,str s,.slice (some ⟨kb,ko,none⟩) 1 c] 32)) u2:=Fb.trans hxx1 hx2;obtain ⟨g0,g1,g2,g3⟩:=(hbx0.fb hxx2 (by omega) (by decide)).node;have ht2:=ht0.fb hxx2 hB;have hs2:=hs0.fb hxx2;simp only
 go_wp2_with fail
 go_end0
 exact ⟨rfl,by simpa using hb2,hxW.trans hxx2⟩
def LX (k n:Int) (s:lB) (x y z u:Nd) (hx:Bw 192 cW x) (hy:Bv 101 Nd.linesT y) (hz:Bv 101 Nd.linesT z) (hu:Bw 192 cW u) (mid lst:lB) (B b:Nat) (t:lB) (w:wD) (a:oA) (c d:Nat)
 (h:Bld B b t w) (ht:Tabs w) (hB:prog.globals.size<=B) (hs:rowSits (· < B) w [x,y,z,u] a) (hd:d+(1+Ak [x,y,z,u])<=1000000) (hlen:(t++(x.text++B3 y d++mid++B3 z d++lst++u.text)).length<=140737488355328) :
 Calls prog 194 #[.pointer (some ⟨b,0,none⟩),.agg #[.int .u8 k,.int .i64 n,str s,.slice a 4 c],.int .i64 d,str mid,str lst] w fun e w'=>e = .returned (.tuple #[])/\Bld B b (t++(x.text++B3 y d++mid++B3 z d++lst++u.text)) w'/\Fb B b w w':=by
 have hle:=h.le;have hlt:=h.lt;simp only [Ak] at hd
 obtain ⟨kb,ko,rfl⟩ : ∃kb ko,a=some ⟨kb,ko,none⟩:=by
  obtain ⟨b0,o0,_,_,he,_⟩:=AP hs (i:=0) rfl
  exact ⟨b0,o0,he⟩
 have HX:=Z2 hx;clear hx
 have HY:=Z2 hy;clear hy
 have HZ:=Z2 hz;clear hz
 have HU:=Z2 hu;clear hu
 have hbx0:Box w.heap.size #[.int .u8 k,.int .i64 n,str s,.slice (some ⟨kb,ko,none⟩) 4 c] 32 (w.alloc (.cells #[.int .u8 k,.int .i64 n,str s,.slice (some ⟨kb,ko,none⟩) 4 c] 32)):=Box.new _ _ _;have hxW:Fb B b w (w.alloc (.cells #[.int .u8 k,.int .i64 n,str s,.slice (some ⟨kb,ko,none⟩) 4 c] 32)):=Fb.of_ext ((cB _).alloc _) hle;have hb0:Bld B b t (w.alloc (.cells #[.int .u8 k,.int .i64 n,str s,.slice (some ⟨kb,ko,none⟩) 4 c] 32)):=h.alloc _;have ht0:=ht.fb hxW hB;have hs0:=hs.fb hxW;have hxx0:=Fb.refl B b (w.alloc (.cells #[.int .u8 k,.int .i64 n,str s,.slice (some ⟨kb,ko,none⟩) 4 c] 32));obtain ⟨ka0,kc0,m0,m1,m2,m3,hk0⟩:=Jj hs0
 have hkw:kb<w.heap.size:=by
  have:=Cr m0;have h2:=(AP hs (i:=0) rfl);obtain ⟨_,_,_,_,he,h3,h4,_⟩:=h2;simp only [Z9,bX] at he;obtain ⟨rfl,rfl,-⟩:=he
  omega
 go_enter func194,ntmps194
 go_wp2_with fail
 refine (HX.out B b _ _ ka0 kc0 hb0 ht0 hB hk0 (by (try simp at hlen ⊢)<;>omega)).mono ?_;rintro e u1 ⟨rfl,hb1,hx1⟩;have hxx1:Fb B b (w.alloc (.cells #[.int .u8 k,.int .i64 n,str s,.slice (some ⟨kb,ko,none⟩) 4 c] 32)) u1:=Fb.trans hxx0 hx1;obtain ⟨g0,g1,g2,g3⟩:=(hbx0.fb hxx1 (by omega) (by decide)).node;have ht1:=ht0.fb hxx1 hB;have hs1:=hs0.fb hxx1;obtain ⟨ka1,kc1,m0,m1,m2,m3,m4,m5,m6,hk1⟩:=LV hs1;simp only
 go_wp2_with fail
 refine (Gr _ HY.out B b _ _ ka1 kc1 d hb1 ht1 hB hk1 (by omega) (by (try simp at hlen ⊢)<;>omega)).mono ?_;rintro e u2 ⟨rfl,hb2,hx2⟩;have hxx2:Fb B b (w.alloc (.cells #[.int .u8 k,.int .i64 n,str s,.slice (some ⟨kb,ko,none⟩) 4 c] 32)) u2:=Fb.trans hxx1 hx2;obtain ⟨g0,g1,g2,g3⟩:=(hbx0.fb hxx2 (by omega) (by decide)).node;have ht2:=ht0.fb hxx2 hB;have hs2:=hs0.fb hxx2;simp only
 go_wp2_with fail
 refine (AO B b u2.heap.size 1 _ [mid] _ (hb2.alloc _) (Box.new' _ _ (by simp)) (by simp) (by (try simp at hlen ⊢)<;>omega)).mono ?_;rintro e u3 ⟨rfl,hb3,hx3⟩;have hxx3:Fb B b (w.alloc (.cells #[.int .u8 k,.int .i64 n,str s,.slice (some ⟨kb,ko,none⟩) 4 c] 32)) u3:=Fb.trans (Fb.trans hxx2 (Fb.of_ext ((cB _).alloc _) hb2.le)) hx3;obtain ⟨g0,g1,g2,g3⟩:=(hbx0.fb hxx3 (by omega) (by decide)).node;have ht3:=ht0.fb hxx3 hB;have hs3:=hs0.fb hxx3;obtain ⟨ka3,kc3,m0,m1,m2,m3,m4,m5,m6,hk3⟩:=X8 hs3;simp only
 go_wp2_with fail
 refine (Gr _ HZ.out B b _ _ ka3 kc3 d hb3 ht3 hB hk3 (by omega) (by (try simp at hlen ⊢)<;>omega)).mono ?_;rintro e u4 ⟨rfl,hb4,hx4⟩;have hxx4:Fb B b (w.alloc (.cells #[.int .u8 k,.int .i64 n,str s,.slice (some ⟨kb,ko,none⟩) 4 c] 32)) u4:=Fb.trans hxx3 hx4;obtain ⟨g0,g1,g2,g3⟩:=(hbx0.fb hxx4 (by omega) (by decide)).node;have ht4:=ht0.fb hxx4 hB;have hs4:=hs0.fb hxx4;simp only
 go_wp2_with fail
 refine (AO B b u4.heap.size 1 _ [lst] _ (hb4.alloc _) (Box.new' _ _ (by simp)) (by simp) (by (try simp at hlen ⊢)<;>omega)).mono ?_;rintro e u5 ⟨rfl,hb5,hx5⟩;have hxx5:Fb B b (w.alloc (.cells #[.int .u8 k,.int .i64 n,str s,.slice (some ⟨kb,ko,none⟩) 4 c] 32)) u5:=Fb.trans (Fb.trans hxx4 (Fb.of_ext ((cB _).alloc _) hb4.le)) hx5;obtain ⟨g0,g1,g2,g3⟩:=(hbx0.fb hxx5 (by omega) (by decide)).node;have ht5:=ht0.fb hxx5 hB;have hs5:=hs0.fb hxx5;obtain ⟨ka5,kc5,m0,m1,m2,m3,m4,m5,m6,hk5⟩:=ZB hs5;simp only
 go_wp2_with fail
 refine (HU.out B b _ _ ka5 kc5 hb5 ht5 hB hk5 (by (try simp at hlen ⊢)<;>omega)).mono ?_;rintro e u6 ⟨rfl,hb6,hx6⟩;have hxx6:Fb B b (w.alloc (.cells #[.int .u8 k,.int .i64 n,str s,.slice (some ⟨kb,ko,none⟩) 4 c] 32)) u6:=Fb.trans hxx5 hx6;obtain ⟨g0,g1,g2,g3⟩:=(hbx0.fb hxx6 (by omega) (by decide)).node;have ht6:=ht0.fb hxx6 hB;have hs6:=hs0.fb hxx6;simp only
 go_wp2_with fail
 go_end0
 exact ⟨rfl,by simpa using hb6,hxW.trans hxx6⟩
def Xl (n:Int) (s:lB) (x y z u:Nd) (hx:Bw 192 cW x) (hy:Bv 101 Nd.linesT y) (hz:Bv 101 Nd.linesT z) (hu:Bw 192 cW u):Bv 146 Nd.stmtT (.mk 52 n s [x,y,z,u]):=by
 intro B b t w a c d h ht hB hs hd hlen
 have htx:(Nd.mk 52 n s [x,y,z,u]).stmtT d=Bh 52++x.text++B3 y d++[32,101,108,115,101]++B3 z d++[32,102,105,32]++u.text:=by rw [Nd.stmtT.eq_def];simp [B3]
 rw [htx] at hlen ⊢;clear htx;have hle:=h.le;have hlt:=h.lt;simp only [cO,dB,cX,cV,dC,cP,cE,Ak,Z1,Z4] at hs hd ⊢
 obtain ⟨kb,ko,rfl⟩ : ∃kb ko,a=some ⟨kb,ko,none⟩:=by
  obtain ⟨b0,o0,_,_,he,_⟩:=AP hs (i:=0) rfl
  exact ⟨b0,o0,he⟩
 have HX:=Z2 hx;clear hx
 have HY:=Z2 hy;clear hy
 have HZ:=Z2 hz;clear hz
 have HU:=Z2 hu;clear hu
 have hbx0:Box w.heap.size #[.int .u8 52,.int .i64 n,str s,.slice (some ⟨kb,ko,none⟩) 4 c] 32 (w.alloc (.cells #[.int .u8 52,.int .i64 n,str s,.slice (some ⟨kb,ko,none⟩) 4 c] 32)):=Box.new _ _ _;have hxW:Fb B b w (w.alloc (.cells #[.int .u8 52,.int .i64 n,str s,.slice (some ⟨kb,ko,none⟩) 4 c] 32)):=Fb.of_ext ((cB _).alloc _) hle;have hb0:Bld B b t (w.alloc (.cells #[.int .u8 52,.int .i64 n,str s,.slice (some ⟨kb,ko,none⟩) 4 c] 32)):=h.alloc _;have ht0:=ht.fb hxW hB;have hs0:=hs.fb hxW
 go_enter func146,ntmps146
 go_wp2_with fail
 refine (DJ _ _ (by omega) (by omega)).mono ?_;rintro e w1 ⟨rfl,rfl⟩;simp only
 go_wp2_with fail
 refine (AO B b (w.heap.size+1) 1 _ [Bh 52] _ (hb0.alloc _) (Box.new' _ _ (by simp)) (by simp) (by (try simp at hlen ⊢)<;>omega)).mono ?_;rintro e u1 ⟨rfl,hb1,hx1⟩;have hxx1:Fb B b (w.alloc (.cells #[.int .u8 52,.int .i64 n,str s,.slice (some ⟨kb,ko,none⟩) 4 c] 32)) u1:=Fb.trans (Fb.of_ext ((cB _).alloc _) hb0.le) hx1;obtain ⟨g0,g1,g2,g3⟩:=(hbx0.fb hxx1 (by omega) (by decide)).node;have ht1:=ht0.fb hxx1 hB;have hs1:=hs0.fb hxx1;simp only
 go_wp2_with fail
 refine (LX _ _ _ x y z u HX.out HY.out HZ.out HU.out [32,101,108,115,101] [32,102,105,32] B b _ _ _ c d hb1 ht1 hB hs1 (by simp only [Ak];omega) (by (try simp at hlen ⊢)<;>omega)).mono ?_;rintro e u2 ⟨rfl,hb2,hx2⟩;have hxx2:Fb B b (w.alloc (.cells #[.int .u8 52,.int .i64 n,str s,.slice (some ⟨kb,ko,none⟩) 4 c] 32)) u2:=Fb.trans hxx1 hx2;obtain ⟨g0,g1,g2,g3⟩:=(hbx0.fb hxx2 (by omega) (by decide)).node;have ht2:=ht0.fb hxx2 hB;have hs2:=hs0.fb hxx2;simp only
 go_wp2_with fail
 go_end0
 exact ⟨rfl,by simpa using hb2,hxW.trans hxx2⟩
def Xm (n:Int) (s:lB) (x y z u:Nd) (hx:Bw 192 cW x) (hy:Bv 101 Nd.linesT y) (hz:Bv 101 Nd.linesT z) (hu:Bw 192 cW u):Bv 146 Nd.stmtT (.mk 53 n s [x,y,z,u]):=by
 intro B b t w a c d h ht hB hs hd hlen
 have htx:(Nd.mk 53 n s [x,y,z,u]).stmtT d=Bh 53++x.text++B3 y d++[32,108,111,111,112]++B3 z d++[32,117,110,116,105,108,32]++u.text:=by rw [Nd.stmtT.eq_def];simp [B3]
 rw [htx] at hlen ⊢;clear htx;have hle:=h.le;have hlt:=h.lt;simp only [cO,dB,cX,cV,dC,cP,cE,Ak,Z1,Z4] at hs hd ⊢
 obtain ⟨kb,ko,rfl⟩ : ∃kb ko,a=some ⟨kb,ko,none⟩:=by
  obtain ⟨b0,o0,_,_,he,_⟩:=AP hs (i:=0) rfl
  exact ⟨b0,o0,he⟩
 have HX:=Z2 hx;clear hx
 have HY:=Z2 hy;clear hy
 have HZ:=Z2 hz;clear hz
 have HU:=Z2 hu;clear hu
 have hbx0:Box w.heap.size #[.int .u8 53,.int .i64 n,str s,.slice (some ⟨kb,ko,none⟩) 4 c] 32 (w.alloc (.cells #[.int .u8 53,.int .i64 n,str s,.slice (some ⟨kb,ko,none⟩) 4 c] 32)):=Box.new _ _ _;have hxW:Fb B b w (w.alloc (.cells #[.int .u8 53,.int .i64 n,str s,.slice (some ⟨kb,ko,none⟩) 4 c] 32)):=Fb.of_ext ((cB _).alloc _) hle;have hb0:Bld B b t (w.alloc (.cells #[.int .u8 53,.int .i64 n,str s,.slice (some ⟨kb,ko,none⟩) 4 c] 32)):=h.alloc _;have ht0:=ht.fb hxW hB;have hs0:=hs.fb hxW
 go_enter func146,ntmps146
 go_wp2_with fail
 refine (DJ _ _ (by omega) (by omega)).mono ?_;rintro e w1 ⟨rfl,rfl⟩;simp only
 go_wp2_with fail
 refine (AO B b (w.heap.size+1) 1 _ [Bh 53] _ (hb0.alloc _) (Box.new' _ _ (by simp)) (by simp) (by (try simp at hlen ⊢)<;>omega)).mono ?_;rintro e u1 ⟨rfl,hb1,hx1⟩;have hxx1:Fb B b (w.alloc (.cells #[.int .u8 53,.int .i64 n,str s,.slice (some ⟨kb,ko,none⟩) 4 c] 32)) u1:=Fb.trans (Fb.of_ext ((cB _).alloc _) hb0.le) hx1;obtain ⟨g0,g1,g2,g3⟩:=(hbx0.fb hxx1 (by omega) (by decide)).node;have ht1:=ht0.fb hxx1 hB;have hs1:=hs0.fb hxx1;simp only
 go_wp2_with fail
 refine (LX _ _ _ x y z u HX.out HY.out HZ.out HU.out [32,108,111,111,112] [32,117,110,116,105,108,32] B b _ _ _ c d hb1 ht1 hB hs1 (by simp only [Ak];omega) (by (try simp at hlen ⊢)<;>omega)).mono ?_;rintro e u2 ⟨rfl,hb2,hx2⟩;have hxx2:Fb B b (w.alloc (.cells #[.int .u8 53,.int .i64 n,str s,.slice (some ⟨kb,ko,none⟩) 4 c] 32)) u2:=Fb.trans hxx1 hx2;obtain ⟨g0,g1,g2,g3⟩:=(hbx0.fb hxx2 (by omega) (by decide)).node;have ht2:=ht0.fb hxx2 hB;have hs2:=hs0.fb hxx2;simp only
 go_wp2_with fail
 go_end0
 exact ⟨rfl,by simpa using hb2,hxW.trans hxx2⟩
def Xn (n:Int) (s:lB) (x y z:Nd) (hx:Bw 192 cW x) (hy:Bv 101 Nd.linesT y) (hz:Bw 192 cW z):Bv 146 Nd.stmtT (.mk 54 n s [x,y,z]):=by
 intro B b t w a c d h ht hB hs hd hlen
 have htx:(Nd.mk 54 n s [x,y,z]).stmtT d=Bh 54++s++[32,61,32]++x.text++B3 y d++[32,100,101,108,111,99,97,108,32]++z.text:=by rw [Nd.stmtT.eq_def];simp [B3]
 rw [htx] at hlen ⊢;clear htx;have hle:=h.le;have hlt:=h.lt;simp only [cO,dB,cX,cV,dC,cP,cE,Ak,Z1,Z4] at hs hd ⊢
 obtain ⟨kb,ko,rfl⟩ : ∃kb ko,a=some ⟨kb,ko,none⟩:=by
  obtain ⟨b0,o0,_,_,he,_⟩:=AP hs (i:=0) rfl
  exact ⟨b0,o0,he⟩
 have HX:=Z2 hx;clear hx
 have HY:=Z2 hy;clear hy
 have HZ:=Z2 hz;clear hz
 have hbx0:Box w.heap.size #[.int .u8 54,.int .i64 n,str s,.slice (some ⟨kb,ko,none⟩) 3 c] 32 (w.alloc (.cells #[.int .u8 54,.int .i64 n,str s,.slice (some ⟨kb,ko,none⟩) 3 c] 32)):=Box.new _ _ _;have hxW:Fb B b w (w.alloc (.cells #[.int .u8 54,.int .i64 n,str s,.slice (some ⟨kb,ko,none⟩) 3 c] 32)):=Fb.of_ext ((cB _).alloc _) hle;have hb0:Bld B b t (w.alloc (.cells #[.int .u8 54,.int .i64 n,str s,.slice (some ⟨kb,ko,none⟩) 3 c] 32)):=h.alloc _;have ht0:=ht.fb hxW hB;have hs0:=hs.fb hxW
 go_enter func146,ntmps146
 go_wp2_with fail
 refine (DJ _ _ (by omega) (by omega)).mono ?_;rintro e w1 ⟨rfl,rfl⟩;simp only
 go_wp2_with fail
 refine (AO B b (w.heap.size+1) 1 _ [Bh 54] _ (hb0.alloc _) (Box.new' _ _ (by simp)) (by simp) (by (try simp at hlen ⊢)<;>omega)).mono ?_;rintro e u1 ⟨rfl,hb1,hx1⟩;have hxx1:Fb B b (w.alloc (.cells #[.int .u8 54,.int .i64 n,str s,.slice (some ⟨kb,ko,none⟩) 3 c] 32)) u1:=Fb.trans (Fb.of_ext ((cB _).alloc _) hb0.le) hx1;obtain ⟨g0,g1,g2,g3⟩:=(hbx0.fb hxx1 (by omega) (by decide)).node;have ht1:=ht0.fb hxx1 hB;have hs1:=hs0.fb hxx1;simp only
 go_wp2_with fail
 refine (AO B b u1.heap.size 2 _ [s,[32,61,32]] _ (hb1.alloc _) (Box.new' _ _ (by simp)) (by simp) (by (try simp at hlen ⊢)<;>omega)).mono ?_;rintro e u2 ⟨rfl,hb2,hx2⟩;have hxx2:Fb B b (w.alloc (.cells #[.int .u8 54,.int .i64 n,str s,.slice (some ⟨kb,ko,none⟩) 3 c] 32)) u2:=Fb.trans (Fb.trans hxx1 (Fb.of_ext ((cB _).alloc _) hb1.le)) hx2;obtain ⟨g0,g1,g2,g3⟩:=(hbx0.fb hxx2 (by omega) (by decide)).node;have ht2:=ht0.fb hxx2 hB;have hs2:=hs0.fb hxx2;obtain ⟨ka2,kc2,m0,m1,m2,m3,hk2⟩:=Jj hs2;simp only
 go_wp2_with fail
 refine (HX.out B b _ _ ka2 kc2 hb2 ht2 hB hk2 (by (try simp at hlen ⊢)<;>omega)).mono ?_;rintro e u3 ⟨rfl,hb3,hx3⟩;have hxx3:Fb B b (w.alloc (.cells #[.int .u8 54,.int .i64 n,str s,.slice (some ⟨kb,ko,none⟩) 3 c] 32)) u3:=Fb.trans hxx2 hx3;obtain ⟨g0,g1,g2,g3⟩:=(hbx0.fb hxx3 (by omega) (by decide)).node;have ht3:=ht0.fb hxx3 hB;have hs3:=hs0.fb hxx3;obtain ⟨ka3,kc3,m0,m1,m2,m3,m4,m5,m6,hk3⟩:=LV hs3;simp only
 go_wp2_with fail
 refine (Gr _ HY.out B b _ _ ka3 kc3 d hb3 ht3 hB hk3 (by omega) (by (try simp at hlen ⊢)<;>omega)).mono ?_;rintro e u4 ⟨rfl,hb4,hx4⟩;have hxx4:Fb B b (w.alloc (.cells #[.int .u8 54,.int .i64 n,str s,.slice (some ⟨kb,ko,none⟩) 3 c] 32)) u4:=Fb.trans hxx3 hx4;obtain ⟨g0,g1,g2,g3⟩:=(hbx0.fb hxx4 (by omega) (by decide)).node;have ht4:=ht0.fb hxx4 hB;have hs4:=hs0.fb hxx4;simp only
 go_wp2_with fail
 refine (AO B b u4.heap.size 1 _ [[32,100,101,108,111,99,97,108,32]] _ (hb4.alloc _) (Box.new' _ _ (by simp)) (by simp) (by (try simp at hlen ⊢)<;>omega)).mono ?_;rintro e u5 ⟨rfl,hb5,hx5⟩;have hxx5:Fb B b (w.alloc (.cells #[.int .u8 54,.int .i64 n,str s,.slice (some ⟨kb,ko,none⟩) 3 c] 32)) u5:=Fb.trans (Fb.trans hxx4 (Fb.of_ext ((cB _).alloc _) hb4.le)) hx5;obtain ⟨g0,g1,g2,g3⟩:=(hbx0.fb hxx5 (by omega) (by decide)).node;have ht5:=ht0.fb hxx5 hB;have hs5:=hs0.fb hxx5;obtain ⟨ka5,kc5,m0,m1,m2,m3,m4,m5,m6,hk5⟩:=X8 hs5;simp only
 go_wp2_with fail
 refine (HZ.out B b _ _ ka5 kc5 hb5 ht5 hB hk5 (by (try simp at hlen ⊢)<;>omega)).mono ?_;rintro e u6 ⟨rfl,hb6,hx6⟩;have hxx6:Fb B b (w.alloc (.cells #[.int .u8 54,.int .i64 n,str s,.slice (some ⟨kb,ko,none⟩) 3 c] 32)) u6:=Fb.trans hxx5 hx6;obtain ⟨g0,g1,g2,g3⟩:=(hbx0.fb hxx6 (by omega) (by decide)).node;have ht6:=ht0.fb hxx6 hB;have hs6:=hs0.fb hxx6;simp only
 go_wp2_with fail
 go_end0
 exact ⟨rfl,by simpa using hb6,hxW.trans hxx6⟩
def Xo (n:Int) (s:lB) (x:Nd) (hx:Bv 101 Nd.linesT x):Bv 146 Nd.stmtT (.mk 55 n s [x]):=by
 intro B b t w a c d h ht hB hs hd hlen
 have htx:(Nd.mk 55 n s [x]).stmtT d=Bh 55++s++B3 x d:=by rw [Nd.stmtT.eq_def];simp [B3]
 rw [htx] at hlen ⊢;clear htx;have hle:=h.le;have hlt:=h.lt;simp only [cO,dB,cX,cV,dC,cP,cE,Ak,Z1,Z4] at hs hd ⊢
 obtain ⟨kb,ko,rfl⟩ : ∃kb ko,a=some ⟨kb,ko,none⟩:=by
  obtain ⟨b0,o0,_,_,he,_⟩:=AP hs (i:=0) rfl
  exact ⟨b0,o0,he⟩
 have HX:=Z2 hx;clear hx
 have hbx0:Box w.heap.size #[.int .u8 55,.int .i64 n,str s,.slice (some ⟨kb,ko,none⟩) 1 c] 32 (w.alloc (.cells #[.int .u8 55,.int .i64 n,str s,.slice (some ⟨kb,ko,none⟩) 1 c] 32)):=Box.new _ _ _;have hxW:Fb B b w (w.alloc (.cells #[.int .u8 55,.int .i64 n,str s,.slice (some ⟨kb,ko,none⟩) 1 c] 32)):=Fb.of_ext ((cB _).alloc _) hle;have hb0:Bld B b t (w.alloc (.cells #[.int .u8 55,.int .i64 n,str s,.slice (some ⟨kb,ko,none⟩) 1 c] 32)):=h.alloc _;have ht0:=ht.fb hxW hB;have hs0:=hs.fb hxW
 go_enter func146,ntmps146
 go_wp2_with fail
 refine (DJ _ _ (by omega) (by omega)).mono ?_;rintro e w1 ⟨rfl,rfl⟩;simp only
 go_wp2_with fail
 refine (AO B b (w.heap.size+1) 1 _ [Bh 55] _ (hb0.alloc _) (Box.new' _ _ (by simp)) (by simp) (by (try simp at hlen ⊢)<;>omega)).mono ?_;rintro e u1 ⟨rfl,hb1,hx1⟩;have hxx1:Fb B b (w.alloc (.cells #[.int .u8 55,.int .i64 n,str s,.slice (some ⟨kb,ko,none⟩) 1 c] 32)) u1:=Fb.trans (Fb.of_ext ((cB _).alloc _) hb0.le) hx1;obtain ⟨g0,g1,g2,g3⟩:=(hbx0.fb hxx1 (by omega) (by decide)).node;have ht1:=ht0.fb hxx1 hB;have hs1:=hs0.fb hxx1;simp only
 go_wp2_with fail
 refine (AO B b u1.heap.size 1 _ [s] _ (hb1.alloc _) (Box.new' _ _ (by simp)) (by simp) (by (try simp at hlen ⊢)<;>omega)).mono ?_;rintro e u2 ⟨rfl,hb2,hx2⟩;have hxx2:Fb B b (w.alloc (.cells #[.int .u8 55,.int .i64 n,str s,.slice (some ⟨kb,ko,none⟩) 1 c] 32)) u2:=Fb.trans (Fb.trans hxx1 (Fb.of_ext ((cB _).alloc _) hb1.le)) hx2;obtain ⟨g0,g1,g2,g3⟩:=(hbx0.fb hxx2 (by omega) (by decide)).node;have ht2:=ht0.fb hxx2 hB;have hs2:=hs0.fb hxx2;obtain ⟨ka2,kc2,m0,m1,m2,m3,hk2⟩:=Jj hs2;simp only
 go_wp2_with fail
 refine (Gr _ HX.out B b _ _ ka2 kc2 d hb2 ht2 hB hk2 (by omega) (by (try simp at hlen ⊢)<;>omega)).mono ?_;rintro e u3 ⟨rfl,hb3,hx3⟩;have hxx3:Fb B b (w.alloc (.cells #[.int .u8 55,.int .i64 n,str s,.slice (some ⟨kb,ko,none⟩) 1 c] 32)) u3:=Fb.trans hxx2 hx3;obtain ⟨g0,g1,g2,g3⟩:=(hbx0.fb hxx3 (by omega) (by decide)).node;have ht3:=ht0.fb hxx3 hB;have hs3:=hs0.fb hxx3;simp only
 go_wp2_with fail
 go_end0
 exact ⟨rfl,by simpa using hb3,hxW.trans hxx3⟩
def Jk (q:Bool) (l r:List Nd):C2 q (l++r)=C2 q l++C2 (q&&l.isEmpty) r:=by
 induction l generalizing q with
 | nil=>simp [C2]
 | cons x l f=>simp [C2,f]
def LY (l:List Nd) (j:Nat) (h:j<l.length):C2 true (l.take (j+1))=C2 true (l.take j)++((if j=0 then [] else [44,32])++l[j].text):=by
 rw [aD h,Jk];rcases j with _|j
 . simp [C2]
 . have:(l.take (j+1)).isEmpty=false:=by
    rw [List.isEmpty_eq_false_iff];intro e;have h1:(l.take (j+1)).length=j+1:=by simp;omega
    rw [e] at h1;simp at h1
   rw [this];simp [C2]
def P8 (l:List Nd) (j:Nat):(C2 true (l.take j)).length<=(C2 true l).length:=by
 have e:=Jk true (l.take j) (l.drop j);rw [aZ] at e;rw [e];simp
def GY (l r:List Nd) (d:Nat):Cg (l++r) d=Cg l d++Cg r d:=by
 induction l with
 | nil=>simp [Cg]
 | cons x l f=>simp [Cg,f]
def Mq (l:List Nd) (j d:Nat) (h:j<l.length):Cg (l.take (j+1)) d=Cg (l.take j) d++(Dq d++l[j].stmtT d++[59,10]):=by
 rw [aD h,GY];simp [Cg]
def P9 (l:List Nd) (j d:Nat):(Cg (l.take j) d).length<=(Cg l d).length:=by
 have e:=GY (l.take j) (l.drop j) d;rw [aZ] at e;rw [e];simp
def Xp (k n:Int) (s:lB) (l:List Nd) (hll:l.length<=9223372036854775807) (hx : ∀x∈l,Bv 146 Nd.stmtT x):Bv 101 Nd.linesT (.mk k n s l):=by
 intro B b t w a c d h ht hB hs hd hlen
 have htx:(Nd.mk k n s l).linesT d=Cg l d:=by simp [Nd.linesT]
 rw [htx] at hlen ⊢;clear htx;have hle:=h.le;have hlt:=h.lt;simp only [cO,dB,cX,cV,dC,cP,cE] at hs hd ⊢
 have HX:=Z2 hx;clear hx
 simp only [ZZ] at hlen
 go_enter func101,ntmps101
 go_wp2_with fail
 go_loopw [11] (fun i wr=> ∃j:Nat,j<=l.length/\i = .int .i64 j/\Bld B b (t++Cg (l.take j) d) wr/\Fb B b w wr) (fun i _=>l.length-(intOf i).toNat)
 case atStart=>exact ⟨0,aE _,rfl,by simpa [Cg] using h.alloc _,Fb.of_ext ((cB _).alloc _) hle⟩
 case round=>
  obtain ⟨j,hj,rfl,hb0,hxx0⟩:=hrel;clear h
  by_cases hlj:j<l.length
  . have hg:l[j]? = some l[j]:=Z0 hlj
    have hmem:l[j]∈l:=Z8 hlj;have hsz:=D1 hmem;have hsn:=Mq l j d hlj;have hsl:=P9 l (j+1) d;obtain ⟨kb,ko,xa,xc,rfl,hkB,k0,k1,k2,k3,hxs⟩:=AP (hs.fb hxx0) hg;have hP:=HX.out l[j] hmem
    have HG:=Z2 hg;clear hg
    generalize l[j]=x at *
    have HSN:=Z2 hsn;rw [hsn] at hsl;clear hsn
    have HP:=Z2 hP;clear hP
    simp only [ZZ,Z1,Z4] at hsl;have hb0l:=hb0.le;have hb0t:=hb0.lt
    have hkw:kb<wr.heap.size:=by omega
    have hbx0:Box wr.heap.size #[.int .u8 x.kind,.int .i64 x.num,str x.name,.slice xa x.kids.length xc] 32 (wr.alloc (.cells #[.int .u8 x.kind,.int .i64 x.num,str x.name,.slice xa x.kids.length xc] 32)):=Box.new _ _ _;have hxW:Fb B b wr (wr.alloc (.cells #[.int .u8 x.kind,.int .i64 x.num,str x.name,.slice xa x.kids.length xc] 32)):=Fb.of_ext ((cB _).alloc _) hb0l
    go_wp2_with fail
    refine (Vg B b _ d _ (hb0.alloc _) (by omega) (by simp only [Dq,List.length_replicate,ZZ] at *;omega)).mono ?_;rintro e u1 ⟨rfl,hb1,hx1⟩;obtain ⟨g0,g1,g2,g3⟩:=(hbx0.fb hx1 (by omega) (by decide)).node;have hxx1:Fb B b w u1:=(hxx0.trans hxW).trans hx1;have hxs1:=(hxs.fb hxW).fb hx1;have ht1:=ht.fb hxx1 hB;clear k0 k1 k2 k3;simp only
    go_wp2_with fail
    refine (HP.out B b _ _ xa xc d hb1 ht1 hB hxs1 (by omega) (by simp only [Dq,List.length_replicate,ZZ] at *;omega)).mono ?_;rintro e u2 ⟨rfl,hb2,hx2⟩;simp only
    go_wp2_with fail
    refine (AO B b u2.heap.size 1 _ [[59,10]] _ (hb2.alloc _) (Box.new' _ _ (by simp)) (by simp) (by simp only [Dq,List.length_replicate,ZZ,aJ,List.flatten_nil,Z1,Z4] at *;omega)).mono ?_;rintro e u3 ⟨rfl,hb3,hx3⟩
    have hb4:Bld B b (t++Cg (l.take (j+1)) d) u3:=by rw [HSN.out];simpa [Dq] using hb3
    have hxx3:Fb B b w u3:=(hxx1.trans hx2).trans (Fb.trans (Fb.of_ext ((cB _).alloc _) hb2.le) hx3);clear g0 g1 g2 g3 hb0 hb1 hb2 hb3 hsl;simp only
    go_wp2_with fail
    go_roundw
    case rel=>exact ⟨j+1,by omega,by go_num,hb4,hxx3⟩
    case measure=>simp [intOf];omega
  . go_wp2_with fail
    go_end0
    rw [List.take_of_length_le (by omega)] at hb0
    exact ⟨rfl,hb0,hxx0⟩
def Xq (n:Int) (s:lB) (l:List Nd) (hll:l.length<=9223372036854775807) (hx : ∀x∈l,Bw 192 cW x):Bv 146 Nd.stmtT (.mk 50 n s l):=by
 intro B b t w a c d h ht hB hs hd hlen
 have htx:(Nd.mk 50 n s l).stmtT d=Bh 50++s++[40]++C2 true l++[41]:=by rw [Nd.stmtT.eq_def];simp
 rw [htx] at hlen ⊢;clear htx;have hle:=h.le;have hlt:=h.lt;simp only [cO,dB,cX,cV,dC,cP,cE] at hs hd ⊢
 have HX:=Z2 hx;clear hx
 have hbx0:Box w.heap.size #[.int .u8 50,.int .i64 n,str s,.slice a l.length c] 32 (w.alloc (.cells #[.int .u8 50,.int .i64 n,str s,.slice a l.length c] 32)):=Box.new _ _ _;have hxW:Fb B b w (w.alloc (.cells #[.int .u8 50,.int .i64 n,str s,.slice a l.length c] 32)):=Fb.of_ext ((cB _).alloc _) hle;have hb0:Bld B b t (w.alloc (.cells #[.int .u8 50,.int .i64 n,str s,.slice a l.length c] 32)):=h.alloc _;have ht0:=ht.fb hxW hB;have hs0:=hs.fb hxW
 go_enter func146,ntmps146
 go_wp2_with fail
 refine (DJ _ _ (by omega) (by omega)).mono ?_;rintro e w1 ⟨rfl,rfl⟩;simp only
 go_wp2_with fail
 refine (AO B b (w.heap.size+1) 1 _ [Bh 50] _ (hb0.alloc _) (Box.new' _ _ (by simp)) (by simp) (by simp only [ZZ,aJ,List.flatten_nil,Z1,Z4,List.length_replicate,B3,Dq] at hlen ⊢;omega)).mono ?_;rintro e u1 ⟨rfl,hb1,hx1⟩;have hxx1:Fb B b (w.alloc (.cells #[.int .u8 50,.int .i64 n,str s,.slice a l.length c] 32)) u1:=Fb.trans (Fb.of_ext ((cB _).alloc _) hb0.le) hx1;obtain ⟨g0,g1,g2,g3⟩:=(hbx0.fb hxx1 (by omega) (by decide)).node;have ht1:=ht0.fb hxx1 hB;have hs1:=hs0.fb hxx1;simp only
 go_wp2_with fail
 refine (AO B b u1.heap.size 2 _ [s,[40]] _ (hb1.alloc _) (Box.new' _ _ (by simp)) (by simp) (by simp only [ZZ,aJ,List.flatten_nil,Z1,Z4,List.length_replicate,B3,Dq] at hlen ⊢;omega)).mono ?_;rintro e u2 ⟨rfl,hb2,hx2⟩;have hxx2:Fb B b (w.alloc (.cells #[.int .u8 50,.int .i64 n,str s,.slice a l.length c] 32)) u2:=Fb.trans (Fb.trans hxx1 (Fb.of_ext ((cB _).alloc _) hb1.le)) hx2;obtain ⟨g0,g1,g2,g3⟩:=(hbx0.fb hxx2 (by omega) (by decide)).node;have ht2:=ht0.fb hxx2 hB;have hs2:=hs0.fb hxx2;clear g0 g1 g2;simp only
 go_wp2_with fail
 simp only [ZZ,Z1,Z4] at hlen;clear g3
 go_loopw [76] (fun i wr=> ∃j:Nat,j<=l.length/\i = .int .i64 j/\Bld B b (t++Bh 50++s++[40]++C2 true (l.take j)) wr/\Fb B b (w.alloc (.cells #[.int .u8 50,.int .i64 n,str s,.slice a l.length c] 32)) wr) (fun i _=>l.length-(intOf i).toNat)
 case atStart=>exact ⟨0,aE _,rfl,by simpa [C2] using hb2,hxx2⟩
 case round=>
  obtain ⟨j,hj,rfl,hb3,hxx3⟩:=hrel;clear hb1 hx1 hxx1 hb2 hx2 hxx2 ht1 ht2 hs1 hs2
  by_cases hlj:j<l.length
  . have hg:l[j]? = some l[j]:=Z0 hlj
    have hmem:l[j]∈l:=Z8 hlj;have hsn:=LY l j hlj;have hsl:=P8 l (j+1);obtain ⟨kb,ko,xa,xc,rfl,hkB,k0,k1,k2,k3,hxs⟩:=AP (hs0.fb hxx3) hg;have hP:=HX.out l[j] hmem
    have HG:=Z2 hg;clear hg
    generalize l[j]=x at *
    have HSN:=Z2 hsn;rw [hsn] at hsl;clear hsn
    have HP:=Z2 hP;clear hP
    have hb3l:=hb3.le;have hb3t:=hb3.lt
    have hkw:kb<wr.heap.size:=by omega
    have hbx3:Box wr.heap.size #[.int .u8 x.kind,.int .i64 x.num,str x.name,.slice xa x.kids.length xc] 32 (wr.alloc (.cells #[.int .u8 x.kind,.int .i64 x.num,str x.name,.slice xa x.kids.length xc] 32)):=Box.new _ _ _;have hxV:Fb B b wr (wr.alloc (.cells #[.int .u8 x.kind,.int .i64 x.num,str x.name,.slice xa x.kids.length xc] 32)):=Fb.of_ext ((cB _).alloc _) hb3l
    by_cases hj0:j=0
    . have dj:decide (0<j)=false:=by simp;omega
      have hjz:j<=0:=by omega
      simp only [AX hj0,List.nil_append,ZZ] at hsl
      have HJ:=Z2 hj0;clear hj0
      go_wp2_with fail
      refine (HP.out B b _ _ xa xc (hb3.alloc _) (ht0.fb (hxx3.trans hxV) hB) hB (hxs.fb hxV) (by simp only [ZZ,Z1,Z4];omega)).mono ?_;rintro e u5 ⟨rfl,hb5,hx5⟩
      have hb6:Bld B b (t++Bh 50++s++[40]++C2 true (l.take (j+1))) u5:=by rw [HSN.out,AX HJ.out];simpa using hb5
      have hxx6:=(hxx3.trans hxV).trans hx5;clear k0 k1 k2 k3 hb3 hb5 hsl;simp only
      go_wp2_with fail
      go_roundw
      case rel=>exact ⟨j+1,by omega,by go_num,hb6,hxx6⟩
      case measure=>simp [intOf];omega
    . have dj:decide ((0:Int)<j)=true:=by simp;omega
      simp only [AC hj0,ZZ,Z1,Z4] at hsl
      go_wp2_with fail
      refine (AO B b (wr.heap.size+1) 1 _ [[44,32]] _ ((hb3.alloc _).alloc _) (Box.new' _ _ (by simp)) (by simp) (by simp only [ZZ,aJ,List.flatten_nil,Z1,Z4];omega)).mono ?_;rintro e u4 ⟨rfl,hb4,hx4⟩;have hx4':Fb B b (wr.alloc (.cells #[.int .u8 x.kind,.int .i64 x.num,str x.name,.slice xa x.kids.length xc] 32)) u4:=Fb.trans (Fb.of_ext ((cB _).alloc _) (hb3.alloc _).le) hx4;obtain ⟨g0,g1,g2,g3⟩:=(hbx3.fb hx4' (by omega) (by decide)).node;clear k0 k1 k2 k3;simp only
      go_wp2_with fail
      refine (HP.out B b _ _ xa xc hb4 (ht0.fb ((hxx3.trans hxV).trans hx4') hB) hB ((hxs.fb hxV).fb hx4') (by simp only [ZZ,aJ,List.flatten_nil,Z1,Z4];omega)).mono ?_;rintro e u5 ⟨rfl,hb5,hx5⟩
      have hb6:Bld B b (t++Bh 50++s++[40]++C2 true (l.take (j+1))) u5:=by rw [HSN.out,AC hj0];simpa using hb5
      have hxx6:=((hxx3.trans hxV).trans hx4').trans hx5;clear g0 g1 g2 g3 hb3 hb5 hsl hb4;simp only
      go_wp2_with fail
      go_roundw
      case rel=>exact ⟨j+1,by omega,by go_num,hb6,hxx6⟩
      case measure=>simp [intOf];omega
  . rw [List.take_of_length_le (by omega)] at hb3
    go_wp2_with fail
    refine (AO B b wr.heap.size 1 _ [[41]] _ (hb3.alloc _) (Box.new' _ _ (by simp)) (by simp) (by simp only [ZZ,aJ,List.flatten_nil,Z1,Z4];omega)).mono ?_;rintro e u5 ⟨rfl,hb5,hx5⟩;simp only
    go_wp2_with fail
    go_end0
    exact ⟨rfl,by simpa using hb5,(hxW.trans hxx3).trans (Fb.trans (Fb.of_ext ((cB _).alloc _) hb3.le) hx5)⟩
def Xr (n:Int) (s:lB) (l:List Nd) (hll:l.length<=9223372036854775807) (hx : ∀x∈l,Bw 192 cW x):Bv 146 Nd.stmtT (.mk 51 n s l):=by
 intro B b t w a c d h ht hB hs hd hlen
 have htx:(Nd.mk 51 n s l).stmtT d=Bh 51++s++[40]++C2 true l++[41]:=by rw [Nd.stmtT.eq_def];simp
 rw [htx] at hlen ⊢;clear htx;have hle:=h.le;have hlt:=h.lt;simp only [cO,dB,cX,cV,dC,cP,cE] at hs hd ⊢
 have HX:=Z2 hx;clear hx
 have hbx0:Box w.heap.size #[.int .u8 51,.int .i64 n,str s,.slice a l.length c] 32 (w.alloc (.cells #[.int .u8 51,.int .i64 n,str s,.slice a l.length c] 32)):=Box.new _ _ _;have hxW:Fb B b w (w.alloc (.cells #[.int .u8 51,.int .i64 n,str s,.slice a l.length c] 32)):=Fb.of_ext ((cB _).alloc _) hle;have hb0:Bld B b t (w.alloc (.cells #[.int .u8 51,.int .i64 n,str s,.slice a l.length c] 32)):=h.alloc _;have ht0:=ht.fb hxW hB;have hs0:=hs.fb hxW
 go_enter func146,ntmps146
 go_wp2_with fail
 refine (DJ _ _ (by omega) (by omega)).mono ?_;rintro e w1 ⟨rfl,rfl⟩;simp only
 go_wp2_with fail
 refine (AO B b (w.heap.size+1) 1 _ [Bh 51] _ (hb0.alloc _) (Box.new' _ _ (by simp)) (by simp) (by simp only [ZZ,aJ,List.flatten_nil,Z1,Z4,List.length_replicate,B3,Dq] at hlen ⊢;omega)).mono ?_;rintro e u1 ⟨rfl,hb1,hx1⟩;have hxx1:Fb B b (w.alloc (.cells #[.int .u8 51,.int .i64 n,str s,.slice a l.length c] 32)) u1:=Fb.trans (Fb.of_ext ((cB _).alloc _) hb0.le) hx1;obtain ⟨g0,g1,g2,g3⟩:=(hbx0.fb hxx1 (by omega) (by decide)).node;have ht1:=ht0.fb hxx1 hB;have hs1:=hs0.fb hxx1;simp only
 go_wp2_with fail
 refine (AO B b u1.heap.size 2 _ [s,[40]] _ (hb1.alloc _) (Box.new' _ _ (by simp)) (by simp) (by simp only [ZZ,aJ,List.flatten_nil,Z1,Z4,List.length_replicate,B3,Dq] at hlen ⊢;omega)).mono ?_;rintro e u2 ⟨rfl,hb2,hx2⟩;have hxx2:Fb B b (w.alloc (.cells #[.int .u8 51,.int .i64 n,str s,.slice a l.length c] 32)) u2:=Fb.trans (Fb.trans hxx1 (Fb.of_ext ((cB _).alloc _) hb1.le)) hx2;obtain ⟨g0,g1,g2,g3⟩:=(hbx0.fb hxx2 (by omega) (by decide)).node;have ht2:=ht0.fb hxx2 hB;have hs2:=hs0.fb hxx2;clear g0 g1 g2;simp only
 go_wp2_with fail
 simp only [ZZ,Z1,Z4] at hlen;clear g3
 go_loopw [76] (fun i wr=> ∃j:Nat,j<=l.length/\i = .int .i64 j/\Bld B b (t++Bh 51++s++[40]++C2 true (l.take j)) wr/\Fb B b (w.alloc (.cells #[.int .u8 51,.int .i64 n,str s,.slice a l.length c] 32)) wr) (fun i _=>l.length-(intOf i).toNat)
 case atStart=>exact ⟨0,aE _,rfl,by simpa [C2] using hb2,hxx2⟩
 case round=>
  obtain ⟨j,hj,rfl,hb3,hxx3⟩:=hrel;clear hb1 hx1 hxx1 hb2 hx2 hxx2 ht1 ht2 hs1 hs2
  by_cases hlj:j<l.length
  . have hg:l[j]? = some l[j]:=Z0 hlj
    have hmem:l[j]∈l:=Z8 hlj;have hsn:=LY l j hlj;have hsl:=P8 l (j+1);obtain ⟨kb,ko,xa,xc,rfl,hkB,k0,k1,k2,k3,hxs⟩:=AP (hs0.fb hxx3) hg;have hP:=HX.out l[j] hmem
    have HG:=Z2 hg;clear hg
    generalize l[j]=x at *
    have HSN:=Z2 hsn;rw [hsn] at hsl;clear hsn
    have HP:=Z2 hP;clear hP
    have hb3l:=hb3.le;have hb3t:=hb3.lt
    have hkw:kb<wr.heap.size:=by omega
    have hbx3:Box wr.heap.size #[.int .u8 x.kind,.int .i64 x.num,str x.name,.slice xa x.kids.length xc] 32 (wr.alloc (.cells #[.int .u8 x.kind,.int .i64 x.num,str x.name,.slice xa x.kids.length xc] 32)):=Box.new _ _ _;have hxV:Fb B b wr (wr.alloc (.cells #[.int .u8 x.kind,.int .i64 x.num,str x.name,.slice xa x.kids.length xc] 32)):=Fb.of_ext ((cB _).alloc _) hb3l
    by_cases hj0:j=0
    . have dj:decide (0<j)=false:=by simp;omega
      have hjz:j<=0:=by omega
      simp only [AX hj0,List.nil_append,ZZ] at hsl
      have HJ:=Z2 hj0;clear hj0
      go_wp2_with fail
      refine (HP.out B b _ _ xa xc (hb3.alloc _) (ht0.fb (hxx3.trans hxV) hB) hB (hxs.fb hxV) (by simp only [ZZ,Z1,Z4];omega)).mono ?_;rintro e u5 ⟨rfl,hb5,hx5⟩
      have hb6:Bld B b (t++Bh 51++s++[40]++C2 true (l.take (j+1))) u5:=by rw [HSN.out,AX HJ.out];simpa using hb5
      have hxx6:=(hxx3.trans hxV).trans hx5;clear k0 k1 k2 k3 hb3 hb5 hsl;simp only
      go_wp2_with fail
      go_roundw
      case rel=>exact ⟨j+1,by omega,by go_num,hb6,hxx6⟩
      case measure=>simp [intOf];omega
    . have dj:decide ((0:Int)<j)=true:=by simp;omega
      simp only [AC hj0,ZZ,Z1,Z4] at hsl
      go_wp2_with fail
      refine (AO B b (wr.heap.size+1) 1 _ [[44,32]] _ ((hb3.alloc _).alloc _) (Box.new' _ _ (by simp)) (by simp) (by simp only [ZZ,aJ,List.flatten_nil,Z1,Z4];omega)).mono ?_;rintro e u4 ⟨rfl,hb4,hx4⟩;have hx4':Fb B b (wr.alloc (.cells #[.int .u8 x.kind,.int .i64 x.num,str x.name,.slice xa x.kids.length xc] 32)) u4:=Fb.trans (Fb.of_ext ((cB _).alloc _) (hb3.alloc _).le) hx4;obtain ⟨g0,g1,g2,g3⟩:=(hbx3.fb hx4' (by omega) (by decide)).node;clear k0 k1 k2 k3;simp only
      go_wp2_with fail
      refine (HP.out B b _ _ xa xc hb4 (ht0.fb ((hxx3.trans hxV).trans hx4') hB) hB ((hxs.fb hxV).fb hx4') (by simp only [ZZ,aJ,List.flatten_nil,Z1,Z4];omega)).mono ?_;rintro e u5 ⟨rfl,hb5,hx5⟩
      have hb6:Bld B b (t++Bh 51++s++[40]++C2 true (l.take (j+1))) u5:=by rw [HSN.out,AC hj0];simpa using hb5
      have hxx6:=((hxx3.trans hxV).trans hx4').trans hx5;clear g0 g1 g2 g3 hb3 hb5 hsl hb4;simp only
      go_wp2_with fail
      go_roundw
      case rel=>exact ⟨j+1,by omega,by go_num,hb6,hxx6⟩
      case measure=>simp [intOf];omega
  . rw [List.take_of_length_le (by omega)] at hb3
    go_wp2_with fail
    refine (AO B b wr.heap.size 1 _ [[41]] _ (hb3.alloc _) (Box.new' _ _ (by simp)) (by simp) (by simp only [ZZ,aJ,List.flatten_nil,Z1,Z4];omega)).mono ?_;rintro e u5 ⟨rfl,hb5,hx5⟩;simp only
    go_wp2_with fail
    go_end0
    exact ⟨rfl,by simpa using hb5,(hxW.trans hxx3).trans (Fb.trans (Fb.of_ext ((cB _).alloc _) hb3.le) hx5)⟩
def AZ {t:Nd} (h:t.isPlace=true):t.isExpr=true:=by
 simp only [Nd.isPlace,Z3] at h;exact h.2
def GU {t:Nd} (h:t.isVar=true):t.isExpr=true:=by
 simp only [Nd.isVar,Z3] at h;exact h.2
def Hr : ∀l:List Nd,DN l=l.all Nd.isStmt
 | []=>rfl
 | x::r=>by simp [DN,Hr r]
def Jl {k n:Int} {s:lB} {l:List Nd} (h:(Nd.mk k n s l).isStmt=true):40<=k/\k<=56:=by
 by_cases f:k<40\/56<k
 . rw [J2 k n s l f] at h;simp at h
 . omega
def Qa (N:Nat):(∀t:Nd,t.size<N->t.wf->t.isStmt=true->Bv 146 Nd.stmtT t)/\(∀t:Nd,t.size<N->t.wf->t.isBlock=true->Bv 101 Nd.linesT t):=by
 induction N with
 | zero=>exact ⟨fun t h=>absurd h (Nat.not_lt_zero _),fun t h=>absurd h (Nat.not_lt_zero _)⟩
 | succ N U=>
  refine ⟨?_,?_⟩
  . rintro ⟨k,n,s,l⟩ F L f;have hk:=Jl f;simp only [Nd.wf,cE] at L F;obtain ⟨V,X,Y,Z,aa,M,E⟩:=L;by_cases ab:k=40
    . subst ab;rw [DQ Bn] at f;rcases l with _|⟨x,_|⟨y,_|⟨v4,l⟩⟩⟩
      . simp [As] at f
      . simp [As] at f
      . simp only [As,Z3,Bool.and_true,and_true] at f;simp only [Ak,A6] at F E;exact Xa n s x y (CE x E.1 (AZ (f.2.1))) (CE y E.2.1 (f.2.2))
      . simp [As] at f
    by_cases ac:k=41
    . subst ac;rw [DQ Bn] at f;rcases l with _|⟨x,_|⟨y,_|⟨v4,l⟩⟩⟩
      . simp [As] at f
      . simp [As] at f
      . simp only [As,Z3,Bool.and_true,and_true] at f;simp only [Ak,A6] at F E;exact Xb n s x y (CE x E.1 (AZ (f.2.1))) (CE y E.2.1 (f.2.2))
      . simp [As] at f
    by_cases ad:k=42
    . subst ad;rw [DQ Bn] at f;rcases l with _|⟨x,_|⟨y,_|⟨v4,l⟩⟩⟩
      . simp [As] at f
      . simp [As] at f
      . simp only [As,Z3,Bool.and_true,and_true] at f;simp only [Ak,A6] at F E;exact Xc n s x y (CE x E.1 (AZ (f.2.1))) (CE y E.2.1 (f.2.2))
      . simp [As] at f
    by_cases ae:k=43
    . subst ae;rw [JE Bn] at f;rcases l with _|⟨x,_|⟨y,_|⟨v4,l⟩⟩⟩
      . simp [As] at f
      . simp [As] at f
      . simp only [As,Z3,Bool.and_true,and_true] at f;simp only [Ak,A6] at F E;exact Xe n s x y (CE x E.1 (AZ (f.2.1))) (CE y E.2.1 (AZ (f.2.2)))
      . simp [As] at f
    by_cases af:k=44
    . subst af;rw [Gb Bn] at f;rcases l with _|⟨x,_|⟨v4,l⟩⟩
      . simp [As] at f
      . simp only [As,Z3,Bool.and_true,and_true] at f;simp only [Ak,A6] at F E;exact Xf n s x (CE x E.1 (AZ (f.2)))
      . simp [As] at f
    by_cases ag:k=45
    . subst ag;rw [Gb Bn] at f;rcases l with _|⟨x,_|⟨v4,l⟩⟩
      . simp [As] at f
      . simp only [As,Z3,Bool.and_true,and_true] at f;simp only [Ak,A6] at F E;exact Xg n s x (CE x E.1 (AZ (f.2)))
      . simp [As] at f
    by_cases c46:k=46
    . subst c46;rw [DR Bn] at f;rcases l with _|⟨x,_|⟨v4,l⟩⟩
      . simp [As] at f
      . simp only [As,Z3,Bool.and_true,and_true] at f;simp only [Ak,A6] at F E;exact Xh n s x (CE x E.1 (AZ (f.2)))
      . simp [As] at f
    by_cases ah:k=47
    . subst ah;rw [DR Bn] at f;rcases l with _|⟨x,_|⟨v4,l⟩⟩
      . simp [As] at f
      . simp only [As,Z3,Bool.and_true,and_true] at f;simp only [Ak,A6] at F E;exact Xi n s x (CE x E.1 (AZ (f.2)))
      . simp [As] at f
    by_cases ai:k=48
    . subst ai;rw [DR Bn] at f;rcases l with _|⟨x,_|⟨v4,l⟩⟩
      . simp [As] at f
      . simp only [As,Z3,Bool.and_true,and_true] at f;simp only [Ak,A6] at F E;exact Xj n s x (CE x E.1 (AZ (f.2)))
      . simp [As] at f
    by_cases aj:k=49
    . subst aj;rw [DR Bn] at f;rcases l with _|⟨x,_|⟨v4,l⟩⟩
      . simp [As] at f
      . simp only [As,Z3,Bool.and_true,and_true] at f;simp only [Ak,A6] at F E;exact Xk n s x (CE x E.1 (AZ (f.2)))
      . simp [As] at f
    by_cases ak:k=50
    . subst ak;rw [Gd Bn] at f;simp only [Z3,bR] at f;exact Xq n s l M (fun x O=>CE x (BO E x O) (GU (f.2 x O)))
    by_cases c51:k=51
    . subst c51;rw [Gd Bn] at f;simp only [Z3,bR] at f;exact Xr n s l M (fun x O=>CE x (BO E x O) (GU (f.2 x O)))
    by_cases al:k=52
    . subst al;rw [Gc Bn] at f;rcases l with _|⟨x,_|⟨y,_|⟨z,_|⟨u,_|⟨v4,l⟩⟩⟩⟩⟩
      . simp [As] at f
      . simp [As] at f
      . simp [As] at f
      . simp [As] at f
      . simp only [As,Z3,Bool.and_true,and_true] at f;simp only [Ak,A6] at F E;exact Xl n s x y z u (CE x E.1 (f.2.1)) (U.2 y Aa E.2.1 (f.2.2.1)) (U.2 z Aa E.2.2.1 (f.2.2.2.1)) (CE u E.2.2.2.1 (f.2.2.2.2))
      . simp [As] at f
    by_cases c53:k=53
    . subst c53;rw [Gc Bn] at f;rcases l with _|⟨x,_|⟨y,_|⟨z,_|⟨u,_|⟨v4,l⟩⟩⟩⟩⟩
      . simp [As] at f
      . simp [As] at f
      . simp [As] at f
      . simp [As] at f
      . simp only [As,Z3,Bool.and_true,and_true] at f;simp only [Ak,A6] at F E;exact Xm n s x y z u (CE x E.1 (f.2.1)) (U.2 y Aa E.2.1 (f.2.2.1)) (U.2 z Aa E.2.2.1 (f.2.2.2.1)) (CE u E.2.2.2.1 (f.2.2.2.2))
      . simp [As] at f
    by_cases am:k=54
    . subst am;rw [JF Bn] at f;rcases l with _|⟨x,_|⟨y,_|⟨z,_|⟨v4,l⟩⟩⟩⟩
      . simp [As] at f
      . simp [As] at f
      . simp [As] at f
      . simp only [As,Z3,Bool.and_true,and_true] at f;simp only [Ak,A6] at F E;exact Xn n s x y z (CE x E.1 (f.2.1)) (U.2 y Aa E.2.1 (f.2.2.1)) (CE z E.2.2.1 (f.2.2.2))
      . simp [As] at f
    by_cases an:k=55
    . subst an;rw [JG Bn] at f;rcases l with _|⟨x,_|⟨v4,l⟩⟩
      . simp [As] at f
      . simp only [As,Z3,Bool.and_true,and_true] at f;simp only [Ak,A6] at F E;exact Xo n s x (U.2 x Aa E.1 (f.2))
      . simp [As] at f
    by_cases ao:k=56
    . subst ao;rw [DQ Bn] at f;rcases l with _|⟨x,_|⟨y,_|⟨v4,l⟩⟩⟩
      . simp [As] at f
      . simp [As] at f
      . simp only [As,Z3,Bool.and_true,and_true] at f;simp only [Ak,A6] at F E;exact Xd n s x y (CE x E.1 (AZ (f.2.1))) (CE y E.2.1 (f.2.2))
      . simp [As] at f
    omega
  . rintro ⟨k,n,s,l⟩ F L f;simp only [Nd.wf,cE] at L F;obtain ⟨V,X,Y,Z,aa,M,E⟩:=L;simp only [Nd.isBlock,Z3,Hr,bR] at f;exact Xp k n s l M (fun x O=>U.1 x (by have:=D1 O;omega) (BO E x O) (f.2 x O))
def ZC (t:Nd) (f:t.wf) (h:t.isStmt=true):Bv 146 Nd.stmtT t:=(Qa (t.size+1)).1 t Aa f h
def Si (t:Nd) (f:t.wf) (h:t.isBlock=true):Bv 101 Nd.linesT t:=(Qa (t.size+1)).2 t Aa f h
def Ch (t:Nd) (f:t.wf) (h:t.isExpr=true):t.text.length<=30*t.size:=text_len (t.size+1) t Aa f h
def Tz (k:Int):(Bh k).length<=12:=by
 unfold Bh;by_cases f:k=44
 . rw [AX f];decide
 rw [AC f];by_cases h:k=45
 . rw [AX h];decide
 rw [AC h];by_cases c46:k=46
 . rw [AX c46];decide
 rw [AC c46];by_cases E:k=47
 . rw [AX E];decide
 rw [AC E];by_cases F:k=48
 . rw [AX F];decide
 rw [AC F];by_cases L:k=49
 . rw [AX L];decide
 rw [AC L];by_cases M:k=50
 . rw [AX M];decide
 rw [AC M];by_cases c51:k=51
 . rw [AX c51];decide
 rw [AC c51];by_cases N:k=52
 . rw [AX N];decide
 rw [AC N];by_cases c53:k=53
 . rw [AX c53];decide
 rw [AC c53];by_cases O:k=54
 . rw [AX O];decide
 rw [AC O];by_cases U:k=55
 . rw [AX U];decide
 rw [AC U];decide
def Qb (k:Int):(C4 k).length<=3:=by
 unfold C4;split
 . decide
 . split
   . decide
   . have:=LU k;omega
def JS : ∀(l:List Nd) (q:Bool),A6 l->(∀x∈l,x.isExpr=true)->(C2 q l).length<=32*Ak l
 | [],_,_,_=>by simp [C2,Ak]
 | x::r,q,f,h=>by
  simp only [A6] at f;have h1:=Ch x f.1 (h x Bn);have F:=JS r false f.2 (fun y E=>h y (by simp [E]));have L:=x.size_pos;simp only [C2,Ak,ZZ];split<;>simp<;>omega
def Jm (d:Nat) : ∀l:List Nd,(∀x∈l,(x.stmtT d).length+d+2<=4000100*x.size)->(Cg l d).length<=4000100*Ak l
 | [],_=>by simp [Cg,Ak]
 | x::r,h=>by
  have h1:=h x Bn;have E:=Jm d r (fun y f=>h y (by simp [f]));simp only [Cg,Ak,Dq,ZZ,List.length_replicate,Z1,Z4];omega
def Vl (N:Nat):(∀(t:Nd) (d:Nat),t.size<N->t.wf->t.isStmt=true->d+t.size<=1000000->(t.stmtT d).length+d+2<=4000100*t.size)/\(∀(t:Nd) (d:Nat),t.size<N->t.wf->t.isBlock=true->d+t.size<=1000000->(t.linesT d).length+4000100<=4000100*t.size):=by
 induction N with
 | zero=>exact ⟨fun t _ h=>absurd h (Nat.not_lt_zero _),fun t _ h=>absurd h (Nat.not_lt_zero _)⟩
 | succ N Y=>
  refine ⟨?_,?_⟩
  . rintro ⟨k,n,s,l⟩ d F U f L;have hk:=Jl f;have ay:=Tz k;have az:=Qb k;simp only [Nd.wf,cE] at U F L ⊢;obtain ⟨ab,ac,ad,ae,af,ag,E⟩:=U;by_cases ah:k=40
    . subst ah;rw [DQ Bn] at f;rcases l with _|⟨x,_|⟨y,_|⟨v4,l⟩⟩⟩
      . simp [As] at f
      . simp [As] at f
      . simp only [As,Z3,Bool.and_true,and_true] at f;simp only [Ak,A6] at F E L ⊢;have M:=x.size_pos;have O:=Ch x E.1 (AZ (f.2.1));have Z:=y.size_pos;have ly:=Ch y E.2.1 (f.2.2);rw [Nd.stmtT.eq_def];simp only [Dq];simp [-ZZ];simp only [ZZ,Z1,Z4,List.length_replicate];omega
      . simp [As] at f
    by_cases ai:k=41
    . subst ai;rw [DQ Bn] at f;rcases l with _|⟨x,_|⟨y,_|⟨v4,l⟩⟩⟩
      . simp [As] at f
      . simp [As] at f
      . simp only [As,Z3,Bool.and_true,and_true] at f;simp only [Ak,A6] at F E L ⊢;have M:=x.size_pos;have O:=Ch x E.1 (AZ (f.2.1));have Z:=y.size_pos;have ly:=Ch y E.2.1 (f.2.2);rw [Nd.stmtT.eq_def];simp only [Dq];simp [-ZZ];simp only [ZZ,Z1,Z4,List.length_replicate];omega
      . simp [As] at f
    by_cases aj:k=42
    . subst aj;rw [DQ Bn] at f;rcases l with _|⟨x,_|⟨y,_|⟨v4,l⟩⟩⟩
      . simp [As] at f
      . simp [As] at f
      . simp only [As,Z3,Bool.and_true,and_true] at f;simp only [Ak,A6] at F E L ⊢;have M:=x.size_pos;have O:=Ch x E.1 (AZ (f.2.1));have Z:=y.size_pos;have ly:=Ch y E.2.1 (f.2.2);rw [Nd.stmtT.eq_def];simp only [Dq];simp [-ZZ];simp only [ZZ,Z1,Z4,List.length_replicate];omega
      . simp [As] at f
    by_cases ak:k=43
    . subst ak;rw [JE Bn] at f;rcases l with _|⟨x,_|⟨y,_|⟨v4,l⟩⟩⟩
      . simp [As] at f
      . simp [As] at f
      . simp only [As,Z3,Bool.and_true,and_true] at f;simp only [Ak,A6] at F E L ⊢;have M:=x.size_pos;have O:=Ch x E.1 (AZ (f.2.1));have Z:=y.size_pos;have ly:=Ch y E.2.1 (AZ (f.2.2));rw [Nd.stmtT.eq_def];simp only [Dq];simp [-ZZ];simp only [ZZ,Z1,Z4,List.length_replicate];omega
      . simp [As] at f
    by_cases al:k=44
    . subst al;rw [Gb Bn] at f;rcases l with _|⟨x,_|⟨v4,l⟩⟩
      . simp [As] at f
      . simp only [As,Z3,Bool.and_true,and_true] at f;simp only [Ak,A6] at F E L ⊢;have M:=x.size_pos;have O:=Ch x E.1 (AZ (f.2));simp only [named,Z3] at f;have V:=CJ f.1.2;rw [Nd.stmtT.eq_def];simp only [Dq];simp [-ZZ];simp only [ZZ,Z1,Z4,List.length_replicate];omega
      . simp [As] at f
    by_cases am:k=45
    . subst am;rw [Gb Bn] at f;rcases l with _|⟨x,_|⟨v4,l⟩⟩
      . simp [As] at f
      . simp only [As,Z3,Bool.and_true,and_true] at f;simp only [Ak,A6] at F E L ⊢;have M:=x.size_pos;have O:=Ch x E.1 (AZ (f.2));simp only [named,Z3] at f;have V:=CJ f.1.2;rw [Nd.stmtT.eq_def];simp only [Dq];simp [-ZZ];simp only [ZZ,Z1,Z4,List.length_replicate];omega
      . simp [As] at f
    by_cases c46:k=46
    . subst c46;rw [DR Bn] at f;rcases l with _|⟨x,_|⟨v4,l⟩⟩
      . simp [As] at f
      . simp only [As,Z3,Bool.and_true,and_true] at f;simp only [Ak,A6] at F E L ⊢;have M:=x.size_pos;have O:=Ch x E.1 (AZ (f.2));rw [Nd.stmtT.eq_def];simp only [Dq];simp [-ZZ];simp only [ZZ,Z1,Z4,List.length_replicate];omega
      . simp [As] at f
    by_cases an:k=47
    . subst an;rw [DR Bn] at f;rcases l with _|⟨x,_|⟨v4,l⟩⟩
      . simp [As] at f
      . simp only [As,Z3,Bool.and_true,and_true] at f;simp only [Ak,A6] at F E L ⊢;have M:=x.size_pos;have O:=Ch x E.1 (AZ (f.2));rw [Nd.stmtT.eq_def];simp only [Dq];simp [-ZZ];simp only [ZZ,Z1,Z4,List.length_replicate];omega
      . simp [As] at f
    by_cases ao:k=48
    . subst ao;rw [DR Bn] at f;rcases l with _|⟨x,_|⟨v4,l⟩⟩
      . simp [As] at f
      . simp only [As,Z3,Bool.and_true,and_true] at f;simp only [Ak,A6] at F E L ⊢;have M:=x.size_pos;have O:=Ch x E.1 (AZ (f.2));rw [Nd.stmtT.eq_def];simp only [Dq];simp [-ZZ];simp only [ZZ,Z1,Z4,List.length_replicate];omega
      . simp [As] at f
    by_cases ap:k=49
    . subst ap;rw [DR Bn] at f;rcases l with _|⟨x,_|⟨v4,l⟩⟩
      . simp [As] at f
      . simp only [As,Z3,Bool.and_true,and_true] at f;simp only [Ak,A6] at F E L ⊢;have M:=x.size_pos;have O:=Ch x E.1 (AZ (f.2));rw [Nd.stmtT.eq_def];simp only [Dq];simp [-ZZ];simp only [ZZ,Z1,Z4,List.length_replicate];omega
      . simp [As] at f
    by_cases aq:k=50
    . subst aq;rw [Gd Bn] at f;simp only [Z3,bR,named] at f;have V:=CJ f.1.1.2;have ar:=JS l true E (fun x X=>GU (f.2 x X));have aa:(Nd.mk 50 n s l).stmtT d=Bh 50++s++[40]++C2 true l++[41]:=by rw [Nd.stmtT.eq_def];simp
      rw [aa];simp only [ZZ,Z1,Z4];omega
    by_cases c51:k=51
    . subst c51;rw [Gd Bn] at f;simp only [Z3,bR,named] at f;have V:=CJ f.1.1.2;have ar:=JS l true E (fun x X=>GU (f.2 x X));have aa:(Nd.mk 51 n s l).stmtT d=Bh 51++s++[40]++C2 true l++[41]:=by rw [Nd.stmtT.eq_def];simp
      rw [aa];simp only [ZZ,Z1,Z4];omega
    by_cases au:k=52
    . subst au;rw [Gc Bn] at f;rcases l with _|⟨x,_|⟨y,_|⟨z,_|⟨u,_|⟨v4,l⟩⟩⟩⟩⟩
      . simp [As] at f
      . simp [As] at f
      . simp [As] at f
      . simp [As] at f
      . simp only [As,Z3,Bool.and_true,and_true] at f;simp only [Ak,A6] at F E L ⊢;have M:=x.size_pos;have O:=Ch x E.1 (f.2.1);have Z:=y.size_pos;have ly:=Y.2 y (d+1) Aa E.2.1 (f.2.2.1) Aa;have zz:=z.size_pos;have lz:=Y.2 z (d+1) Aa E.2.2.1 (f.2.2.2.1) Aa;have zu:=u.size_pos;have lu:=Ch u E.2.2.2.1 (f.2.2.2.2);rw [Nd.stmtT.eq_def];simp only [Dq];simp [-ZZ];simp only [ZZ,Z1,Z4,List.length_replicate];omega
      . simp [As] at f
    by_cases c53:k=53
    . subst c53;rw [Gc Bn] at f;rcases l with _|⟨x,_|⟨y,_|⟨z,_|⟨u,_|⟨v4,l⟩⟩⟩⟩⟩
      . simp [As] at f
      . simp [As] at f
      . simp [As] at f
      . simp [As] at f
      . simp only [As,Z3,Bool.and_true,and_true] at f;simp only [Ak,A6] at F E L ⊢;have M:=x.size_pos;have O:=Ch x E.1 (f.2.1);have Z:=y.size_pos;have ly:=Y.2 y (d+1) Aa E.2.1 (f.2.2.1) Aa;have zz:=z.size_pos;have lz:=Y.2 z (d+1) Aa E.2.2.1 (f.2.2.2.1) Aa;have zu:=u.size_pos;have lu:=Ch u E.2.2.2.1 (f.2.2.2.2);rw [Nd.stmtT.eq_def];simp only [Dq];simp [-ZZ];simp only [ZZ,Z1,Z4,List.length_replicate];omega
      . simp [As] at f
    by_cases av:k=54
    . subst av;rw [JF Bn] at f;rcases l with _|⟨x,_|⟨y,_|⟨z,_|⟨v4,l⟩⟩⟩⟩
      . simp [As] at f
      . simp [As] at f
      . simp [As] at f
      . simp only [As,Z3,Bool.and_true,and_true] at f;simp only [Ak,A6] at F E L ⊢;have M:=x.size_pos;have O:=Ch x E.1 (f.2.1);have Z:=y.size_pos;have ly:=Y.2 y (d+1) Aa E.2.1 (f.2.2.1) Aa;have zz:=z.size_pos;have lz:=Ch z E.2.2.1 (f.2.2.2);simp only [named,Z3] at f;have V:=CJ f.1.2;rw [Nd.stmtT.eq_def];simp only [Dq];simp [-ZZ];simp only [ZZ,Z1,Z4,List.length_replicate];omega
      . simp [As] at f
    by_cases aw:k=55
    . subst aw;rw [JG Bn] at f;rcases l with _|⟨x,_|⟨v4,l⟩⟩
      . simp [As] at f
      . simp only [As,Z3,Bool.and_true,and_true] at f;simp only [Ak,A6] at F E L ⊢;have M:=x.size_pos;have O:=Y.2 x (d+1) Aa E.1 (f.2) Aa;simp only [named,Z3] at f;have V:=CJ f.1.2;rw [Nd.stmtT.eq_def];simp only [Dq];simp [-ZZ];simp only [ZZ,Z1,Z4,List.length_replicate];omega
      . simp [As] at f
    by_cases ax:k=56
    . subst ax;rw [DQ Bn] at f;rcases l with _|⟨x,_|⟨y,_|⟨v4,l⟩⟩⟩
      . simp [As] at f
      . simp [As] at f
      . simp only [As,Z3,Bool.and_true,and_true] at f;simp only [Ak,A6] at F E L ⊢;have M:=x.size_pos;have O:=Ch x E.1 (AZ (f.2.1));have Z:=y.size_pos;have ly:=Ch y E.2.1 (f.2.2);rw [Nd.stmtT.eq_def];simp only [Dq];simp [-ZZ];simp only [ZZ,Z1,Z4,List.length_replicate];omega
      . simp [As] at f
    omega
  . rintro ⟨k,n,s,l⟩ d F U f L;simp only [Nd.wf,cE] at U F L ⊢;obtain ⟨ab,ac,ad,ae,af,ag,E⟩:=U;simp only [Nd.isBlock,Z3,Hr,bR] at f;have:=Jm d l (fun x X=>Y.1 x d (by have:=D1 X;omega) (BO E x X) (f.2 x X) (by have:=D1 X;omega));simp only [Nd.linesT];omega
def Vm (t:Nd) (d:Nat) (f:t.wf) (h:t.isBlock=true) (E:d+t.size<=1000000):(t.linesT d).length+4000100<=4000100*t.size:=(Vl (t.size+1)).2 t d Aa f h E
def KM {α:Type} (f:α->lB) (l:List α):lB:=(l.map f).flatten
def Qc {α:Type} (f:α->lB) (l:List α) (j:Nat) (h:j<l.length):KM f (l.take (j+1))=KM f (l.take j)++f l[j]:=by
 unfold KM;rw [aD h];simp only [List.map_append,List.flatten_append,bZ,List.map_nil,aJ,List.flatten_nil,List.append_nil]
def Oe {α:Type} (f:α->lB) (l:List α) (j:Nat):(KM f (l.take j)).length<=(KM f l).length:=by
 have e:KM f l=KM f (l.take j)++KM f (l.drop j):=by unfold KM;rw [<-List.flatten_append,<-List.map_append,aZ]
 rw [e,ZZ];omega
def C0 {α:Type} (f:α->lB):Bool->List α->lB
 | _,[]=>[]
 | q,x::r=>(if q then [] else [44,32])++f x++C0 f false r
def IF {α:Type} (f:α->lB) : ∀(l m:List α) (q:Bool),C0 f q (l++m)=C0 f q l++C0 f (q&&l.isEmpty) m
 | [],m,q=>by simp [C0]
 | x::r,m,q=>by simp [C0,IF f r m false]
def Qd {α:Type} (f:α->lB) (l:List α) (j:Nat) (h:j<l.length):C0 f true (l.take (j+1))=C0 f true (l.take j)++((if j=0 then [] else [44,32])++f l[j]):=by
 rw [aD h,IF];congr 1;cases j with
 | zero=>simp [C0]
 | succ j=>cases l with
  | nil=>simp at h
  | cons x r=>simp [C0]
def M8 {α:Type} (f:α->lB) (l:List α) (j:Nat):(C0 f true (l.take j)).length<=(C0 f true l).length:=by
 have e:C0 f true l=C0 f true (l.take j)++C0 f (true&&(l.take j).isEmpty) (l.drop j):=by rw [<-IF,aZ]
 rw [e,ZZ];omega
def VD.text (v:VD):lB:=if v.kind=1 then [105,110,116,32]++v.name else if v.kind=2 then [97,114,114,97,121,32]++v.name++[91]++Lib.itoa v.len++[93] else [115,116,97,99,107,32]++v.name
def VD.line (v:VD):lB:=v.text++[10]
def PD.text (p:PD):lB:=[112,114,111,99,32]++p.name++[40]++C0 VD.text true p.params++[41,32,123,10]++p.body.linesT 1++[125,10]
def PG.text (g:PG):lB:=KM VD.line g.vars++KM PD.text g.procs++[109,97,105,110,32,123,10]++g.main.linesT 1++[125,10]
def Ri (n:Int) (f:1<=n) (h1:n<=16):(Lib.itoa n).length<=21:=Lib.itoa_length_le n Aa Aa
def VD.text_len (v:VD) (h:v.ok=true):v.text.length<=60:=by
 simp only [VD.ok,Z3] at h;have h1:=CJ h.1;have f:=h.2;unfold VD.text;split
 . simp only [ZZ,Z1,Z4];omega
 . split
   . rename_i E c2;rw [AC Aa,AX c2] at f;simp only [Z3,decide_eq_true_eq] at f;have:=Ri v.len f.1 f.2;simp only [ZZ,Z1,Z4];omega
   . simp only [ZZ,Z1,Z4];omega
def Of {α:Type} (f:α->lB) (B:Nat) : ∀(l:List α),(∀x∈l,(f x).length<=B)->(KM f l).length<=l.length*B
 | [],_=>by simp [KM]
 | x::r,h=>by
  have h1:=h x List.mem_cons_self;have F:=Of f B r (fun y E=>h y (List.mem_cons_of_mem _ E));have e:KM f (x::r)=f x++KM f r:=by simp [KM]
  rw [e,ZZ,Z1,Nat.add_mul,Nat.one_mul];omega
def LZ {α:Type} (f:α->lB) (B:Nat) : ∀(l:List α) (q:Bool),(∀x∈l,(f x).length<=B)->(C0 f q l).length<=l.length*(B+2)
 | [],q,_=>by simp [C0]
 | x::r,q,h=>by
  have h1:=h x List.mem_cons_self;have F:=LZ f B r false (fun y E=>h y (List.mem_cons_of_mem _ E));simp only [C0,ZZ,Z1,Nat.add_mul,Nat.one_mul];split<;>simp<;>omega
mutual
def Qe : ∀(t:Nd) (d m:Int),0<=m->(t.lim d m).1=true->(t.size:Int)+(t.lim d m).2<=m
 | .mk _ _ s l,d,m,hm,h=>by
  simp only [Nd.lim] at h ⊢;split at h
  . simp at h
  . rename_i hn;rw [AC hn];have:=Kr l (d-1) (m-1) Aa h;simp only [cE];omega
def Kr : ∀(l:List Nd) (d m:Int),0<=m->(Cq l d m).1=true->(Ak l:Int)+(Cq l d m).2<=m
 | [],d,m,hm,_=>by simp only [Cq,Ak];omega
 | t::r,d,m,hm,h=>by
  simp only [Cq] at h ⊢;split at h
  . rename_i ht;rw [AX ht];have h1:=Qe t d m hm ht;have h0:=JN t d m hm;have h2:=Kr r d (t.lim d m).2 h0.1 h;simp only [Ak];omega
  . simp at h
end
def Jn (t:Nd) (f:t.wf) (h:DZ t=true):t.size<=2000/\t.isBlock=true/\(t.linesT 1).length<=8001000000:=by
 simp only [DZ,Z3] at h;have h1:=Qe t 80 2000 Aa h.1;have F:=JN t 80 2000 Aa;have E:t.size<=2000:=by omega
 have:=Vm t 1 f h.2 Aa;exact ⟨E,h.2,Aa⟩
def PD.text_len (p:PD) (f:p.wf) (h:p.ok=true):p.text.length<=8002000000:=by
 simp only [PD.ok,Z3,decide_eq_true_eq] at h;have h1:=CJ h.1.1.1;have L:=Jn p.body f.body h.2;have M:=LZ VD.text 60 p.params true (fun v E=>VD.text_len v (by have:=h.1.2;unfold De at this;exact bR.1 this v E));have F:=h.1.1.2;unfold PD.text;simp only [ZZ,Z1,Z4];have:p.params.length*62<=8*62:=Nat.mul_le_mul_right _ F;omega
def PG.text_len (g:PG) (f:g.wf) (h:g.ok=true):g.text.length<=1000000000000:=by
 simp only [PG.ok,Z3,decide_eq_true_eq] at h;obtain ⟨⟨⟨⟨h1,L⟩,E⟩,M⟩,N⟩:=h;have U:=Of VD.line 61 g.vars (fun v O=>by
  have:=VD.text_len v (by unfold De at E;exact bR.1 E v O);simp only [VD.line,ZZ,Z1,Z4];omega)
 have a2:=Of PD.text 8002000000 g.procs (fun p F=>PD.text_len p (f.procs p F) (bR.1 M p F));have a3:=Jn g.main f.main N;have V:g.vars.length*61<=32*61:=Nat.mul_le_mul_right _ h1;have X:g.procs.length*8002000000<=64*8002000000:=Nat.mul_le_mul_right _ L;unfold PG.text;simp only [ZZ,Z1,Z4];omega
def Row.below {B:Nat} {w w':wD} {p:Addr} {vs:lV} (h:Row w p vs) (x:Below B w w') (f:p.block<B):Row w' p vs:=fun i v E=>by
 rw [Below.cell x (by rw [Ms];exact f)];exact h i v E
def VDs.below {B:Nat} {w w':wD} {l:List VD} {a:oA} (h:VDs (· < B) w l a) (x:Below B w w'):VDs (· < B) w' l a:=h.mono aFh (fun _ _ _ _ f h=>Row.below h x f)
def sits.below {B:Nat} {w w':wD} {t:Nd} {a:oA} (h:t.sits (· < B) w a) (x:Below B w w'):t.sits (· < B) w' a:=
 Nd.sits_mono aFh (fun b o _ f E=>(Below.cell (p:=⟨b,o,none⟩) x f).trans E) t a h
def PDs.below {B:Nat} {w w':wD} {l:List PD} {a:oA} (h:PDs (· < B) w l a) (x:Below B w w'):PDs (· < B) w' l a:=
 h.mono aFh (fun _ _ _ _ f ⟨E,pc,ba,bc,h1,h2,h3⟩=>⟨E,pc,ba,bc,Row.below h1 x f,h2.below x,sits.below h3 x⟩)
def VDs.lt {S:nP} {w:wD} {l:List VD} {a:oA} (h:VDs S w l a):VDs (· < w.heap.size) w l a:=by
 rcases h with h|⟨b,o,h1,E,f⟩
 . exact Z6 h
 . cases l with
   | nil=>exact Z6 rfl
   | cons v r=>exact aA ⟨b,o,h1,Cr (Row.at0 (f 0 v rfl) rfl),f⟩
def PDs.lt {S:nP} {w:wD} {l:List PD} {a:oA} (h:PDs S w l a):PDs (· < w.heap.size) w l a:=by
 rcases h with h|⟨b,o,h1,X,E⟩
 . exact Z6 h
 . cases l with
   | nil=>exact Z6 rfl
   | cons v r=>
    obtain ⟨F,L,M,N,f,-,-⟩:=E 0 v rfl;refine aA ⟨b,o,h1,Cr (Row.at0 f rfl),fun i x O=>?_⟩;obtain ⟨F,L,M,N,f,U,V⟩:=E i x O;exact ⟨F,L,M,N,f,U.lt,KG _ _ V⟩
def PG.sits.lt {S:nP} {w:wD} {g:PG} {f E F:oA} (h:g.sits S w f E F):g.sits (· < w.heap.size) w f E F:=⟨h.vars.lt,h.procs.lt,KG _ _ h.main⟩
def TB.fb {w w':wD} {k B b:Nat} {vs:lV} {T:TypeId} (h:TB w k vs T) (x:Fb B b w w') (f:k≠b) (E:T≠5):TB w' k vs T:=
 (Box.fb (cs:=vs.toArray) ⟨h⟩ x f E).heap
def Bld.ofTB {w:wD} {B b:Nat} (h:TB w b [.pointer none,.slice none 0 0] 113) (f:B<=b):Bld B b [] w:=
 ⟨.inl ⟨f,.slice none 0 0,h,⟨rfl,.inl ⟨rfl,rfl⟩⟩,by simp [bH]⟩,by have:=h.blk.lt;omega⟩
def Rj (v:VD) (X:v.ok=true) (B b:Nat) (l:lB) (w:wD) (h:Bld B b l w) (ht:Tabs w) (hg:prog.globals.size<=B) (f:l.length+v.text.length<=140737488355328) :
 Calls prog 57 #[.pointer (some ⟨b,0,none⟩),v.val] w fun e w'=>e = .returned (.tuple #[])/\Bld B b (l++v.text) w'/\Fb B b w w':=by
 have M:=h.le;simp only [VD.ok,Z3] at X;have Y:=X.2;refine Ad func57 ntmps57 rfl rfl ?_;refine eK ?_;refine RG rfl rfl rfl ?_;intro b1 w1 N t1;have h1:=N.blk;have Z:=N.ext;have O:=h.ext Z;by_cases c1:v.kind=1
 . have E:v.text=[105,110,116,32]++v.name:=by simp [VD.text,c1]
   rw [E] at f ⊢;refine eK ?_;refine Ax (CG Ac Ci rfl rfl rfl rfl rfl rfl rfl rfl) rfl ?_ aFh;rintro _ w2 ⟨b2,rfl,F,U⟩;refine cC rfl (AO B b b2 2 l [[105,110,116,32],v.name] _ (O.ext F.ext) ⟨U⟩ Bn (by simpa using f)) ?_;rintro _ w3 ⟨⟨⟩,V,f3⟩;refine Ai (Af ?_);exact Cb rfl ⟨rfl,by simpa using V,(Fb.of_ext (Z.trans F.ext) M).trans f3⟩
 by_cases c3:v.kind=3
 . have E:v.text=[115,116,97,99,107,32]++v.name:=by simp [VD.text,c3]
   rw [E] at f ⊢;refine eK ?_;refine Ax (CG Ac Ci rfl rfl rfl rfl rfl rfl rfl rfl) rfl ?_ aFh;rintro _ w2 ⟨b2,rfl,F,U⟩;refine cC rfl (AO B b b2 2 l [[115,116,97,99,107,32],v.name] _ (O.ext F.ext) ⟨U⟩ Bn (by simpa using f)) ?_;rintro _ w3 ⟨⟨⟩,V,f3⟩;refine Ai (Af ?_);exact Cb rfl ⟨rfl,by simpa using V,(Fb.of_ext (Z.trans F.ext) M).trans f3⟩
 by_cases c2:v.kind=2
 . have E:v.text=[97,114,114,97,121,32]++v.name++[91]++Lib.itoa v.len++[93]:=by simp [VD.text,c2]
   rw [E] at f ⊢;rw [AC Aa,AX c2] at Y;simp only [Z3,decide_eq_true_eq] at Y;obtain ⟨ad,ae⟩:=Y;refine Ai (Ae (Ah (Aj (C1 Pf (C1 Jt (Ai (Ae (At (Ah (Aj (C1 V1 ?_)))))))))));refine C1 Pa (Ai (Ae (Qw (Ah (Aj (C1 V1 (C1 Pa (Ai (Ae (Qw (Ah ?_)))))))))));refine Aj (C1 V1 (C1 Pa (Ai (Ae (KY ?_)))));refine V0 (fun w'=>Blk w' b1 v.cells) (.pure 0 (.pure 1 (.pure 2 (.pure 3 (.pure 4 (.fork 5 (.fork 6 (.fork 7 .done .none) .none) .none)))))) mixed Bo (by refine Al ?_;exact An) ?_;intro w2 x2 _;refine ⟨h1.ext x2,?_⟩;refine II rfl (by exact BJ rfl) rfl (II rfl (by exact Ek Ac rfl rfl rfl) rfl ?_);refine II rfl (by exact AA Ac rfl rfl rfl (by exact fun wz hz=>by (try subst hz);exact (Blk.cell Ag (by rfl)))) rfl ?_;refine II rfl (by exact AV Ac rfl rfl rfl) rfl ?_;refine II rfl (by exact AA Ac rfl rfl rfl (by exact fun wz hz=>by (try subst hz);exact (Blk.cell Ag (by rfl)))) rfl ?_;refine Nv rfl (Bg Bo rfl (Vi v.len Aa Aa _ (ht.ext (Z.trans x2) Aa)) (fun _ _ h=>⟨_,h.1⟩)) rfl ?_ aFh Nu;rintro _ w3 ⟨⟨⟩,x3⟩;refine ⟨(h1.ext x2).ext x3,?_⟩;refine Nv rfl (CG Ac Ci rfl rfl rfl rfl rfl rfl rfl rfl) rfl ?_ aFh Nu;rintro _ w4 ⟨b4,rfl,aa,ab⟩;have L:Ext w1 w4:=(x2.trans x3).trans aa.ext;refine ⟨h1.ext L,?_⟩;refine Nv rfl (Bg Bo rfl (AO B b b4 5 l [[97,114,114,97,121,32],v.name,[91],Lib.itoa v.len,[93]] _ (O.ext L) ⟨ab⟩ Bn (by simpa [Nat.add_assoc] using f)) (fun _ _ h=>⟨_,h.1⟩)) rfl ?_ aFh Nu;rintro _ w5 ⟨⟨⟩,ac,f5⟩;refine ⟨(TB.fb (t1.ext L) f5 (by have:=N.pos;have:=h.lt;omega) Au).blk,?_⟩;refine Wa (Af ?_)
   exact Cb rfl ⟨rfl,by simpa using ac,(Fb.of_ext (Z.trans L) M).trans f5⟩
 . rw [AC Aa,AC c2] at Y;cases Y
def M9 (g:PG) (S:nP) (va:oA) (vc:Nat) (pa:oA) (pc:Nat) (ma:oA) (mc:Nat) (w:wD) (U:g.wf) (ht:Tabs w) (hg:prog.globals.size<=w.heap.size) (hs:g.sits S w va pa ma) :
 Calls prog 30 #[.agg (g.cells va vc pa pc ma mc).toArray] w fun e w'=>e = .returned (.tuple #[str (if g.ok then g.text else []),.int .i64 (if g.ok then 0 else 3)])/\Ext w w':=by
 have cl:=U.nv;have cm:=U.np;refine Ad func30 ntmps30 rfl rfl ?_;refine eK ?_;refine RG rfl rfl rfl ?_;intro b1 w1 am t1;have h1:=am.blk;have x1:=am.ext;refine C1 Pa (C1 Pa (Ai (Ae (Ah (Ah (Aj ?_))))));refine Ck (by exact BK Ac rfl rfl rfl (by exact fun wz hz=>by (try subst hz);exact (cQ Ag)) (by rfl)) rfl ?_;refine cC rfl (Se g S va vc pa pc ma mc _ U (hs.ext x1)) ?_;rintro _ w2 ⟨⟨⟩,x2⟩;cases hok:g.ok
 . try rw [hok]
   refine C1 Pt (Ai (Ae (EV rfl (by rfl) ?_)));refine eK ?_;refine B6 results30 rfl rfl ?_;exact ⟨rfl,x1.trans x2⟩
 try rw [hok]
 have a9:=PG.text_len g U hok;have HK:=Z2 hok;simp only [PG.ok,Z3,decide_eq_true_eq] at hok;obtain ⟨⟨⟨⟨o1,o2⟩,o3⟩,o4⟩,o5⟩:=hok;obtain ⟨m1,m2,m3⟩:=Jn g.main U.main o5;have O3:=Z2 o3;clear o3;have O4:=Z2 o4;clear o4;simp only [PG.text,ZZ,Z1,Z4] at a9;have ax:=hs.lt;have ay:Ext w w2:=x1.trans x2;refine C1 Pt (Ai (Ae (Fa rfl (by rfl) ?_)));refine eK ?_;refine Fi Ci rfl rfl ?_;intro f w3 ac t3;have br:Bld w.heap.size f [] w3:=Bld.ofTB t3 (by have:=ac.pos;have:=ay.size;omega);have bs:Ext w w3:=ay.trans ac.ext;have bb:=(t1.ext x2).ext ac.ext;have az:b1≠f:=by have:=ac.pos;have:=(t1.ext x2).blk.lt;omega
 have cn:=am.pos;have co:=ac.pos;have ck:=ay.size;have cp:=bb.blk;generalize hB:w.heap.size=B at *;have HB:=Z2 hB;clear hB;have bt:Below B w w3:=HB.out▸bs;have bu:=Fb.refl B f w3;clear am ac t1 h1;refine eK ?_;refine AK (ι:=Nat) (fun j=>[(17,.int .i64 j),(16,.int .i64 g.vars.length),(15,.slice va g.vars.length vc),(4,.pointer (some ⟨f,0,none⟩)),(1,.pointer (some ⟨b1,0,none⟩))]) (fun j w'=>Fb B f w3 w'/\Bld B f (KM VD.line (g.vars.take j)) w'/\j<=g.vars.length) (fun j=>g.vars.length-j) 0 sB ⟨bu,br,Aa⟩ ?_;rintro j w4 ⟨f4,ae,hj⟩;have t4:=bb.fb f4 az Au;have h4:=t4.blk;have y4:Below B w w4:=bt.trans f4.below;have bd:=Oe VD.line g.vars j;by_cases a0:j<g.vars.length
 . obtain ⟨kb,ko,rfl,-,L⟩:=Arr.get (ax.vars.below y4) Aa;have rx:Row w4 ⟨kb,ko+j*3,none⟩ g.vars[j].cells:=L j g.vars[j] (Z0 a0);have an:g.vars[j].ok=true:=by have:=O3.out;unfold De at this;exact bR.1 this _ (Z8 a0)
   have M:=Qc VD.line g.vars j a0;have af:=Oe VD.line g.vars (j+1);rw [M] at af;simp only [VD.line,ZZ,Z1,Z4] at af M bd;have HC:=Z2 M;clear M L;generalize g.vars[j]=v at *;refine eK ?_;refine F2 Ci rfl rfl ?_;intro b5 w5 ag;refine Hw Ac rfl rfl rfl rfl rfl rfl (ag) rfl ?_;clear ag w5;intro w5 ag;have h5:=ag.blk;have x5:=ag.ext;refine Ai (Ae (Ah (Aj ?_)));refine Ck (by exact BK Ac rfl rfl rfl (by exact fun wz hz=>by (try subst hz);exact (cQ Ag)) (by rfl)) rfl ?_;refine cC rfl (Rj v an B f _ _ (ae.ext x5) (ht.below (y4.trans (Below.mono x5 ae.le)) Aa) Aa (by simp only at *;omega)) ?_;rintro _ w6 ⟨⟨⟩,be,f6⟩;refine eK ?_;refine Ax (CG Ac Ci rfl rfl rfl rfl rfl rfl rfl rfl) rfl ?_ aFh;rintro _ w7 ⟨b7,rfl,V,ao⟩;refine cC rfl (AO B f b7 1 _ [[10]] _ (be.ext V.ext) ⟨ao⟩ Bn (by simp only [aJ,List.flatten_nil,ZZ,Z1,Z4] at *;omega)) ?_;rintro _ w8 ⟨⟨⟩,N,f8⟩;refine Ai (Af (Ae (Aj (C1 V7 (C1 Mv (Ai ?_))))));refine Ay (j+1) sB ⟨(f4.trans (Fb.of_ext x5 ae.le)).trans (f6.trans ((Fb.of_ext V.ext be.le).trans f8)),?_,Aa⟩ Aa;rw [HC.out];simpa using N
 obtain rfl:j=g.vars.length:=by omega
 simp only [aH] at bd ae;clear hj;refine Ah (Aj (C1 V3 (Ai (Ae (Ah (F5 (C3 (AG (AG (Bd (Ae ?_)))))))))));refine Ah (Ah (Aj (C1 Pf (C1 Jt (C1 Pz (C1 Mv (Ai (Ae (At ?_)))))))));have bv:=Fb.refl B f w4;have bw:=t4;refine AK (ι:=Nat) (fun j=>[(29,.int .i64 j),(28,.int .i64 g.procs.length),(27,.slice pa g.procs.length pc),(4,.pointer (some ⟨f,0,none⟩)),(1,.pointer (some ⟨b1,0,none⟩))]) (fun j w'=>Fb B f w4 w'/\Bld B f (KM VD.line g.vars++KM PD.text (g.procs.take j)) w'/\j<=g.procs.length) (fun j=>g.procs.length-j) 0 sB ⟨bv,by simpa [KM] using ae,Aa⟩ ?_;rintro j w5 ⟨f5,X,hj⟩;have t5:=bw.fb f5 az Au;have h5:=t5.blk;have y5:Below B w w5:=y4.trans f5.below;have bx:=Oe PD.text g.procs j;by_cases Z:j<g.procs.length
 . obtain ⟨kb,ko,rfl,-,L⟩:=Arr.get (ax.procs.below y5) Aa;obtain ⟨qa,qc,ba,bc,rx,sv,sb⟩:=L j g.procs[j] (Z0 Z);have bf:g.procs[j].ok=true:=bR.1 O4.out _ (Z8 Z);have a1:=U.procs g.procs[j] (Z8 Z);have M:=Qc PD.text g.procs j Z;have af:=Oe PD.text g.procs (j+1);rw [M] at af;have HC:=Z2 M;clear M L;generalize g.procs[j]=p at *;simp only [PD.ok,Z3,decide_eq_true_eq] at bf;obtain ⟨⟨⟨q1,q2⟩,q3⟩,q4⟩:=bf;obtain ⟨n1,n2,n3⟩:=Jn p.body a1.body q4;have cq:=a1.len;have Q3:=Z2 q3;clear q3;simp only [PD.text,ZZ,Z1,Z4] at af;refine eK ?_;refine Fi Ci rfl rfl ?_;intro b6 w6 F t6;refine IM Ac rfl rfl rfl rfl rfl rfl F t6 rfl ?_;clear F t6 w6;intro w6 F t6;have h6:=F.blk;have x6:=F.ext;have a2:b6≠f:=by have:=F.pos;have:=X.lt;omega
   refine eK ?_;refine Ax (CG Ac Ci rfl rfl rfl rfl rfl rfl rfl rfl) rfl ?_ aFh;rintro _ w7 ⟨b7,rfl,V,ao⟩;refine cC rfl (AO B f b7 3 _ [[112,114,111,99,32],p.name,[40]] _ ((X.ext x6).ext V.ext) ⟨ao⟩ Bn (by simp only [aJ,List.flatten_nil,ZZ,Z1,Z4];omega)) ?_;rintro _ w8 ⟨⟨⟩,N,f8⟩;have bz:Fb B f w5 w8:=(Fb.of_ext (x6.trans V.ext) X.le).trans f8;have t8:=(t6.ext V.ext).fb f8 a2 Au;have h8:=t8.blk;have bg:Bld B f (KM VD.line g.vars++KM PD.text (g.procs.take j)++[112,114,111,99,32]++p.name++[40]) w8:=by simpa using N
   clear N V ao F;refine Ai (Ae (Ah (Ah (Aj (C1 Pf (C1 Jt (C1 Pz (C1 Mv (Ai (Ae (At ?_)))))))))));have b0:=Fb.refl B f w8;refine AK (ι:=Nat) (fun i=>[(40,.int .i64 i),(39,.int .i64 p.params.length),(38,.slice qa p.params.length qc),(29,.int .i64 j),(28,.int .i64 g.procs.length),(27,.slice (some ⟨kb,ko,none⟩) g.procs.length pc),(8,.pointer (some ⟨b6,0,none⟩)),(4,.pointer (some ⟨f,0,none⟩)),(1,.pointer (some ⟨b1,0,none⟩))]) (fun i w'=>Fb B f w8 w'/\Bld B f (KM VD.line g.vars++KM PD.text (g.procs.take j)++[112,114,111,99,32]++p.name++[40]++C0 VD.text true (p.params.take i)) w'/\i<=p.params.length) (fun i=>p.params.length-i) 0 sB ⟨b0,by simpa [C0] using bg,Aa⟩ ?_;rintro i w9 ⟨f9,O,hi⟩;have t9:=t8.fb f9 a2 Au;have h9:=t9.blk;have a3:Fb B f w5 w9:=bz.trans f9;have y9:Below B w w9:=y5.trans a3.below;have b3:=M8 VD.text p.params i;by_cases ah:i<p.params.length
   . obtain ⟨vb,vo,rfl,-,au⟩:=Arr.get (sv.below a3.below) Aa;have rv:Row w9 ⟨vb,vo+i*3,none⟩ p.params[i].cells:=au i p.params[i] (Z0 ah);have an:p.params[i].ok=true:=by have:=Q3.out;unfold De at this;exact bR.1 this _ (Z8 ah)
     have a4:=Qd VD.text p.params i ah;have a5:=M8 VD.text p.params (i+1);rw [a4] at a5;have HM:=Z2 a4;clear a4 au;generalize p.params[i]=v at *;refine eK ?_;refine Fi Ci rfl rfl ?_;intro a6 Y h ap;refine C1 Pa (IM Ac rfl rfl rfl rfl rfl rfl h ap rfl ?_);clear h ap Y;intro Y h ap;have cr:=h.blk;have aq:=h.ext;have bh:a6≠f:=by have:=h.pos;have:=O.lt;omega
     have E:=O.ext aq;have ar:Below B w Y:=y9.trans (Below.mono aq O.le);by_cases a7:i=0
     . subst a7;simp only [if_true,ZZ,Z4] at a5;refine Ai (Ae (Ah (Ah (Aj (C1 Mv (C1 V5 (Ai (Ae (F5 (Am (Ae ?_)))))))))));refine Aj ?_;refine Ck (by exact BK Ac rfl rfl rfl (by exact fun wz hz=>by (try subst hz);exact (cQ Ag)) (by rfl)) rfl ?_;refine cC rfl (Rj v an B f _ _ E (ht.below ar Aa) Aa (by simp only [ZZ,Z1,Z4];omega)) ?_;rintro _ ai ⟨⟨⟩,aj,ad⟩;refine Ai (Af (Ae (Aj (C1 V7 (C1 Mv (Ai ?_))))));refine Ay (1:Nat) sB ⟨f9.trans ((Fb.of_ext aq O.le).trans ad),?_,Aa⟩ (by simp;omega);rw [HM.out];simpa using aj
     . simp only [AC a7,ZZ,Z1,Z4] at a5;refine eK ?_;refine Ax (CG Ac Ci rfl rfl rfl rfl rfl rfl rfl rfl) rfl ?_ aFh;rintro _ ai ⟨b4,rfl,aa,bi⟩;refine cC rfl (AO B f b4 1 _ [[44,32]] _ (E.ext aa.ext) ⟨bi⟩ Bn (by simp only [aJ,List.flatten_nil,ZZ,Z1,Z4];omega)) ?_;rintro _ bj ⟨⟨⟩,ab,ak⟩;have b8:=(ap.ext aa.ext).fb ak bh Au;have ct:=b8.blk;have ca:Below B w bj:=ar.trans ((Below.mono aa.ext E.le).trans ak.below);refine Ai (Ae (Aj ?_));refine Ck (by exact BK Ac rfl rfl rfl (by exact fun wz hz=>by (try subst hz);exact (cQ Ag)) (by rfl)) rfl ?_;refine cC rfl (Rj v an B f _ _ ab (ht.below ca Aa) Aa (by simp only [aJ,List.flatten_nil,ZZ,Z1,Z4];omega)) ?_;rintro _ cb ⟨⟨⟩,bk,cc⟩;refine Ai (Af (Ae (Aj (C1 V7 (C1 Mv (Ai ?_))))));refine Ay (i+1) sB ⟨f9.trans ((Fb.of_ext aq O.le).trans ((Fb.of_ext aa.ext E.le).trans (ak.trans cc))),?_,Aa⟩ Aa;rw [HM.out];simpa [a7] using bk
   . obtain rfl:i=p.params.length:=by omega
     simp only [aH] at b3 O;refine eK ?_;refine Ax (CG Ac Ci rfl rfl rfl rfl rfl rfl rfl rfl) rfl ?_ aFh;rintro _ Y ⟨a6,rfl,h,bl⟩;refine cC rfl (AO B f a6 1 _ [[41]] _ (O.ext h.ext) ⟨bl⟩ Bn (by simp only [aJ,List.flatten_nil,ZZ,Z1,Z4];omega)) ?_;rintro _ ai ⟨⟨⟩,aj,ad⟩;have cd:=(t9.ext h.ext).fb ad a2 Au;have cu:=cd.blk;have al:Fb B f w5 ai:=a3.trans ((Fb.of_ext h.ext O.le).trans ad);have ce:Below B w ai:=y5.trans al.below;have a8:=Hq p.body 0;simp only [Nat.zero_add] at a8;refine Ai (Ae (Ah (Aj (C1 Pf ?_))));refine Ck (by exact Ds Ac rfl rfl rfl (by exact fun wz hz=>by (try subst hz);assumption) (by rfl)) rfl ?_;refine cC rfl (Gr p.body (Si p.body a1.body n2) B f _ _ ba bc 0 aj (ht.below ce Aa) Aa (sits.below sb al.below) Aa (by simp only [aJ,List.flatten_nil,ZZ,Z1,Z4] at *;omega)) ?_;rintro _ bj ⟨⟨⟩,ab,ak⟩;refine eK ?_;refine Ax (CG Ac Ci rfl rfl rfl rfl rfl rfl rfl rfl) rfl ?_ aFh;rintro _ cb ⟨cf,rfl,av,bm⟩;refine cC rfl (AO B f cf 1 _ [[10]] _ (ab.ext av.ext) ⟨bm⟩ Bn (by simp only [aJ,List.flatten_nil,ZZ,Z1,Z4] at *;omega)) ?_;rintro _ cv ⟨⟨⟩,bn,cg⟩;refine Ai (Af (Ae (Aj (C1 V7 (C1 Mv (Ai ?_))))));refine Ay (j+1) sB ⟨f5.trans (al.trans (ak.trans ((Fb.of_ext av.ext ab.le).trans cg))),?_,Aa⟩ Aa;rw [HC.out]
     simpa [PD.text,B3,Dq] using bn
 . obtain rfl:j=g.procs.length:=by omega
   simp only [aH] at bx X;refine eK ?_;refine Ax (CG Ac Ci rfl rfl rfl rfl rfl rfl rfl rfl) rfl ?_ aFh;rintro _ w6 ⟨b6,rfl,F,ch⟩;refine cC rfl (AO B f b6 1 _ [[109,97,105,110]] _ (X.ext F.ext) ⟨ch⟩ Bn (by simp only [aJ,List.flatten_nil,ZZ,Z1,Z4];omega)) ?_;rintro _ w7 ⟨⟨⟩,bo,f7⟩;have bp:Fb B f w5 w7:=(Fb.of_ext F.ext X.le).trans f7;have t7:=t5.fb bp az Au;have h7:=t7.blk;have y7:Below B w w7:=y5.trans bp.below;have a8:=Hq g.main 0;simp only [Nat.zero_add] at a8;refine Ai (Ae (Ah (Aj (C1 Pf ?_))));refine Ck (by exact Ds Ac rfl rfl rfl (by exact fun wz hz=>by (try subst hz);assumption) (by rfl)) rfl ?_;refine cC rfl (Gr g.main (Si g.main U.main m2) B f _ _ ma mc 0 bo (ht.below y7 Aa) Aa (sits.below ax.main y7) Aa (by simp only [aJ,List.flatten_nil,ZZ,Z1,Z4] at *;omega)) ?_;rintro _ w8 ⟨⟨⟩,N,f8⟩;refine eK ?_;refine Ax (CG Ac Ci rfl rfl rfl rfl rfl rfl rfl rfl) rfl ?_ aFh;rintro _ w9 ⟨b9,rfl,bq,ci⟩;refine cC rfl (AO B f b9 1 _ [[10]] _ (N.ext bq.ext) ⟨ci⟩ Bn (by simp only [aJ,List.flatten_nil,ZZ,Z1,Z4] at *;omega)) ?_;rintro _ Y ⟨⟨⟩,E,cj⟩;have ar:Below B w Y:=y7.trans (f8.below.trans ((Below.mono bq.ext N.le).trans cj.below))
   have aw:Bld B f g.text Y:=by simpa [PG.text,B3,Dq] using E
   clear E N bo X;refine eK ?_;refine cC rfl (LS 113 B f g.text _ aw.is aw.le) ?_;rintro _ ai ⟨⟨⟩,-,ad⟩;refine eK ?_;refine B6 results30 rfl rfl ?_;refine ⟨rfl,?_⟩;unfold Ext;rw [HB.out];exact ar.trans ad.below
end Bk
