/- Texts that the proofs of ExerciseCut need. No condition. (Part 6 of 8.) -/
import Derived.Test.YtjkgmpljepnmiaaGreatDoorPEcCut5
set_option linter.unusedSimpArgs false
set_option linter.unusedVariables false
set_option linter.defProp false
set_option maxRecDepth 100000
set_option maxHeartbeats 4000000
open Go.Proofs.Tryz
open List renaming length_append->j9,length_cons->kf,getElem?_eq_getElem->kg,length_nil->ki,getElem_cons_succ->km,getElem_mem->kq,set_cons_zero->kx,take_succ_eq_append_getElem->ky,append_assoc->kA,cons_append->kD,take_length->kE,mem_cons->kF,not_mem_nil->kI,getElem?_eq_none->kO,length_take->kU,replicate->kV,take_append_drop->lf,flatten_cons->lg,drop_eq_getElem_cons->lh,nil_append->lk,append_nil->ll,take_succ_cons->lo,isEmpty_iff->lq,map_cons->lr,mem_cons_of_mem->lx,all_eq_true->lG,getElem?_append_right->lH,getElem?_append_left->lI,mem_singleton->lM
open Bool renaming and_eq_true->ke,false_eq_true->lj
open Go.Lib renaming hid->kh,indexByte->li
open Or renaming inl->kj,inr->kp
open Go.Result renaming andThen->kn,andThen_ok->lw
open Nat renaming le_refl->kv,zero_le->kC,blt->kH,lt_or_ge->kK,le_trans->kW,le_of_ble_eq_true->kY,eq_of_beq_eq_true->ln,ble->lD,beq->lE
open Option.some renaming injEq->kz,inj->kG
open Go.Sem renaming run_bind->kB,run_pure->kJ
open Go renaming Calls->kL
open Go.IntWalk renaming i64_in->kN
open Go.Region renaming ready->kP,binds->lF
open List.cons renaming injEq->kQ
open Go.Value.slice renaming injEq->kT
open Prod.mk renaming injEq->kX
open Go.DataW renaming trod->kZ
open Array renaming getElem?_eq_none->ld
open Go.Value renaming slice->lm,ownBlock->lp
open Go.Addr renaming add->lA
open Go.Oper renaming wp->lJ
open Bk.Ext renaming refl->lN,alloc->lO,trans->lQ,drew->mh
open Bk.Nd renaming size->lR,kind->lZ,kids->l9,name->md,sits->me,num->mj,val->ml,text->mn
open Bk.Blk renaming row->l8
open Bk.TB renaming blk->mg
open Bk.Arr renaming get->mq
namespace Bk
open Go Go.RowKit Go.Proofs
attribute [local irreducible] Go.Calls
structure Errs2 (w:wD):Prop where
 r:Errs w
 s : ∃te pe,w.cell? ⟨3,0,none⟩=some (.iface te pe)
 m : ∃m,w.cell? ⟨0,0,none⟩=some (.int .i64 m)
def Errs2.ext {w w':wD} (h:Errs2 w) (x:Ext w w'):Errs2 w':=by
 obtain ⟨r,⟨f,E,h1⟩,m,F⟩:=h;exact ⟨r.ext x,⟨f,E,x.keep h1⟩,m,x.keep F⟩
instance {w w':wD}:LfE w w' (Errs2 w) (Errs2 w'):=⟨fun x h=>Bk.Errs2.ext h x⟩
def Errs2.fr {S:nP} {w w':wD} (h:Errs2 w) (x:Fr S w w') (f : ∀k,S k->prog.globals.size<=k):Errs2 w':=by
 obtain ⟨r,⟨E,F,h1⟩,m,L⟩:=h;have g1:3<prog.globals.size:=of_decide_eq_true BD;have M:0<prog.globals.size:=of_decide_eq_true BD;have g3:4<prog.globals.size:=of_decide_eq_true BD;exact ⟨r.fr x (fun h=>by have:=f _ h;omega),⟨E,F,x.keep (fun h=>by have:=f _ h;omega) h1⟩,m,x.keep (fun h=>by have:=f _ h;omega) L⟩
instance {S:nP} {w w':wD}:LfF S w w' (Errs2 w) (∀k,S k->prog.globals.size<=k) (Errs2 w'):=⟨fun x s h=>Bk.Errs2.fr h x s⟩
def H5 (s:lB):Int×Bool:=match Lib.atoiAll s with
 | .ok v=>if (0<=v/\v<=1000000000)/\Lib.itoa v=s then (v,true) else (0,false)
 | _=>(0,false)
def jf (s:lB) (w:wD):Ending->wD->Prop:=fun e w'=>(∃v,Lib.atoiAll s = .ok v/\e = .returned (.tuple #[.int .i64 v,.nilIface])\/(∀v,Lib.atoiAll s≠.ok v) /\ ∃te pe,e = .returned (.tuple #[.int .i64 v,.iface te pe]))/\Ext w w'
def SL (s:lB) (V:s.length<=1000000) (w:wD) (h:Errs2 w):Calls prog 156 #[str s] w (jf s w):=by
 obtain ⟨O,⟨L,M,h1⟩,-⟩:=h;obtain ⟨f,E,U⟩:=O.ex;rcases ha:Lib.atoiAll s with v | - | -
 . refine (Tryz.strconv_Atoi_ok ⟨s.toArray⟩ (by rw [DR];omega) v (by simpa using ha) w).mono ?_;rintro e w' ⟨rfl,rfl|⟨t,rfl⟩⟩
   . exact ⟨⟨v,kj ⟨ha,rfl⟩⟩,lN _⟩
   . exact ⟨⟨v,kj ⟨ha,rfl⟩⟩,Ext.bytes _ _ _⟩
 . refine (Any.strconv_Atoi_syntax Tryz.laysC172 ⟨s.toArray⟩ (by rw [DR];omega) (by simpa using ha) (.iface L M) w h1 (kp ⟨L,M,rfl⟩)).mono ?_;rintro e w' ⟨N,rfl,-,-,F⟩;exact ⟨⟨_,kp ⟨fun v h=>(by rw [ha] at h;cases h),_,_,rfl⟩⟩,F⟩
 . refine (Tryz.strconv_Atoi_range ⟨s.toArray⟩ (by rw [DR];omega) (by simpa using ha) (.iface f E) w U (kp ⟨f,E,rfl⟩)).mono ?_;rintro e w' ⟨N,rfl,-,-,F⟩;exact ⟨⟨_,kp ⟨fun v h=>(by rw [ha] at h;cases h),_,_,rfl⟩⟩,F⟩
def Uo (s:lB) (hs:s.length<=1000000) (w:wD) (E:Errs2 w) (F:TabsF w) :
 Calls prog 111 #[str s] w fun r w'=>r = .returned (.tuple #[.int .i64 (H5 s).1,.bool (H5 s).2])/\Ext w w':=by
 have X:=lN w;by_cases O : ∃v,Lib.atoiAll s = .ok v
 . obtain ⟨v,M⟩:=O;have hb:=Lib.atoiAll_bounds M;have N:Hid (∀f,Errs2 f->Calls prog 156 #[str s] f fun e w'=>e = .returned (.tuple #[.int .i64 v,.nilIface])/\Ext f w'):=kh fun f h=>(SL s hs f h).mono fun e w' ⟨⟨U,h1⟩,L⟩=>by
    rcases h1 with ⟨h1,h3⟩|⟨h1,-⟩
    . rw [M] at h1;injection h1 with h1
      subst h1;exact ⟨h3,L⟩
    . exact absurd M (h1 v)
   have e:H5 s=if (0<=v/\v<=1000000000)/\Lib.itoa v=s then (v,true) else (0,false):=by unfold H5;rw [M]
   rw [e];have V:=kh (fun f h=>Vv v f h hb.1 hb.2);clear M e;by_cases h1:0<=v/\v<=1000000000
   . obtain ⟨o1,o2⟩:=h1;by_cases L:Lib.itoa v=s
     . rw [AH ⟨⟨o1,o2⟩,L⟩];rw [L] at V;refine Ae func111 ntmps111 rfl rfl ?_;refine eK ?_;refine cC rfl (N.out _ Af) ?_;rintro _ w2 ⟨⟨⟩,x1⟩;revert E F X;refine eY x1 ?_;intro z3 E F X;refine eK ?_;refine C1 (Hl Ab rfl rfl) ?_;refine eK ?_;refine cC rfl (V.out _ Af) ?_;rintro _ w5 ⟨⟨⟩,x4⟩;revert E F X;refine eY x4 ?_;intro z6 E F X;refine LX (C1 Mv (LX (C1 V9 (C1 O2 (cT (FQ rfl (not_not_intro rfl) ?_))))));refine eK ?_;refine xT ?_;exact ⟨rfl,X⟩
     . rw [At (fun h=>L h.2)];generalize Lib.itoa v=t at *;refine Ae func111 ntmps111 rfl rfl ?_;refine eK ?_;refine cC rfl (N.out _ Af) ?_;rintro _ af ⟨⟨⟩,Y⟩;revert E F X;refine eY Y ?_;intro ag E F X;refine eK ?_;refine C1 (Hl Ab rfl rfl) ?_;refine eK ?_;refine cC rfl (V.out _ Af) ?_;rintro _ ah ⟨⟨⟩,Z⟩;revert E F X;refine eY Z ?_;intro ai E F X;refine eK ?_;refine xT ?_;exact ⟨rfl,X⟩
   . rw [At (fun h=>h1 h.1)];refine Ae func111 ntmps111 rfl rfl ?_
     focus
      refine eK ?_;refine cC rfl (N.out _ Af) ?_;rintro _ aj ⟨⟨⟩,aa⟩;revert E F X;refine eY aa ?_;intro ak E F X;refine eK ?_;refine C1 (Hl Ab rfl rfl) ?_;refine eK ?_;refine DG rfl rfl rfl (fun ab=>?_) (fun ab=>?_);refine eK ?_;refine xT ?_;rotate_left;refine eK ?_;refine xT ?_;rotate_left
     all_goals first|exact ⟨rfl,X⟩|exact absurd Aa h1
 . have e:H5 s=(0,false):=by
    unfold H5;rcases ha:Lib.atoiAll s with v | - | -
    . exact absurd ⟨v,ha⟩ O
    . rfl
    . rfl
   rw [e];have N:Hid (∀f,Errs2 f->Calls prog 156 #[str s] f fun e w'=> ∃v te pe,e = .returned (.tuple #[.int .i64 v,.iface te pe])/\Ext f w'):=kh fun f h=>(SL s hs f h).mono fun e w' ⟨⟨U,h1⟩,L⟩=>by
    rcases h1 with ⟨h1,h3⟩|⟨-,te,pe,h1⟩
    . exact absurd ⟨U,h1⟩ O
    . exact ⟨U,te,pe,h1,L⟩
   clear e O;refine Ae func111 ntmps111 rfl rfl ?_;refine eK ?_;refine Au (By BD rfl (N.out _ Af) (fun _ _ ⟨_,_,_,h⟩=>⟨_,h.1⟩)) rfl ?_ aFh;rintro _ al ⟨am,⟨ad,⟨ae,⟨⟨⟩,ac⟩⟩⟩⟩;revert E F X;refine eY ac ?_;intro an E F X;refine eK ?_;refine C1 (Rz Ab rfl rfl) ?_;refine eK ?_;refine xT ?_;exact ⟨rfl,X⟩
def ID (s:lB):Nat->Option Nat
 | 0=>some 0
 | n+1=>(ID s n).bind fun e=>if li (s.drop e) 10<0 then none else some (e+(li (s.drop e) 10).toNat+1)
def DL (s:lB) (n:Nat):lB×lB×Bool:=match ID s n with
 | none=>([],[],false)
 | some e=>(s.take e,s.drop e,true)
def Y1 {s:lB} (h : ¬li s 10<0):(li s 10).toNat<s.length:=by
 obtain ⟨o,f⟩:=Int.eq_ofNat_of_zero_le (show 0<=li s 10 by omega);have:=(Lib.indexByte_some f).1;rw [f];exact (List.getElem?_eq_some_iff.1 this).1
def Q9 {s:lB} : ∀ {n e:Nat},ID s n=some e->e<=s.length
 | 0,e,h=>by simp [ID] at h;omega
 | n+1,e,h=>by
  simp only [ID,Option.bind_eq_some_iff] at h;obtain ⟨F,h1,f⟩:=h;have L:=Q9 h1;split at f
  . cases f
  . rename_i E;have:=Y1 E;rw [List.length_drop] at this;simp only [kz] at f;omega
def W7 {s:lB} {n m:Nat} (h:ID s n=none) (E:n<=m):ID s m=none:=by
 induction m with
 | zero=>
  have:n=0:=by omega
  subst this;exact h
 | succ m f=>
  rcases kK m n with h1|h1
  . have:n=m+1:=by omega
    subst this;exact h
  . simp only [ID,f h1,Option.bind_none]
def Mi (s:lB) (w:wD):Calls prog 112 #[str s,.int .u8 10] w fun e w'=>e = .returned (.int .i64 (li s 10))/\w'=w:=
 (Tryz.strings_IndexByte ⟨s.toArray⟩ 10 w).mono fun e w' ⟨h1,h2⟩=>⟨h1,h2⟩
def PL (s:lB) (w:wD):Calls prog 33 #[str s,str [10]] w fun e w'=>e = .returned (.int .i64 (Lib.countByte s 10:Nat))/\w'=w:=
 (Tryz.strings_Count_one ⟨s.toArray⟩ 10 w).mono fun e w' ⟨h1,h2⟩=>⟨h1,h2⟩
def gA (s:lB) (hs:s.length<=1000000) (n:Nat) (hn:n<=1000000000) (w:wD) :
 Calls prog 71 #[str s,.int .i64 n] w fun r w'=>r = .returned (.tuple #[str (DL s n).1,str (DL s n).2.1,.bool (DL s n).2.2])/\Ext w w':=by
 have X:=lN w;have HI:=kh (fun s f=>Mi s f);refine Ae func71 ntmps71 rfl rfl ?_;refine cS (C1 Pa (C1 Pa (C1 Pa (cN (C1 Pa (cT (Al (cS (C1 Mv (C1 Mv (cT ?_)))))))))));refine Ax ?_;refine AM (ι:=Nat×Nat) (fun x=>[(0,str s),(4,.string ⟨#[]⟩),(5,.string ⟨#[]⟩),(6,.bool false),(7,.int .i64 x.2),(9,.int .i64 n),(10,.int .i64 x.1)])
  (fun x w'=>x.1<=n/\ID s x.1=some x.2/\Ext w w') (fun x=>n-x.1) (0,0) sB ⟨kC _,rfl,X⟩ ?_
 clear X;rintro ⟨j,e⟩ f ⟨hj,M,X⟩;simp only at hj M;have aa:=Q9 M;refine CW.sub (m:=[(0,str s),(4,.string ⟨#[]⟩),(5,.string ⟨#[]⟩),(6,.bool false),(7,.int .i64 e),(9,.int .i64 n),(10,.int .i64 j)]) ?_ sB;by_cases O:j<n
 . by_cases N:li (s.drop e) 10<0
   . have U:DL s n=([],[],false):=by
      have:ID s (j+1)=none:=by simp only [ID,M,Option.bind_some,AH N]
      unfold DL;rw [W7 this O]
     rw [U];refine eK ?_;refine C1 (Gq Ab rfl rfl rfl Aa) (cC rfl (HI.out _ _) ?_);rintro _ ab ⟨⟨⟩,rfl⟩;refine eK ?_;refine FI rfl rfl rfl rfl ?_;exact ⟨rfl,X⟩
   . have E:=Y1 N;rw [List.length_drop] at E;have F:ID s (j+1)=some (e+(li (s.drop e) 10).toNat+1):=by simp only [ID,M,Option.bind_some,At N]
     obtain ⟨o,V⟩:=Int.eq_ofNat_of_zero_le (show 0<=li (s.drop e) 10 by omega);have HJ:Hid (∀f,Calls prog 112 #[str (s.drop e),.int .u8 10] f fun r w'=>r = .returned (.int .i64 (o:Int))/\w'=f):=kh fun f=>by rw [<-V];exact Mi _ f
     rw [V] at F E;simp only [Int.toNat_natCast] at F E;clear HI N V;refine eK ?_;refine C1 (Gq Ab rfl rfl rfl Aa) (cC rfl (HJ.out _) ?_);rintro _ ac ⟨⟨⟩,rfl⟩;refine C1 Pa (cT (Al (cS (C1 Mv (C1 V3 (cT (E4 (Av (Ai (Ag (C1 Mv ?_)))))))))));refine C1 Mv (C1 V7 (C1 V7 (C1 Pa (Ah (Ad (Ai (Ag (C1 V7 (C1 Mv (Ah ?_))))))))));exact Ay (j+1,e+o+1) sB ⟨by (try dsimp only);omega,F,X⟩ (by (try dsimp only);omega)
 . obtain rfl:j=n:=by omega
   have U:DL s j=(s.take e,s.drop e,true):=by unfold DL;rw [M]
   rw [U];refine eK ?_;refine AE (fun Y=>Ext f Y) 7 (.pure 0 (.pure 1 (.pure 2 (.pure 3 (.pure 4 (.pure 5 (.pure 6 .tail))))))) mixed BD (Ac An) ?_;intro Z L _;have h:(fun Y=>Ext f Y) Z:=L;simp only at h;have ad:=L.size;have X:=X.ext L;refine ⟨h,?_⟩;refine Tq rfl Mv (Tq rfl Mv (Tq rfl (Jt Ab rfl rfl rfl Aa Aa) (Tq rfl Mv (Tq rfl Mv (Tq rfl (Gq Ab rfl rfl rfl Aa) (Tq rfl Pa ?_))))));refine AI rfl ?_;refine eK ?_;refine FI rfl rfl rfl rfl ?_;exact ⟨by simp only [Int.toNat_natCast],X⟩
def CY (k:Int):lB:=
 if k=44 then [112,117,115,104,32] else if k=45 then [112,111,112,32] else if k=46 then [114,101,97,100,32] else if k=47 then [117,110,114,101,97,100,32] else if k=48 then [119,114,105,116,101,32] else if k=49 then [117,110,119,114,105,116,101,32]
 else if k=50 then [99,97,108,108,32] else if k=51 then [117,110,99,97,108,108,32] else if k=52 then [105,102,32] else if k=53 then [102,114,111,109,32] else if k=54 then [108,111,99,97,108,32] else if k=55 then [108,111,99,97,108,32,115,116,97,99,107,32] else []
def DF (k:Int):lB:=if k=56 then [58,61] else if k=43 then [60,61,62] else Cl k
def Du (d:Nat):lB:=kV d 9
def DB:Bool->List Nd->lB
 | _,[]=>[]
 | first,t::r=>(if first then [] else [44,32])++t.text++DB false r
mutual
def Nd.stmtT:Nd->Nat->lB
 | .mk k _ s l,d=>
  if k=40\/k=41\/k=42\/k=56\/k=43 then match l with|[x,y]=>x.text++[32]++DF k++[32]++y.text|_=>[]
  else if k=44\/k=45 then match l with|[x]=>CY k++x.text++[44,32]++s|_=>[]
  else if 46<=k/\k<=49 then match l with|[x]=>CY k++x.text|_=>[]
  else if k=50\/k=51 then CY k++s++[40]++DB true l++[41]
  else if k=52 then match l with|[x,y,z,u]=>CY k++x.text++([32,123,10]++y.linesT (d+1)++Du d++[125])++[32,101,108,115,101]++([32,123,10]++z.linesT (d+1)++Du d++[125])++[32,102,105,32]++u.text|_=>[]
  else if k=53 then match l with|[x,y,z,u]=>CY k++x.text++([32,123,10]++y.linesT (d+1)++Du d++[125])++[32,108,111,111,112]++([32,123,10]++z.linesT (d+1)++Du d++[125])++[32,117,110,116,105,108,32]++u.text|_=>[]
  else if k=54 then match l with|[x,y,z]=>CY k++s++[32,61,32]++x.text++([32,123,10]++y.linesT (d+1)++Du d++[125])++[32,100,101,108,111,99,97,108,32]++z.text|_=>[]
  else if k=55 then match l with|[x]=>CY k++s++([32,123,10]++x.linesT (d+1)++Du d++[125])|_=>[]
  else []
def Nd.linesT:Nd->Nat->lB
 | .mk _ _ _ l,d=>BX l d
def BX:List Nd->Nat->lB
 | [],_=>[]
 | t::r,d=>Du d++t.stmtT d++[59,10]++BX r d
end
def BL (t:Nd) (d:Nat):lB:=[32,123,10]++t.linesT (d+1)++Du d++[125]
end Bk
namespace Bk
open Go Go.RowKit Go.Proofs
structure BT (T:TypeId):Prop where
 lies:liesAt prog prog.depth T (2/prog.cellsOf T) 0 69 1=true
 ne:T≠5
def eL:(prog.info? 69).map (·.size)=some 2:=by kernel_rfl
def infoByte:(prog.info? 5).map (fun i=>(i.zero,i.size,i.bytes))=some (some (.int .u8 0),1,1):=by kernel_rfl
def Y2:prog.underlying 66=some (.pointer 69):=by kernel_rfl
def Vw:prog.underlying 170=some .unsafePointer:=by kernel_rfl
def Y3:prog.underlying 67=some (.slice 5):=by kernel_rfl
def MD (T:TypeId) (hT:BT T) (b:Nat) (w:wD) (h0:w.cell? ⟨b,0,none⟩=some (.pointer none)) (hsh:w.shape? b=some (T,2)) (hfz:w.frozen? ⟨b,0,none⟩=false) :
 Calls prog 60 #[.pointer (some ⟨b,0,none⟩)] w fun e w'=>e = .returned (.tuple #[])/\w'=w.setCell ⟨b,0,none⟩ (.pointer (some ⟨b,0,none⟩)):=by
 obtain ⟨j,hj,hjs⟩:=Option.map_eq_some_iff.1 eL
 go_enter func60,ntmps60
 go_wp2
 rw [Lib.run_to_unsafe w ⟨b,0,none⟩ Y2 Vw hj (by rw [hjs];decide) hsh (Nat.zero_lt_succ 1)];simp only [kn];rw [Oper.upon_value]
 go_wp2
 rw [run_callFunc_extern func103 (by kernel_rfl) (by kernel_rfl) (by kernel_rfl) (e:=Extern.AbiNoEscape.same) (by kernel_rfl)];rw [Lib.run_noEscape];simp only [kn];rw [Oper.upon_value]
 go_wp2
 rw [Lib.run_from_unsafe w ⟨b,0,none⟩ Vw Y2 hj hsh hT.lies];simp only [kn];rw [Oper.upon_value]
 go_wp2
 go_end0
 exact ⟨rfl,rfl⟩
def NS (b:Nat) (w:wD) (h0:w.cell? ⟨b,0,none⟩=some (.pointer (some ⟨b,0,none⟩))) :
 Calls prog 60 #[.pointer (some ⟨b,0,none⟩)] w fun e w'=>e = .returned (.tuple #[])/\w'=w:=by
 obtain ⟨j,hj,hjs⟩:=Option.map_eq_some_iff.1 eL
 go_enter func60,ntmps60
 go_wp2
 rw [Lib.run_neq_ptr_same w _ Y2 hj]
 go_wp2
 go_end0
 exact ⟨rfl,rfl⟩
structure Fb (B b:Nat) (w w':wD):Prop where
 below:Below B w w'
 kept:Lib.OthersKept 5 (some b) w w'
def Fb.refl (B b:Nat) (w:wD):Fb B b w w:=⟨Below.refl _ _,Lib.OthersKept.refl _ _ _⟩
def Fb.trans {B b:Nat} {u v w:wD} (h:Fb B b u v) (k:Fb B b v w):Fb B b u w:=⟨h.below.trans k.below,h.kept.trans k.kept⟩
def Mj (T:TypeId) (E:BT T) (B b:Nat) (f:lV) (w:wD) (h:Lib.IsBuilderF T 5 B b f w) :
 Calls prog 60 #[.pointer (some ⟨b,0,none⟩)] w fun e w'=>e = .returned (.tuple #[])/\(Lib.BuilderAtF T 5 B b (.pointer (some ⟨b,0,none⟩)) f w'/\Fb B b w w'):=by
 rcases h with h|h
 . refine (MD T E b w h.cell0 h.shape h.frozen0).mono ?_;rintro e w' ⟨rfl,rfl⟩;exact ⟨rfl,h.used _,(Below.refl B w).setCell (p:=⟨b,0,none⟩) h.1 _,(Lib.OthersKept.refl _ _ w).setCell ⟨b,0,none⟩ rfl _⟩
 . refine (NS b w h.cell0).mono ?_;rintro e w' ⟨rfl,rfl⟩;exact ⟨rfl,h,Below.refl B _,Lib.OthersKept.refl _ _ _⟩
def SM (T:TypeId) (hT:BT T) (B b:Nat) (bs:lV) (c:Int) (w:wD) (h:Lib.IsBuilderF T 5 B b bs w) (hlen:bs.length+1<=140737488355328) (hBw:B<=w.heap.size) :
 Calls prog 147 #[.pointer (some ⟨b,0,none⟩),.int .u8 c] w fun e w'=>e = .returned .nilIface/\(Lib.IsBuilderF T 5 B b (bs++[.int .u8 c]) w'/\Fb B b w w'):=by
 obtain ⟨i0,hi,hz0,hz1,hz2⟩:=info_parts infoByte
 go_enter func147,ntmps147
 go_wp2_with (go_at_call 60;refine (Mj T hT B b bs _ h).mono ?_)
 rintro e w1 ⟨rfl,h1,hb1,hk1⟩;obtain ⟨hB,v,hbk,hown,hne⟩:=h1
 have c0:w1.cell? ⟨b,0,none⟩=some (.pointer (some ⟨b,0,none⟩)):=by rw [Lib.cell_of_heap hbk];rfl
 have c1:w1.cell? ⟨b,1,none⟩=some v:=by rw [Lib.cell_of_heap hbk];rfl
 go_wp2_with (at_builtin;refine wpList_append_ownF _ rfl _ _ 67 rfl B 5 i0 (.int .u8 0) 1 1 Y3 hi hz0 hz1 hz2 rfl (by decide) _ _ _ rfl (hown.alloc _) ⟨w1.heap.size,0,none⟩ 1 1 [.int .u8 c] rfl rfl ?c1 ?c2 ?c3 ?c4 ?c5 ?_)
 case c1=>
  intro j u hj
  match j,hj with
  | 0,hj=>simp at hj;subst hj;simp [lA]
 case c2=>intro u hu;simp at hu;subst hu;rfl
 case c3=>unfold maxLen;omega
 case c4=>omega
 case c5=>have:=hb1.size;simp;omega
 intro v' w2 hown' hgrow _
 have hlt:b<w1.heap.size:=by
  rcases kK b w1.heap.size with h'|h'
  . exact h'
  . simp [ld h'] at hbk
 have hb2:w2.heap[b]? = some (.cells #[.pointer (some ⟨b,0,none⟩),v] T (0,0)):=by
  rw [hgrow.block b (by simp;omega) (fun e=>hne e.symm),Lib.alloc_old w1 _ b hlt]
  exact hbk
 have d0:w2.cell? ⟨b,0,none⟩=some (.pointer (some ⟨b,0,none⟩)):=by rw [Lib.cell_of_heap hb2];rfl
 have d1:w2.cell? ⟨b,1,none⟩=some v:=by rw [Lib.cell_of_heap hb2];rfl
 have f1:w2.frozen? ⟨b,1,none⟩=false:=Lib.frozen_of_heap hb2 1
 obtain ⟨g,cap,rfl⟩ : ∃g cap,v' = .slice (some ⟨g,0,none⟩) (bs.length+1) cap:=by
  rcases hown'.2 with ⟨_,h0⟩|⟨g,cap,cur,fz,hv,_⟩
  . omega
  . exact ⟨g,cap,hv⟩
 go_wp2
 go_ret
 refine ⟨rfl,.inr ?_,?_,((hk1.alloc _).grown hgrow (Lib.ownsRowF_kind (hown.alloc _))).setCell ⟨b,1,none⟩ rfl _⟩
 . exact Lib.BuilderAtF.put (T:=T) (e:=5) hB hb2 (bs':=bs++[.int .u8 c]) (by simpa using hown') hT.ne
 . exact ((hb1.alloc (by have:=hb1.size;omega) _).grown hgrow (by have:=hb1.size;simp;omega) (fun k hk=>(hown.lt k hk).1)).setCell (p:=⟨b,1,none⟩) hB _
def JR (T:TypeId) (hT:BT T) (B b:Nat) (bs:lV) (s:ByteArray) (w:wD) (h:Lib.IsBuilderF T 5 B b bs w) (hlen:bs.length+s.size<=140737488355328) (hBw:B<=w.heap.size) :
 Calls prog 31 #[.pointer (some ⟨b,0,none⟩),.string s] w fun e w'=>e = .returned (.tuple #[.int .i64 s.size,.nilIface])/\(Lib.IsBuilderF T 5 B b (bs++Lib.strCells s) w'/\Fb B b w w'):=by
 obtain ⟨i0,hi,hz0,hz1,hz2⟩:=info_parts infoByte
 go_enter func31,ntmps31
 go_wp2_with (go_at_call 60;refine (Mj T hT B b bs _ h).mono ?_)
 rintro e w1 ⟨rfl,h1,hb1,hk1⟩;obtain ⟨hB,v,hbk,hown,hne⟩:=h1
 have c0:w1.cell? ⟨b,0,none⟩=some (.pointer (some ⟨b,0,none⟩)):=by rw [Lib.cell_of_heap hbk];rfl
 have c1:w1.cell? ⟨b,1,none⟩=some v:=by rw [Lib.cell_of_heap hbk];rfl
 go_wp2_with (at_builtin;refine Lib.wpList_append_own_stringF _ rfl _ _ 67 9 rfl B 5 i0 Y3 Fi hi hz0 hz1 hz2 _ _ _ rfl hown s rfl ?c3 ?c4 ?c5 ?_)
 case c3=>unfold maxLen;omega
 case c4=>omega
 case c5=>have:=hb1.size;omega
 intro v' w2 hown' hgrow _
 have hlt:b<w1.heap.size:=by
  rcases kK b w1.heap.size with h'|h'
  . exact h'
  . simp [ld h'] at hbk
 have hb2:w2.heap[b]? = some (.cells #[.pointer (some ⟨b,0,none⟩),v] T (0,0)):=by
  rw [hgrow.block b hlt (fun e=>hne e.symm)]
  exact hbk
 have d0:w2.cell? ⟨b,0,none⟩=some (.pointer (some ⟨b,0,none⟩)):=by rw [Lib.cell_of_heap hb2];rfl
 have d1:w2.cell? ⟨b,1,none⟩=some v:=by rw [Lib.cell_of_heap hb2];rfl
 have f1:w2.frozen? ⟨b,1,none⟩=false:=Lib.frozen_of_heap hb2 1
 obtain ⟨ao,n',cap,rfl⟩ : ∃ao n' cap,v' = .slice ao n' cap:=by
  rcases hown'.2 with ⟨hv,_⟩|⟨g,cap,cur,fz,hv,_⟩
  . exact ⟨_,_,_,hv⟩
  . exact ⟨_,_,_,hv⟩
 go_wp2
 go_ret2
 refine ⟨rfl,.inr ?_,?_,(hk1.grown hgrow (Lib.ownsRowF_kind hown)).setCell ⟨b,1,none⟩ rfl _⟩
 . exact Lib.BuilderAtF.put (T:=T) (e:=5) hB hb2 (bs':=bs++Lib.strCells s) (by simpa [Lib.strCells_length] using hown') hT.ne
 . exact (hb1.grown hgrow (by have:=hb1.size;omega) (fun k hk=>(hown.lt k hk).1)).setCell (p:=⟨b,1,none⟩) hB _
def SN:prog.underlying 128=some (.pointer 5):=by kernel_rfl
def cellsByte:prog.cellsOf 5=1:=by kernel_rfl
def EU (W:wD) (q:oA):(Builtin.unsafeString_ #[128,3] 9 #[.pointer q,.int .i64 0]).run prog W = .ok (.string .empty) W:=
 Lib.run_unsafeString_none W _ _ _ q
def SO (T:TypeId) (B b:Nat) (l:lB) (w:wD) (h:Lib.IsBuilderF T 5 B b (Lib.byteCells l) w) (h0:l≠[]) :
 Calls prog 35 #[.pointer (some ⟨b,0,none⟩)] w fun e w'=>e = .returned (.string ⟨l.toArray⟩)/\(Lib.IsBuilderF T 5 B b (Lib.byteCells l) w'/\Fb B b w w'):=by
 obtain ⟨p,hp,hAt⟩ : ∃p,(p = .pointer none\/p = .pointer (some ⟨b,0,none⟩))/\Lib.BuilderAtF T 5 B b p (Lib.byteCells l) w:=by
  rcases h with h|h
  . exact ⟨_,.inl rfl,h⟩
  . exact ⟨_,.inr rfl,h⟩
 obtain ⟨hB,v,hbk,hown,hne⟩:=hAt
 have hl0:l.length≠0:=by simpa using h0
 rw [Lib.byteCells_length] at hown
 obtain ⟨g,cap,cur,fz,rfl,hbg,hg,hfz,hnc,hcm,hcs,htake⟩ : ∃g cap cur fz,v = .slice (some ⟨g,0,none⟩) l.length cap/\B<=g/\w.heap[g]? = some (.cells cur 5 fz)/\fz.2<=l.length*1/\l.length<=cap/\cap<=maxLen/\cur.size=cap*1/\cur.toList.take (l.length*1)=Lib.byteCells l:=by
  rcases hown.2 with ⟨_,hz⟩|⟨g,cap,cur,fz,hv,r⟩
  . exact absurd hz hl0
  . exact ⟨g,cap,cur,fz,hv,r⟩
 have c1:w.drew.cell? ⟨b,1,none⟩=some (.slice (some ⟨g,0,none⟩) l.length cap):=by
  have:w.drew.heap[b]? = some (.cells #[p,.slice (some ⟨g,0,none⟩) l.length cap] T (0,0)):=hbk
  rw [Lib.cell_of_heap this];rfl
 have hSD:(Builtin.unsafeSliceData_ #[67] 128 #[.slice (some ⟨g,0,none⟩) l.length cap]).run prog w.drew = .ok (.pointer (some ⟨g,0,none⟩)) w.drew:=
  Lib.run_unsafeSliceData_row _ _ _ _ _ _ (by omega)
 have hUS:(Builtin.unsafeString_ #[128,3] 9 #[.pointer (some ⟨g,0,none⟩),.int .i64 l.length]).run prog w.drew = .ok (.string ⟨l.toArray⟩) (w.drew.freeze ⟨g,0,none⟩ l.length):=by
  refine Lib.run_unsafeString_row w.drew 128 3 9 5 SN cellsByte g cur.size (by have hg':w.drew.heap[g]? = some (.cells cur 5 fz):=hg;simp [World.shape?,hg']) l h0 (by omega) (by unfold maxLen at hcm;omega) ?_;intro j x hx;have:=hown.cells (g:=g) rfl j (.int .u8 x.toNat) (by simp [Lib.byteCells,hx])
  exact this
 have hkeep:Lib.IsBuilderF T 5 B b (Lib.byteCells l) (w.drew.freeze ⟨g,0,none⟩ l.length):=by
  have hA:Lib.BuilderAtF T 5 B b p (Lib.byteCells l) w.drew:=⟨hB,_,hbk,by rw [Lib.byteCells_length];exact hown,hne⟩;have hF:=hA.froze (g:=g) (cap:=cap) (by rw [Lib.byteCells_length];exact c1);rw [Lib.byteCells_length] at hF
  rcases hp with rfl|rfl
  . exact .inl hF
  . exact .inr hF
 go_enter func35,ntmps35
 go_wp2
 go_region
 all_goals (go_wp2;go_ret;exact ⟨rfl,hkeep,Lib.below_freeze (Below.drew (Below.refl B w)) (p:=⟨g,0,none⟩) hbg _,((Lib.OthersKept.refl _ _ w).drew).freeze ⟨g,0,none⟩ _ ⟨cur,fz,hg⟩⟩)
def Up (T:TypeId) (B b:Nat) (p:Value) (w:wD) (hbk:w.heap[b]? = some (.cells #[p,.slice none 0 0] T (0,0))) (hA:Lib.BuilderAtF T 5 B b p [] w) :
 Calls prog 35 #[.pointer (some ⟨b,0,none⟩)] w fun e w'=>e = .returned (.string ⟨#[]⟩)/\(Lib.BuilderAtF T 5 B b p [] w'/\Fb B b w w'):=by
 have hUS:=EU
 have c1:w.drew.cell? ⟨b,1,none⟩=some (.slice none 0 0):=by
  have:w.drew.heap[b]? = some (.cells #[p,.slice none 0 0] T (0,0)):=hbk
  rw [Lib.cell_of_heap this];rfl
 have hSD:(Builtin.unsafeSliceData_ #[67] 128 #[.slice none 0 0]).run prog w.drew = .ok (.pointer none) w.drew:=rfl
 go_enter func35,ntmps35
 go_wp2
 go_region
 all_goals (go_wp2;go_ret;exact ⟨rfl,hA.drew,Below.drew (Below.refl B w),(Lib.OthersKept.refl _ _ w).drew⟩)
def ON (T:TypeId) (B b g:Nat) (p:Value) (cur:Array Value) (w:wD) (hBw:B<=w.heap.size) (hbk:w.heap[b]? = some (.cells #[p,.slice (some ⟨g,0,none⟩) 0 0] T (0,0))) (fz:Nat×Nat) (hg:w.heap[g]? = some (.cells cur 5 fz)) (hA:Lib.BuilderAtF T 5 B b p [] w) :
 Calls prog 35 #[.pointer (some ⟨b,0,none⟩)] w fun e w'=>e = .returned (.string ⟨#[]⟩)/\(Lib.BuilderAtF T 5 B b p [] w'/\Fb B b w w'):=by
 have hUS:=EU
 have hlt:b<w.heap.size:=by
  rcases kK b w.heap.size with h'|h'
  . exact h'
  . simp [ld h'] at hbk
 have c1:w.drew.cell? ⟨b,1,none⟩=some (.slice (some ⟨g,0,none⟩) 0 0):=by
  have:w.drew.heap[b]? = some (.cells #[p,.slice (some ⟨g,0,none⟩) 0 0] T (0,0)):=hbk
  rw [Lib.cell_of_heap this];rfl
 have hSD:(Builtin.unsafeSliceData_ #[67] 128 #[.slice (some ⟨g,0,none⟩) 0 0]).run prog w.drew = .ok (.pointer (some ⟨w.drew.heap.size,0,none⟩)) (w.drew.alloc (.view ⟨g,0,none⟩ 5)):=
  Lib.run_unsafeSliceData_zero w.drew _ _ 5 SN ⟨g,0,none⟩ 0 (5,cur.size) (by have hg':w.drew.heap[g]? = some (.cells cur 5 fz):=hg;simp [World.shape?,hg'])
 have c2:(w.drew.alloc (.view ⟨g,0,none⟩ 5)).cell? ⟨b,1,none⟩=some (.slice (some ⟨g,0,none⟩) 0 0):=by
  have:(w.drew.alloc (.view ⟨g,0,none⟩ 5)).heap[b]? = _:=(Lib.alloc_old w.drew _ b hlt).trans hbk
  rw [Lib.cell_of_heap this];rfl
 have c3:(w.alloc (.view ⟨g,0,none⟩ 5)).drew.cell? ⟨b,1,none⟩=some (.slice (some ⟨g,0,none⟩) 0 0):=c2;have c0:w.cell? ⟨b,1,none⟩=some (.slice (some ⟨g,0,none⟩) 0 0):=c1
 go_enter func35,ntmps35
 go_wp2
 go_region
 all_goals (go_wp2;go_ret;exact ⟨rfl,hA.drew.alloc _,(Below.drew (Below.refl B w)).alloc hBw _,((Lib.OthersKept.refl _ _ w).drew).alloc _⟩)
def SP (T:TypeId) (B b g cap:Nat) (p:Value) (w:wD) (hc0:cap≠0) (hbk:w.heap[b]? = some (.cells #[p,.slice (some ⟨g,0,none⟩) 0 cap] T (0,0))) (hA:Lib.BuilderAtF T 5 B b p [] w) :
 Calls prog 35 #[.pointer (some ⟨b,0,none⟩)] w fun e w'=>e = .returned (.string ⟨#[]⟩)/\(Lib.BuilderAtF T 5 B b p [] w'/\Fb B b w w'):=by
 have hUS:=EU
 have c1:w.drew.cell? ⟨b,1,none⟩=some (.slice (some ⟨g,0,none⟩) 0 cap):=by
  have:w.drew.heap[b]? = some (.cells #[p,.slice (some ⟨g,0,none⟩) 0 cap] T (0,0)):=hbk
  rw [Lib.cell_of_heap this];rfl
 have hSD:(Builtin.unsafeSliceData_ #[67] 128 #[.slice (some ⟨g,0,none⟩) 0 cap]).run prog w.drew = .ok (.pointer (some ⟨g,0,none⟩)) w.drew:=
  Lib.run_unsafeSliceData_row _ _ _ _ _ _ hc0
 clear hc0
 go_enter func35,ntmps35
 go_wp2
 go_region
 all_goals (go_wp2;go_ret;exact ⟨rfl,hA.drew,Below.drew (Below.refl B w),(Lib.OthersKept.refl _ _ w).drew⟩)
def Ra (T:TypeId) (B b:Nat) (w:wD) (h:Lib.IsBuilderF T 5 B b [] w) (N:B<=w.heap.size) :
 Calls prog 35 #[.pointer (some ⟨b,0,none⟩)] w fun e w'=>e = .returned (.string ⟨#[]⟩)/\(Lib.IsBuilderF T 5 B b [] w'/\Fb B b w w'):=by
 obtain ⟨p,Z,U⟩ : ∃p,(p = .pointer none\/p = .pointer (some ⟨b,0,none⟩))/\Lib.BuilderAtF T 5 B b p [] w:=by
  rcases h with h|h
  . exact ⟨_,.inl rfl,h⟩
  . exact ⟨_,.inr rfl,h⟩
 have f : ∀(e:Ending) (w':wD),(e = .returned (.string ⟨#[]⟩)/\(Lib.BuilderAtF T 5 B b p [] w'/\Fb B b w w'))->e = .returned (.string ⟨#[]⟩)/\(Lib.IsBuilderF T 5 B b [] w'/\Fb B b w w'):=by
  rintro e w' ⟨V,X,Y⟩;rcases Z with rfl|rfl
  . exact ⟨V,.inl X,Y⟩
  . exact ⟨V,.inr X,Y⟩
 have E:=U;obtain ⟨hB,v,F,L,aa⟩:=U;rcases L.2 with ⟨rfl,_⟩|⟨g,cap,O,fz,rfl,ab,hg,_,_,_,_,_⟩
 . exact (Up T B b p w F E).mono f
 . by_cases M:cap=0
   . subst M;exact (ON T B b g p O w N F fz hg E).mono f
   . exact (SP T B b g cap p w M F E).mono f
def NT (T:TypeId) (B b:Nat) (l:lB) (w:wD) (h:Lib.IsBuilderF T 5 B b (Lib.byteCells l) w) (f:B<=w.heap.size) :
 Calls prog 35 #[.pointer (some ⟨b,0,none⟩)] w fun e w'=>e = .returned (.string ⟨l.toArray⟩)/\(Lib.IsBuilderF T 5 B b (Lib.byteCells l) w'/\Fb B b w w'):=by
 cases l with
 | nil=>exact Ra T B b w h f
 | cons x r=>exact SO T B b (x::r) w h A6
def PM:BT 113:=⟨by kernel_rfl,Ao⟩
structure Bld (B b:Nat) (l:lB) (w:wD):Prop where
 is:Lib.IsBuilderF 113 5 B b (Lib.byteCells l) w
 le:B<=w.heap.size
def Jg {T e:TypeId} {B b:Nat} {p:Value} {L:lV} {w w':wD} (h:Lib.BuilderAtF T e B b p L w) (x:Ext w w'):Lib.BuilderAtF T e B b p L w':=by
 have E:=h.lt;obtain ⟨M,v,N,f,F⟩:=h;exact ⟨M,v,(x.block E).trans N,f.kept (row:=none) ⟨Below.os x,Below.tape x,Below.output x,Below.size x,fun k O _=>x.block O⟩ (by cases U:v.ownBlock<;>simp),F⟩
def Bld.ext {B b:Nat} {l:lB} {w w':wD} (h:Bld B b l w) (x:Ext w w'):Bld B b l w':=
 ⟨h.is.elim (fun a=>.inl (Jg a x)) (fun a=>.inr (Jg a x)),kW h.le x.size⟩
instance {B b:Nat} {l:lB} {w w':wD}:LfE w w' (Bld B b l w) (Bld B b l w'):=⟨fun x h=>Bk.Bld.ext h x⟩
def Bld.alloc {B b:Nat} {l:lB} {w:wD} (h:Bld B b l w) (o:Obj):Bld B b l (w.alloc o):=h.ext ((lN _).alloc o)
def Bld.drew {B b:Nat} {l:lB} {w:wD} (h:Bld B b l w):Bld B b l w.drew:=h.ext (lN _).drew
def Bld.lt {B b:Nat} {l:lB} {w:wD} (h:Bld B b l w):b<w.heap.size:=h.is.elim (fun a=>a.lt) (fun a=>a.lt)
def Bld.base {B b:Nat} {l:lB} {w:wD} (h:Bld B b l w):B<=b:=h.is.elim (fun a=>a.1) (fun a=>a.1)
def Fb.of_ext {B b:Nat} {w w':wD} (x:Ext w w') (h:B<=w.heap.size):Fb B b w w':=
 ⟨Below.mono x h,fun k o f _ _=>(x.block (Array.getElem?_eq_some_iff.1 f).1).trans f⟩
def Fb.alloc {B b:Nat} {u w:wD} (h:Fb B b u w) (f:B<=u.heap.size) (o:Obj):Fb B b u (w.alloc o):=
 h.trans (.of_ext ((lN _).alloc o) (kW f h.below.size))
def Fb.ext {B b:Nat} {u v w:wD} (h:Fb B b u v) (f:B<=u.heap.size) (x:Ext v w):Fb B b u w:=
 h.trans (.of_ext x (kW f h.below.size))
structure Box (k:Nat) (cs:Array Value) (T:TypeId) (w:wD):Prop where
 heap:w.heap[k]? = some (.cells cs T (0,0))
def Box.new (w:wD) (cs:Array Value) (T:TypeId):Box w.heap.size cs T (w.alloc (.cells cs T)):=⟨by show (w.heap.push _)[w.heap.size]? = _;simp⟩
def Box.new' {k:Nat} {w:wD} (cs:Array Value) (T:TypeId) (f:k=w.heap.size):Box k cs T (w.alloc (.cells cs T)):=by subst f;exact Box.new w cs T
def Box.lt {k:Nat} {cs:Array Value} {T:TypeId} {w:wD} (h:Box k cs T w):k<w.heap.size:=(Array.getElem?_eq_some_iff.1 h.heap).1
def Box.ext {k:Nat} {cs:Array Value} {T:TypeId} {w w':wD} (h:Box k cs T w) (x:Ext w w'):Box k cs T w':=⟨(x.block h.lt).trans h.heap⟩
instance {k:Nat} {cs:Array Value} {T:TypeId} {w w':wD}:LfE w w' (Box k cs T w) (Box k cs T w'):=⟨fun x h=>Bk.Box.ext h x⟩
def Box.alloc {k:Nat} {cs:Array Value} {T:TypeId} {w:wD} (h:Box k cs T w) (o:Obj):Box k cs T (w.alloc o):=h.ext ((lN _).alloc o)
def Box.drew {k:Nat} {cs:Array Value} {T:TypeId} {w:wD} (h:Box k cs T w):Box k cs T w.drew:=h.ext (lN _).drew
def Box.fb {k B b:Nat} {cs:Array Value} {T:TypeId} {w w':wD} (h:Box k cs T w) (x:Fb B b w w') (f:k≠b) (E:T≠5):Box k cs T w':=
 ⟨x.kept k _ h.heap (by simpa using f) (fun c F e=>E (by injection e))⟩
def Box.cell {k:Nat} {cs:Array Value} {T:TypeId} {w:wD} (h:Box k cs T w) (o:Nat):w.cell? ⟨k,o,none⟩=cs[o]? := by rw [Lib.cell_of_heap h.heap]
def Box.node {k:Nat} {v0 f v2 v3:Value} {T:TypeId} {w:wD} (h:Box k #[v0,f,v2,v3] T w) :
 w.cell? ⟨k,0,none⟩=some v0/\w.cell? ⟨k,1,none⟩=some f/\w.cell? ⟨k,2,none⟩=some v2/\w.cell? ⟨k,3,none⟩=some v3:=⟨h.cell 0,h.cell 1,h.cell 2,h.cell 3⟩
def rowSits.fb {B b:Nat} {w w':wD} {l:List Nd} {a:oA} (h:rowSits (· < B) w l a) (x:Fb B b w w'):rowSits (· < B) w' l a:=
 E5 aFh (fun k o _ f E=>(Below.cell (p:=⟨k,o,none⟩) x.below f).trans E) l a h
def SQ {P:Program} {B:Nat} {w w':wD} {name:String} {k:IntKind} {f:List Int} (h:Lib.TabIs P w name k f) (E:Below B w w') (F : ∀g,P.globalNamed name=some g->g<B):Lib.TabIs P w' name k f:=by
 unfold Lib.TabIs World.var? at *;cases hn:P.globalNamed name with
 | none=>rw [hn] at h;simp at h
 | some g=>rw [hn] at h;simp only [Option.bind_some] at h ⊢;rw [E.block g (F g hn)];exact h
def Tabs.below {B:Nat} {w w':wD} (h:Tabs w) (E:Below B w w') (M:prog.globals.size<=B):Tabs w':=by
 have h1:1<prog.globals.size:=of_decide_eq_true BD;have N:2<prog.globals.size:=of_decide_eq_true BD;refine ⟨fun i F=>(Below.cell (p:=⟨1,i,none⟩) E (by show 1<B;omega)).trans (h.sym i F),SQ h.pow E fun g f=>?_⟩
 have L:prog.globalNamed "internal/strconv.uint64pow10" = some 2:=by kernel_rfl
 rw [L] at f
 injection f with f
 omega
def Tabs.ext {w w':wD} (h:Tabs w) (x:Ext w w') (f:prog.globals.size<=w.heap.size):Tabs w':=h.below x f
def CC (B b tb tc:Nat) (l:lB) (ss:List lB) (w:wD) (h:Bld B b l w) (ht:Box tb (ss.map str).toArray 9 w) (hn:ss.length<=100) (hlen:(l++ss.flatten).length<=140737488355328) :
 Calls prog 58 #[.pointer (some ⟨b,0,none⟩),.slice (some ⟨tb,0,none⟩) ss.length tc] w fun e w'=>e = .returned (.tuple #[])/\Bld B b (l++ss.flatten) w'/\Fb B b w w':=by
 have hle:=h.le
 have htb:tb≠b:=by
  intro e;have h1:=ht.heap;rw [e] at h1
  rcases h.is with h'|h'<;>(obtain ⟨_,v,hb,_⟩:=h';rw [hb] at h1;injection h1 with h1;injection h1 with _ h1 _;exact absurd h1 (by decide))
 have HB:=kh h;clear h
 have HT:=kh ht;clear ht
 go_enter func58,ntmps58
 go_wp2_with fail
 go_loopw [8] (fun i wr=> ∃j:Nat,j<=ss.length/\i = .int .i64 j/\Bld B b (l++(ss.take j).flatten) wr/\Fb B b w wr) (fun i _=>ss.length-(intOf i).toNat)
 case atStart=>exact ⟨0,kC _,rfl,by simpa using HB.out,Fb.refl _ _ _⟩
 case round=>
  obtain ⟨j,hj,rfl,hbl,hfb⟩:=hrel
  by_cases hlt:j<ss.length
  . have hc:=(HT.out.fb hfb htb (by decide)).cell j
    have hg:(ss.map str).toArray[j]? = some (str ss[j]):=by simp [hlt]
    rw [hg] at hc
    have htk:(ss.take (j+1)).flatten=(ss.take j).flatten++ss[j]:=by rw [ky hlt,List.flatten_append];simp
    have hpre:(ss.take (j+1)).flatten.length<=ss.flatten.length:=by
     have e:ss=ss.take (j+1)++ss.drop (j+1):=(lf _ _).symm
     have e2:ss.flatten.length=(ss.take (j+1)).flatten.length+(ss.drop (j+1)).flatten.length:=by rw [<-j9,<-List.flatten_append,<-e]
     omega
    generalize ss[j]=sj at *
    have HTK:=kh htk;clear hg
    rw [htk] at hpre;simp only [j9] at hlen hpre;clear htk
    have hll:(Lib.byteCells (l++(ss.take j).flatten)).length+(⟨sj.toArray⟩:ByteArray).size<=140737488355328:=by
     rw [Lib.byteCells_length,j9];show _+sj.length<=_;omega
    have HLL:=kh hll;clear hll
    go_wp2_with fail
    refine (JR 113 PM B b _ _ _ hbl.is HLL.out hbl.le).mono ?_;rintro e w1 ⟨rfl,hi1,hf1⟩;simp only
    have hbl1:Bld B b (l++(ss.take (j+1)).flatten) w1:=by
     refine ⟨?_,kW hbl.le hf1.below.size⟩;rw [HTK.out,<-kA]
     have:Lib.byteCells (l++(ss.take j).flatten++sj)=Lib.byteCells (l++(ss.take j).flatten)++Lib.strCells ⟨sj.toArray⟩:=by
      rw [Lib.strCells_toArray];simp [Lib.byteCells]
     rw [this];exact hi1
    clear hbl hc hi1
    go_wp2_with fail
    go_roundw
    case rel=>exact ⟨j+1,by omega,by go_num,hbl1,hfb.trans hf1⟩
    case measure=>simp [intOf];omega
  . go_wp2_with fail
    go_end0
    refine ⟨rfl,?_,hfb⟩;rw [List.take_of_length_le (by omega)] at hbl
    exact hbl
def gB (B b:Nat) (l:lB) (n:Nat) (w:wD) (h:Bld B b l w) (hn:n<=1000000) (hlen:l.length+n<=140737488355328) :
 Calls prog 102 #[.pointer (some ⟨b,0,none⟩),.int .i64 n] w fun e w'=>e = .returned (.tuple #[])/\Bld B b (l++kV n 9) w'/\Fb B b w w':=by
 have HB:=kh h;clear h
 go_enter func102,ntmps102
 go_wp2_with fail
 go_loopw [5] (fun i wr=> ∃j:Nat,j<=n/\i = .int .i64 j/\Bld B b (l++kV j 9) wr/\Fb B b w wr) (fun i _=>n-(intOf i).toNat)
 case atStart=>exact ⟨0,kC _,rfl,by simpa using HB.out,Fb.refl _ _ _⟩
 case round=>
  obtain ⟨j,hj,rfl,hbl,hfb⟩:=hrel
  by_cases hlt:j<n
  . go_wp2_with fail
    refine (SM 113 PM B b _ _ _ hbl.is (by rw [Lib.byteCells_length];simp;omega) hbl.le).mono ?_;rintro e w1 ⟨rfl,hi1,hf1⟩;simp only
    have hbl1:Bld B b (l++kV (j+1) 9) w1:=by
     refine ⟨?_,kW hbl.le hf1.below.size⟩
     have:Lib.byteCells (l++kV (j+1) 9)=Lib.byteCells (l++kV j 9)++[Value.int .u8 9]:=by
      rw [List.replicate_succ',<-kA];simp [Lib.byteCells]
     rw [this];exact hi1
    clear hbl hi1
    go_wp2_with fail
    go_roundw
    case rel=>exact ⟨j+1,by omega,by go_num,hbl1,hfb.trans hf1⟩
    case measure=>simp [intOf];omega
  . go_wp2_with fail
    go_end0
    refine ⟨rfl,?_,hfb⟩
    have:j=n:=by omega
    subst this;exact hbl
def Prints (f:FuncId) (Mn:Nd->lB) (t:Nd):Prop:=
 ∀(B b:Nat) (l:lB) (w:wD) (a:oA) (c:Nat),Bld B b l w->Tabs w->prog.globals.size<=B->t.sits (· < B) w a->(l++Mn t).length<=140737488355328 ->
  Calls prog f #[.pointer (some ⟨b,0,none⟩),t.val a c] w fun e w'=>e = .returned (.tuple #[])/\Bld B b (l++Mn t) w'/\Fb B b w w'
def Nd.sits.fb {B b:Nat} {w w':wD} {t:Nd} {a:oA} (h:t.sits (· < B) w a) (x:Fb B b w w'):t.sits (· < B) w' a:=
 Nd.sits_mono aFh (fun k o _ f E=>(Below.cell (p:=⟨k,o,none⟩) x.below f).trans E) t a h
def Tabs.fb {B b:Nat} {w w':wD} (h:Tabs w) (x:Fb B b w w') (f:prog.globals.size<=B):Tabs w':=h.below x.below f
def H6 (t:Nd) (hp:Prints 192 mn t) (B b:Nat) (l:lB) (q:Bool) (w:wD) (a:oA) (c:Nat) (h:Bld B b l w) (ht:Tabs w) (hB:prog.globals.size<=B)
 (hs:t.sits (· < B) w a) (hlen:(l++wrap t.text q).length<=140737488355328) :
 Calls prog 229 #[.pointer (some ⟨b,0,none⟩),t.val a c,.bool q] w fun e w'=>e = .returned (.tuple #[])/\Bld B b (l++wrap t.text q) w'/\Fb B b w w':=by
 have hle:=h.le;have hlt:=h.lt
 have HP:=kh hp;clear hp
 cases q
 . have HL:Hid ((l++t.text).length<=140737488355328):=kh (by simpa [wrap] using hlen)
   clear hlen
   go_enter func229,ntmps229
   go_wp2_with fail
   refine (HP.out B b l _ a c (h.alloc _) (ht.ext ((lN _).alloc _) (by omega)) hB (hs.ext ((lN _).alloc _)) HL.out).mono ?_;rintro e w1 ⟨rfl,hb1,hx1⟩;simp only
   go_wp2_with fail
   ((try simp only [Exit.inBlock,Exit.then]);refine bodyPost_ret (results_none rfl _ _ _) rfl ?_)
   exact ⟨rfl,by simpa [wrap] using hb1,Fb.trans ((Fb.refl _ _ _).alloc hle _) hx1⟩
 . simp only [wrap,if_true,j9,kf,ki] at hlen
   go_enter func229,ntmps229
   go_wp2_with fail
   have hbx0:Box w.heap.size #[.int .u8 t.kind,.int .i64 t.num,str t.name,.slice a t.kids.length c] 32 (w.alloc (.cells #[.int .u8 t.kind,.int .i64 t.num,str t.name,.slice a t.kids.length c] 32)):=Box.new _ _ _;refine (CC B b (w.heap.size+1) 1 l [[40]] _ ((h.alloc _).alloc _) (Box.new' _ _ (by simp)) (by decide) (by simp;omega)).mono ?_;rintro e w1 ⟨rfl,hb1,hx1⟩;have hbx1:=(hbx0.alloc (Obj.cells #[.string { data:= #[40] }] 9)).fb hx1 (by omega) (by decide);have hxx1:Fb B b w w1:=Fb.trans (((Fb.refl _ _ _).alloc hle _).alloc hle _) hx1;obtain ⟨g0,g1,g2,g3⟩:=hbx1.node;simp only
   go_wp2_with fail
   refine (HP.out B b (l++[[40]].flatten) _ a c hb1 (ht.fb hxx1 hB) hB (hs.fb hxx1) (by simp;omega)).mono ?_;rintro e w2 ⟨rfl,hb2,hx2⟩;simp only
   go_wp2_with fail
   refine (CC B b w2.heap.size 1 _ [[41]] _ (hb2.alloc _) (Box.new' _ _ (by simp)) (by decide) (by simp;omega)).mono ?_;rintro e w3 ⟨rfl,hb3,hx3⟩;simp only
   go_wp2_with fail
   go_end0
   refine ⟨rfl,by simpa [wrap] using hb3,?_⟩
   exact (hxx1.trans hx2).trans (Fb.trans ((Fb.refl _ _ _).alloc hb2.le _) hx3)
open Go.Sort
def Y4 (w:wD) (k:Nat) (f:Array Obj):Ext w (grow (w.drewN k) f):=by
 have h:(grow (w.drewN k) f).heap=w.heap++f:=rfl;refine ⟨rfl,rfl,rfl,?_,fun i E=>?_⟩
 . rw [h];simp
 . rw [h,Array.getElem?_append_left E]
def Y5 (n:Int) (f : -9223372036854775808<=n) (h1:n<=9223372036854775807) (w:wD) (h:Tabs w) :
 Calls prog 62 #[.int .i64 n] w fun e w'=>e = .returned (str (Lib.itoa n))/\Ext w w':=
 (Tryz.strconv_Itoa n f h1 w h.pow).mono fun e w' ⟨E,k,os,hw⟩=>⟨E,hw▸Y4 w k os⟩
def Jh (k n:Int) (s:lB) (a:oA) (l c:Nat) (w:wD) :
 Calls prog 230 #[.agg #[.int .u8 k,.int .i64 n,str s,.slice a l c]] w fun e w'=>e = .returned (.bool (CD k))/\Ext w w':=by
 go_enter func230,ntmps230
 go_wp2_with fail
 all_goals go_ret
 all_goals exact ⟨AN (by unfold CD;rw [Bool.eq_iff_iff];simp;try omega),(by repeat (first|exact lN _|assumption|refine lO ?_ _|refine mh ?_|refine lQ ?_ ‹_›))⟩
def gC (n:Int) (s:lB) (l:List Nd) (hn0 : -9223372036854775808<=n) (hn1:n<=9223372036854775807):Prints 192 mn (.mk 1 n s l):=by
 intro B b t w a c h ht hB hs hlen
 have htx:(Nd.mk 1 n s l).text=Lib.itoa n:=by rw [Nd.text.eq_def];simp
 rw [htx] at hlen ⊢;have hle:=h.le;have hlt:=h.lt;simp only [j9] at hlen;simp only [lZ,mj,md,l9,ml];clear hs
 go_enter func192,ntmps192
 go_wp2_with fail
 refine (Y5 n hn0 hn1 _ (ht.ext ((lN _).alloc _) (by omega))).mono ?_;rintro e w1 ⟨rfl,hx1⟩;have hb1:=(h.alloc _).ext hx1;simp only
 go_wp2_with fail
 refine (CC B b w1.heap.size 1 t [Lib.itoa n] _ (hb1.alloc _) (Box.new' _ _ (by simp)) (by simp) (by simp;omega)).mono ?_;rintro e w2 ⟨rfl,hb2,hx2⟩;simp only
 go_wp2_with fail
 go_end0
 exact ⟨rfl,by simpa using hb2,Fb.trans (Fb.of_ext (by refine lO ?_ _;refine lQ ?_ ‹_›;refine lO ?_ _;exact lN _) hle) hx2⟩
def gD (n:Int) (s:lB) (l:List Nd):Prints 192 mn (.mk 2 n s l):=by
 intro B b t w a c h ht hB hs hlen
 have htx:(Nd.mk 2 n s l).text=s:=by rw [Nd.text.eq_def];simp
 rw [htx] at hlen ⊢;have hle:=h.le;have hlt:=h.lt;simp only [j9] at hlen;simp only [lZ,mj,md,l9,ml];clear hs
 go_enter func192,ntmps192
 go_wp2_with fail
 refine (CC B b (w.heap.size+1) 1 t [s] _ ((h.alloc _).alloc _) (Box.new' _ _ (by simp)) (by simp) (by simp;omega)).mono ?_;rintro e w2 ⟨rfl,hb2,hx2⟩;simp only
 go_wp2_with fail
 go_end0
 exact ⟨rfl,by simpa using hb2,Fb.trans (Fb.of_ext (by refine lO ?_ _;refine lO ?_ _;exact lN _) hle) hx2⟩
def gE (n:Int) (s:lB) (l:List Nd):Prints 192 mn (.mk 4 n s l):=by
 intro B b t w a c h ht hB hs hlen
 have htx:(Nd.mk 4 n s l).text=[116,111,112,40]++s++[41]:=by rw [Nd.text.eq_def];simp
 rw [htx] at hlen ⊢;have hle:=h.le;have hlt:=h.lt;simp only [j9,kf,ki] at hlen;simp only [lZ,mj,md,l9,ml];clear hs
 go_enter func192,ntmps192
 go_wp2_with fail
 refine (CC B b (w.heap.size+1) 3 t [[116,111,112,40],s,[41]] _ ((h.alloc _).alloc _) (Box.new' _ _ (by simp)) (by simp) (by simp;omega)).mono ?_;rintro e w2 ⟨rfl,hb2,hx2⟩;simp only
 go_wp2_with fail
 go_end0
 exact ⟨rfl,by simpa using hb2,Fb.trans (Fb.of_ext (by refine lO ?_ _;refine lO ?_ _;exact lN _) hle) hx2⟩
def gF (n:Int) (s:lB) (l:List Nd):Prints 192 mn (.mk 5 n s l):=by
 intro B b t w a c h ht hB hs hlen
 have htx:(Nd.mk 5 n s l).text=[115,105,122,101,40]++s++[41]:=by rw [Nd.text.eq_def];simp
 rw [htx] at hlen ⊢;have hle:=h.le;have hlt:=h.lt;simp only [j9,kf,ki] at hlen;simp only [lZ,mj,md,l9,ml];clear hs
 go_enter func192,ntmps192
 go_wp2_with fail
 refine (CC B b (w.heap.size+1) 3 t [[115,105,122,101,40],s,[41]] _ ((h.alloc _).alloc _) (Box.new' _ _ (by simp)) (by simp) (by simp;omega)).mono ?_;rintro e w2 ⟨rfl,hb2,hx2⟩;simp only
 go_wp2_with fail
 go_end0
 exact ⟨rfl,by simpa using hb2,Fb.trans (Fb.of_ext (by refine lO ?_ _;refine lO ?_ _;exact lN _) hle) hx2⟩
def bT {S:nP} {w:wD} {x:Nd} {a:oA} (h:rowSits S w [x] a) : ∃f E xa xc,a=some ⟨f,E,none⟩/\S f/\w.cell? ⟨f,E,none⟩=some (.int .u8 x.kind)/\w.cell? ⟨f,E+1,none⟩=some (.int .i64 x.num)/\w.cell? ⟨f,E+2,none⟩=some (str x.name)/\w.cell? ⟨f,E+3,none⟩=some (.slice xa x.kids.length xc)/\x.sits S w xa:=by
 obtain ⟨b,o,F,c,rfl,L,h1,M,N,O,U⟩:=Ed h (i:=0) (t:=x) rfl;exact ⟨b,o,F,c,rfl,L,by simpa using h1,by simpa using M,by simpa using N,by simpa using O,U⟩
def gG (n:Int) (s:lB) (x:Nd) (hx:Prints 192 mn x):Prints 192 mn (.mk 3 n s [x]):=by
 intro B b t w a c h ht hB hs hlen
 have htx:(Nd.mk 3 n s [x]).text=s++[91]++x.text++[93]:=by rw [Nd.text.eq_def];simp
 rw [htx] at hlen ⊢;have hle:=h.le;have hlt:=h.lt;simp only [j9,kf,ki] at hlen;simp only [lZ,mj,md,l9,ml,kf,ki]
 have HX:=kh hx;clear hx
 simp only [me] at hs;obtain ⟨kb,ko,xa,xc,rfl,-,-⟩:=bT hs;have hbx0:Box w.heap.size #[.int .u8 3,.int .i64 n,str s,.slice (some ⟨kb,ko,none⟩) 1 c] 32 (w.alloc (.cells #[.int .u8 3,.int .i64 n,str s,.slice (some ⟨kb,ko,none⟩) 1 c] 32)):=Box.new _ _ _
 go_enter func192,ntmps192
 go_wp2_with fail
 refine (CC B b (w.heap.size+1) 2 t [s,[91]] _ ((h.alloc _).alloc _) (Box.new' _ _ (by simp)) (by simp) (by simp;omega)).mono ?_;rintro e w1 ⟨rfl,hb1,hx1⟩;have hbx1:=(hbx0.alloc _).fb hx1 (by omega) (by decide);have hxx1:Fb B b w w1:=Fb.trans (Fb.of_ext (by refine lO ?_ _;refine lO ?_ _;exact lN _) hle) hx1;obtain ⟨g0,g1,g2,g3⟩:=hbx1.node;have hs1:=hs.fb hxx1;obtain ⟨kb',ko',xa,xc,he,hk1,k0,k1,k2,k3,hxs⟩:=bT hs1;simp only [kz,Addr.mk.injEq] at he;obtain ⟨rfl,rfl,-⟩:=he;simp only
 go_wp2_with fail
 refine (HX.out B b _ _ xa xc hb1 (ht.fb hxx1 hB) hB hxs (by simp;omega)).mono ?_;rintro e w2 ⟨rfl,hb2,hx2⟩;simp only
 go_wp2_with fail
 refine (CC B b w2.heap.size 1 _ [[93]] _ (hb2.alloc _) (Box.new' _ _ (by simp)) (by simp) (by simp;omega)).mono ?_;rintro e w3 ⟨rfl,hb3,hx3⟩;simp only
 go_wp2_with fail
 go_end0
 exact ⟨rfl,by simpa using hb3,(hxx1.trans hx2).trans (Fb.trans (Fb.of_ext (by refine lO ?_ _;exact lN _) hb2.le) hx3)⟩
def bU (k n:Int) (s:lB) (x:Nd) (hk:k=6\/k=7) (hx:Prints 192 mn x):Prints 192 mn (.mk k n s [x]):=by
 intro B b t w a c h ht hB hs hlen
 have htx:(Nd.mk k n s [x]).text=Cl k++wrap x.text (CD x.kind):=by rcases hk with rfl|rfl<;>(rw [Nd.text.eq_def];simp)
 rw [htx] at hlen ⊢;have hle:=h.le;have hlt:=h.lt;simp only [j9,kf,ki] at hlen;simp only [lZ,mj,md,l9,ml,kf,ki]
 have HX:=kh hx;clear hx htx
 simp only [me] at hs;obtain ⟨kb,ko,xa,xc,rfl,-,-⟩:=bT hs;have hbx0:Box w.heap.size #[.int .u8 k,.int .i64 n,str s,.slice (some ⟨kb,ko,none⟩) 1 c] 32 (w.alloc (.cells #[.int .u8 k,.int .i64 n,str s,.slice (some ⟨kb,ko,none⟩) 1 c] 32)):=Box.new _ _ _
 have hk0:0<=k/\k<=255:=by omega
 obtain ⟨hk0,hk1⟩:=hk0
 have d1:(k==1)=false:=by rw [beq_eq_false_iff_ne];omega
 have d2:(k==2)=false:=by rw [beq_eq_false_iff_ne];omega
 have d3:(k==3)=false:=by rw [beq_eq_false_iff_ne];omega
 have d4:(k==4)=false:=by rw [beq_eq_false_iff_ne];omega
 have d5:(k==5)=false:=by rw [beq_eq_false_iff_ne];omega
 have dk:(k==6)=true\/(k==6)=false/\(k==7)=true:=by rcases hk with rfl|rfl<;>simp
 clear hk
 rcases dk with d6|⟨d6,d7⟩
 all_goals
  go_enter func192,ntmps192
  go_wp2_with fail
  refine (GH _ _ hk0 hk1 (ht.ext ((lN _).alloc _) (by omega))).mono ?_;rintro e w1 ⟨rfl,rfl⟩;simp only
  go_wp2_with fail
  refine (CC B b (w.heap.size+1) 1 t [Cl k] _ ((h.alloc _).alloc _) (Box.new' _ _ (by simp)) (by simp) (by simp;omega)).mono ?_;rintro e w1 ⟨rfl,hb1,hx1⟩;have hbx1:=(hbx0.alloc _).fb hx1 (by omega) (by decide);have hxx1:Fb B b w w1:=Fb.trans (Fb.of_ext (by repeat (first|exact lN _|assumption|refine lO ?_ _|refine mh ?_|refine lQ ?_ ‹_›)) hle) hx1;obtain ⟨g0,g1,g2,g3⟩:=hbx1.node;have hs1:=hs.fb hxx1;obtain ⟨kb',ko',xa,xc,he,hkB,k0,k1,k2,k3,hxs⟩:=bT hs1;simp only [kz,Addr.mk.injEq] at he;obtain ⟨rfl,rfl,-⟩:=he;have ht1:=ht.fb hxx1 hB;simp only
  go_wp2_with fail
  go_region_held3 (fun w'=>w'.cell? ⟨w.heap.size,3,none⟩=some (.slice (some ⟨kb,ko,none⟩) 1 c)/\w'.cell? ⟨kb,ko,none⟩=some (.int .u8 x.kind)/\w'.cell? ⟨kb,ko+1,none⟩=some (.int .i64 x.num)/\w'.cell? ⟨kb,ko+2,none⟩=some (str x.name)/\w'.cell? ⟨kb,ko+3,none⟩=some (.slice xa x.kids.length xc))
   (first|exact ⟨g3,k0,k1,k2,k3⟩|exact ⟨hx2.keep g3,hx2.keep k0,hx2.keep k1,hx2.keep k2,hx2.keep k3⟩|exact ⟨(((hbx1.drew.ext hx2).fb hx3 (by omega) (by decide)).node).2.2.2,(Below.cell (p:=⟨_,_,none⟩) hx3.below hkB).trans (hx2.keep k0),(Below.cell (p:=⟨_,_,none⟩) hx3.below hkB).trans (hx2.keep k1),(Below.cell (p:=⟨_,_,none⟩) hx3.below hkB).trans (hx2.keep k2),(Below.cell (p:=⟨_,_,none⟩) hx3.below hkB).trans (hx2.keep k3)⟩)
   (first|(go_at_call 230;refine (Jh _ _ _ _ _ _ _).mono ?_;rintro e w2 ⟨rfl,hx2⟩)|(go_at_call 229;refine (H6 x HX.out B b _ _ _ xa xc (hb1.drew.ext hx2) ((ht1.ext (lN _).drew (by have:=hb1.le;omega)).ext hx2 (by have:=hb1.le;show _<=w1.heap.size;omega)) hB (hxs.ext (lQ (lN _).drew hx2)) (by simp;omega)).mono ?_;rintro e w3 ⟨rfl,hb3,hx3⟩))
  go_wp2_with fail
  go_end0
  exact ⟨rfl,by simpa [lZ] using hb3,(hxx1.trans (Fb.of_ext (lQ (lN _).drew hx2) hb1.le)).trans hx3⟩
def SR {a k:Int} (h:CD a=false):ER a k=false:=by simp [ER,h]
def SS {a k:Int} (h:CD a=false):Fw a k=false:=by simp [Fw,h]
def ST {a k:Int} (h:CD a=true) {q:Bool} (f:q=true↔Bv a<Bv k):ER a k=q:=by rw [Bool.eq_iff_iff,f];simp [ER,h]
def SU {a k:Int} (h:CD a=true) {q:Bool} (f:q=true↔Bv a<=Bv k):Fw a k=q:=by rw [Bool.eq_iff_iff,f];simp [Fw,h]
def jE {S:nP} {w:wD} {x y:Nd} {a:oA} (h:rowSits S w [x,y] a) : ∃f E xa xc ya yc,a=some ⟨f,E,none⟩/\S f/\(w.cell? ⟨f,E,none⟩=some (.int .u8 x.kind)/\w.cell? ⟨f,E+1,none⟩=some (.int .i64 x.num)/\w.cell? ⟨f,E+2,none⟩=some (str x.name)/\w.cell? ⟨f,E+3,none⟩=some (.slice xa x.kids.length xc)/\x.sits S w xa) /\
 (w.cell? ⟨f,E+4,none⟩=some (.int .u8 y.kind)/\w.cell? ⟨f,E+4+1,none⟩=some (.int .i64 y.num)/\w.cell? ⟨f,E+4+2,none⟩=some (str y.name)/\w.cell? ⟨f,E+4+3,none⟩=some (.slice ya y.kids.length yc)/\y.sits S w ya):=by
 obtain ⟨b,o,X,c,rfl,Y,h1,Z,h3,h4,h5⟩:=Ed h (i:=0) (t:=x) rfl;obtain ⟨b',o',F,c',V,aa,L,M,N,O,U⟩:=Ed h (i:=1) (t:=y) rfl;simp only [kz,Addr.mk.injEq] at V;obtain ⟨rfl,rfl,-⟩:=V;exact ⟨b,o,X,c,F,c',rfl,Y,⟨by simpa using h1,by simpa using Z,by simpa using h3,by simpa using h4,h5⟩,⟨by simpa using L,by simpa using M,by simpa using N,by simpa using O,U⟩⟩
set_option maxHeartbeats 8000000 in
def Y6 (k n:Int) (s:lB) (x y:Nd) (hk8:8<=k) (hk23:k<=23) (hx:Prints 192 mn x) (hy:Prints 192 mn y):Prints 192 mn (.mk k n s [x,y]):=by
 intro B b t w a c h ht hB hs hlen
 have d1:(k==1)=false:=by rw [beq_eq_false_iff_ne];omega
 have d2:(k==2)=false:=by rw [beq_eq_false_iff_ne];omega
 have d3:(k==3)=false:=by rw [beq_eq_false_iff_ne];omega
 have d4:(k==4)=false:=by rw [beq_eq_false_iff_ne];omega
 have d5:(k==5)=false:=by rw [beq_eq_false_iff_ne];omega
 have d6:(k==6)=false:=by rw [beq_eq_false_iff_ne];omega
 have d7:(k==7)=false:=by rw [beq_eq_false_iff_ne];omega
 have htx:(Nd.mk k n s [x,y]).text=wrap x.text (ER x.kind k)++[32]++Cl k++[32]++wrap y.text (Fw y.kind k):=by
  rw [Nd.text.eq_def];simp only [];rw [At (by omega),At (by omega),At (by omega),At (by omega),At (by omega),At (by omega)]
 rw [htx] at hlen ⊢;have hle:=h.le;have hlt:=h.lt;simp only [j9,kf,ki] at hlen;simp only [lZ,mj,md,l9,ml,kf,ki]
 have HX:=kh hx;clear hx htx
 have HY:=kh hy;clear hy
 simp only [me] at hs;obtain ⟨xk,xn,xs,xl⟩:=x;obtain ⟨yk,yn,ys,yl⟩:=y;obtain ⟨kb,ko,xa,xc,ya,yc,rfl,hkB,⟨k0,k1,k2,k3,hxs⟩,⟨m0,m1,m2,m3,hys⟩⟩:=jE hs;simp only [lZ,mj,md,l9] at *
 go_enter func192,ntmps192
 have hkw:kb<w.heap.size:=Nat.lt_of_lt_of_le hkB hle;have m1':w.cell? ⟨kb,ko+5,none⟩=some (.int .i64 yn):=m1;have m2':w.cell? ⟨kb,ko+6,none⟩=some (str ys):=m2;have m3':w.cell? ⟨kb,ko+7,none⟩=some (.slice ya yl.length yc):=m3
 have hkw1:kb<w.heap.size+1:=by omega
 have hkw2:kb<w.heap.size+2:=by omega
 have hkw3:kb<w.heap.size+1+1:=by omega
 go_upto_region 2 with fail
 go_cut [4,5] (fun s4 s5 W=> ∃pl pr:Nat,s4 = .pointer (some ⟨pl,0,none⟩)/\s5 = .pointer (some ⟨pr,0,none⟩)/\Box w.heap.size #[.int .u8 k,.int .i64 n,str s,.slice (some ⟨kb,ko,none⟩) 2 c] 32 W/\Box pl #[.int .u8 xk,.int .i64 xn,str xs,.slice xa xl.length xc] 32 W/\Box pr #[.int .u8 yk,.int .i64 yn,str ys,.slice ya yl.length yc] 32 W/\Ext w W/\b<pl/\b<pr)
 case first=>
  go_region
  . go_wp2_with fail
    go_meet
    exact ⟨w.heap.size+1,w.heap.size+1+1,rfl,rfl,(((Box.new _ _ _).alloc _).alloc _).drew,((Box.new' _ _ (by simp)).alloc _).drew,(Box.new' _ _ (by simp)).drew,(by refine mh ?_;refine lO ?_ _;refine lO ?_ _;refine lO ?_ _;exact lN _),by omega,by omega⟩
  . go_wp2_with fail
    go_meet
    exact ⟨w.heap.size+1+1,w.heap.size+1,rfl,rfl,(((Box.new _ _ _).alloc _).alloc _).drew,(Box.new' _ _ (by simp)).drew,((Box.new' _ _ (by simp)).alloc _).drew,(by refine mh ?_;refine lO ?_ _;refine lO ?_ _;refine lO ?_ _;exact lN _),by omega,by omega⟩
 case rest=>
  obtain ⟨W,hW⟩ : ∃W:wD,W=wc:=⟨wc,rfl⟩;subst hW;obtain ⟨pl,pr,rfl,rfl,hbn,hbl,hbr,hxW,hpl,hpr⟩:=hcut;have hle1:B<=W.heap.size:=kW hle hxW.size;have ht1:=ht.ext hxW (by omega);have hxW1:Fb B b w W:=Fb.of_ext hxW hle;have hxs1:=hxs.ext hxW;have hys1:=hys.ext hxW;have hb0:=h.ext hxW;clear k0 k1 k2 k3 m0 m1 m2 m3 m1' m2' m3' hxs hys hs h ht hkw hkw1 hkw2 hkw3;have hbb:=hb0.lt;obtain ⟨c0,c1,c2,c3⟩:=hbn.node;obtain ⟨l0,l1,l2,l3⟩:=hbl.node
  go_wp2_with fail
  refine (D4 _ _ (by omega) (by omega)).mono ?_;rintro e w1 ⟨rfl,rfl⟩;simp only
  go_upto_region 4 with fail
  go_cut [] (fun u3=>Bld B b (t++wrap (Nd.mk xk xn xs xl).text (ER xk k)) u3/\Fb B b W u3)
  case first=>
   cases hq:CD xk
   . have HQ:=kh hq;clear hq
     refine wp_region_held_drew (S:=fun w'=>w'.cell? ⟨pl,0,none⟩=some (.int .u8 xk)/\w'.cell? ⟨pl,1,none⟩=some (.int .i64 xn)/\w'.cell? ⟨pl,2,none⟩=some (str xs)/\w'.cell? ⟨pl,3,none⟩=some (.slice xa xl.length xc)) (by kernel_rfl) ⟨l0,l1,l2,l3⟩ (fun hHeld=>?_)
     ((refine wpAnyH_take (i:=0) (oi:=_) (v:=?v0_1) rfl (by kernel_rfl) (by kernel_rfl) (by kernel_rfl) (fun _ _ _ h=>h) (kj ⟨by rfl,?y0_1⟩) ‹_› ?r0_1);(case y0_1=>(intro w hSw;(try dsimp only at hSw);go_simp;try (with_reducible rfl)));(try simp only [Act.put,List.getElem_toArray,List.getElem_cons_zero,km,List.setIfInBounds_toArray,kx,List.set_cons_succ]))
     ((refine wpAnyH_take (i:=1) (oi:=_) (v:=?v1_2) rfl (by kernel_rfl) (by kernel_rfl) (by kernel_rfl) (fun _ _ _ h=>h) (kj ⟨by rfl,?y1_2⟩) ‹_› ?r1_2);(case y1_2=>(intro w hSw;(try dsimp only at hSw);go_simp;try (with_reducible rfl)));(try simp only [Act.put,List.getElem_toArray,List.getElem_cons_zero,km,List.setIfInBounds_toArray,kx,List.set_cons_succ]))
     ((refine wpAnyH_take (i:=2) (oi:=_) (v:=?v2_3) rfl (by kernel_rfl) (by kernel_rfl) (by kernel_rfl) (fun _ _ _ h=>h) (kj ⟨by rfl,?y2_3⟩) ‹_› ?r2_3);(case y2_3=>(intro w hSw;(try dsimp only at hSw);go_simp;try (with_reducible rfl)));(try simp only [Act.put,List.getElem_toArray,List.getElem_cons_zero,km,List.setIfInBounds_toArray,kx,List.set_cons_succ]))
     ((refine wpAnyH_ready (rs:=[3]) (by kernel_rfl) (by simp) ?_);(refine AllReadyH.cons (o:=_) rfl (fun K hK=>?_) AllReadyH.nil);go_simp)
     refine (Jh _ _ _ _ _ _ _).mono ?_;rintro e u2 ⟨rfl,hx2⟩;rw [HQ.out];refine hK.out _ _ ⟨hx2.keep l0,hx2.keep l1,hx2.keep l2,hx2.keep l3⟩ (fun hHeld=>?_);clear hK K;(try simp only [Act.put,List.getElem_toArray,List.getElem_cons_zero,km,List.setIfInBounds_toArray,kx,List.set_cons_succ])
     ((refine wpAnyH_take (i:=4) (oi:=_) (v:=?v4_4) rfl (by kernel_rfl) (by kernel_rfl) (by kernel_rfl) (fun _ _ _ h=>h) (kj ⟨by rfl,?y4_4⟩) ‹_› ?r4_4);(case y4_4=>(intro w hSw;(try dsimp only at hSw);go_simp;try (with_reducible rfl)));(try simp only [Act.put,List.getElem_toArray,List.getElem_cons_zero,km,List.setIfInBounds_toArray,kx,List.set_cons_succ]))
     ((refine wpAnyH_take (i:=5) (oi:=_) (v:=undef) rfl (by kernel_rfl) (by kernel_rfl) (by kernel_rfl) (fun _ _ _ h=>h) (kp ⟨by rfl,rfl⟩) ‹_› ?_);(try simp only [Act.put,List.getElem_toArray,List.getElem_cons_zero,km,List.setIfInBounds_toArray,kx,List.set_cons_succ]))
     ((refine wpAnyH_take (i:=6) (oi:=_) (v:=undef) rfl (by kernel_rfl) (by kernel_rfl) (by kernel_rfl) (fun _ _ _ h=>h) (kp ⟨by rfl,rfl⟩) ‹_› ?_);(try simp only [Act.put,List.getElem_toArray,List.getElem_cons_zero,km,List.setIfInBounds_toArray,kx,List.set_cons_succ]))
     ((refine wpAnyH_take (i:=7) (oi:=_) (v:=undef) rfl (by kernel_rfl) (by kernel_rfl) (by kernel_rfl) (fun _ _ _ h=>h) (kp ⟨by rfl,rfl⟩) ‹_› ?_);(try simp only [Act.put,List.getElem_toArray,List.getElem_cons_zero,km,List.setIfInBounds_toArray,kx,List.set_cons_succ]))
     ((refine wpAnyH_take (i:=8) (oi:=_) (v:=undef) rfl (by kernel_rfl) (by kernel_rfl) (by kernel_rfl) (fun _ _ _ h=>h) (kp ⟨by rfl,rfl⟩) ‹_› ?_);(try simp only [Act.put,List.getElem_toArray,List.getElem_cons_zero,km,List.setIfInBounds_toArray,kx,List.set_cons_succ]))
     ((refine wpAnyH_take (i:=9) (oi:=_) (v:=undef) rfl (by kernel_rfl) (by kernel_rfl) (by kernel_rfl) (fun _ _ _ h=>h) (kp ⟨by rfl,rfl⟩) ‹_› ?_);(try simp only [Act.put,List.getElem_toArray,List.getElem_cons_zero,km,List.setIfInBounds_toArray,kx,List.set_cons_succ]))
     ((refine wpAnyH_take (i:=10) (oi:=_) (v:=?v10_5) rfl (by kernel_rfl) (by kernel_rfl) (by kernel_rfl) (fun _ _ _ h=>h) (kj ⟨by rfl,?y10_5⟩) ‹_› ?r10_5);(case y10_5=>(intro w hSw;(try dsimp only at hSw);go_simp;try (with_reducible rfl)));(try simp only [Act.put,List.getElem_toArray,List.getElem_cons_zero,km,List.setIfInBounds_toArray,kx,List.set_cons_succ]))
     ((refine wpAnyH_ready (rs:=[11]) (by kernel_rfl) (by simp) ?_);(refine AllReadyH.cons (o:=_) rfl (fun K hK=>?_) AllReadyH.nil);go_simp)
     refine (H6 (.mk xk xn xs xl) HX.out B b _ _ _ xa xc (hb0.drew.ext hx2) ((ht1.ext (lN _).drew (by omega)).ext hx2 (by show _<=W.heap.size;omega)) hB (hxs1.ext (lQ (lN _).drew hx2)) (by rw [<-SR (k:=k) HQ.out];simp only [j9,lg,List.flatten_nil,kf,ki] at hlen ⊢;omega)).mono ?_;rintro e u3 ⟨rfl,hb3,hx3⟩;rw [<-SR (k:=k) HQ.out] at hb3;refine hK.out _ _ ((hbl.drew.ext hx2).fb hx3 (by omega) (by decide)).node (fun hHeld=>?_);clear hK K hHeld;(try simp only [Act.put,List.getElem_toArray,List.getElem_cons_zero,km,List.setIfInBounds_toArray,kx,List.set_cons_succ]);(refine wpAnyH_done (by kernel_rfl) ?_ _)
     go_wp2_with fail
     go_meet
     refine ⟨?_,(Fb.of_ext (lQ (lN _).drew hx2) hle1).trans hx3⟩
     exact hb3
   . have HQ:=kh hq;clear hq
     refine wp_region_held_drew (S:=fun w'=>w'.cell? ⟨pl,0,none⟩=some (.int .u8 xk)/\w'.cell? ⟨pl,1,none⟩=some (.int .i64 xn)/\w'.cell? ⟨pl,2,none⟩=some (str xs)/\w'.cell? ⟨pl,3,none⟩=some (.slice xa xl.length xc)) (by kernel_rfl) ⟨l0,l1,l2,l3⟩ (fun hHeld=>?_)
     ((refine wpAnyH_take (i:=0) (oi:=_) (v:=?v0_6) rfl (by kernel_rfl) (by kernel_rfl) (by kernel_rfl) (fun _ _ _ h=>h) (kj ⟨by rfl,?y0_6⟩) ‹_› ?r0_6);(case y0_6=>(intro w hSw;(try dsimp only at hSw);go_simp;try (with_reducible rfl)));(try simp only [Act.put,List.getElem_toArray,List.getElem_cons_zero,km,List.setIfInBounds_toArray,kx,List.set_cons_succ]))
     ((refine wpAnyH_take (i:=1) (oi:=_) (v:=?v1_7) rfl (by kernel_rfl) (by kernel_rfl) (by kernel_rfl) (fun _ _ _ h=>h) (kj ⟨by rfl,?y1_7⟩) ‹_› ?r1_7);(case y1_7=>(intro w hSw;(try dsimp only at hSw);go_simp;try (with_reducible rfl)));(try simp only [Act.put,List.getElem_toArray,List.getElem_cons_zero,km,List.setIfInBounds_toArray,kx,List.set_cons_succ]))
     ((refine wpAnyH_take (i:=2) (oi:=_) (v:=?v2_8) rfl (by kernel_rfl) (by kernel_rfl) (by kernel_rfl) (fun _ _ _ h=>h) (kj ⟨by rfl,?y2_8⟩) ‹_› ?r2_8);(case y2_8=>(intro w hSw;(try dsimp only at hSw);go_simp;try (with_reducible rfl)));(try simp only [Act.put,List.getElem_toArray,List.getElem_cons_zero,km,List.setIfInBounds_toArray,kx,List.set_cons_succ]))
     ((refine wpAnyH_ready (rs:=[3]) (by kernel_rfl) (by simp) ?_);(refine AllReadyH.cons (o:=_) rfl (fun K hK=>?_) AllReadyH.nil);go_simp)
     refine (Jh _ _ _ _ _ _ _).mono ?_;rintro e u2 ⟨rfl,hx2⟩;rw [HQ.out];refine hK.out _ _ ⟨hx2.keep l0,hx2.keep l1,hx2.keep l2,hx2.keep l3⟩ (fun hHeld=>?_);clear hK K;(try simp only [Act.put,List.getElem_toArray,List.getElem_cons_zero,km,List.setIfInBounds_toArray,kx,List.set_cons_succ])
     ((refine wpAnyH_take (i:=4) (oi:=_) (v:=?v4_9) rfl (by kernel_rfl) (by kernel_rfl) (by kernel_rfl) (fun _ _ _ h=>h) (kj ⟨by rfl,?y4_9⟩) ‹_› ?r4_9);(case y4_9=>(intro w hSw;(try dsimp only at hSw);go_simp;try (with_reducible rfl)));(try simp only [Act.put,List.getElem_toArray,List.getElem_cons_zero,km,List.setIfInBounds_toArray,kx,List.set_cons_succ]))
     have hbk:8<=xk/\xk<=23:=by have:=HQ.out;simp [CD] at this;exact this
     obtain ⟨hbk0,hbk1⟩:=hbk
     ((refine wpAnyH_take (i:=5) (oi:=_) (v:=?v5_10) rfl (by kernel_rfl) (by kernel_rfl) (by kernel_rfl) (fun _ _ _ h=>h) (kj ⟨by rfl,?y5_10⟩) ‹_› ?r5_10);(case y5_10=>(intro w hSw;(try dsimp only at hSw);go_simp;try (with_reducible rfl)));(try simp only [Act.put,List.getElem_toArray,List.getElem_cons_zero,km,List.setIfInBounds_toArray,kx,List.set_cons_succ]))
     ((refine wpAnyH_take (i:=6) (oi:=_) (v:=?v6_11) rfl (by kernel_rfl) (by kernel_rfl) (by kernel_rfl) (fun _ _ _ h=>h) (kj ⟨by rfl,?y6_11⟩) ‹_› ?r6_11);(case y6_11=>(intro w hSw;(try dsimp only at hSw);go_simp;try (with_reducible rfl)));(try simp only [Act.put,List.getElem_toArray,List.getElem_cons_zero,km,List.setIfInBounds_toArray,kx,List.set_cons_succ]))
     ((refine wpAnyH_take (i:=8) (oi:=_) (v:=?v8_12) rfl (by kernel_rfl) (by kernel_rfl) (by kernel_rfl) (fun _ _ _ h=>h) (kj ⟨by rfl,?y8_12⟩) ‹_› ?r8_12);(case y8_12=>(intro w hSw;(try dsimp only at hSw);go_simp;try (with_reducible rfl)));(try simp only [Act.put,List.getElem_toArray,List.getElem_cons_zero,km,List.setIfInBounds_toArray,kx,List.set_cons_succ]))
     ((refine wpAnyH_ready (rs:=[7]) (by kernel_rfl) (by simp) ?_);(refine AllReadyH.cons (o:=_) rfl (fun K hK=>?_) AllReadyH.nil);go_simp)
     refine (D4 _ _ (by omega) (by omega)).mono ?_;rintro e u' ⟨rfl,rfl⟩;refine hK.out _ _ ⟨hx2.keep l0,hx2.keep l1,hx2.keep l2,hx2.keep l3⟩ (fun hHeld=>?_);clear hK K;(try simp only [Act.put,List.getElem_toArray,List.getElem_cons_zero,km,List.setIfInBounds_toArray,kx,List.set_cons_succ])
     ((refine wpAnyH_take (i:=9) (oi:=_) (v:=?v9_13) rfl (by kernel_rfl) (by kernel_rfl) (by kernel_rfl) (fun _ _ _ h=>h) (kj ⟨by rfl,?y9_13⟩) ‹_› ?r9_13);(case y9_13=>(intro w hSw;(try dsimp only at hSw);go_simp;try (with_reducible rfl)));(try simp only [Act.put,List.getElem_toArray,List.getElem_cons_zero,km,List.setIfInBounds_toArray,kx,List.set_cons_succ]))
     ((refine wpAnyH_take (i:=10) (oi:=_) (v:=?v10_14) rfl (by kernel_rfl) (by kernel_rfl) (by kernel_rfl) (fun _ _ _ h=>h) (kj ⟨by rfl,?y10_14⟩) ‹_› ?r10_14);(case y10_14=>(intro w hSw;(try dsimp only at hSw);go_simp;try (with_reducible rfl)));(try simp only [Act.put,List.getElem_toArray,List.getElem_cons_zero,km,List.setIfInBounds_toArray,kx,List.set_cons_succ]))
     ((refine wpAnyH_ready (rs:=[11]) (by kernel_rfl) (by simp) ?_);(refine AllReadyH.cons (o:=_) rfl (fun K hK=>?_) AllReadyH.nil);go_simp)
     refine (H6 (.mk xk xn xs xl) HX.out B b _ _ _ xa xc (hb0.drew.ext hx2) ((ht1.ext (lN _).drew (by omega)).ext hx2 (by show _<=W.heap.size;omega)) hB (hxs1.ext (lQ (lN _).drew hx2)) (by rw [<-ST (k:=k) HQ.out (decide_eq_true_iff)];simp only [j9,lg,List.flatten_nil,kf,ki] at hlen ⊢;omega)).mono ?_;rintro e u3 ⟨rfl,hb3,hx3⟩;rw [<-ST (k:=k) HQ.out (decide_eq_true_iff)] at hb3;refine hK.out _ _ ((hbl.drew.ext hx2).fb hx3 (by omega) (by decide)).node (fun hHeld=>?_);clear hK K hHeld;(try simp only [Act.put,List.getElem_toArray,List.getElem_cons_zero,km,List.setIfInBounds_toArray,kx,List.set_cons_succ]);(refine wpAnyH_done (by kernel_rfl) ?_ _)
     go_wp2_with fail
     go_meet
     refine ⟨?_,(Fb.of_ext (lQ (lN _).drew hx2) hle1).trans hx3⟩
     exact hb3
  case rest=>
   obtain ⟨u3,hu3⟩ : ∃u3:wD,u3=wc:=⟨wc,rfl⟩;subst hu3;obtain ⟨hb3,hxx3⟩:=hcut
   have hlen2:t.length+(wrap (Nd.mk xk xn xs xl).text (ER xk k)).length+(1+(Cl k).length+1)+(wrap (Nd.mk yk yn ys yl).text (Fw yk k)).length<=140737488355328:=by omega
   clear hlen;obtain ⟨c0,c1,c2,c3⟩:=(hbn.fb hxx3 (by omega) (by decide)).node;have hbr3:=hbr.fb hxx3 (by omega) (by decide);have ht3:=ht1.fb hxx3 hB;have hys3:=hys1.fb hxx3;have hle3:=hb3.le;clear hbl hbn hxs1 l0 l1 l2 l3 ht1 hys1 hbr hb0
   go_wp2_with fail
   refine (GH _ _ (by omega) (by omega) ht3).mono ?_;rintro e u4 ⟨rfl,rfl⟩;simp only
   go_wp2_with fail
   refine (CC B b u3.heap.size 3 _ [[32],Cl k,[32]] _ (hb3.alloc _) (Box.new' _ _ (by simp)) (by simp) (by simp only [j9,lg,List.flatten_nil,kf,ki];omega)).mono ?_;rintro e u4 ⟨rfl,hb4,hx4⟩;have hxx4:Fb B b u3 u4:=Fb.trans (Fb.of_ext (by refine lO ?_ _;exact lN _) hle3) hx4;have hbr4:=hbr3.fb hxx4 (by omega) (by decide);obtain ⟨r0,r1,r2,r3⟩:=hbr4.node;have ht4:=ht3.fb hxx4 hB;have hys4:=hys3.fb hxx4;have hle4:=hb4.le;clear hbr3 ht3 hys3 c0 c1 c2 c3 hx4;simp only
   go_wp2_with fail
   cases hq:CD yk
   . have HR:=kh hq;clear hq
     refine wp_region_held_drew (S:=fun w'=>w'.cell? ⟨pr,0,none⟩=some (.int .u8 yk)/\w'.cell? ⟨pr,1,none⟩=some (.int .i64 yn)/\w'.cell? ⟨pr,2,none⟩=some (str ys)/\w'.cell? ⟨pr,3,none⟩=some (.slice ya yl.length yc)) (by kernel_rfl) ⟨r0,r1,r2,r3⟩ (fun hHeld=>?_)
     ((refine wpAnyH_take (i:=0) (oi:=_) (v:=?v0_15) rfl (by kernel_rfl) (by kernel_rfl) (by kernel_rfl) (fun _ _ _ h=>h) (kj ⟨by rfl,?y0_15⟩) ‹_› ?r0_15);(case y0_15=>(intro w hSw;(try dsimp only at hSw);go_simp;try (with_reducible rfl)));(try simp only [Act.put,List.getElem_toArray,List.getElem_cons_zero,km,List.setIfInBounds_toArray,kx,List.set_cons_succ]))
     ((refine wpAnyH_take (i:=1) (oi:=_) (v:=?v1_16) rfl (by kernel_rfl) (by kernel_rfl) (by kernel_rfl) (fun _ _ _ h=>h) (kj ⟨by rfl,?y1_16⟩) ‹_› ?r1_16);(case y1_16=>(intro w hSw;(try dsimp only at hSw);go_simp;try (with_reducible rfl)));(try simp only [Act.put,List.getElem_toArray,List.getElem_cons_zero,km,List.setIfInBounds_toArray,kx,List.set_cons_succ]))
     ((refine wpAnyH_take (i:=2) (oi:=_) (v:=?v2_17) rfl (by kernel_rfl) (by kernel_rfl) (by kernel_rfl) (fun _ _ _ h=>h) (kj ⟨by rfl,?y2_17⟩) ‹_› ?r2_17);(case y2_17=>(intro w hSw;(try dsimp only at hSw);go_simp;try (with_reducible rfl)));(try simp only [Act.put,List.getElem_toArray,List.getElem_cons_zero,km,List.setIfInBounds_toArray,kx,List.set_cons_succ]))
     ((refine wpAnyH_ready (rs:=[3]) (by kernel_rfl) (by simp) ?_);(refine AllReadyH.cons (o:=_) rfl (fun K hK=>?_) AllReadyH.nil);go_simp)
     refine (Jh _ _ _ _ _ _ _).mono ?_;rintro e u5 ⟨rfl,hx5⟩;rw [HR.out];refine hK.out _ _ ⟨hx5.keep r0,hx5.keep r1,hx5.keep r2,hx5.keep r3⟩ (fun hHeld=>?_);clear hK K;(try simp only [Act.put,List.getElem_toArray,List.getElem_cons_zero,km,List.setIfInBounds_toArray,kx,List.set_cons_succ])
     ((refine wpAnyH_take (i:=4) (oi:=_) (v:=?v4_18) rfl (by kernel_rfl) (by kernel_rfl) (by kernel_rfl) (fun _ _ _ h=>h) (kj ⟨by rfl,?y4_18⟩) ‹_› ?r4_18);(case y4_18=>(intro w hSw;(try dsimp only at hSw);go_simp;try (with_reducible rfl)));(try simp only [Act.put,List.getElem_toArray,List.getElem_cons_zero,km,List.setIfInBounds_toArray,kx,List.set_cons_succ]))
     ((refine wpAnyH_take (i:=5) (oi:=_) (v:=undef) rfl (by kernel_rfl) (by kernel_rfl) (by kernel_rfl) (fun _ _ _ h=>h) (kp ⟨by rfl,rfl⟩) ‹_› ?_);(try simp only [Act.put,List.getElem_toArray,List.getElem_cons_zero,km,List.setIfInBounds_toArray,kx,List.set_cons_succ]))
     ((refine wpAnyH_take (i:=6) (oi:=_) (v:=undef) rfl (by kernel_rfl) (by kernel_rfl) (by kernel_rfl) (fun _ _ _ h=>h) (kp ⟨by rfl,rfl⟩) ‹_› ?_);(try simp only [Act.put,List.getElem_toArray,List.getElem_cons_zero,km,List.setIfInBounds_toArray,kx,List.set_cons_succ]))
     ((refine wpAnyH_take (i:=7) (oi:=_) (v:=undef) rfl (by kernel_rfl) (by kernel_rfl) (by kernel_rfl) (fun _ _ _ h=>h) (kp ⟨by rfl,rfl⟩) ‹_› ?_);(try simp only [Act.put,List.getElem_toArray,List.getElem_cons_zero,km,List.setIfInBounds_toArray,kx,List.set_cons_succ]))
     ((refine wpAnyH_take (i:=8) (oi:=_) (v:=undef) rfl (by kernel_rfl) (by kernel_rfl) (by kernel_rfl) (fun _ _ _ h=>h) (kp ⟨by rfl,rfl⟩) ‹_› ?_);(try simp only [Act.put,List.getElem_toArray,List.getElem_cons_zero,km,List.setIfInBounds_toArray,kx,List.set_cons_succ]))
     ((refine wpAnyH_take (i:=9) (oi:=_) (v:=undef) rfl (by kernel_rfl) (by kernel_rfl) (by kernel_rfl) (fun _ _ _ h=>h) (kp ⟨by rfl,rfl⟩) ‹_› ?_);(try simp only [Act.put,List.getElem_toArray,List.getElem_cons_zero,km,List.setIfInBounds_toArray,kx,List.set_cons_succ]))
     ((refine wpAnyH_take (i:=10) (oi:=_) (v:=?v10_19) rfl (by kernel_rfl) (by kernel_rfl) (by kernel_rfl) (fun _ _ _ h=>h) (kj ⟨by rfl,?y10_19⟩) ‹_› ?r10_19);(case y10_19=>(intro w hSw;(try dsimp only at hSw);go_simp;try (with_reducible rfl)));(try simp only [Act.put,List.getElem_toArray,List.getElem_cons_zero,km,List.setIfInBounds_toArray,kx,List.set_cons_succ]))
     ((refine wpAnyH_ready (rs:=[11]) (by kernel_rfl) (by simp) ?_);(refine AllReadyH.cons (o:=_) rfl (fun K hK=>?_) AllReadyH.nil);go_simp)
     refine (H6 (.mk yk yn ys yl) HY.out B b _ _ _ ya yc (hb4.drew.ext hx5) ((ht4.ext (lN _).drew (by omega)).ext hx5 (by show _<=u4.heap.size;omega)) hB (hys4.ext (lQ (lN _).drew hx5)) (by rw [<-SS (k:=k) HR.out];simp only [j9,lg,List.flatten_nil,kf,ki] at hlen2 ⊢;omega)).mono ?_;rintro e u6 ⟨rfl,hb6,hx6⟩;rw [<-SS (k:=k) HR.out] at hb6;refine hK.out _ _ ((hbr4.drew.ext hx5).fb hx6 (by omega) (by decide)).node (fun hHeld=>?_);clear hK K hHeld;(try simp only [Act.put,List.getElem_toArray,List.getElem_cons_zero,km,List.setIfInBounds_toArray,kx,List.set_cons_succ]);(refine wpAnyH_done (by kernel_rfl) ?_ _)
     go_wp2_with fail
     go_end0
     refine ⟨rfl,?_,(hxW1.trans hxx3).trans (hxx4.trans ((Fb.of_ext (lQ (lN _).drew hx5) hle4).trans hx6))⟩
     simpa using hb6
   . have HR:=kh hq;clear hq
     refine wp_region_held_drew (S:=fun w'=>w'.cell? ⟨pr,0,none⟩=some (.int .u8 yk)/\w'.cell? ⟨pr,1,none⟩=some (.int .i64 yn)/\w'.cell? ⟨pr,2,none⟩=some (str ys)/\w'.cell? ⟨pr,3,none⟩=some (.slice ya yl.length yc)) (by kernel_rfl) ⟨r0,r1,r2,r3⟩ (fun hHeld=>?_)
     ((refine wpAnyH_take (i:=0) (oi:=_) (v:=?v0_20) rfl (by kernel_rfl) (by kernel_rfl) (by kernel_rfl) (fun _ _ _ h=>h) (kj ⟨by rfl,?y0_20⟩) ‹_› ?r0_20);(case y0_20=>(intro w hSw;(try dsimp only at hSw);go_simp;try (with_reducible rfl)));(try simp only [Act.put,List.getElem_toArray,List.getElem_cons_zero,km,List.setIfInBounds_toArray,kx,List.set_cons_succ]))
     ((refine wpAnyH_take (i:=1) (oi:=_) (v:=?v1_21) rfl (by kernel_rfl) (by kernel_rfl) (by kernel_rfl) (fun _ _ _ h=>h) (kj ⟨by rfl,?y1_21⟩) ‹_› ?r1_21);(case y1_21=>(intro w hSw;(try dsimp only at hSw);go_simp;try (with_reducible rfl)));(try simp only [Act.put,List.getElem_toArray,List.getElem_cons_zero,km,List.setIfInBounds_toArray,kx,List.set_cons_succ]))
     ((refine wpAnyH_take (i:=2) (oi:=_) (v:=?v2_22) rfl (by kernel_rfl) (by kernel_rfl) (by kernel_rfl) (fun _ _ _ h=>h) (kj ⟨by rfl,?y2_22⟩) ‹_› ?r2_22);(case y2_22=>(intro w hSw;(try dsimp only at hSw);go_simp;try (with_reducible rfl)));(try simp only [Act.put,List.getElem_toArray,List.getElem_cons_zero,km,List.setIfInBounds_toArray,kx,List.set_cons_succ]))
     ((refine wpAnyH_ready (rs:=[3]) (by kernel_rfl) (by simp) ?_);(refine AllReadyH.cons (o:=_) rfl (fun K hK=>?_) AllReadyH.nil);go_simp)
     refine (Jh _ _ _ _ _ _ _).mono ?_;rintro e u5 ⟨rfl,hx5⟩;rw [HR.out];refine hK.out _ _ ⟨hx5.keep r0,hx5.keep r1,hx5.keep r2,hx5.keep r3⟩ (fun hHeld=>?_);clear hK K;(try simp only [Act.put,List.getElem_toArray,List.getElem_cons_zero,km,List.setIfInBounds_toArray,kx,List.set_cons_succ])
     ((refine wpAnyH_take (i:=4) (oi:=_) (v:=?v4_23) rfl (by kernel_rfl) (by kernel_rfl) (by kernel_rfl) (fun _ _ _ h=>h) (kj ⟨by rfl,?y4_23⟩) ‹_› ?r4_23);(case y4_23=>(intro w hSw;(try dsimp only at hSw);go_simp;try (with_reducible rfl)));(try simp only [Act.put,List.getElem_toArray,List.getElem_cons_zero,km,List.setIfInBounds_toArray,kx,List.set_cons_succ]))
     have hbk:8<=yk/\yk<=23:=by have:=HR.out;simp [CD] at this;exact this
     obtain ⟨hbk0,hbk1⟩:=hbk
     ((refine wpAnyH_take (i:=5) (oi:=_) (v:=?v5_24) rfl (by kernel_rfl) (by kernel_rfl) (by kernel_rfl) (fun _ _ _ h=>h) (kj ⟨by rfl,?y5_24⟩) ‹_› ?r5_24);(case y5_24=>(intro w hSw;(try dsimp only at hSw);go_simp;try (with_reducible rfl)));(try simp only [Act.put,List.getElem_toArray,List.getElem_cons_zero,km,List.setIfInBounds_toArray,kx,List.set_cons_succ]))
     ((refine wpAnyH_take (i:=6) (oi:=_) (v:=?v6_25) rfl (by kernel_rfl) (by kernel_rfl) (by kernel_rfl) (fun _ _ _ h=>h) (kj ⟨by rfl,?y6_25⟩) ‹_› ?r6_25);(case y6_25=>(intro w hSw;(try dsimp only at hSw);go_simp;try (with_reducible rfl)));(try simp only [Act.put,List.getElem_toArray,List.getElem_cons_zero,km,List.setIfInBounds_toArray,kx,List.set_cons_succ]))
     ((refine wpAnyH_take (i:=8) (oi:=_) (v:=?v8_26) rfl (by kernel_rfl) (by kernel_rfl) (by kernel_rfl) (fun _ _ _ h=>h) (kj ⟨by rfl,?y8_26⟩) ‹_› ?r8_26);(case y8_26=>(intro w hSw;(try dsimp only at hSw);go_simp;try (with_reducible rfl)));(try simp only [Act.put,List.getElem_toArray,List.getElem_cons_zero,km,List.setIfInBounds_toArray,kx,List.set_cons_succ]))
     ((refine wpAnyH_ready (rs:=[7]) (by kernel_rfl) (by simp) ?_);(refine AllReadyH.cons (o:=_) rfl (fun K hK=>?_) AllReadyH.nil);go_simp)
     refine (D4 _ _ (by omega) (by omega)).mono ?_;rintro e u' ⟨rfl,rfl⟩;refine hK.out _ _ ⟨hx5.keep r0,hx5.keep r1,hx5.keep r2,hx5.keep r3⟩ (fun hHeld=>?_);clear hK K;(try simp only [Act.put,List.getElem_toArray,List.getElem_cons_zero,km,List.setIfInBounds_toArray,kx,List.set_cons_succ])
     ((refine wpAnyH_take (i:=9) (oi:=_) (v:=?v9_27) rfl (by kernel_rfl) (by kernel_rfl) (by kernel_rfl) (fun _ _ _ h=>h) (kj ⟨by rfl,?y9_27⟩) ‹_› ?r9_27);(case y9_27=>(intro w hSw;(try dsimp only at hSw);go_simp;try (with_reducible rfl)));(try simp only [Act.put,List.getElem_toArray,List.getElem_cons_zero,km,List.setIfInBounds_toArray,kx,List.set_cons_succ]))
     ((refine wpAnyH_take (i:=10) (oi:=_) (v:=?v10_28) rfl (by kernel_rfl) (by kernel_rfl) (by kernel_rfl) (fun _ _ _ h=>h) (kj ⟨by rfl,?y10_28⟩) ‹_› ?r10_28);(case y10_28=>(intro w hSw;(try dsimp only at hSw);go_simp;try (with_reducible rfl)));(try simp only [Act.put,List.getElem_toArray,List.getElem_cons_zero,km,List.setIfInBounds_toArray,kx,List.set_cons_succ]))
     ((refine wpAnyH_ready (rs:=[11]) (by kernel_rfl) (by simp) ?_);(refine AllReadyH.cons (o:=_) rfl (fun K hK=>?_) AllReadyH.nil);go_simp)
     refine (H6 (.mk yk yn ys yl) HY.out B b _ _ _ ya yc (hb4.drew.ext hx5) ((ht4.ext (lN _).drew (by omega)).ext hx5 (by show _<=u4.heap.size;omega)) hB (hys4.ext (lQ (lN _).drew hx5)) (by rw [<-SU (k:=k) HR.out (decide_eq_true_iff)];simp only [j9,lg,List.flatten_nil,kf,ki] at hlen2 ⊢;omega)).mono ?_;rintro e u6 ⟨rfl,hb6,hx6⟩;rw [<-SU (k:=k) HR.out (decide_eq_true_iff)] at hb6;refine hK.out _ _ ((hbr4.drew.ext hx5).fb hx6 (by omega) (by decide)).node (fun hHeld=>?_);clear hK K hHeld;(try simp only [Act.put,List.getElem_toArray,List.getElem_cons_zero,km,List.setIfInBounds_toArray,kx,List.set_cons_succ]);(refine wpAnyH_done (by kernel_rfl) ?_ _)
     go_wp2_with fail
     go_end0
     refine ⟨rfl,?_,(hxW1.trans hxx3).trans (hxx4.trans ((Fb.of_ext (lQ (lN _).drew hx5) hle4).trans hx6))⟩
     simpa using hb6
def Y7 (N:Nat) : ∀t:Nd,t.size<N->t.wf->t.isExpr=true->Prints 192 mn t:=by
 induction N with
 | zero=>intro t h;omega
 | succ N O=>
  rintro ⟨k,n,s,l⟩ U L f;simp only [Nd.wf,lR] at L U;obtain ⟨Z,aa,V,X,ab,ac,E⟩:=L;by_cases Y:k=1
  . subst Y;exact gC n s l V X
  by_cases c2:k=2
  . subst c2;exact gD n s l
  by_cases c4:k=4
  . subst c4;exact gE n s l
  by_cases c5:k=5
  . subst c5;exact gF n s l
  rw [Nd.isExpr.eq_def] at f;simp only [Y,c2,c4,c5,or_self,if_false,false_or] at f;by_cases c3:k=3
  . subst c3;rcases l with _|⟨x,_|⟨y,l⟩⟩
    . simp at f
    . simp at f;simp only [Aj,Bc] at U E;exact gG n s x (O x Aa E.1 f.2)
    . simp at f
  simp only [c3,if_false] at f;by_cases M:k=6\/k=7
  . rcases l with _|⟨x,_|⟨y,l⟩⟩
    . simp [M] at f
    . simp [M] at f;simp only [Aj,Bc] at U E;exact bU k n s x M (O x Aa E.1 f.2)
    . simp [M] at f
  simp only [M,if_false] at f;by_cases F:8<=k/\k<=23
  . rcases l with _|⟨x,_|⟨y,_|⟨z,l⟩⟩⟩
    . simp [F] at f
    . simp [F] at f
    . simp [F] at f;simp only [Aj,Bc] at U E;exact Y6 k n s x y F.1 F.2 (O x Aa E.1 f.2.1) (O y Aa E.2.1 f.2.2)
    . simp [F] at f
  . simp [F] at f
def C4 (t:Nd) (f:t.wf) (h:t.isExpr=true):Prints 192 mn t:=Y7 (t.size+1) t Aa f h
def De {s:lB} (h:AS s=true):s.length<=16:=by
 simp only [AS,ke,decide_eq_true_eq] at h;exact h.1.1.1.2
def NU (s:lB) (q:Bool):(wrap s q).length<=s.length+2:=by
 unfold wrap;split<;>simp
def NV (k:Int):(Cl k).length<=2:=by
 by_cases h:k.toNat<43
 . have key : ∀i:Fin 43,(symbols.getD i.val []).length<=2:=by decide
   exact key ⟨k.toNat,h⟩
 . unfold Cl;rw [List.getD_eq_getElem?_getD,kO (show 43<=k.toNat by omega)];simp
def text_len (N:Nat) : ∀t:Nd,t.size<N->t.wf->t.isExpr=true->t.text.length<=30*t.size:=by
 induction N with
 | zero=>intro t h;omega
 | succ N L=>
  rintro ⟨k,n,s,l⟩ M F f;simp only [Nd.wf,lR] at F M ⊢;obtain ⟨aa,ab,O,U,ac,ad,E⟩:=F;rw [Nd.isExpr.eq_def] at f;rw [Nd.text.eq_def];simp only [] at f ⊢;by_cases V:k=1
  . have:=Lib.itoa_length_le n O U;rw [AH V];omega
  rw [At V] at f ⊢;by_cases c2:k=2\/k=4\/k=5
  . rw [AH c2] at f;simp only [named,ke] at f;have:=De f.1.2;rcases c2 with rfl|rfl|rfl
    . simp;omega
    . simp;omega
    . simp;omega
  rw [At c2] at f;have e2 : ¬k=2:=by omega
  have e4 : ¬k=4:=by omega
  have e5 : ¬k=5:=by omega
  rw [At e2];by_cases c3:k=3
  . rw [AH c3] at f ⊢;rcases l with _|⟨x,_|⟨y,l⟩⟩
    . simp at f
    . simp only [named,ke] at f;have:=De f.1.2;simp only [Aj,Bc] at M E ⊢;have X:=L x Aa E.1 f.2;simp;omega
    . simp at f
  rw [At c3] at f ⊢;rw [At e4,At e5];have ae:=NV k;by_cases Y:k=6\/k=7
  . rw [AH Y] at f ⊢;rcases l with _|⟨x,_|⟨y,l⟩⟩
    . simp at f
    . simp only [ke] at f;simp only [Aj,Bc] at M E ⊢;have X:=L x Aa E.1 f.2;have hw:=NU x.text (CD x.kind);simp only [j9];omega
    . simp at f
  rw [At Y] at f ⊢;by_cases Z:8<=k/\k<=23
  . rw [AH Z] at f;rcases l with _|⟨x,_|⟨y,_|⟨z,l⟩⟩⟩
    . simp at f
    . simp at f
    . simp only [ke] at f;simp only [Aj,Bc] at M E ⊢;have X:=L x Aa E.1 f.2.1;have hy:=L y Aa E.2.1 f.2.2;have hw:=NU x.text (ER x.kind k);have hv:=NU y.text (Fw y.kind k);simp only [j9,kf,ki];omega
    . simp at f
  . rw [At Z] at f;simp at f
def gH (k:Int) (w:wD) (h0:0<=k) (h1:k<=255):Calls prog 191 #[.int .u8 k] w fun e w'=>e = .returned (str (CY k))/\w=w':=by
 go_enter func191,ntmps191
 go_wp2_with fail
 all_goals go_ret
 all_goals (refine ⟨Z8 ?_,rfl⟩;(try simp only [beq_iff_eq,beq_eq_false_iff_ne,ne_eq,bne_iff_ne,decide_eq_true_eq,decide_eq_false_iff_not] at *);first|(subst k;rfl)|(unfold CY;(repeat' split)<;>first|rfl|omega))
def W8 (k:Int) (w:wD) (h0:0<=k) (h1:k<=255) (ht:Tabs w):Calls prog 193 #[.int .u8 k] w fun e w'=>e = .returned (str (DF k))/\w=w':=by
 have HT:=kh ht;clear ht
 by_cases h56:k=56
 . subst h56
   go_enter func193,ntmps193
   go_wp2_with fail
   go_ret
   exact ⟨rfl,rfl⟩
 by_cases h43:k=43
 . subst h43
   go_enter func193,ntmps193
   go_wp2_with fail
   go_ret
   exact ⟨rfl,rfl⟩
 have hu:DF k=Cl k:=by unfold DF;rw [At h56,At h43]
 rw [hu]
 have d1:(k==56)=false:=by simpa using h56
 have d2:(k==43)=false:=by simpa using h43
 clear hu h56 h43
 go_enter func193,ntmps193
 go_wp2_with (go_at_call 160;refine (GH _ _ h0 h1 HT.out).mono ?_;rintro e w1 ⟨rfl,rfl⟩)
 go_ret
 exact ⟨rfl,rfl⟩
def jZ:BT 69:=⟨by kernel_rfl,Ao⟩
def U8 (w:wD) (k:Nat):Prop:= ∃c fz,w.heap[k]? = some (.cells c 5 fz)
structure BdF (w:wD) (b:Nat) (l:lB) (H:Nat):Prop where
 is:Lib.IsBuilderF 69 5 b b (Lib.byteCells l) w
 own : ∀p v,w.heap[b]? = some (.cells #[p,v] 69 (0,0)) -> ∀g,v.ownBlock=some g->g<H
 lt:b<w.heap.size
def MP {w:wD} {b:Nat} {o:Obj} (h:w.heap[b]? = some o):b<w.heap.size:=by
 rcases kK b w.heap.size with f|f
 . exact f
 . rw [ld f] at h;cases h
def BdF.fr {w w':wD} {b:Nat} {l:lB} {H:Nat} {S:nP} (h:BdF w b l H) (x:Fr S w w') (L : ∀k,S k->k≠b/\H<=k):BdF w' b l H:=by
 have f:w'.heap[b]? = w.heap[b]? := x.block b h.lt (fun E=>(L b E).1 rfl);have key : ∀p,Lib.BuilderAtF 69 5 b b p (Lib.byteCells l) w->Lib.BuilderAtF 69 5 b b p (Lib.byteCells l) w':=by
  rintro p ⟨h1,v,M,U,V⟩;refine ⟨h1,v,by rw [f];exact M,?_,V⟩;obtain ⟨N,X|⟨g,cap,F,Y,rfl,Z,O,k5⟩⟩:=U
  . exact ⟨N,kj X⟩
  . have hg:=h.own p _ M g rfl;exact ⟨N,kp ⟨g,cap,F,Y,rfl,Z,by rw [x.block g (MP O) (fun E=>by have:=(L g E).2;omega)];exact O,k5⟩⟩
 refine ⟨h.is.imp (key _) (key _),fun p v hv=>h.own p v (by rw [<-f];exact hv),Nat.lt_of_lt_of_le h.lt x.size⟩
instance {w w':wD} {b:Nat} {l:lB} {H:Nat} {S:nP}:LfF S w w' (BdF w b l H) (∀k,S k->k≠b/\H<=k) (BdF w' b l H):=⟨fun x s h=>Bk.BdF.fr h x s⟩
def BdF.ext {w w':wD} {b:Nat} {l:lB} {H:Nat} (h:BdF w b l H) (x:Ext w w'):BdF w' b l H:=h.fr (S:=fun _=>False) (Fr.of_ext x) (fun _ h=>h.elim)
instance {w w':wD} {b:Nat} {l:lB} {H:Nat}:LfE w w' (BdF w b l H) (BdF w' b l H):=⟨fun x h=>Bk.BdF.ext h x⟩
def Y8 {w:wD} {b:Nat} {l:lB} (h:Lib.IsBuilderF 69 5 b b (Lib.byteCells l) w):BdF w b l w.heap.size:=by
 refine ⟨h,fun p v F g E=>?_,?_⟩
 . have key : ∀q,Lib.BuilderAtF 69 5 b b q (Lib.byteCells l) w->g<w.heap.size:=by
    rintro q ⟨-,O,f,L,-⟩;rw [F] at f;simp only [kz,Obj.cells.injEq,Array.mk.injEq,kQ,and_true] at f;obtain ⟨rfl,rfl⟩:=f;obtain ⟨-,⟨rfl,-⟩|⟨U,cap,M,V,rfl,-,N,-⟩⟩:=L
    . cases E
    . simp only [lp,kz] at E;subst E;exact MP N
   exact h.elim (key _) (key _)
 . exact h.elim (fun ⟨_,_,f,_⟩=>MP f) (fun ⟨_,_,f,_⟩=>MP f)
def eO {w w':wD} {b:Nat} (h:Below b w w') (N:Lib.OthersKept 5 (some b) w w'):Fr (fun k=>k=b\/(b<=k/\U8 w k)) w w':=by
 refine ⟨h.os,h.tape,h.output,h.size,fun k O M=>?_⟩;by_cases f:k<b
 . exact h.block k f
 . have E:k≠b:=fun e=>M (kj e)
   have F : ¬U8 w k:=fun e=>M (kp ⟨Aa,e⟩)
   have L:w.heap[k]? = some w.heap[k]:=Array.getElem?_eq_getElem O;rw [L];exact N k _ L (by simpa using E) (fun c U e=>F ⟨c,U,by rw [L,e]⟩)
def NW (s:lB):Lib.strCells ⟨s.toArray⟩=Lib.byteCells s:=rfl
def Y9 (b:Nat) (l s:lB) (H:Nat) (w:wD) (h:BdF w b l H) (f:l.length+s.length<=140737488355328) :
 Calls prog 31 #[.pointer (some ⟨b,0,none⟩),str s] w fun e w'=>e = .returned (.tuple #[.int .i64 s.length,.nilIface])/\BdF w' b (l++s) w'.heap.size/\Fr (fun k=>k=b\/(b<=k/\U8 w k)) w w':=
 (JR 69 jZ b b (Lib.byteCells l) ⟨s.toArray⟩ w h.is (by rw [Lib.byteCells_length];exact f) (Nat.le_of_lt h.lt)).mono fun e w' ⟨h1,h2,h3⟩=>
  ⟨h1,Y8 (by rw [NW] at h2;simpa [Lib.byteCells] using h2),eO h3.below h3.kept⟩
def W9 (b:Nat) (l:lB) (H:Nat) (w:wD) (h:BdF w b l H) :
 Calls prog 35 #[.pointer (some ⟨b,0,none⟩)] w fun e w'=>e = .returned (str l)/\Fr (fun k=>k=b\/(b<=k/\U8 w k)) w w':=
 (NT 69 b b l w h.is (Nat.le_of_lt h.lt)).mono fun e w' ⟨h1,h2,h3⟩=>⟨h1,eO h3.below h3.kept⟩
def bW {w:wD} {k:Nat} {vs:lV} {T:TypeId} (h:TB w k vs T) (f:T≠5) : ¬U8 w k:=by
 rintro ⟨c,E,e⟩;rw [TB] at h;rw [h] at e;simp only [kz,Obj.cells.injEq] at e;exact f e.2.1
def NX {P:Program} {n:Nat} {l:Sl} {w:wD} {Q:Exit->Act->wD->Prop} {x y:Code} {ι:Type} (L:ι->Sl) (I:ι->wD->Prop) (h:CW P n x (Exit.then (fun a w=> ∃i,Env n (L i) a/\I i w) Q) l w) (k : ∀i w,I i w->CW P n y Q (L i) w):CW P n x (Exit.then (Code.wp P y Q) Q) l w:=by
 unfold CW at h k ⊢;intro a f;refine Code.wp_mono (fun e a w q=>?_) (h a f);cases e with
 | normal=>
  obtain ⟨i,E,F⟩:=q;exact k i w F a E
 | _=>exact q
structure FbX (B b:Nat) (u w:wD):Prop where
 le:B<=u.heap.size
 base:B<=b
 fb:Fb B b u w
def FbX.ext {B b:Nat} {u w w':wD} (h:FbX B b u w) (x:Ext w w'):FbX B b u w':=⟨h.le,h.base,h.fb.ext h.le x⟩
instance {B b:Nat} {u w w':wD}:LfE w w' (FbX B b u w) (FbX B b u w'):=⟨fun x h=>Bk.FbX.ext h x⟩
def Bld.to {B b:Nat} {l f:lB} {w:wD} (h:Bld B b l w) (e:l=f):Bld B b f w:=e▸h
def FbX.step {B b h:Nat} {u w w':wD} {cs:lV} (E:FbX B b u w) (x:Fb B b w w') (f:TB w h cs 32) (h1:h≠b):FbX B b u w'/\Fr (fun k=>B<=k/\k≠h) w w':=by
 refine ⟨⟨E.le,E.base,E.fb.trans x⟩,x.below.os,x.below.tape,x.below.output,x.below.size,fun k M L=>?_⟩;by_cases F:k<B
 . exact x.below.block k F
 . obtain rfl:k=h:=Classical.not_not.1 (fun e=>L ⟨Aa,e⟩);rw [TB] at f;rw [f];exact x.kept k _ f (by simpa using h1) (fun c N e=>by injection e with _ e;exact absurd e Ao)
def Ji (B b b1:Nat) (u:wD) (l:lB) (w:wD):Ending->wD->Prop:=fun e w'=>e = .returned (.tuple #[])/\Bld B b l w'/\FbX B b u w'/\Fr (fun k=>B<=k/\k≠b1) w w'
def Uq (B b F:Nat) (u:wD) (f:List lB) (l:lB) (w:wD) (h:Bld B b l w) (O:FbX B b u w) {cs:lV} (L:TB w F cs 32) (h1:F≠b) (M N:Nat) (U:TB w M (f.map str) 9) (V:f.length<=100) (E:l.length+f.flatten.length<=140737488355328) :
 Calls prog 58 #[.pointer (some ⟨b,0,none⟩),.slice (some ⟨M,0,none⟩) f.length N] w (Ji B b F u (l++f.flatten) w):=
 (CC B b M N l f w h ⟨U⟩ V (by rw [j9];exact E)).mono fun _ _ ⟨X,k2,k3⟩=>⟨X,k2,O.step k3 L h1⟩
def GI (B b f:Nat) (u:wD) (E:lB) (l:lB) (w:wD) (h:Bld B b l w) (O:FbX B b u w) {cs:lV} (F:TB w f cs 32) (h1:f≠b) (L M:Nat) (U:TB w L [str E] 9) (N:l.length+E.length<=140737488355328) :
 Calls prog 58 #[.pointer (some ⟨b,0,none⟩),.slice (some ⟨L,0,none⟩) 1 M] w (Ji B b f u (l++E) w):=by
 have:=Uq B b f u [E] l w h O F h1 L M U A6 (by simp;omega);simpa using this
def Ur (B b f:Nat) (u:wD) (E F:lB) (l:lB) (w:wD) (h:Bld B b l w) (U:FbX B b u w) {cs:lV} (L:TB w f cs 32) (h1:f≠b) (M N:Nat) (V:TB w M [str E,str F] 9) (O:l.length+E.length+F.length<=140737488355328) :
 Calls prog 58 #[.pointer (some ⟨b,0,none⟩),.slice (some ⟨M,0,none⟩) 2 N] w (Ji B b f u (l++(E++F)) w):=by
 have:=Uq B b f u [E,F] l w h U L h1 M N V A6 (by simp;omega);simpa using this
def gI (B b f:Nat) (u:wD) (E F L:lB) (l:lB) (w:wD) (h:Bld B b l w) (V:FbX B b u w) {cs:lV} (M:TB w f cs 32) (h1:f≠b) (N O:Nat) (X:TB w N [str E,str F,str L] 9) (U:l.length+E.length+F.length+L.length<=140737488355328) :
 Calls prog 58 #[.pointer (some ⟨b,0,none⟩),.slice (some ⟨N,0,none⟩) 3 O] w (Ji B b f u (l++(E++(F++L))) w):=by
 have:=Uq B b f u [E,F,L] l w h V M h1 N O X A6 (by simp;omega);simpa using this
def Prints.w {f:FuncId} {Mn:Nd->lB} {x:Nd} (h:Prints f Mn x) (B b:Nat) (l:lB) (u w:wD) (a:oA) (c:Nat) (M:Bld B b l w) (N:TabsF w) (O:FbX B b u w) (U:prog.globals.size<=B) (V:x.sits (· < B) w a) (F:Nat) {cs:lV} (L:TB w F cs 32) (h1:F≠b) (E:l.length+(Mn x).length<=140737488355328) :
 Calls prog f #[.pointer (some ⟨b,0,none⟩),x.val a c] w (Ji B b F u (l++Mn x) w):=
 (h B b l w a c M N.t U V (by rw [j9];exact E)).mono fun _ _ ⟨X,k2,k3⟩=>⟨X,k2,O.step k3 L h1⟩
def PrintsD (f:FuncId) (Mn:Nd->Nat->lB) (t:Nd):Prop:=
 ∀(B b:Nat) (l:lB) (w:wD) (a:oA) (c d:Nat),Bld B b l w->Tabs w->prog.globals.size<=B->t.sits (· < B) w a->d+t.size<=1000000->(l++Mn t d).length<=140737488355328 ->
  Calls prog f #[.pointer (some ⟨b,0,none⟩),t.val a c,.int .i64 d] w fun e w'=>e = .returned (.tuple #[])/\Bld B b (l++Mn t d) w'/\Fb B b w w'
def PrintsD.w {f:FuncId} {Mn:Nd->Nat->lB} {x:Nd} (h:PrintsD f Mn x) (B b:Nat) (l:lB) (u w:wD) (a:oA) (c d:Nat) (M:Bld B b l w) (N:TabsF w) (O:FbX B b u w) (U:prog.globals.size<=B) (V:x.sits (· < B) w a) (X:d+x.size<=1000000) (F:Nat) {cs:lV} (L:TB w F cs 32) (h1:F≠b) (E:l.length+(Mn x d).length<=140737488355328) :
 Calls prog f #[.pointer (some ⟨b,0,none⟩),x.val a c,.int .i64 d] w (Ji B b F u (l++Mn x d) w):=
 (h B b l w a c d M N.t U V X (by rw [j9];exact E)).mono fun _ _ ⟨Y,k2,k3⟩=>⟨Y,k2,O.step k3 L h1⟩
def Jj (k:Int) (w:wD) (f:0<=k) (h1:k<=255):Calls prog 191 #[.int .u8 k] w fun e w'=>e = .returned (str (CY k))/\Ext w w':=
 (gH k w f h1).mono fun _ _ ⟨h1,h2⟩=>⟨h1,h2▸lN _⟩
def Xa (k:Int) (w:wD) (f:0<=k) (h1:k<=255) (h:TabsF w):Calls prog 193 #[.int .u8 k] w fun e w'=>e = .returned (str (DF k))/\Ext w w':=
 (W8 k w f h1 h.t).mono fun _ _ ⟨h1,h2⟩=>⟨h1,h2▸lN _⟩
end Bk
namespace Bk
open Go Go.RowKit Go.Proofs
attribute [local irreducible] Go.Calls
def NY (d:Nat):(Du d).length=d:=by simp [Du]
def Cg (t:Nd) (d:Nat):(BL t d).length=(t.linesT (d+1)).length+d+4:=by
 simp [BL,NY];omega
attribute [local simp] NY Cg
def Za (B b E:Nat) (u:wD) (l:lB) (n:Nat) (w:wD) (h:Bld B b l w) (L:FbX B b u w) {cs:lV} (F:TB w E cs 32) (h1:E≠b) (M:n<=1000000) (f:l.length+n<=140737488355328) :
 Calls prog 102 #[.pointer (some ⟨b,0,none⟩),.int .i64 n] w (Ji B b E u (l++Du n) w):=
 (gB B b l n w h M f).mono fun _ _ ⟨N,k2,k3⟩=>⟨N,k2,L.step k3 F h1⟩
def NZ (y:Nd) (hy:PrintsD 101 Nd.linesT y) :
 ∀(B b:Nat) (t:lB) (w:wD) (a:oA) (c d:Nat),Bld B b t w->Tabs w->prog.globals.size<=B->y.sits (· < B) w a->d+1+y.size<=1000000->(t++BL y d).length<=140737488355328 ->
 Calls prog 59 #[.pointer (some ⟨b,0,none⟩),y.val a c,.int .i64 d] w fun e w'=>e = .returned (.tuple #[])/\Bld B b (t++BL y d) w'/\Fb B b w w':=by
 intro B b t w a c d h aa hB E hd U;simp only [j9,Cg] at U;have f:TabsF w:=⟨aa,kW hB h.le⟩;have O:FbX B b w w:=⟨h.le,h.base,Fb.refl _ _ _⟩;have ai:=h.le;have aj:=h.base;have ak:=h.lt;have W1:=kh (fun F s1 l L h O cs ab h1 tb tc f hl=>GI B b F w s1 l L h O (cs:=cs) ab h1 tb tc f hl);have HT:=kh (fun F l L h1 h2 cs h3 h4 h5=>Za B b F w l d L h1 h2 (cs:=cs) h3 h4 Aa h5);have HY:Hid (∀F l L,Bld B b l L->TabsF L->FbX B b w L->y.sits (· < B) L a -> ∀cs,TB L F cs 32->F≠b->l.length+(y.linesT (d+1)).length<=140737488355328->Calls prog 101 #[.pointer (some ⟨b,0,none⟩),y.val a c,.int .i64 ((d:Int)+1)] L (Ji B b F w (l++y.linesT (d+1)) L)):=kh fun F l L h1 h2 h3 h4 cs h5 h6 h7=>hy.w B b l w L a c (d+1) h1 h2 h3 hB h4 Aa F h5 h6 h7
 clear hy;rw [show BL y d=[32,123,10]++y.linesT (d+1)++Du d++[125] from rfl];generalize y.linesT (d+1)=ty at *;obtain ⟨yk,yn,ys,yl⟩:=y;simp only [lZ,mj,md,l9,ml] at HY ⊢;refine Ae func59 ntmps59 rfl rfl ?_;refine cS (Er rfl rfl rfl ?_);intro F w2 n3 t4;have x5:=n3.ext;have p6:=n3.pos;have z7:=n3.size;revert h f O E;refine eE x5 ?_;intro h f O E;refine eK ?_;refine Au (xS [_]) rfl ?_ aFh;rintro _ w9 ⟨b8,rfl,M,ac⟩;have al:TB _ _ _ _:=ac;have ad:=M.ext;have am:=M.pos;have an:=M.size;revert t4 h f O E;refine eE ad ?_;intro t4 h f O E;refine cC rfl (W1.out F _ _ _ Af Af _ Af Aa _ _ Af (by (try simp)<;>omega)) ?_;rintro _ ao ⟨⟨⟩,⟨ap,⟨aq,V⟩⟩⟩;have z20:=V.size;revert t4 f E;refine eF V ?_;intro t4 f E;refine eK ?_;refine BG [_,_,_,_] Ab rfl rfl rfl (mg t4) rfl rfl rfl ?_;refine eK ?_;refine cC rfl (HY.out F _ _ Af Af Af Af _ Af Aa (by (try simp)<;>omega)) ?_;rintro _ ar ⟨⟨⟩,⟨au,⟨av,ae⟩⟩⟩;revert t4 f E;refine eZ ae ?_;intro aw t4 f E;refine eK ?_;refine cC rfl (HT.out F _ _ Af Af _ Af Aa (by (try simp)<;>omega)) ?_;rintro _ ax ⟨⟨⟩,⟨X,⟨Y,af⟩⟩⟩;revert t4 f E;refine eZ af ?_;intro ay t4 f E;refine eK ?_;refine Au (xS [_]) rfl ?_ aFh;rintro _ az ⟨a0,rfl,N,ag⟩;have a1:TB _ _ _ _:=ag;have ah:=N.ext;have a2:=N.pos;have a3:=N.size;revert X Y t4 f E;refine eE ah ?_;intro X Y t4 f E;refine cC rfl (W1.out F _ _ _ Af Af _ Af Aa _ _ Af (by (try simp)<;>omega)) ?_;rintro _ a4 ⟨⟨⟩,⟨a5,⟨a6,Z⟩⟩⟩;have a7:=Z.size;revert t4 f E;refine eF Z ?_;intro t4 f E;refine Ah (Bt rfl ?_)
 all_goals exact ⟨rfl,Bld.to Af A6,FbX.fb Af⟩
def KY (y:Nd) (F:PrintsD 101 Nd.linesT y) (B b h:Nat) (u:wD) (l:lB) (w:wD) (a:oA) (c d:Nat) (L:Bld B b l w) (M:TabsF w) (N:FbX B b u w) (O:prog.globals.size<=B) (U:y.sits (· < B) w a) (V:d+1+y.size<=1000000) {cs:lV} (E:TB w h cs 32) (h1:h≠b) (f:l.length+((y.linesT (d+1)).length+d+4)<=140737488355328) :
 Calls prog 59 #[.pointer (some ⟨b,0,none⟩),y.val a c,.int .i64 d] w (Ji B b h u (l++BL y d) w):=
 (NZ y F B b l w a c d L M.t O U V (by rw [j9,Cg];exact f)).mono fun _ _ ⟨X,k2,k3⟩=>⟨X,k2,N.step k3 E h1⟩
def N0 (k n:Int) (s:lB) (x y z u:Nd) (hx:Prints 192 mn x) (hy:PrintsD 101 Nd.linesT y) (hz:PrintsD 101 Nd.linesT z) (hu:Prints 192 mn u) (Z aa:lB) (B b:Nat) (t:lB) (w:wD) (a:oA) (c d:Nat)
 (h:Bld B b t w) (f:TabsF w) (hB:prog.globals.size<=B) (hs:rowSits (· < B) w [x,y,z,u] a) (hd:d+(1+Aj [x,y,z,u])<=1000000) (ad:t.length+(x.text++BL y d++Z++BL z d++aa++u.text).length<=140737488355328) :
 Calls prog 194 #[.pointer (some ⟨b,0,none⟩),.agg #[.int .u8 k,.int .i64 n,str s,.slice a 4 c],.int .i64 d,str Z,str aa] w fun e w'=>e = .returned (.tuple #[])/\Bld B b (t++(x.text++BL y d++Z++BL z d++aa++u.text)) w'/\Fb B b w w':=by
 have ak:=f.t;clear f;simp only [Aj] at hd;simp only [j9,Cg] at ad;have f:TabsF w:=⟨ak,kW hB h.le⟩;have hF:FbX B b w w:=⟨h.le,h.base,Fb.refl _ _ _⟩;have au:=h.le;have av:=h.base;have aw:=h.lt;obtain ⟨kb,ko,rfl,kS,V⟩:=Bx hs A6;obtain ⟨xa,xc,E,N⟩:=V 0 x rfl;obtain ⟨ya,yc,F,O⟩:=V 1 y rfl;obtain ⟨za,zc,L,sz⟩:=V 2 z rfl;obtain ⟨ua,uc,M,U⟩:=V 3 u rfl;clear V hs;have HX:=kh (fun X l Y h1 h2 h3 h4 cs h5 h6 h7=>hx.w B b l w Y xa xc h1 h2 h3 hB h4 X (cs:=cs) h5 h6 h7);have HY:=kh (fun X l Y h1 h2 h3 h4 cs h5 h6 h7=>KY y hy B b X w l Y ya yc d h1 h2 h3 hB h4 Aa (cs:=cs) h5 h6 h7);have HZ:=kh (fun X l Y h1 h2 h3 h4 cs h5 h6 h7=>KY z hz B b X w l Y za zc d h1 h2 h3 hB h4 Aa (cs:=cs) h5 h6 h7);have HU:=kh (fun X l Y h1 h2 h3 h4 cs h5 h6 h7=>hu.w B b l w Y ua uc h1 h2 h3 hB h4 X (cs:=cs) h5 h6 h7);clear hx hy hz hu;obtain ⟨xk,xn,xs,xl⟩:=x;obtain ⟨yk,yn,ys,yl⟩:=y;obtain ⟨zk,zn,zs,zl⟩:=z;obtain ⟨uk,un,us,ul⟩:=u;simp only [lZ,mj,md,l9,ml,Nd.cells] at E F L M HX HY HZ HU;have W1:=kh (fun X s1 l Y h hF cs al h1 tb tc f hl=>GI B b X w s1 l Y h hF (cs:=cs) al h1 tb tc f hl);refine Ae func194 ntmps194 rfl rfl ?_;refine cS (Er rfl rfl rfl ?_);intro X w2 n3 t4;have x5:=n3.ext;have p6:=n3.pos;have z7:=n3.size;revert h f hF E N F O L sz M U;refine eE x5 ?_;intro h f hF E N F O L sz M U;refine cN (C1 Mv (C1 Pf (C1 (Pl (mg t4)) (C1 Pi (Cf [_,_,_,_] Ab rfl rfl rfl E rfl rfl rfl (cC rfl (HX.out X _ _ Af Af Af Af _ Af Aa (by (try simp)<;>omega)) ?_))))));rintro _ ax ⟨⟨⟩,⟨h8,⟨h9,am⟩⟩⟩;revert t4 f E N F O L sz M U;refine eZ am ?_;intro ay t4 f E N F O L sz M U;refine cN (C1 Mv (C1 Pf (C1 (Pl (mg t4)) ?_)));refine eK ?_;refine cC rfl (HY.out X _ _ Af Af Af Af _ Af Aa (by (try simp)<;>omega)) ?_;rintro _ az ⟨⟨⟩,⟨ae,⟨af,f15⟩⟩⟩;revert t4 f E N F O L sz M U;refine eZ f15 ?_;intro a0 t4 f E N F O L sz M U;refine eK ?_;refine Au (xS [_]) rfl ?_ aFh;rintro _ a1 ⟨a2,rfl,ab,t21⟩;have t22:TB _ _ _ _:=t21;have an:=ab.ext;have a3:=ab.pos;have a4:=ab.size;revert ae af t4 f E N F O L sz M U;refine eE an ?_;intro ae af t4 f E N F O L sz M U;refine cC rfl (W1.out X _ _ _ Af Af _ Af Aa _ _ Af (by (try simp)<;>omega)) ?_
 rintro _ a5 ⟨⟨⟩,⟨a6,⟨a7,ag⟩⟩⟩;have a8:=ag.size;revert t4 f E N F O L sz M U;refine eF ag ?_;intro t4 f E N F O L sz M U;refine cN (C1 Mv (C1 Pf (C1 (Pl (mg t4)) ?_)));refine eK ?_;refine cC rfl (HZ.out X _ _ Af Af Af Af _ Af Aa (by (try simp)<;>omega)) ?_;rintro _ a9 ⟨⟨⟩,⟨ah,⟨ai,ao⟩⟩⟩;revert t4 f E N F O L sz M U;refine eZ ao ?_;intro ba t4 f E N F O L sz M U;refine eK ?_;refine Au (xS [_]) rfl ?_ aFh;rintro _ bb ⟨bc,rfl,ac,ap⟩;have bd:TB _ _ _ _:=ap;have aq:=ac.ext;have be:=ac.pos;have bf:=ac.size;revert ah ai t4 f E N F O L sz M U;refine eE aq ?_;intro ah ai t4 f E N F O L sz M U;refine cC rfl (W1.out X _ _ _ Af Af _ Af Aa _ _ Af (by (try simp)<;>omega)) ?_;rintro _ bg ⟨⟨⟩,⟨bh,⟨bi,aj⟩⟩⟩;have bj:=aj.size;revert t4 f E N F O L sz M U;refine eF aj ?_;intro t4 f E N F O L sz M U;refine cT (Ag (C1 Mv (C1 Pf (C1 (Pl (mg t4)) ?_))));refine eK ?_;refine cC rfl (HU.out X _ _ Af Af Af Af _ Af Aa (by (try simp)<;>omega)) ?_;rintro _ bk ⟨⟨⟩,⟨bm,⟨bn,ar⟩⟩⟩;revert t4 f E N F O L sz M U;refine eZ ar ?_;intro z53 t4 f E N F O L sz M U;refine Ah (Bt rfl ?_);all_goals exact ⟨rfl,Bld.to Af A6,FbX.fb Af⟩
def H7 (k:Int) (n:Int) (hk:k=40\/k=41\/k=42\/k=56\/k=43) (s:lB) (x y:Nd) (hx:Prints 192 mn x) (hy:Prints 192 mn y):PrintsD 146 Nd.stmtT (.mk k n s [x,y]):=by
 intro B b t w a c d h ai hB hs hd Z;have ad:(Nd.mk k n s [x,y]).stmtT d=CY k++(x.text++([32]++DF k++[32]++y.text)):=by
  rw [Nd.stmtT.eq_def];rcases hk with rfl|rfl|rfl|rfl|rfl<;>simp [CY]
 rw [ad] at Z ⊢;clear ad;simp only [j9,kf,ki,Cg] at Z;simp only [lR,Aj] at hd;have f:TabsF w:=⟨ai,kW hB h.le⟩;have V:FbX B b w w:=⟨h.le,h.base,Fb.refl _ _ _⟩;have a6:=h.le;have a7:=h.base;have a8:=h.lt;simp only [lZ,mj,md,l9,ml,me] at hs ⊢;obtain ⟨kb,ko,rfl,kS,O⟩:=Bx hs A6;obtain ⟨xa,xc,E,L⟩:=O 0 x rfl;obtain ⟨ya,yc,F,M⟩:=O 1 y rfl;clear O hs;have HX:=kh (fun N l w1 h1 h2 h3 h4 cs h5 h6 h7=>hx.w B b l w w1 xa xc h1 h2 h3 hB h4 N (cs:=cs) h5 h6 h7);have HY:=kh (fun N l w1 h1 h2 h3 h4 cs h5 h6 h7=>hy.w B b l w w1 ya yc h1 h2 h3 hB h4 N (cs:=cs) h5 h6 h7);clear hx hy;obtain ⟨xk,xn,xs,xl⟩:=x;obtain ⟨yk,yn,ys,yl⟩:=y;simp only [lZ,mj,md,l9,ml,Nd.cells] at E F HX HY;have W1:=kh (fun N s1 l w1 h V cs ab h1 tb tc f hl=>GI B b N w s1 l w1 h V (cs:=cs) ab h1 tb tc f hl);have W3:=kh (fun N s1 s2 s3 l w1 h V cs ab h1 tb tc f hl=>gI B b N w s1 s2 s3 l w1 h V (cs:=cs) ab h1 tb tc f hl);refine Ae func146 ntmps146 rfl rfl ?_;refine cS (Er rfl rfl rfl ?_);intro N w2 n3 t4;have x5:=n3.ext;have p6:=n3.pos;have z7:=n3.size;revert h f V E L F M;refine eE x5 ?_;intro h f V E L F M;refine cN (C1 Mv (C1 Pg (C1 (Pl (mg t4)) (cC rfl (Jj k _ Aa Aa) ?_))));rintro _ w9 ⟨⟨⟩,x8⟩;revert t4 h f V E L F M;refine eY x8 ?_;intro a9 t4 h f V E L F M;refine Au (xS [_]) rfl ?_ aFh;rintro _ ba ⟨bb,rfl,ac,aj⟩;have bc:TB _ _ _ _:=aj;have ak:=ac.ext;have bd:=ac.pos;have be:=ac.size;revert t4 h f V E L F M;refine eE ak ?_;intro t4 h f V E L F M;refine cC rfl (W1.out N _ _ _ Af Af _ Af Aa _ _ Af (by (try simp)<;>omega)) ?_;rintro _ al ⟨⟨⟩,⟨bf,⟨bg,ae⟩⟩⟩;have bh:=ae.size;revert t4 f E L F M;refine eF ae ?_;intro t4 f E L F M;refine cN (C1 Pg (C1 (Pl (mg t4)) (cT ?_)))
 refine Ax ?_;refine KG (ι:=Unit) (fun _=>[(0,.pointer (some ⟨b,0,none⟩)),(2,.int .i64 d),(4,.pointer (some ⟨N,0,none⟩)),(15,.int .u8 k),(16,.bool true)]) (fun _ w'=>w'=al) ?_ ?_
 . focus
    refine eK ?_;refine AF rfl (fun am=>?_) (fun am=>?_);refine Av ?_;rotate_left;refine eK ?_;refine AF rfl (fun an=>?_) (fun an=>?_);refine Av ?_;rotate_left;refine eK ?_;refine AF rfl (fun ao=>?_) (fun ao=>?_);refine Av ?_;rotate_left;refine eK ?_;refine AF rfl (fun ap=>?_) (fun ap=>?_);refine Av ?_;rotate_left;refine Ag (C1 V1 (C1 Pa (Ah ?_)));rotate_left
   all_goals exact Cq () (Am rfl (Am rfl (Am rfl (Am rfl (Bj rfl (congrArg Value.bool (decide_eq_true Aa)) BB))))) rfl
 rintro-u1 rfl;refine CS rfl (cS (C1 Mv (C1 Pf (C1 (Pl (mg t4)) (C1 (AG Ab rfl rfl rfl rfl Aa (by simp only [kf,ki];omega)) (Cf [_,_,_,_] Ab rfl rfl rfl E rfl rfl rfl (cC rfl (HX.out N _ _ Af Af Af Af _ Af Aa (by (try simp)<;>omega)) ?_)))))));rintro _ bi ⟨⟨⟩,⟨X,⟨Y,aq⟩⟩⟩;revert t4 f E L F M;refine eZ aq ?_;intro bj t4 f E L F M;refine cN (C1 Mv (C1 Pg (C1 (Pl (mg t4)) (cC rfl (Xa k _ Aa Aa Af) ?_))));rintro _ bk ⟨⟨⟩,ar⟩;revert X Y t4 f E L F M;refine eY ar ?_;intro bm X Y t4 f E L F M;refine Au (xS [_,_,_]) rfl ?_ aFh;rintro _ au ⟨bn,rfl,U,af⟩;have av:TB _ _ _ _:=af;have ag:=U.ext;have aw:=U.pos;have ax:=U.size;revert X Y t4 f E L F M;refine eE ag ?_;intro X Y t4 f E L F M;refine cC rfl (W3.out N _ _ _ _ _ Af Af _ Af Aa _ _ Af (by (try simp)<;>omega)) ?_;rintro _ ay ⟨⟨⟩,⟨az,⟨a0,aa⟩⟩⟩;have a1:=aa.size;revert t4 f E L F M;refine eF aa ?_;intro t4 f E L F M;refine cT (Ag (C1 Mv (C1 Pf (C1 (Pl (mg t4)) (C1 (AG Ab rfl rfl rfl rfl Aa (by simp only [kf,ki];omega)) (C1 (XU F) (cC rfl (HY.out N _ _ Af Af Af Af _ Af Aa (by (try simp)<;>omega)) ?_)))))));rintro _ a2 ⟨⟨⟩,⟨a3,⟨a4,ah⟩⟩⟩;revert t4 f E L F M;refine eZ ah ?_;intro a5 t4 f E L F M;refine Ah (Ad (Bt rfl ?_))
 all_goals exact ⟨rfl,Bld.to Af A6,FbX.fb Af⟩
def SW (k:Int) (n:Int) (hk:k=44\/k=45) (s:lB) (x:Nd) (hx:Prints 192 mn x):PrintsD 146 Nd.stmtT (.mk k n s [x]):=by
 intro B b t w a c d h ae hB hs hd N;have Z:(Nd.mk k n s [x]).stmtT d=CY k++(x.text++([44,32]++s)):=by
  rw [Nd.stmtT.eq_def];rcases hk with rfl|rfl<;>simp [CY]
 rw [Z] at N ⊢;clear Z;simp only [j9,kf,ki,Cg] at N;simp only [lR,Aj] at hd;have f:TabsF w:=⟨ae,kW hB h.le⟩;have L:FbX B b w w:=⟨h.le,h.base,Fb.refl _ _ _⟩;have au:=h.le;have av:=h.base;have aw:=h.lt;simp only [lZ,mj,md,l9,ml,me] at hs ⊢;obtain ⟨kb,ko,rfl,kS,O⟩:=Bx hs A6;obtain ⟨xa,xc,E,F⟩:=O 0 x rfl;clear O hs;have HX:=kh (fun M l w1 h1 h2 h3 h4 cs h5 h6 h7=>hx.w B b l w w1 xa xc h1 h2 h3 hB h4 M (cs:=cs) h5 h6 h7);clear hx;obtain ⟨xk,xn,xs,xl⟩:=x;simp only [lZ,mj,md,l9,ml,Nd.cells] at E HX;have W1:=kh (fun M s1 l w1 h L cs V h1 tb tc f hl=>GI B b M w s1 l w1 h L (cs:=cs) V h1 tb tc f hl);have W2:=kh (fun M s1 s2 l w1 h L cs V h1 tb tc f hl=>Ur B b M w s1 s2 l w1 h L (cs:=cs) V h1 tb tc f hl);refine Ae func146 ntmps146 rfl rfl ?_;refine cS (Er rfl rfl rfl ?_);intro M w2 n3 t4;have x5:=n3.ext;have p6:=n3.pos;have z7:=n3.size;revert h f L E F;refine eE x5 ?_;intro h f L E F;refine cN (C1 Mv (C1 Pg (C1 (Pl (mg t4)) (cC rfl (Jj k _ Aa Aa) ?_))));rintro _ w9 ⟨⟨⟩,x8⟩;revert t4 h f L E F;refine eY x8 ?_;intro ax t4 h f L E F;refine Au (xS [_]) rfl ?_ aFh;rintro _ ay ⟨az,rfl,X,af⟩;have a0:TB _ _ _ _:=af;have ag:=X.ext;have a1:=X.pos;have a2:=X.size;revert t4 h f L E F;refine eE ag ?_;intro t4 h f L E F;refine cC rfl (W1.out M _ _ _ Af Af _ Af Aa _ _ Af (by (try simp)<;>omega)) ?_;rintro _ ah ⟨⟨⟩,⟨a3,⟨a4,aa⟩⟩⟩;have a5:=aa.size;revert t4 f E F;refine eF aa ?_;intro t4 f E F;refine cN (C1 Pg (C1 (Pl (mg t4)) (cT ?_)))
 refine Ax ?_;refine Al (cS (C1 V1 (C1 Pa (cT (E4 (cS (C1 V1 (C1 Pa (cT (E4 (cS ?_)))))))))));refine C1 V1 (C1 Pa (cT (E4 (cS (C1 V1 (C1 Pa (cT (E4 (Ag (C1 V1 (C1 Pa ?_)))))))))));refine cT (E4 (Al ?_));refine NX (ι:=Unit) (fun _=>[(0,.pointer (some ⟨b,0,none⟩)),(2,.int .i64 d),(4,.pointer (some ⟨M,0,none⟩)),(15,.int .u8 k),(40,.bool true)]) (fun _ w'=>w'=ah) ?_ ?_
 . focus
    refine eK ?_;refine AF rfl (fun ai=>?_) (fun ai=>?_);refine Av ?_;rotate_left;refine Ag (C1 V1 (C1 Pa (Ah ?_)));rotate_left
   all_goals exact Cq () (Am rfl (Am rfl (Am rfl (Am rfl (Bj rfl (congrArg Value.bool (decide_eq_true Aa)) BB))))) rfl
 rintro-u1 rfl;refine CS rfl (cS (C1 Mv (C1 Pf (C1 (Pl (mg t4)) (C1 (AG Ab rfl rfl rfl rfl Aa (by simp only [kf,ki];omega)) (Cf [_,_,_,_] Ab rfl rfl rfl E rfl rfl rfl (cC rfl (HX.out M _ _ Af Af Af Af _ Af Aa (by (try simp)<;>omega)) ?_)))))));rintro _ a6 ⟨⟨⟩,⟨ab,⟨ac,aj⟩⟩⟩;revert t4 f E F;refine eZ aj ?_;intro a7 t4 f E F;refine cT (Ag (C1 Mv (C1 Pf (C1 (Pl (mg t4)) ?_))));refine Au (xS [_,_]) rfl ?_ aFh;rintro _ a8 ⟨a9,rfl,Y,ak⟩;have al:TB _ _ _ _:=ak;have ad:=Y.ext;have am:=Y.pos;have an:=Y.size;revert ab ac t4 f E F;refine eE ad ?_;intro ab ac t4 f E F;refine cC rfl (W2.out M _ _ _ _ Af Af _ Af Aa _ _ Af (by (try simp)<;>omega)) ?_;rintro _ ao ⟨⟨⟩,⟨ap,⟨aq,U⟩⟩⟩;have ar:=U.size;revert t4 f E F;refine eF U ?_;intro t4 f E F;refine Ah (Ad (Bt rfl ?_));all_goals exact ⟨rfl,Bld.to Af A6,FbX.fb Af⟩
def KZ (k:Int) (n:Int) (hk:46<=k/\k<=49) (s:lB) (x:Nd) (hx:Prints 192 mn x):PrintsD 146 Nd.stmtT (.mk k n s [x]):=by
 intro B b t w a c d h Y hB Z hd L;have V:(Nd.mk k n s [x]).stmtT d=CY k++x.text:=by
  rw [Nd.stmtT.eq_def];simp only;rw [At Aa,At Aa,AH Aa]
 rw [V] at L ⊢;clear V;simp only [j9,kf,ki,Cg] at L;simp only [lR,Aj] at hd;have f:TabsF w:=⟨Y,kW hB h.le⟩;have M:FbX B b w w:=⟨h.le,h.base,Fb.refl _ _ _⟩;have ai:=h.le;have aj:=h.base;have ak:=h.lt;simp only [lZ,mj,md,l9,ml,me] at Z ⊢;obtain ⟨kb,ko,rfl,kS,N⟩:=Bx Z A6;obtain ⟨xa,xc,E,F⟩:=N 0 x rfl;clear N Z;have HX:=kh (fun O l w1 h1 h2 h3 h4 cs h5 h6 h7=>hx.w B b l w w1 xa xc h1 h2 h3 hB h4 O (cs:=cs) h5 h6 h7);clear hx;obtain ⟨xk,xn,xs,xl⟩:=x;simp only [lZ,mj,md,l9,ml,Nd.cells] at E HX;have W1:=kh (fun O s1 l w1 h M cs aa h1 tb tc f hl=>GI B b O w s1 l w1 h M (cs:=cs) aa h1 tb tc f hl);refine Ae func146 ntmps146 rfl rfl ?_;refine cS (Er rfl rfl rfl ?_);intro O w2 n3 t4;have x5:=n3.ext;have p6:=n3.pos;have z7:=n3.size;revert h f M E F;refine eE x5 ?_;intro h f M E F;refine cN (C1 Mv (C1 Pg (C1 (Pl (mg t4)) (cC rfl (Jj k _ Aa Aa) ?_))));rintro _ w9 ⟨⟨⟩,x8⟩;revert t4 h f M E F;refine eY x8 ?_;intro al t4 h f M E F;refine Au (xS [_]) rfl ?_ aFh;rintro _ am ⟨an,rfl,U,ab⟩;have ao:TB _ _ _ _:=ab;have ac:=U.ext;have ap:=U.pos;have aq:=U.size;revert t4 h f M E F;refine eE ac ?_;intro t4 h f M E F;refine cC rfl (W1.out O _ _ _ Af Af _ Af Aa _ _ Af (by (try simp)<;>omega)) ?_;rintro _ ad ⟨⟨⟩,⟨ar,⟨au,X⟩⟩⟩;have av:=X.size;revert t4 f E F;refine eF X ?_;intro t4 f E F;refine cN (C1 Pg (C1 (Pl (mg t4)) (cT ?_)))
 refine Ax ?_;refine Al (cS (C1 V1 (C1 Pa (cT (E4 (cS (C1 V1 (C1 Pa (cT (E4 (cS ?_)))))))))));refine C1 V1 (C1 Pa (cT (E4 (cS (C1 V1 (C1 Pa (cT (E4 (Ag (C1 V1 (C1 Pa ?_)))))))))));refine cT (E4 (Al (cS (C1 V1 (C1 Pa (cT (E4 (Ag (C1 V1 (C1 Pa (cT ?_)))))))))));refine E4 (Al ?_);refine NX (ι:=Unit) (fun _=>[(0,.pointer (some ⟨b,0,none⟩)),(2,.int .i64 d),(4,.pointer (some ⟨O,0,none⟩)),(15,.int .u8 k),(54,.bool true)]) (fun _ w'=>w'=ad) ?_ ?_
 . focus
    refine eK ?_;refine AF rfl (fun ae=>?_) (fun ae=>?_);refine Av ?_;rotate_left;refine eK ?_;refine AF rfl (fun af=>?_) (fun af=>?_);refine Av ?_;rotate_left;refine eK ?_;refine AF rfl (fun ag=>?_) (fun ag=>?_);refine Av ?_;rotate_left;refine Ag (C1 V1 (C1 Pa (Ah ?_)));rotate_left
   all_goals exact Cq () (Am rfl (Am rfl (Am rfl (Am rfl (Bj rfl (congrArg Value.bool (decide_eq_true Aa)) BB))))) rfl
 rintro-u1 rfl;refine CS rfl (Ag (C1 Mv (C1 Pf (C1 (Pl (mg t4)) (C1 (AG Ab rfl rfl rfl rfl Aa (by simp only [kf,ki];omega)) (Cf [_,_,_,_] Ab rfl rfl rfl E rfl rfl rfl (cC rfl (HX.out O _ _ Af Af Af Af _ Af Aa (by (try simp)<;>omega)) ?_)))))));rintro _ aw ⟨⟨⟩,⟨ax,⟨ay,ah⟩⟩⟩;revert t4 f E F;refine eZ ah ?_;intro az t4 f E F;refine Ah (Ad (Bt rfl ?_));all_goals exact ⟨rfl,Bld.to Af A6,FbX.fb Af⟩
def Zb (n:Int) (s:lB) (x y z u:Nd) (hx:Prints 192 mn x) (hy:PrintsD 101 Nd.linesT y) (hz:PrintsD 101 Nd.linesT z) (hu:Prints 192 mn u):PrintsD 146 Nd.stmtT (.mk 52 n s [x,y,z,u]):=by
 intro B b t w a c d h Z hB f hd N;have V:(Nd.mk 52 n s [x,y,z,u]).stmtT d=CY 52++(x.text++BL y d++[32,101,108,115,101]++BL z d++[32,102,105,32]++u.text):=by
  rw [Nd.stmtT.eq_def];simp [BL]
 rw [V] at N ⊢;clear V;simp only [j9,kf,ki,Cg] at N;simp only [lR,Aj] at hd;have E:TabsF w:=⟨Z,kW hB h.le⟩;have O:FbX B b w w:=⟨h.le,h.base,Fb.refl _ _ _⟩;have ae:=h.le;have af:=h.base;have ag:=h.lt;simp only [lZ,mj,md,l9,ml,me] at f ⊢;obtain ⟨X,L⟩ : ∃X,X=[x,y,z,u]:=⟨_,rfl⟩;replace f:rowSits (· < B) w X a:=L▸f;have HB:Hid (∀M l F,Bld B b l F->TabsF F->FbX B b w F->rowSits (· < B) F X a -> ∀cs,TB F M cs 32->M≠b->l.length+(x.text++BL y d++[32,101,108,115,101]++BL z d++[32,102,105,32]++u.text).length<=140737488355328->Calls prog 194 #[.pointer (some ⟨b,0,none⟩),.agg #[.int .u8 52,.int .i64 n,str s,.slice a X.length c],.int .i64 d,str [32,101,108,115,101],str [32,102,105,32]] F (Ji B b M w (l++(x.text++BL y d++[32,101,108,115,101]++BL z d++[32,102,105,32]++u.text)) F)):=kh fun M l F h1 h2 h3 h4 cs h5 h6 h7=>by
  subst L;exact (N0 52 n s x y z u hx hy hz hu [32,101,108,115,101] [32,102,105,32] B b l F a c d h1 h2 hB h4 (by simp only [Aj];omega) h7).mono fun _ _ ⟨k1,k2,k3⟩=>⟨k1,k2,h3.step k3 h5 h6⟩
 rw [<-L];clear hx hy hz hu L;have W1:=kh (fun M s1 l F h O cs aa h1 tb tc E hl=>GI B b M w s1 l F h O (cs:=cs) aa h1 tb tc E hl);refine Ae func146 ntmps146 rfl rfl ?_;refine cS (Er rfl rfl rfl ?_);intro M w2 n3 t4;have x5:=n3.ext;have p6:=n3.pos;have z7:=n3.size;revert h E O f;refine eE x5 ?_;intro h E O f;refine cN (C1 Mv (C1 Pg (C1 (Pl (mg t4)) (cC rfl (Jj 52 _ Aa Aa) ?_))));rintro _ w9 ⟨⟨⟩,x8⟩;revert t4 h E O f;refine eY x8 ?_;intro ah t4 h E O f;refine Au (xS [_]) rfl ?_ aFh;rintro _ ai ⟨aj,rfl,U,ab⟩;have ak:TB _ _ _ _:=ab;have ac:=U.ext;have al:=U.pos;have am:=U.size;revert t4 h E O f;refine eE ac ?_;intro t4 h E O f;refine cC rfl (W1.out M _ _ _ Af Af _ Af Aa _ _ Af (by (try simp)<;>omega)) ?_;rintro _ an ⟨⟨⟩,⟨ao,⟨ap,Y⟩⟩⟩;have aq:=Y.size;revert t4 E f;refine eF Y ?_;intro t4 E f;refine cN (C1 Pg (C1 (Pl (mg t4)) ?_));refine eK ?_;refine BG [_,_,_,_] Ab rfl rfl rfl (mg t4) rfl rfl rfl (C1 Mv (cC rfl (HB.out M _ _ Af Af Af Af _ Af Aa (by (try simp)<;>omega)) ?_));rintro _ ar ⟨⟨⟩,⟨au,⟨av,ad⟩⟩⟩;revert t4 E f;refine eZ ad ?_;intro aw t4 E f;refine Ah (Ad (Bt rfl ?_));all_goals exact ⟨rfl,Bld.to Af A6,FbX.fb Af⟩
def Zc (n:Int) (s:lB) (x y z u:Nd) (hx:Prints 192 mn x) (hy:PrintsD 101 Nd.linesT y) (hz:PrintsD 101 Nd.linesT z) (hu:Prints 192 mn u):PrintsD 146 Nd.stmtT (.mk 53 n s [x,y,z,u]):=by
 intro B b t w a c d h Z hB f hd N;have V:(Nd.mk 53 n s [x,y,z,u]).stmtT d=CY 53++(x.text++BL y d++[32,108,111,111,112]++BL z d++[32,117,110,116,105,108,32]++u.text):=by
  rw [Nd.stmtT.eq_def];simp [BL]
 rw [V] at N ⊢;clear V;simp only [j9,kf,ki,Cg] at N;simp only [lR,Aj] at hd;have E:TabsF w:=⟨Z,kW hB h.le⟩;have O:FbX B b w w:=⟨h.le,h.base,Fb.refl _ _ _⟩;have ae:=h.le;have af:=h.base;have ag:=h.lt;simp only [lZ,mj,md,l9,ml,me] at f ⊢;obtain ⟨X,L⟩ : ∃X,X=[x,y,z,u]:=⟨_,rfl⟩;replace f:rowSits (· < B) w X a:=L▸f;have HB:Hid (∀M l F,Bld B b l F->TabsF F->FbX B b w F->rowSits (· < B) F X a -> ∀cs,TB F M cs 32->M≠b->l.length+(x.text++BL y d++[32,108,111,111,112]++BL z d++[32,117,110,116,105,108,32]++u.text).length<=140737488355328->Calls prog 194 #[.pointer (some ⟨b,0,none⟩),.agg #[.int .u8 53,.int .i64 n,str s,.slice a X.length c],.int .i64 d,str [32,108,111,111,112],str [32,117,110,116,105,108,32]] F (Ji B b M w (l++(x.text++BL y d++[32,108,111,111,112]++BL z d++[32,117,110,116,105,108,32]++u.text)) F)):=kh fun M l F h1 h2 h3 h4 cs h5 h6 h7=>by
  subst L;exact (N0 53 n s x y z u hx hy hz hu [32,108,111,111,112] [32,117,110,116,105,108,32] B b l F a c d h1 h2 hB h4 (by simp only [Aj];omega) h7).mono fun _ _ ⟨k1,k2,k3⟩=>⟨k1,k2,h3.step k3 h5 h6⟩
 rw [<-L];clear hx hy hz hu L;have W1:=kh (fun M s1 l F h O cs aa h1 tb tc E hl=>GI B b M w s1 l F h O (cs:=cs) aa h1 tb tc E hl);refine Ae func146 ntmps146 rfl rfl ?_;refine cS (Er rfl rfl rfl ?_);intro M w2 n3 t4;have x5:=n3.ext;have p6:=n3.pos;have z7:=n3.size;revert h E O f;refine eE x5 ?_;intro h E O f;refine cN (C1 Mv (C1 Pg (C1 (Pl (mg t4)) (cC rfl (Jj 53 _ Aa Aa) ?_))));rintro _ w9 ⟨⟨⟩,x8⟩;revert t4 h E O f;refine eY x8 ?_;intro ah t4 h E O f;refine Au (xS [_]) rfl ?_ aFh;rintro _ ai ⟨aj,rfl,U,ab⟩;have ak:TB _ _ _ _:=ab;have ac:=U.ext;have al:=U.pos;have am:=U.size;revert t4 h E O f;refine eE ac ?_;intro t4 h E O f;refine cC rfl (W1.out M _ _ _ Af Af _ Af Aa _ _ Af (by (try simp)<;>omega)) ?_;rintro _ an ⟨⟨⟩,⟨ao,⟨ap,Y⟩⟩⟩;have aq:=Y.size;revert t4 E f;refine eF Y ?_;intro t4 E f;refine cN (C1 Pg (C1 (Pl (mg t4)) ?_));refine eK ?_;refine BG [_,_,_,_] Ab rfl rfl rfl (mg t4) rfl rfl rfl (C1 Mv (cC rfl (HB.out M _ _ Af Af Af Af _ Af Aa (by (try simp)<;>omega)) ?_));rintro _ ar ⟨⟨⟩,⟨au,⟨av,ad⟩⟩⟩;revert t4 E f;refine eZ ad ?_;intro aw t4 E f;refine Ah (Ad (Bt rfl ?_));all_goals exact ⟨rfl,Bld.to Af A6,FbX.fb Af⟩
def Zd (n:Int) (s:lB) (x y z:Nd) (hx:Prints 192 mn x) (hy:PrintsD 101 Nd.linesT y) (hz:Prints 192 mn z):PrintsD 146 Nd.stmtT (.mk 54 n s [x,y,z]):=by
 intro B b t w a c d h am hB hs hd Y;have ad:(Nd.mk 54 n s [x,y,z]).stmtT d=CY 54++(s++([32,61,32]++(x.text++(BL y d++([32,100,101,108,111,99,97,108,32]++z.text))))):=by
  rw [Nd.stmtT.eq_def];simp [BL]
 rw [ad] at Y ⊢;clear ad;simp only [j9,kf,ki,Cg] at Y;simp only [lR,Aj] at hd;have f:TabsF w:=⟨am,kW hB h.le⟩;have V:FbX B b w w:=⟨h.le,h.base,Fb.refl _ _ _⟩;have ax:=h.le;have ay:=h.base;have az:=h.lt;simp only [lZ,mj,md,l9,ml,me] at hs ⊢;obtain ⟨kb,ko,rfl,kS,U⟩:=Bx hs A6;obtain ⟨xa,xc,E,M⟩:=U 0 x rfl;obtain ⟨ya,yc,L,N⟩:=U 1 y rfl;obtain ⟨za,zc,F,sz⟩:=U 2 z rfl;clear U hs;have HX:=kh (fun O l X h1 h2 h3 h4 cs h5 h6 h7=>hx.w B b l w X xa xc h1 h2 h3 hB h4 O (cs:=cs) h5 h6 h7);have HY:=kh (fun O l X h1 h2 h3 h4 cs h5 h6 h7=>KY y hy B b O w l X ya yc d h1 h2 h3 hB h4 Aa (cs:=cs) h5 h6 h7);have HZ:=kh (fun O l X h1 h2 h3 h4 cs h5 h6 h7=>hz.w B b l w X za zc h1 h2 h3 hB h4 O (cs:=cs) h5 h6 h7);clear hx hy hz;obtain ⟨xk,xn,xs,xl⟩:=x;obtain ⟨yk,yn,ys,yl⟩:=y;obtain ⟨zk,zn,zs,zl⟩:=z;simp only [lZ,mj,md,l9,ml,Nd.cells] at E L F HX HY HZ;have W1:=kh (fun O s1 l X h V cs Z h1 tb tc f hl=>GI B b O w s1 l X h V (cs:=cs) Z h1 tb tc f hl);have W2:=kh (fun O s1 s2 l X h V cs Z h1 tb tc f hl=>Ur B b O w s1 s2 l X h V (cs:=cs) Z h1 tb tc f hl);refine Ae func146 ntmps146 rfl rfl ?_;refine cS (Er rfl rfl rfl ?_);intro O w2 n3 t4;have x5:=n3.ext;have p6:=n3.pos;have z7:=n3.size;revert h f V E M L N F sz;refine eE x5 ?_;intro h f V E M L N F sz;refine cN (C1 Mv (C1 Pg (C1 (Pl (mg t4)) (cC rfl (Jj 54 _ Aa Aa) ?_))));rintro _ w9 ⟨⟨⟩,x8⟩;revert t4 h f V E M L N F sz;refine eY x8 ?_;intro a0 t4 h f V E M L N F sz;refine Au (xS [_]) rfl ?_ aFh;rintro _ a1 ⟨a2,rfl,aa,an⟩;have a3:TB _ _ _ _:=an;have ao:=aa.ext;have a4:=aa.pos;have a5:=aa.size;revert t4 h f V E M L N F sz;refine eE ao ?_;intro t4 h f V E M L N F sz;refine cC rfl (W1.out O _ _ _ Af Af _ Af Aa _ _ Af (by (try simp)<;>omega)) ?_;rintro _ a6 ⟨⟨⟩,⟨ae,⟨af,ag⟩⟩⟩;have a7:=ag.size;revert t4 f E M L N F sz;refine eF ag ?_;intro t4 f E M L N F sz;refine cN (C1 Pg (C1 (Pl (mg t4)) (cT (Ax (Al (cS (C1 V1 (C1 Pa (cT (Ij (cS ?_)))))))))));refine C1 V1 (C1 Pa (cT (Ij (cS (C1 V1 (C1 Pa (cT (Ij (cS (C1 V1 (C1 Pa ?_)))))))))));refine cT (Ij (Ag (C1 V1 (C1 Pa (cT (Ij (Al (cS (C1 V1 (C1 Pa (cT ?_)))))))))));refine Ij (Ag (C1 V1 (C1 Pa (cT (Ij (Al (cS (C1 V1 (C1 Pa (cT (Ij ?_)))))))))))
 refine cS (C1 V1 (C1 Pa (cT (Ij (cS (C1 V1 (C1 Pa (cT (Ij (Ag (C1 V1 ?_)))))))))));refine C1 Pa (cT (Ij (Al (cS (C1 V1 (C1 Pa (cT (Ij (Ag (C1 V1 (C1 Pa ?_)))))))))));refine cT (Ij (cS (C1 V1 (C1 Pa (cT (Ij (cS (C1 V1 (C1 Pa (cT (Ij ?_)))))))))));refine cS (C1 V1 (C1 Pa (cT (jt (cS (C1 Mv (C1 Pf (C1 (Pl (mg t4)) ?_))))))));refine Au (xS [_,_]) rfl ?_ aFh;rintro _ a8 ⟨a9,rfl,ab,ap⟩;have ba:TB _ _ _ _:=ap;have aq:=ab.ext;have bb:=ab.pos;have z31:=ab.size;revert ae af t4 f E M L N F sz;refine eE aq ?_;intro ae af t4 f E M L N F sz;refine cC rfl (W2.out O _ _ _ _ Af Af _ Af Aa _ _ Af (by (try simp)<;>omega)) ?_;rintro _ bc ⟨⟨⟩,⟨bd,⟨be,ah⟩⟩⟩;have bf:=ah.size;revert t4 f E M L N F sz;refine eF ah ?_;intro t4 f E M L N F sz;refine cN (C1 Mv (C1 Pf (C1 (Pl (mg t4)) (C1 (AG Ab rfl rfl rfl rfl Aa (by simp only [kf,ki];omega)) (Cf [_,_,_,_] Ab rfl rfl rfl E rfl rfl rfl (cC rfl (HX.out O _ _ Af Af Af Af _ Af Aa (by (try simp)<;>omega)) ?_))))));rintro _ bg ⟨⟨⟩,⟨bh,⟨bi,ai⟩⟩⟩;have bj:=ai.size;revert t4 f E M L N F sz;refine eF ai ?_;intro t4 f E M L N F sz;refine cN (C1 Mv (C1 Pf (C1 (Pl (mg t4)) (C1 (AG Ab rfl rfl rfl rfl Aa (by simp only [kf,ki];omega)) ?_))));refine eK ?_;refine cC rfl (HY.out O _ _ Af Af Af Af _ Af Aa (by (try simp)<;>omega)) ?_;rintro _ bk ⟨⟨⟩,⟨aj,⟨ak,ar⟩⟩⟩;revert t4 f E M L N F sz;refine eZ ar ?_;intro z46 t4 f E M L N F sz;refine eK ?_;refine Au (xS [_]) rfl ?_ aFh;rintro _ bm ⟨bn,rfl,ac,au⟩;have t51:TB _ _ _ _:=au;have av:=ac.ext;have bo:=ac.pos;have bp:=ac.size;revert aj ak t4 f E M L N F sz;refine eE av ?_;intro aj ak t4 f E M L N F sz;refine cC rfl (W1.out O _ _ _ Af Af _ Af Aa _ _ Af (by (try simp)<;>omega)) ?_;rintro _ bq ⟨⟨⟩,⟨br,⟨bs,al⟩⟩⟩;have z59:=al.size;revert t4 f E M L N F sz;refine eF al ?_;intro t4 f E M L N F sz;refine cT (Ag (C1 Mv (C1 Pf (C1 (Pl (mg t4)) (C1 (AG Ab rfl rfl rfl rfl Aa (by simp only [kf,ki];omega)) (C1 (XU F) (cC rfl (HZ.out O _ _ Af Af Af Af _ Af Aa (by (try simp)<;>omega)) ?_)))))))
 rintro _ bt ⟨⟨⟩,⟨bu,⟨bv,aw⟩⟩⟩;revert t4 f E M L N F sz;refine eZ aw ?_;intro bw t4 f E M L N F sz;refine Ah (Ad (Bt rfl ?_));all_goals exact ⟨rfl,Bld.to Af A6,FbX.fb Af⟩
def Ze (n:Int) (s:lB) (x:Nd) (hx:PrintsD 101 Nd.linesT x):PrintsD 146 Nd.stmtT (.mk 55 n s [x]):=by
 intro B b t w a c d h ac hB hs hd L;have X:(Nd.mk 55 n s [x]).stmtT d=CY 55++(s++BL x d):=by
  rw [Nd.stmtT.eq_def];simp [BL]
 rw [X] at L ⊢;clear X;simp only [j9,kf,ki,Cg] at L;simp only [lR,Aj] at hd;have f:TabsF w:=⟨ac,kW hB h.le⟩;have M:FbX B b w w:=⟨h.le,h.base,Fb.refl _ _ _⟩;have aj:=h.le;have ak:=h.base;have al:=h.lt;simp only [lZ,mj,md,l9,ml,me] at hs ⊢;obtain ⟨kb,ko,rfl,kS,N⟩:=Bx hs A6;obtain ⟨xa,xc,E,F⟩:=N 0 x rfl;clear N hs;have HX:=kh (fun O l w1 h1 h2 h3 h4 cs h5 h6 h7=>KY x hx B b O w l w1 xa xc d h1 h2 h3 hB h4 Aa (cs:=cs) h5 h6 h7);clear hx;obtain ⟨xk,xn,xs,xl⟩:=x;simp only [lZ,mj,md,l9,ml,Nd.cells] at E HX;have W1:=kh (fun O s1 l w1 h M cs ad h1 tb tc f hl=>GI B b O w s1 l w1 h M (cs:=cs) ad h1 tb tc f hl);refine Ae func146 ntmps146 rfl rfl ?_;refine cS (Er rfl rfl rfl ?_);intro O w2 n3 t4;have x5:=n3.ext;have p6:=n3.pos;have z7:=n3.size;revert h f M E F;refine eE x5 ?_;intro h f M E F;refine cN (C1 Mv (C1 Pg (C1 (Pl (mg t4)) (cC rfl (Jj 55 _ Aa Aa) ?_))));rintro _ w9 ⟨⟨⟩,x8⟩;revert t4 h f M E F;refine eY x8 ?_;intro am t4 h f M E F;refine Au (xS [_]) rfl ?_ aFh;rintro _ an ⟨ao,rfl,U,ae⟩;have ap:TB _ _ _ _:=ae;have af:=U.ext;have aq:=U.pos;have ar:=U.size;revert t4 h f M E F;refine eE af ?_;intro t4 h f M E F;refine cC rfl (W1.out O _ _ _ Af Af _ Af Aa _ _ Af (by (try simp)<;>omega)) ?_;rintro _ au ⟨⟨⟩,⟨Y,⟨Z,aa⟩⟩⟩;have av:=aa.size;revert t4 f E F;refine eF aa ?_;intro t4 f E F;refine cN (C1 Pg (C1 (Pl (mg t4)) (cT (Ax (Al (cS (C1 V1 (C1 Pa (cT (Ij (cS ?_)))))))))));refine C1 V1 (C1 Pa (cT (Ij (cS (C1 V1 (C1 Pa (cT (Ij (cS (C1 V1 (C1 Pa ?_)))))))))));refine cT (Ij (Ag (C1 V1 (C1 Pa (cT (Ij (Al (cS (C1 V1 (C1 Pa (cT ?_)))))))))));refine Ij (Ag (C1 V1 (C1 Pa (cT (Ij (Al (cS (C1 V1 (C1 Pa (cT (Ij ?_)))))))))));refine cS (C1 V1 (C1 Pa (cT (Ij (cS (C1 V1 (C1 Pa (cT (Ij (Ag (C1 V1 ?_)))))))))));refine C1 Pa (cT (Ij (Al (cS (C1 V1 (C1 Pa (cT (Ij (Ag (C1 V1 (C1 Pa ?_)))))))))))
 refine cT (Ij (cS (C1 V1 (C1 Pa (cT (Ij (cS (C1 V1 (C1 Pa (cT (Ij ?_)))))))))));refine cS (C1 V1 (C1 Pa (cT (Ij (cS (C1 V1 (C1 Pa (cT (jt (cS (C1 Mv ?_)))))))))));refine C1 Pf (C1 (Pl (mg t4)) ?_);refine Au (xS [_]) rfl ?_ aFh;rintro _ aw ⟨ax,rfl,V,ag⟩;have ay:TB _ _ _ _:=ag;have ah:=V.ext;have az:=V.pos;have z31:=V.size;revert Y Z t4 f E F;refine eE ah ?_;intro Y Z t4 f E F;refine cC rfl (W1.out O _ _ _ Af Af _ Af Aa _ _ Af (by (try simp)<;>omega)) ?_;rintro _ a0 ⟨⟨⟩,⟨a1,⟨a2,ab⟩⟩⟩;have a3:=ab.size;revert t4 f E F;refine eF ab ?_;intro t4 f E F;refine cT (Ag (C1 Mv (C1 Pf (C1 (Pl (mg t4)) (C1 (AG Ab rfl rfl rfl rfl Aa (by simp only [kf,ki];omega)) (Cf [_,_,_,_] Ab rfl rfl rfl E rfl rfl rfl (C1 Mv (cC rfl (HX.out O _ _ Af Af Af Af _ Af Aa (by (try simp)<;>omega)) ?_))))))));rintro _ a4 ⟨⟨⟩,⟨a5,⟨a6,ai⟩⟩⟩;revert t4 f E F;refine eZ ai ?_;intro a7 t4 f E F;refine Ah (Ad (Bt rfl ?_));all_goals exact ⟨rfl,Bld.to Af A6,FbX.fb Af⟩
def K0 (q:Bool) (l r:List Nd):DB q (l++r)=DB q l++DB (q&&l.isEmpty) r:=by
 induction l generalizing q with
 | nil=>simp [DB]
 | cons x l f=>simp [DB,f]
def Us (l:List Nd) (j:Nat) (h:j<l.length):DB true (l.take (j+1))=DB true (l.take j)++((if j=0 then [] else [44,32])++l[j].text):=by
 rw [ky h,K0];rcases j with _|j
 . simp [DB]
 . have:(l.take (j+1)).isEmpty=false:=by
    rw [List.isEmpty_eq_false_iff];intro e;have h1:(l.take (j+1)).length=j+1:=by simp;omega
    rw [e] at h1;simp at h1
   rw [this];simp [DB]
def Zf (l:List Nd) (j:Nat):(DB true (l.take j)).length<=(DB true l).length:=by
 have e:=K0 true (l.take j) (l.drop j);rw [lf] at e;rw [e];simp
def IP (l r:List Nd) (d:Nat):BX (l++r) d=BX l d++BX r d:=by
 induction l with
 | nil=>simp [BX]
 | cons x l f=>simp [BX,f]
def OO (l:List Nd) (j d:Nat) (h:j<l.length):BX (l.take (j+1)) d=BX (l.take j) d++(Du d++l[j].stmtT d++[59,10]):=by
 rw [ky h,IP];simp [BX]
def SX (l:List Nd) (j d:Nat):(BX (l.take j) d).length<=(BX l d).length:=by
 have e:=IP (l.take j) (l.drop j) d;rw [lf] at e;rw [e];simp
def bX (k n:Int) (s:lB) (l:List Nd) (a4:l.length<=9223372036854775807) (hx : ∀x∈l,PrintsD 146 Nd.stmtT x):PrintsD 101 Nd.linesT (.mk k n s l):=by
 intro B b t w a c d h aj hB E hd Y;have ac:(Nd.mk k n s l).linesT d=BX l d:=by simp [Nd.linesT]
 rw [ac] at Y ⊢;clear ac;rw [j9] at Y;have F:TabsF w:=⟨aj,kW hB h.le⟩;have V:FbX B b w w:=⟨h.le,h.base,Fb.refl _ _ _⟩;have a5:=h.le;have a6:=h.base;have a7:=h.lt;simp only [lZ,mj,md,l9,ml,me,lR] at E hd ⊢;have HX:=kh hx;clear hx;refine Ae func101 ntmps101 rfl rfl ?_;refine cS (Er rfl rfl rfl ?_);intro b1 w2 n3 t4;have x5:=n3.ext;have p6:=n3.pos;have z7:=n3.size;revert h E F V;refine eE x5 ?_;intro h E F V;refine cN (C1 Pf (C1 (Pl (mg t4)) (C1 Pz (C1 Mv (cT ?_)))));refine Ax ?_;refine AM (ι:=Nat) (fun j=>[(0,.pointer (some ⟨b,0,none⟩)),(2,.int .i64 d),(9,.slice a l.length c),(10,.int .i64 l.length),(11,.int .i64 j)])
  (fun j w'=>j<=l.length/\Bld B b (t++BX (l.take j) d) w'/\TabsF w'/\FbX B b w w'/\rowSits (· < B) w' l a) (fun j=>l.length-j) 0 sB ⟨kC _,by simpa [BX] using h,F,V,E⟩ ?_
 clear h F V E;rintro j w1 ⟨hj,h,F,V,E⟩;have an:=h.lt;by_cases L:j<l.length
 . obtain ⟨kb,ko,rfl,kS,hk⟩:=Bx E (by intro e;rw [e] at L;simp at L);obtain ⟨xa,xc,M,X⟩:=hk j _ (kg L);have N:=kq L;have ak:=EF N;have ad:=OO l j d L;have ae:=SX l (j+1) d;rw [ad] at ae;simp only [j9,kf,ki] at ae;have a8:=NY d;have hP:=HX.out _ N;clear hk HX N;generalize l[j]=x at *;generalize BX (l.take j) d=lt at *;have HS:=kh (fun b1 t w1 h1 h2 h3 h4 cs h5 h6 h7=>hP.w B b t w w1 xa xc d h1 h2 h3 hB h4 Aa b1 (cs:=cs) h5 h6 h7);have HT:=kh (fun b1 l w1 h1 h2 cs h3 h4 h5=>Za B b b1 w l d w1 h1 h2 (cs:=cs) h3 h4 Aa h5);have W1:=kh (fun b1 s1 l w1 h V cs al h1 tb tc F hl=>GI B b b1 w s1 l w1 h V (cs:=cs) al h1 tb tc F hl);clear hP ak hd;obtain ⟨xk,xn,xs,xl⟩:=x;simp only [lZ,mj,md,l9,ml,Nd.cells] at M HS;refine eK ?_;refine EV C9 rfl rfl ?_;intro a9 ba O f;refine Hj Ab rfl rfl rfl rfl rfl rfl O f rfl ?_;intro bb O f;have am:=O.ext;have bc:=O.pos;have bd:=O.size;revert F V E h M X;refine eE am ?_;intro F V E h M X;refine eK ?_;refine cC rfl (HT.out _ _ _ Af Af _ Af Aa (by (try simp)<;>omega)) ?_;rintro _ ao ⟨⟨⟩,⟨be,⟨ap,af⟩⟩⟩;revert f F E M X;refine eZ af ?_;intro aq f F E M X;refine eK ?_;refine BG [_,_,_,_] Ab rfl rfl rfl (mg f) rfl rfl rfl (C1 Mv (cC rfl (HS.out _ _ _ Af Af Af Af _ Af Aa (by (try simp)<;>omega)) ?_));rintro _ ar ⟨⟨⟩,⟨Z,⟨aa,ag⟩⟩⟩;revert f F E M X;refine eZ ag ?_;intro au f F E M X;refine eK ?_;refine Au (xS [_]) rfl ?_ aFh;rintro _ av ⟨aw,rfl,U,ah⟩;have ax:TB _ _ _ _:=ah;have ai:=U.ext;have ay:=U.pos;have az:=U.size;revert Z aa f F E M X;refine eE ai ?_;intro Z aa f F E M X;refine cC rfl (W1.out _ _ _ _ Af Af _ Af Aa _ _ Af (by (try simp)<;>omega)) ?_
   rintro _ a0 ⟨⟨⟩,⟨a1,⟨a2,ab⟩⟩⟩;have a3:=ab.size;revert f F E M X;refine eF ab ?_;intro f F E M X;refine Ah (Ad (Ai (Ag (C1 V7 (C1 Mv (Ah ?_))))));exact Ay (j+1) sB ⟨Aa,Bld.to Af (by rw [ad];simp),Af,Af,E⟩ Aa
 . obtain rfl:j=l.length:=by omega
   rw [kE] at h;refine cS (C1 V3 (cT (Al (E4 (DP (AQ (AQ (Bs (Bt rfl ?_)))))))));exact ⟨rfl,h,V.fb⟩
def bZ (B b:Nat) (u:wD) (E:lB) (l:lB) (w:wD) (h:Bld B b l w) (F:FbX B b u w) (L M:Nat) (N:TB w L [str E] 9) (f:l.length+E.length<=140737488355328) :
 Calls prog 58 #[.pointer (some ⟨b,0,none⟩),.slice (some ⟨L,0,none⟩) 1 M] w fun e w'=>e = .returned (.tuple #[])/\Bld B b (l++E) w'/\FbX B b u w'/\Fr (fun k=>B<=k) w w':=by
 have:=CC B b L M l [E] w h ⟨N⟩ A6 (by simpa using f);refine this.mono fun _ _ ⟨O,k2,k3⟩=>⟨O,by simpa using k2,⟨F.le,F.base,F.fb.trans k3⟩,k3.below.os,k3.below.tape,k3.below.output,k3.below.size,fun k _ U=>k3.below.block k Aa⟩
def N1 (k n:Int) (hk:k=50\/k=51) (s:lB) (l:List Nd) (bw:l.length<=9223372036854775807) (hx : ∀x∈l,Prints 192 mn x):PrintsD 146 Nd.stmtT (.mk k n s l):=by
 intro B b t w a c d h a0 hB E hd ac;have ao:(Nd.mk k n s l).stmtT d=CY k++(s++([40]++(DB true l++[41]))):=by
  rw [Nd.stmtT.eq_def];rcases hk with rfl|rfl<;>simp [CY]
 rw [ao] at ac ⊢;clear ao;simp only [j9,kf,ki] at ac;have f:TabsF w:=⟨a0,kW hB h.le⟩;have F:FbX B b w w:=⟨h.le,h.base,Fb.refl _ _ _⟩;have bx:=h.le;have bz:=h.base;have b0:=h.lt;simp only [lZ,mj,md,l9,ml,me] at E ⊢;have HX:=kh hx;clear hx hd;have W1:=kh (fun b1 s1 l w1 h F cs ai h1 tb tc f hl=>GI B b b1 w s1 l w1 h F (cs:=cs) ai h1 tb tc f hl);have W2:=kh (fun b1 s1 s2 l w1 h F cs ai h1 tb tc f hl=>Ur B b b1 w s1 s2 l w1 h F (cs:=cs) ai h1 tb tc f hl);refine Ae func146 ntmps146 rfl rfl ?_;refine cS (Er rfl rfl rfl ?_);intro b1 w2 n3 t4;have x5:=n3.ext;have p6:=n3.pos;have z7:=n3.size;revert h E f F;refine eE x5 ?_;intro h E f F;refine cN (C1 Mv (C1 Pg (C1 (Pl (mg t4)) (cC rfl (Jj k _ Aa Aa) ?_))));rintro _ w9 ⟨⟨⟩,x8⟩;revert t4 h E f F;refine eY x8 ?_;intro b2 t4 h E f F;refine Au (xS [_]) rfl ?_ aFh;rintro _ b3 ⟨b4,rfl,aj,a1⟩;have b5:TB _ _ _ _:=a1;have a2:=aj.ext;have b6:=aj.pos;have b7:=aj.size;revert t4 h E f F;refine eE a2 ?_;intro t4 h E f F;refine cC rfl (W1.out b1 _ _ _ Af Af _ Af Aa _ _ Af (by (try simp)<;>omega)) ?_;rintro _ a3 ⟨⟨⟩,⟨ak,⟨al,ap⟩⟩⟩;have b8:=ap.size;revert t4 E f;refine eF ap ?_;intro t4 E f;refine cN (C1 Pg (C1 (Pl (mg t4)) (cT ?_)));refine Ax ?_
 refine Al (cS (C1 V1 (C1 Pa (cT (E4 (cS (C1 V1 (C1 Pa (cT (E4 (cS ?_)))))))))));refine C1 V1 (C1 Pa (cT (E4 (cS (C1 V1 (C1 Pa (cT (E4 (Ag (C1 V1 (C1 Pa ?_)))))))))));refine cT (E4 (Al (cS (C1 V1 (C1 Pa (cT (E4 (Ag (C1 V1 (C1 Pa (cT ?_)))))))))));refine E4 (Al (cS (C1 V1 (C1 Pa (cT (E4 (cS (C1 V1 (C1 Pa (cT (E4 ?_)))))))))));refine cS (C1 V1 (C1 Pa (cT (E4 (Ag (C1 V1 (C1 Pa (cT (E4 (Al ?_))))))))));refine NX (ι:=Unit) (fun _=>[(0,.pointer (some ⟨b,0,none⟩)),(2,.int .i64 d),(4,.pointer (some ⟨b1,0,none⟩)),(15,.int .u8 k),(65,.bool true)]) (fun _ w'=>w'=a3) ?_ ?_
 . focus
    refine eK ?_;refine AF rfl (fun a4=>?_) (fun a4=>?_);refine Av ?_;rotate_left;refine Ag (C1 V1 (C1 Pa (Ah ?_)));rotate_left
   all_goals exact Cq () (Am rfl (Am rfl (Am rfl (Am rfl (Bj rfl (congrArg Value.bool (decide_eq_true Aa)) BB))))) rfl
 rintro-u1 rfl;refine CS rfl (cS (C1 Mv (C1 Pf (C1 (Pl (mg t4)) ?_))));refine Au (xS [_,_]) rfl ?_ aFh;rintro _ b9 ⟨ca,rfl,am,a5⟩;have cb:TB _ _ _ _:=a5;have a6:=am.ext;have cc:=am.pos;have cd:=am.size;revert ak al t4 E f;refine eE a6 ?_;intro ak al t4 E f;refine cC rfl (W2.out b1 _ _ _ _ Af Af _ Af Aa _ _ Af (by (try simp)<;>omega)) ?_;rintro _ aq ⟨⟨⟩,⟨ar,⟨ad,ae⟩⟩⟩;have bb:=ae.size;revert t4 E f;refine eF ae ?_;intro t4 E f;refine cT (Al (cS (C1 Pf (C1 (Pl (mg t4)) (C1 Pz (C1 Mv (cT ?_)))))));refine Ax ?_;have au:Bld B b (t++CY k++(s++[40])++DB true (l.take 0)) aq:=Bld.to ar (by simp [DB]);have M:=Zf l;have W0:=kh (fun s1 l w1 h F tb tc f hl=>bZ B b w s1 l w1 h F tb tc f hl);refine AM (ι:=Nat) (fun j=>[(0,.pointer (some ⟨b,0,none⟩)),(74,.slice a l.length c),(75,.int .i64 l.length),(76,.int .i64 j)])
  (fun j w'=>j<=l.length/\Bld B b (t++CY k++(s++[40])++DB true (l.take j)) w'/\TabsF w'/\FbX B b w w'/\rowSits (· < B) w' l a) (fun j=>l.length-j) 0 sB ⟨kC _,au,f,ad,E⟩ ?_
 clear au ar ad ak al t4 f E h F W2;rintro j w1 ⟨hj,h,f,F,E⟩;have bc:=h.lt;by_cases U:j<l.length
 . obtain ⟨kb,ko,rfl,kS,af⟩:=Bx E (by intro e;rw [e] at U;simp at U);obtain ⟨xa,xc,N,O⟩:=af j _ (kg U);have hP:=HX.out _ (kq U);have V:=Us l j U;have X:=M (j+1);rw [V] at X;clear af HX M W0;generalize l[j]=x at *;generalize DB true (l.take j)=pre at *;have HS:=kh (fun b1 t w1 h1 h2 h3 h4 cs h5 h6 h7=>hP.w B b t w w1 xa xc h1 h2 h3 hB h4 b1 (cs:=cs) h5 h6 h7);clear hP;by_cases av:j=0
   . rw [AH av] at V X;simp only [j9,kf,ki] at X;obtain ⟨xk,xn,xs,xl⟩:=x;simp only [lZ,mj,md,l9,ml,Nd.cells] at N HS;refine eK ?_;refine EV C9 rfl rfl ?_;intro ce cf Y Z;refine Ch (Gk rfl) rfl (Hj Ab rfl rfl rfl rfl rfl rfl Y Z rfl ?_);intro cg Y Z;have a7:=Y.ext;have ch:=Y.pos;have ci:=Y.size;revert f F E h N O;refine eE a7 ?_;intro f F E h N O;refine eK ?_;refine BG [_,_,_,_] Ab rfl rfl rfl (mg Z) rfl rfl rfl (cC rfl (HS.out _ _ _ Af Af Af Af _ Af Aa (by (try simp)<;>omega)) ?_);rintro _ bd ⟨⟨⟩,⟨cj,⟨be,aw⟩⟩⟩;revert Z f E N O;refine eZ aw ?_;intro bf Z f E N O;refine Ah (Ad (Ai (Ag (C1 V7 (C1 Mv (Ah ?_))))));exact Ay (j+1) sB ⟨Aa,Bld.to Af (by rw [V];simp),Af,Af,E⟩ Aa
   . rw [At av] at V X;simp only [j9,kf,ki] at X;obtain ⟨xk,xn,xs,xl⟩:=x;simp only [lZ,mj,md,l9,ml,Nd.cells] at N HS;refine eK ?_;refine EV C9 rfl rfl ?_;intro ck cl aa L;refine Ch (Gk rfl) rfl (Hj Ab rfl rfl rfl rfl rfl rfl aa L rfl ?_);intro cm aa L;have a8:=aa.ext;have cn:=aa.pos;have co:=aa.size;revert f F E h N O;refine eE a8 ?_;intro f F E h N O;refine eK ?_;refine Au (xS [_]) rfl ?_ aFh;rintro _ bg ⟨cp,rfl,ab,ax⟩;have bh:TB _ _ _ _:=ax;have ay:=ab.ext;have bi:=ab.pos;have bj:=ab.size;revert L f F E h N O;refine eE ay ?_;intro L f F E h N O;refine cC rfl (W1.out _ _ _ _ Af Af _ Af Aa _ _ Af (by (try simp)<;>omega)) ?_;rintro _ bk ⟨⟨⟩,⟨bm,⟨bn,ag⟩⟩⟩;have bo:=ag.size;revert L f E N O;refine eF ag ?_;intro L f E N O;refine eK ?_;refine BG [_,_,_,_] Ab rfl rfl rfl (mg L) rfl rfl rfl (cC rfl (HS.out _ _ _ Af Af Af Af _ Af Aa (by (try simp)<;>omega)) ?_);rintro _ bp ⟨⟨⟩,⟨bq,⟨br,az⟩⟩⟩;revert L f E N O;refine eZ az ?_;intro bs L f E N O;refine Ah (Ad (Ai (Ag (C1 V7 (C1 Mv (Ah ?_))))));exact Ay (j+1) sB ⟨Aa,Bld.to Af (by rw [V];simp),Af,Af,E⟩ Aa
 . obtain rfl:j=l.length:=by omega
   rw [kE] at h;clear HX M W1 E;refine eK ?_;refine Au (xS [_]) rfl ?_ aFh;rintro _ cq ⟨cr,rfl,an,a9⟩;have ct:TB _ _ _ _:=a9;have ba:=an.ext;have cu:=an.pos;have cv:=an.size;revert f F h;refine eE ba ?_;intro f F h;refine cC rfl (W0.out _ _ _ Af Af _ _ Af (by (try simp)<;>omega)) ?_;rintro _ bt ⟨⟨⟩,⟨cw,⟨bu,ah⟩⟩⟩;have bv:=ah.size;have f:=f.fr ah Aa;refine Ah (Ad (Bt rfl ?_));exact ⟨rfl,Bld.to Af A6,FbX.fb Af⟩
def AY {t:Nd} (h:t.isPlace=true):t.isExpr=true:=by
 simp only [Nd.isPlace,ke] at h;exact h.2
def IE {t:Nd} (h:t.isVar=true):t.isExpr=true:=by
 simp only [Nd.isVar,ke] at h;exact h.2
def Jk : ∀l:List Nd,DU l=l.all Nd.isStmt
 | []=>rfl
 | x::r=>by simp [DU,Jk r]
def K1 {k n:Int} {s:lB} {l:List Nd} (h:(Nd.mk k n s l).isStmt=true):40<=k/\k<=56:=by
 by_cases f:k<40\/56<k
 . rw [L1 k n s l f] at h;simp at h
 . omega
def SY (N:Nat):(∀t:Nd,t.size<N->t.wf->t.isStmt=true->PrintsD 146 Nd.stmtT t)/\(∀t:Nd,t.size<N->t.wf->t.isBlock=true->PrintsD 101 Nd.linesT t):=by
 induction N with
 | zero=>exact ⟨fun t h=>absurd h (Nat.not_lt_zero _),fun t h=>absurd h (Nat.not_lt_zero _)⟩
 | succ N U=>
  refine ⟨?_,?_⟩
  . rintro ⟨k,n,s,l⟩ F L f;have hk:=K1 f;simp only [Nd.wf,lR] at L F;obtain ⟨V,X,Y,Z,aa,M,E⟩:=L;by_cases ab:k=40
    . subst ab;rw [Ev A6] at f;rcases l with _|⟨x,_|⟨y,_|⟨v4,l⟩⟩⟩
      . simp [Aw] at f
      . simp [Aw] at f
      . simp only [Aw,ke,Bool.and_true,and_true] at f;simp only [Aj,Bc] at F E;exact H7 40 n Aa s x y (C4 x E.1 (AY (f.2.1))) (C4 y E.2.1 (f.2.2))
      . simp [Aw] at f
    by_cases ac:k=41
    . subst ac;rw [Ev A6] at f;rcases l with _|⟨x,_|⟨y,_|⟨v4,l⟩⟩⟩
      . simp [Aw] at f
      . simp [Aw] at f
      . simp only [Aw,ke,Bool.and_true,and_true] at f;simp only [Aj,Bc] at F E;exact H7 41 n Aa s x y (C4 x E.1 (AY (f.2.1))) (C4 y E.2.1 (f.2.2))
      . simp [Aw] at f
    by_cases ad:k=42
    . subst ad;rw [Ev A6] at f;rcases l with _|⟨x,_|⟨y,_|⟨v4,l⟩⟩⟩
      . simp [Aw] at f
      . simp [Aw] at f
      . simp only [Aw,ke,Bool.and_true,and_true] at f;simp only [Aj,Bc] at F E;exact H7 42 n Aa s x y (C4 x E.1 (AY (f.2.1))) (C4 y E.2.1 (f.2.2))
      . simp [Aw] at f
    by_cases ae:k=43
    . subst ae;rw [Lq A6] at f;rcases l with _|⟨x,_|⟨y,_|⟨v4,l⟩⟩⟩
      . simp [Aw] at f
      . simp [Aw] at f
      . simp only [Aw,ke,Bool.and_true,and_true] at f;simp only [Aj,Bc] at F E;exact H7 43 n Aa s x y (C4 x E.1 (AY (f.2.1))) (C4 y E.2.1 (AY (f.2.2)))
      . simp [Aw] at f
    by_cases af:k=44
    . subst af;rw [Hq A6] at f;rcases l with _|⟨x,_|⟨v4,l⟩⟩
      . simp [Aw] at f
      . simp only [Aw,ke,Bool.and_true,and_true] at f;simp only [Aj,Bc] at F E;exact SW 44 n Aa s x (C4 x E.1 (AY (f.2)))
      . simp [Aw] at f
    by_cases ag:k=45
    . subst ag;rw [Hq A6] at f;rcases l with _|⟨x,_|⟨v4,l⟩⟩
      . simp [Aw] at f
      . simp only [Aw,ke,Bool.and_true,and_true] at f;simp only [Aj,Bc] at F E;exact SW 45 n Aa s x (C4 x E.1 (AY (f.2)))
      . simp [Aw] at f
    by_cases c46:k=46
    . subst c46;rw [Ew A6] at f;rcases l with _|⟨x,_|⟨v4,l⟩⟩
      . simp [Aw] at f
      . simp only [Aw,ke,Bool.and_true,and_true] at f;simp only [Aj,Bc] at F E;exact KZ 46 n Aa s x (C4 x E.1 (AY (f.2)))
      . simp [Aw] at f
    by_cases ah:k=47
    . subst ah;rw [Ew A6] at f;rcases l with _|⟨x,_|⟨v4,l⟩⟩
      . simp [Aw] at f
      . simp only [Aw,ke,Bool.and_true,and_true] at f;simp only [Aj,Bc] at F E;exact KZ 47 n Aa s x (C4 x E.1 (AY (f.2)))
      . simp [Aw] at f
    by_cases ai:k=48
    . subst ai;rw [Ew A6] at f;rcases l with _|⟨x,_|⟨v4,l⟩⟩
      . simp [Aw] at f
      . simp only [Aw,ke,Bool.and_true,and_true] at f;simp only [Aj,Bc] at F E;exact KZ 48 n Aa s x (C4 x E.1 (AY (f.2)))
      . simp [Aw] at f
    by_cases aj:k=49
    . subst aj;rw [Ew A6] at f;rcases l with _|⟨x,_|⟨v4,l⟩⟩
      . simp [Aw] at f
      . simp only [Aw,ke,Bool.and_true,and_true] at f;simp only [Aj,Bc] at F E;exact KZ 49 n Aa s x (C4 x E.1 (AY (f.2)))
      . simp [Aw] at f
    by_cases ak:k=50
    . subst ak;rw [Hs A6] at f;simp only [ke,lG] at f;exact N1 50 n Aa s l M (fun x O=>C4 x (BZ E x O) (IE (f.2 x O)))
    by_cases c51:k=51
    . subst c51;rw [Hs A6] at f;simp only [ke,lG] at f;exact N1 51 n Aa s l M (fun x O=>C4 x (BZ E x O) (IE (f.2 x O)))
    by_cases al:k=52
    . subst al;rw [Hr A6] at f;rcases l with _|⟨x,_|⟨y,_|⟨z,_|⟨u,_|⟨v4,l⟩⟩⟩⟩⟩
      . simp [Aw] at f
      . simp [Aw] at f
      . simp [Aw] at f
      . simp [Aw] at f
      . simp only [Aw,ke,Bool.and_true,and_true] at f;simp only [Aj,Bc] at F E;exact Zb n s x y z u (C4 x E.1 (f.2.1)) (U.2 y Aa E.2.1 (f.2.2.1)) (U.2 z Aa E.2.2.1 (f.2.2.2.1)) (C4 u E.2.2.2.1 (f.2.2.2.2))
      . simp [Aw] at f
    by_cases c53:k=53
    . subst c53;rw [Hr A6] at f;rcases l with _|⟨x,_|⟨y,_|⟨z,_|⟨u,_|⟨v4,l⟩⟩⟩⟩⟩
      . simp [Aw] at f
      . simp [Aw] at f
      . simp [Aw] at f
      . simp [Aw] at f
      . simp only [Aw,ke,Bool.and_true,and_true] at f;simp only [Aj,Bc] at F E;exact Zc n s x y z u (C4 x E.1 (f.2.1)) (U.2 y Aa E.2.1 (f.2.2.1)) (U.2 z Aa E.2.2.1 (f.2.2.2.1)) (C4 u E.2.2.2.1 (f.2.2.2.2))
      . simp [Aw] at f
    by_cases am:k=54
    . subst am;rw [Lr A6] at f;rcases l with _|⟨x,_|⟨y,_|⟨z,_|⟨v4,l⟩⟩⟩⟩
      . simp [Aw] at f
      . simp [Aw] at f
      . simp [Aw] at f
      . simp only [Aw,ke,Bool.and_true,and_true] at f;simp only [Aj,Bc] at F E;exact Zd n s x y z (C4 x E.1 (f.2.1)) (U.2 y Aa E.2.1 (f.2.2.1)) (C4 z E.2.2.1 (f.2.2.2))
      . simp [Aw] at f
    by_cases an:k=55
    . subst an;rw [Ls A6] at f;rcases l with _|⟨x,_|⟨v4,l⟩⟩
      . simp [Aw] at f
      . simp only [Aw,ke,Bool.and_true,and_true] at f;simp only [Aj,Bc] at F E;exact Ze n s x (U.2 x Aa E.1 (f.2))
      . simp [Aw] at f
    by_cases ao:k=56
    . subst ao;rw [Ev A6] at f;rcases l with _|⟨x,_|⟨y,_|⟨v4,l⟩⟩⟩
      . simp [Aw] at f
      . simp [Aw] at f
      . simp only [Aw,ke,Bool.and_true,and_true] at f;simp only [Aj,Bc] at F E;exact H7 56 n Aa s x y (C4 x E.1 (AY (f.2.1))) (C4 y E.2.1 (f.2.2))
      . simp [Aw] at f
    omega
  . rintro ⟨k,n,s,l⟩ F L f;simp only [Nd.wf,lR] at L F;obtain ⟨V,X,Y,Z,aa,M,E⟩:=L;simp only [Nd.isBlock,ke,Jk,lG] at f;exact bX k n s l M (fun x O=>U.1 x (by have:=EF O;omega) (BZ E x O) (f.2 x O))
def jF (t:Nd) (f:t.wf) (h:t.isStmt=true):PrintsD 146 Nd.stmtT t:=(SY (t.size+1)).1 t Aa f h
def Vx (t:Nd) (f:t.wf) (h:t.isBlock=true):PrintsD 101 Nd.linesT t:=(SY (t.size+1)).2 t Aa f h
def Cu (t:Nd) (f:t.wf) (h:t.isExpr=true):t.text.length<=30*t.size:=text_len (t.size+1) t Aa f h
def Xb (k:Int):(CY k).length<=12:=by
 unfold CY;by_cases f:k=44
 . rw [AH f];decide
 rw [At f];by_cases h:k=45
 . rw [AH h];decide
 rw [At h];by_cases c46:k=46
 . rw [AH c46];decide
 rw [At c46];by_cases E:k=47
 . rw [AH E];decide
 rw [At E];by_cases F:k=48
 . rw [AH F];decide
 rw [At F];by_cases L:k=49
 . rw [AH L];decide
 rw [At L];by_cases M:k=50
 . rw [AH M];decide
 rw [At M];by_cases c51:k=51
 . rw [AH c51];decide
 rw [At c51];by_cases N:k=52
 . rw [AH N];decide
 rw [At N];by_cases c53:k=53
 . rw [AH c53];decide
 rw [At c53];by_cases O:k=54
 . rw [AH O];decide
 rw [At O];by_cases U:k=55
 . rw [AH U];decide
 rw [At U];decide
def SZ (k:Int):(DF k).length<=3:=by
 unfold DF;split
 . decide
 . split
   . decide
   . have:=NV k;omega
def LE : ∀(l:List Nd) (q:Bool),Bc l->(∀x∈l,x.isExpr=true)->(DB q l).length<=32*Aj l
 | [],_,_,_=>by simp [DB,Aj]
 | x::r,q,f,h=>by
  simp only [Bc] at f;have h1:=Cu x f.1 (h x A6);have F:=LE r false f.2 (fun y E=>h y (by simp [E]));have L:=x.size_pos;simp only [DB,Aj,j9];split<;>simp<;>omega
def K2 (d:Nat) : ∀l:List Nd,(∀x∈l,(x.stmtT d).length+d+2<=4000100*x.size)->(BX l d).length<=4000100*Aj l
 | [],_=>by simp [BX,Aj]
 | x::r,h=>by
  have h1:=h x A6;have E:=K2 d r (fun y f=>h y (by simp [f]));simp only [BX,Aj,Du,j9,List.length_replicate,kf,ki];omega
def Zg (N:Nat):(∀(t:Nd) (d:Nat),t.size<N->t.wf->t.isStmt=true->d+t.size<=1000000->(t.stmtT d).length+d+2<=4000100*t.size)/\(∀(t:Nd) (d:Nat),t.size<N->t.wf->t.isBlock=true->d+t.size<=1000000->(t.linesT d).length+4000100<=4000100*t.size):=by
 induction N with
 | zero=>exact ⟨fun t _ h=>absurd h (Nat.not_lt_zero _),fun t _ h=>absurd h (Nat.not_lt_zero _)⟩
 | succ N Y=>
  refine ⟨?_,?_⟩
  . rintro ⟨k,n,s,l⟩ d F U f L;have hk:=K1 f;have ay:=Xb k;have az:=SZ k;simp only [Nd.wf,lR] at U F L ⊢;obtain ⟨ab,ac,ad,ae,af,ag,E⟩:=U;by_cases ah:k=40
    . subst ah;rw [Ev A6] at f;rcases l with _|⟨x,_|⟨y,_|⟨v4,l⟩⟩⟩
      . simp [Aw] at f
      . simp [Aw] at f
      . simp only [Aw,ke,Bool.and_true,and_true] at f;simp only [Aj,Bc] at F E L ⊢;have M:=x.size_pos;have O:=Cu x E.1 (AY (f.2.1));have Z:=y.size_pos;have ly:=Cu y E.2.1 (f.2.2);rw [Nd.stmtT.eq_def];simp only [Du];simp [-j9];simp only [j9,kf,ki,List.length_replicate];omega
      . simp [Aw] at f
    by_cases ai:k=41
    . subst ai;rw [Ev A6] at f;rcases l with _|⟨x,_|⟨y,_|⟨v4,l⟩⟩⟩
      . simp [Aw] at f
      . simp [Aw] at f
      . simp only [Aw,ke,Bool.and_true,and_true] at f;simp only [Aj,Bc] at F E L ⊢;have M:=x.size_pos;have O:=Cu x E.1 (AY (f.2.1));have Z:=y.size_pos;have ly:=Cu y E.2.1 (f.2.2);rw [Nd.stmtT.eq_def];simp only [Du];simp [-j9];simp only [j9,kf,ki,List.length_replicate];omega
      . simp [Aw] at f
    by_cases aj:k=42
    . subst aj;rw [Ev A6] at f;rcases l with _|⟨x,_|⟨y,_|⟨v4,l⟩⟩⟩
      . simp [Aw] at f
      . simp [Aw] at f
      . simp only [Aw,ke,Bool.and_true,and_true] at f;simp only [Aj,Bc] at F E L ⊢;have M:=x.size_pos;have O:=Cu x E.1 (AY (f.2.1));have Z:=y.size_pos;have ly:=Cu y E.2.1 (f.2.2);rw [Nd.stmtT.eq_def];simp only [Du];simp [-j9];simp only [j9,kf,ki,List.length_replicate];omega
      . simp [Aw] at f
    by_cases ak:k=43
    . subst ak;rw [Lq A6] at f;rcases l with _|⟨x,_|⟨y,_|⟨v4,l⟩⟩⟩
      . simp [Aw] at f
      . simp [Aw] at f
      . simp only [Aw,ke,Bool.and_true,and_true] at f;simp only [Aj,Bc] at F E L ⊢;have M:=x.size_pos;have O:=Cu x E.1 (AY (f.2.1));have Z:=y.size_pos;have ly:=Cu y E.2.1 (AY (f.2.2));rw [Nd.stmtT.eq_def];simp only [Du];simp [-j9];simp only [j9,kf,ki,List.length_replicate];omega
      . simp [Aw] at f
    by_cases al:k=44
    . subst al;rw [Hq A6] at f;rcases l with _|⟨x,_|⟨v4,l⟩⟩
      . simp [Aw] at f
      . simp only [Aw,ke,Bool.and_true,and_true] at f;simp only [Aj,Bc] at F E L ⊢;have M:=x.size_pos;have O:=Cu x E.1 (AY (f.2));simp only [named,ke] at f;have V:=De f.1.2;rw [Nd.stmtT.eq_def];simp only [Du];simp [-j9];simp only [j9,kf,ki,List.length_replicate];omega
      . simp [Aw] at f
    by_cases am:k=45
    . subst am;rw [Hq A6] at f;rcases l with _|⟨x,_|⟨v4,l⟩⟩
      . simp [Aw] at f
      . simp only [Aw,ke,Bool.and_true,and_true] at f;simp only [Aj,Bc] at F E L ⊢;have M:=x.size_pos;have O:=Cu x E.1 (AY (f.2));simp only [named,ke] at f;have V:=De f.1.2;rw [Nd.stmtT.eq_def];simp only [Du];simp [-j9];simp only [j9,kf,ki,List.length_replicate];omega
      . simp [Aw] at f
    by_cases c46:k=46
    . subst c46;rw [Ew A6] at f;rcases l with _|⟨x,_|⟨v4,l⟩⟩
      . simp [Aw] at f
      . simp only [Aw,ke,Bool.and_true,and_true] at f;simp only [Aj,Bc] at F E L ⊢;have M:=x.size_pos;have O:=Cu x E.1 (AY (f.2));rw [Nd.stmtT.eq_def];simp only [Du];simp [-j9];simp only [j9,kf,ki,List.length_replicate];omega
      . simp [Aw] at f
    by_cases an:k=47
    . subst an;rw [Ew A6] at f;rcases l with _|⟨x,_|⟨v4,l⟩⟩
      . simp [Aw] at f
      . simp only [Aw,ke,Bool.and_true,and_true] at f;simp only [Aj,Bc] at F E L ⊢;have M:=x.size_pos;have O:=Cu x E.1 (AY (f.2));rw [Nd.stmtT.eq_def];simp only [Du];simp [-j9];simp only [j9,kf,ki,List.length_replicate];omega
      . simp [Aw] at f
    by_cases ao:k=48
    . subst ao;rw [Ew A6] at f;rcases l with _|⟨x,_|⟨v4,l⟩⟩
      . simp [Aw] at f
      . simp only [Aw,ke,Bool.and_true,and_true] at f;simp only [Aj,Bc] at F E L ⊢;have M:=x.size_pos;have O:=Cu x E.1 (AY (f.2));rw [Nd.stmtT.eq_def];simp only [Du];simp [-j9];simp only [j9,kf,ki,List.length_replicate];omega
      . simp [Aw] at f
    by_cases ap:k=49
    . subst ap;rw [Ew A6] at f;rcases l with _|⟨x,_|⟨v4,l⟩⟩
      . simp [Aw] at f
      . simp only [Aw,ke,Bool.and_true,and_true] at f;simp only [Aj,Bc] at F E L ⊢;have M:=x.size_pos;have O:=Cu x E.1 (AY (f.2));rw [Nd.stmtT.eq_def];simp only [Du];simp [-j9];simp only [j9,kf,ki,List.length_replicate];omega
      . simp [Aw] at f
    by_cases aq:k=50
    . subst aq;rw [Hs A6] at f;simp only [ke,lG,named] at f;have V:=De f.1.1.2;have ar:=LE l true E (fun x X=>IE (f.2 x X));have aa:(Nd.mk 50 n s l).stmtT d=CY 50++s++[40]++DB true l++[41]:=by rw [Nd.stmtT.eq_def];simp
      rw [aa];simp only [j9,kf,ki];omega
    by_cases c51:k=51
    . subst c51;rw [Hs A6] at f;simp only [ke,lG,named] at f;have V:=De f.1.1.2;have ar:=LE l true E (fun x X=>IE (f.2 x X));have aa:(Nd.mk 51 n s l).stmtT d=CY 51++s++[40]++DB true l++[41]:=by rw [Nd.stmtT.eq_def];simp
      rw [aa];simp only [j9,kf,ki];omega
    by_cases au:k=52
    . subst au;rw [Hr A6] at f;rcases l with _|⟨x,_|⟨y,_|⟨z,_|⟨u,_|⟨v4,l⟩⟩⟩⟩⟩
      . simp [Aw] at f
      . simp [Aw] at f
      . simp [Aw] at f
      . simp [Aw] at f
      . simp only [Aw,ke,Bool.and_true,and_true] at f;simp only [Aj,Bc] at F E L ⊢;have M:=x.size_pos;have O:=Cu x E.1 (f.2.1);have Z:=y.size_pos;have ly:=Y.2 y (d+1) Aa E.2.1 (f.2.2.1) Aa;have zz:=z.size_pos;have lz:=Y.2 z (d+1) Aa E.2.2.1 (f.2.2.2.1) Aa;have zu:=u.size_pos;have lu:=Cu u E.2.2.2.1 (f.2.2.2.2);rw [Nd.stmtT.eq_def];simp only [Du];simp [-j9];simp only [j9,kf,ki,List.length_replicate];omega
      . simp [Aw] at f
    by_cases c53:k=53
    . subst c53;rw [Hr A6] at f;rcases l with _|⟨x,_|⟨y,_|⟨z,_|⟨u,_|⟨v4,l⟩⟩⟩⟩⟩
      . simp [Aw] at f
      . simp [Aw] at f
      . simp [Aw] at f
      . simp [Aw] at f
      . simp only [Aw,ke,Bool.and_true,and_true] at f;simp only [Aj,Bc] at F E L ⊢;have M:=x.size_pos;have O:=Cu x E.1 (f.2.1);have Z:=y.size_pos;have ly:=Y.2 y (d+1) Aa E.2.1 (f.2.2.1) Aa;have zz:=z.size_pos;have lz:=Y.2 z (d+1) Aa E.2.2.1 (f.2.2.2.1) Aa;have zu:=u.size_pos;have lu:=Cu u E.2.2.2.1 (f.2.2.2.2);rw [Nd.stmtT.eq_def];simp only [Du];simp [-j9];simp only [j9,kf,ki,List.length_replicate];omega
      . simp [Aw] at f
    by_cases av:k=54
    . subst av;rw [Lr A6] at f;rcases l with _|⟨x,_|⟨y,_|⟨z,_|⟨v4,l⟩⟩⟩⟩
      . simp [Aw] at f
      . simp [Aw] at f
      . simp [Aw] at f
      . simp only [Aw,ke,Bool.and_true,and_true] at f;simp only [Aj,Bc] at F E L ⊢;have M:=x.size_pos;have O:=Cu x E.1 (f.2.1);have Z:=y.size_pos;have ly:=Y.2 y (d+1) Aa E.2.1 (f.2.2.1) Aa;have zz:=z.size_pos;have lz:=Cu z E.2.2.1 (f.2.2.2);simp only [named,ke] at f;have V:=De f.1.2;rw [Nd.stmtT.eq_def];simp only [Du];simp [-j9];simp only [j9,kf,ki,List.length_replicate];omega
      . simp [Aw] at f
    by_cases aw:k=55
    . subst aw;rw [Ls A6] at f;rcases l with _|⟨x,_|⟨v4,l⟩⟩
      . simp [Aw] at f
      . simp only [Aw,ke,Bool.and_true,and_true] at f;simp only [Aj,Bc] at F E L ⊢;have M:=x.size_pos;have O:=Y.2 x (d+1) Aa E.1 (f.2) Aa;simp only [named,ke] at f;have V:=De f.1.2;rw [Nd.stmtT.eq_def];simp only [Du];simp [-j9];simp only [j9,kf,ki,List.length_replicate];omega
      . simp [Aw] at f
    by_cases ax:k=56
    . subst ax;rw [Ev A6] at f;rcases l with _|⟨x,_|⟨y,_|⟨v4,l⟩⟩⟩
      . simp [Aw] at f
      . simp [Aw] at f
      . simp only [Aw,ke,Bool.and_true,and_true] at f;simp only [Aj,Bc] at F E L ⊢;have M:=x.size_pos;have O:=Cu x E.1 (AY (f.2.1));have Z:=y.size_pos;have ly:=Cu y E.2.1 (f.2.2);rw [Nd.stmtT.eq_def];simp only [Du];simp [-j9];simp only [j9,kf,ki,List.length_replicate];omega
      . simp [Aw] at f
    omega
  . rintro ⟨k,n,s,l⟩ d F U f L;simp only [Nd.wf,lR] at U F L ⊢;obtain ⟨ab,ac,ad,ae,af,ag,E⟩:=U;simp only [Nd.isBlock,ke,Jk,lG] at f;have:=K2 d l (fun x X=>Y.1 x d (by have:=EF X;omega) (BZ E x X) (f.2 x X) (by have:=EF X;omega));simp only [Nd.linesT];omega
def Zh (t:Nd) (d:Nat) (f:t.wf) (h:t.isBlock=true) (E:d+t.size<=1000000):(t.linesT d).length+4000100<=4000100*t.size:=(Zg (t.size+1)).2 t d Aa f h E
def Kh {α:Type} (f:α->lB) (l:List α):lB:=(l.map f).flatten
def S0 {α:Type} (f:α->lB) (l:List α) (j:Nat) (h:j<l.length):Kh f (l.take (j+1))=Kh f (l.take j)++f l[j]:=by
 unfold Kh;rw [ky h];simp only [List.map_append,List.flatten_append,lr,List.map_nil,lg,List.flatten_nil,ll]
def Rb {α:Type} (f:α->lB) (l:List α) (j:Nat):(Kh f (l.take j)).length<=(Kh f l).length:=by
 have e:Kh f l=Kh f (l.take j)++Kh f (l.drop j):=by unfold Kh;rw [<-List.flatten_append,<-List.map_append,lf]
 rw [e,j9];omega
def CV {α:Type} (f:α->lB):Bool->List α->lB
 | _,[]=>[]
 | q,x::r=>(if q then [] else [44,32])++f x++CV f false r
def Kb {α:Type} (f:α->lB) : ∀(l m:List α) (q:Bool),CV f q (l++m)=CV f q l++CV f (q&&l.isEmpty) m
 | [],m,q=>by simp [CV]
 | x::r,m,q=>by simp [CV,Kb f r m false]
def S1 {α:Type} (f:α->lB) (l:List α) (j:Nat) (h:j<l.length):CV f true (l.take (j+1))=CV f true (l.take j)++((if j=0 then [] else [44,32])++f l[j]):=by
 rw [ky h,Kb];congr 1;cases j with
 | zero=>simp [CV]
 | succ j=>cases l with
  | nil=>simp at h
  | cons x r=>simp [CV]
def PN {α:Type} (f:α->lB) (l:List α) (j:Nat):(CV f true (l.take j)).length<=(CV f true l).length:=by
 have e:CV f true l=CV f true (l.take j)++CV f (true&&(l.take j).isEmpty) (l.drop j):=by rw [<-Kb,lf]
 rw [e,j9];omega
def VD.text (v:VD):lB:=if v.kind=1 then [105,110,116,32]++v.name else if v.kind=2 then [97,114,114,97,121,32]++v.name++[91]++Lib.itoa v.len++[93] else [115,116,97,99,107,32]++v.name
def VD.line (v:VD):lB:=v.text++[10]
def PD.text (p:PD):lB:=[112,114,111,99,32]++p.name++[40]++CV VD.text true p.params++[41,32,123,10]++p.body.linesT 1++[125,10]
def PG.text (g:PG):lB:=Kh VD.line g.vars++Kh PD.text g.procs++[109,97,105,110,32,123,10]++g.main.linesT 1++[125,10]
def Ut (n:Int) (f:1<=n) (h1:n<=16):(Lib.itoa n).length<=21:=Lib.itoa_length_le n Aa Aa
def VD.text_len (v:VD) (h:v.ok=true):v.text.length<=60:=by
 simp only [VD.ok,ke] at h;have h1:=De h.1;have f:=h.2;unfold VD.text;split
 . simp only [j9,kf,ki];omega
 . split
   . rename_i E c2;rw [At Aa,AH c2] at f;simp only [ke,decide_eq_true_eq] at f;have:=Ut v.len f.1 f.2;simp only [j9,kf,ki];omega
   . simp only [j9,kf,ki];omega
def Rc {α:Type} (f:α->lB) (B:Nat) : ∀(l:List α),(∀x∈l,(f x).length<=B)->(Kh f l).length<=l.length*B
 | [],_=>by simp [Kh]
 | x::r,h=>by
  have h1:=h x List.mem_cons_self;have F:=Rc f B r (fun y E=>h y (lx _ E));have e:Kh f (x::r)=f x++Kh f r:=by simp [Kh]
  rw [e,j9,kf,Nat.add_mul,Nat.one_mul];omega
def N2 {α:Type} (f:α->lB) (B:Nat) : ∀(l:List α) (q:Bool),(∀x∈l,(f x).length<=B)->(CV f q l).length<=l.length*(B+2)
 | [],q,_=>by simp [CV]
 | x::r,q,h=>by
  have h1:=h x List.mem_cons_self;have F:=N2 f B r false (fun y E=>h y (lx _ E));simp only [CV,j9,kf,Nat.add_mul,Nat.one_mul];split<;>simp<;>omega
mutual
def N3 : ∀(t:Nd) (d m:Int),0<=m->(t.lim d m).1=true->(t.size:Int)+(t.lim d m).2<=m
 | .mk _ _ s l,d,m,hm,h=>by
  simp only [Nd.lim] at h ⊢;split at h
  . simp at h
  . rename_i hn;rw [At hn];have:=Mk l (d-1) (m-1) Aa h;simp only [lR];omega
def Mk : ∀(l:List Nd) (d m:Int),0<=m->(Ct l d m).1=true->(Aj l:Int)+(Ct l d m).2<=m
 | [],d,m,hm,_=>by simp only [Ct,Aj];omega
 | t::r,d,m,hm,h=>by
  simp only [Ct] at h ⊢;split at h
  . rename_i ht;rw [AH ht];have h1:=N3 t d m hm ht;have h0:=J7 t d m hm;have h2:=Mk r d (t.lim d m).2 h0.1 h;simp only [Aj];omega
  . simp at h
end
def K3 (t:Nd) (f:t.wf) (h:D9 t=true):t.size<=2000/\t.isBlock=true/\(t.linesT 1).length<=8001000000:=by
 simp only [D9,ke] at h;have h1:=N3 t 80 2000 Aa h.1;have F:=J7 t 80 2000 Aa;have E:t.size<=2000:=by omega
 have:=Zh t 1 f h.2 Aa;exact ⟨E,h.2,Aa⟩
def PD.text_len (p:PD) (f:p.wf) (h:p.ok=true):p.text.length<=8002000000:=by
 simp only [PD.ok,ke,decide_eq_true_eq] at h;have h1:=De h.1.1.1;have L:=K3 p.body f.body h.2;have M:=N2 VD.text 60 p.params true (fun v E=>VD.text_len v (by have:=h.1.2;unfold Dd at this;exact lG.1 this v E));have F:=h.1.1.2;unfold PD.text;simp only [j9,kf,ki];have:p.params.length*62<=8*62:=Nat.mul_le_mul_right _ F;omega
def PG.text_len (g:PG) (f:g.wf) (h:g.ok=true):g.text.length<=1000000000000:=by
 simp only [PG.ok,ke,decide_eq_true_eq] at h;obtain ⟨⟨⟨⟨h1,L⟩,E⟩,M⟩,N⟩:=h;have U:=Rc VD.line 61 g.vars (fun v O=>by
  have:=VD.text_len v (by unfold Dd at E;exact lG.1 E v O);simp only [VD.line,j9,kf,ki];omega)
 have a2:=Rc PD.text 8002000000 g.procs (fun p F=>PD.text_len p (f.procs p F) (lG.1 M p F));have a3:=K3 g.main f.main N;have V:g.vars.length*61<=32*61:=Nat.mul_le_mul_right _ h1;have X:g.procs.length*8002000000<=64*8002000000:=Nat.mul_le_mul_right _ L;unfold PG.text;simp only [j9,kf,ki];omega
end Bk
namespace Bk
open Go Go.RowKit Go.Proofs
def Row.below {B:Nat} {w w':wD} {p:Addr} {vs:lV} (h:Row w p vs) (x:Below B w w') (f:p.block<B):Row w' p vs:=fun i v E=>by
 rw [Below.cell x (by rw [OT];exact f)];exact h i v E
def VDs.below {B:Nat} {w w':wD} {l:List VD} {a:oA} (h:VDs (· < B) w l a) (x:Below B w w'):VDs (· < B) w' l a:=h.mono aFh (fun _ _ _ _ f h=>Row.below h x f)
def sits.below {B:Nat} {w w':wD} {t:Nd} {a:oA} (h:t.sits (· < B) w a) (x:Below B w w'):t.sits (· < B) w' a:=
 Nd.sits_mono aFh (fun b o _ f E=>(Below.cell (p:=⟨b,o,none⟩) x f).trans E) t a h
def PDs.below {B:Nat} {w w':wD} {l:List PD} {a:oA} (h:PDs (· < B) w l a) (x:Below B w w'):PDs (· < B) w' l a:=
 h.mono aFh (fun _ _ _ _ f ⟨E,pc,ba,bc,h1,h2,h3⟩=>⟨E,pc,ba,bc,Row.below h1 x f,h2.below x,sits.below h3 x⟩)
def VDs.lt {S:nP} {w:wD} {l:List VD} {a:oA} (h:VDs S w l a):VDs (· < w.heap.size) w l a:=by
 rcases h with h|⟨b,o,h1,E,f⟩
 . exact kj h
 . cases l with
   | nil=>exact kj rfl
   | cons v r=>exact kp ⟨b,o,h1,CQ (Row.at0 (f 0 v rfl) rfl),f⟩
def PDs.lt {S:nP} {w:wD} {l:List PD} {a:oA} (h:PDs S w l a):PDs (· < w.heap.size) w l a:=by
 rcases h with h|⟨b,o,h1,X,E⟩
 . exact kj h
 . cases l with
   | nil=>exact kj rfl
   | cons v r=>
    obtain ⟨F,L,M,N,f,-,-⟩:=E 0 v rfl;refine kp ⟨b,o,h1,CQ (Row.at0 f rfl),fun i x O=>?_⟩;obtain ⟨F,L,M,N,f,U,V⟩:=E i x O;exact ⟨F,L,M,N,f,U.lt,MK _ _ V⟩
def PG.sits.lt {S:nP} {w:wD} {g:PG} {f E F:oA} (h:g.sits S w f E F):g.sits (· < w.heap.size) w f E F:=⟨h.vars.lt,h.procs.lt,MK _ _ h.main⟩
def TB.fb {w w':wD} {k B b:Nat} {vs:lV} {T:TypeId} (h:TB w k vs T) (x:Fb B b w w') (f:k≠b) (E:T≠5):TB w' k vs T:=
 (Box.fb (cs:=vs.toArray) ⟨h⟩ x f E).heap
def Bld.ofTB {w:wD} {B b:Nat} (h:TB w b [.pointer none,.slice none 0 0] 113) (f:B<=b):Bld B b [] w:=
 ⟨.inl ⟨f,.slice none 0 0,h,⟨rfl,.inl ⟨rfl,rfl⟩⟩,by simp [lp]⟩,by have:=h.blk.lt;omega⟩
def Uu (v:VD) (X:v.ok=true) (B b:Nat) (l:lB) (w:wD) (h:Bld B b l w) (ht:Tabs w) (hg:prog.globals.size<=B) (f:l.length+v.text.length<=140737488355328) :
 Calls prog 57 #[.pointer (some ⟨b,0,none⟩),v.val] w fun e w'=>e = .returned (.tuple #[])/\Bld B b (l++v.text) w'/\Fb B b w w':=by
 have M:=h.le;simp only [VD.ok,ke] at X;have Y:=X.2;refine Ae func57 ntmps57 rfl rfl ?_;refine eK ?_;refine Er rfl rfl rfl ?_;intro b1 w1 N t1;have h1:=N.blk;have Z:=N.ext;have O:=h.ext Z;by_cases c1:v.kind=1
 . have E:v.text=[105,110,116,32]++v.name:=by simp [VD.text,c1]
   rw [E] at f ⊢;refine eK ?_;refine Au (Da Ab C9 rfl rfl rfl rfl rfl rfl rfl rfl) rfl ?_ aFh;rintro _ w2 ⟨b2,rfl,F,U⟩;refine cC rfl (CC B b b2 2 l [[105,110,116,32],v.name] _ (O.ext F.ext) ⟨U⟩ A6 (by simpa using f)) ?_;rintro _ w3 ⟨⟨⟩,V,f3⟩;refine Ah (Ad ?_);exact Bt rfl ⟨rfl,by simpa using V,(Fb.of_ext (Z.trans F.ext) M).trans f3⟩
 by_cases c3:v.kind=3
 . have E:v.text=[115,116,97,99,107,32]++v.name:=by simp [VD.text,c3]
   rw [E] at f ⊢;refine eK ?_;refine Au (Da Ab C9 rfl rfl rfl rfl rfl rfl rfl rfl) rfl ?_ aFh;rintro _ w2 ⟨b2,rfl,F,U⟩;refine cC rfl (CC B b b2 2 l [[115,116,97,99,107,32],v.name] _ (O.ext F.ext) ⟨U⟩ A6 (by simpa using f)) ?_;rintro _ w3 ⟨⟨⟩,V,f3⟩;refine Ah (Ad ?_);exact Bt rfl ⟨rfl,by simpa using V,(Fb.of_ext (Z.trans F.ext) M).trans f3⟩
 by_cases c2:v.kind=2
 . have E:v.text=[97,114,114,97,121,32]++v.name++[91]++Lib.itoa v.len++[93]:=by simp [VD.text,c2]
   rw [E] at f ⊢;rw [At Aa,AH c2] at Y;simp only [ke,decide_eq_true_eq] at Y;obtain ⟨ad,ae⟩:=Y;refine Ah (Ai (Al (Ag (C1 Pf (C1 Lg (Ah (Ai (Ax (Al (Ag (C1 V1 ?_)))))))))));refine C1 Pa (Ah (Ai (TG (Al (Ag (C1 V1 (C1 Pa (Ah (Ai (TG (Al ?_)))))))))));refine Ag (C1 V1 (C1 Pa (Ah (Ai (TH ?_)))));refine ZY (fun w'=>Blk w' b1 v.cells) (.pure 0 (.pure 1 (.pure 2 (.pure 3 (.pure 4 (.fork 5 (.fork 6 (.fork 7 .done .none) .none) .none)))))) mixed BD (by refine Ak ?_;exact An) ?_;intro w2 x2 _;refine ⟨h1.ext x2,?_⟩;refine Ki rfl (by exact A0 rfl) rfl (Ki rfl (by exact E7 Ab rfl rfl rfl) rfl ?_);refine Ki rfl (by exact AA Ab rfl rfl rfl (by exact fun wz hz=>by (try subst hz);exact (Blk.cell Af (by rfl)))) rfl ?_;refine Ki rfl (by exact AK Ab rfl rfl rfl) rfl ?_;refine Ki rfl (by exact AA Ab rfl rfl rfl (by exact fun wz hz=>by (try subst hz);exact (Blk.cell Af (by rfl)))) rfl ?_;refine Qp rfl (By BD rfl (Y5 v.len Aa Aa _ (ht.ext (Z.trans x2) Aa)) (fun _ _ h=>⟨_,h.1⟩)) rfl ?_ aFh Qo;rintro _ w3 ⟨⟨⟩,x3⟩;refine ⟨(h1.ext x2).ext x3,?_⟩;refine Qp rfl (Da Ab C9 rfl rfl rfl rfl rfl rfl rfl rfl) rfl ?_ aFh Qo;rintro _ w4 ⟨b4,rfl,aa,ab⟩;have L:Ext w1 w4:=(x2.trans x3).trans aa.ext;refine ⟨h1.ext L,?_⟩;refine Qp rfl (By BD rfl (CC B b b4 5 l [[97,114,114,97,121,32],v.name,[91],Lib.itoa v.len,[93]] _ (O.ext L) ⟨ab⟩ A6 (by simpa [Nat.add_assoc] using f)) (fun _ _ h=>⟨_,h.1⟩)) rfl ?_ aFh Qo;rintro _ w5 ⟨⟨⟩,ac,f5⟩;refine ⟨(TB.fb (t1.ext L) f5 (by have:=N.pos;have:=h.lt;omega) Ao).blk,?_⟩;refine ZZ (Ad ?_)
   exact Bt rfl ⟨rfl,by simpa using ac,(Fb.of_ext (Z.trans L) M).trans f5⟩
 . rw [At Aa,At c2] at Y;cases Y
def PO (g:PG) (S:nP) (va:oA) (vc:Nat) (pa:oA) (pc:Nat) (ma:oA) (mc:Nat) (w:wD) (U:g.wf) (ht:Tabs w) (hg:prog.globals.size<=w.heap.size) (hs:g.sits S w va pa ma) :
 Calls prog 30 #[.agg (g.cells va vc pa pc ma mc).toArray] w fun e w'=>e = .returned (.tuple #[str (if g.ok then g.text else []),.int .i64 (if g.ok then 0 else 3)])/\Ext w w':=by
 have cm:=U.nv;have cn:=U.np;refine Ae func30 ntmps30 rfl rfl ?_;refine eK ?_;refine Er rfl rfl rfl ?_;intro b1 w1 am t1;have h1:=am.blk;have x1:=am.ext;refine C1 Pa (C1 Pa (Ah (Ai (Al (Al (Ag ?_))))));refine Ch (by exact BS Ab rfl rfl rfl (by exact fun wz hz=>by (try subst hz);exact (l8 Af)) (by rfl)) rfl ?_;refine cC rfl (Vt g S va vc pa pc ma mc _ U (hs.ext x1)) ?_;rintro _ w2 ⟨⟨⟩,x2⟩;cases hok:g.ok
 . try rw [hok]
   refine C1 Pt (Ah (Ai (FR rfl (by rfl) ?_)));refine eK ?_;refine CZ results30 rfl rfl ?_;exact ⟨rfl,x1.trans x2⟩
 try rw [hok]
 have a9:=PG.text_len g U hok;have HK:=kh hok;simp only [PG.ok,ke,decide_eq_true_eq] at hok;obtain ⟨⟨⟨⟨o1,o2⟩,o3⟩,o4⟩,o5⟩:=hok;obtain ⟨m1,m2,m3⟩:=K3 g.main U.main o5;have O3:=kh o3;clear o3;have O4:=kh o4;clear o4;simp only [PG.text,j9,kf,ki] at a9;have ax:=hs.lt;have ay:Ext w w2:=x1.trans x2;refine C1 Pt (Ah (Ai (F3 rfl (by rfl) ?_)));refine eK ?_;refine EV C9 rfl rfl ?_;intro f w3 ac t3;have bs:Bld w.heap.size f [] w3:=Bld.ofTB t3 (by have:=ac.pos;have:=ay.size;omega);have bt:Ext w w3:=ay.trans ac.ext;have bb:=(t1.ext x2).ext ac.ext;have az:b1≠f:=by have:=ac.pos;have:=(t1.ext x2).blk.lt;omega
 have co:=am.pos;have cp:=ac.pos;have cl:=ay.size;have cq:=bb.blk;generalize hB:w.heap.size=B at *;have HB:=kh hB;clear hB;have bu:Below B w w3:=HB.out▸bt;have bv:=Fb.refl B f w3;clear am ac t1 h1;refine eK ?_;refine AM (ι:=Nat) (fun j=>[(17,.int .i64 j),(16,.int .i64 g.vars.length),(15,.slice va g.vars.length vc),(4,.pointer (some ⟨f,0,none⟩)),(1,.pointer (some ⟨b1,0,none⟩))]) (fun j w'=>Fb B f w3 w'/\Bld B f (Kh VD.line (g.vars.take j)) w'/\j<=g.vars.length) (fun j=>g.vars.length-j) 0 sB ⟨bv,bs,Aa⟩ ?_;rintro j w4 ⟨f4,ae,hj⟩;have t4:=bb.fb f4 az Ao;have h4:=t4.blk;have y4:Below B w w4:=bu.trans f4.below;have bd:=Rb VD.line g.vars j;by_cases a0:j<g.vars.length
 . obtain ⟨kb,ko,rfl,-,L⟩:=mq (ax.vars.below y4) Aa;have rx:Row w4 ⟨kb,ko+j*3,none⟩ g.vars[j].cells:=L j g.vars[j] (kg a0);have an:g.vars[j].ok=true:=by have:=O3.out;unfold Dd at this;exact lG.1 this _ (kq a0)
   have M:=S0 VD.line g.vars j a0;have af:=Rb VD.line g.vars (j+1);rw [M] at af;simp only [VD.line,j9,kf,ki] at af M bd;have HC:=kh M;clear M L;generalize g.vars[j]=v at *;refine eK ?_;refine Hi C9 rfl rfl ?_;intro b5 w5 ag;refine Js Ab rfl rfl rfl rfl rfl rfl (ag) rfl ?_;clear ag w5;intro w5 ag;have h5:=ag.blk;have x5:=ag.ext;refine Ah (Ai (Al (Ag ?_)));refine Ch (by exact BS Ab rfl rfl rfl (by exact fun wz hz=>by (try subst hz);exact (l8 Af)) (by rfl)) rfl ?_;refine cC rfl (Uu v an B f _ _ (ae.ext x5) (ht.below (y4.trans (Below.mono x5 ae.le)) Aa) Aa (by simp only at *;omega)) ?_;rintro _ w6 ⟨⟨⟩,be,f6⟩;refine eK ?_;refine Au (Da Ab C9 rfl rfl rfl rfl rfl rfl rfl rfl) rfl ?_ aFh;rintro _ w7 ⟨b7,rfl,V,ao⟩;refine cC rfl (CC B f b7 1 _ [[10]] _ (be.ext V.ext) ⟨ao⟩ A6 (by simp only [lg,List.flatten_nil,j9,kf,ki] at *;omega)) ?_;rintro _ w8 ⟨⟨⟩,N,f8⟩;refine Ah (Ad (Ai (Ag (C1 V7 (C1 Mv (Ah ?_))))));refine Ay (j+1) sB ⟨(f4.trans (Fb.of_ext x5 ae.le)).trans (f6.trans ((Fb.of_ext V.ext be.le).trans f8)),?_,Aa⟩ Aa;rw [HC.out];simpa using N
 obtain rfl:j=g.vars.length:=by omega
 simp only [kE] at bd ae;clear hj;refine Al (Ag (C1 V3 (Ah (Ai (Al (E4 (DP (AQ (AQ (Bs (Ai ?_)))))))))));refine Al (Al (Ag (C1 Pf (C1 Lg (C1 Pz (C1 Mv (Ah (Ai (Ax ?_)))))))));have bw:=Fb.refl B f w4;have bx:=t4;refine AM (ι:=Nat) (fun j=>[(29,.int .i64 j),(28,.int .i64 g.procs.length),(27,.slice pa g.procs.length pc),(4,.pointer (some ⟨f,0,none⟩)),(1,.pointer (some ⟨b1,0,none⟩))]) (fun j w'=>Fb B f w4 w'/\Bld B f (Kh VD.line g.vars++Kh PD.text (g.procs.take j)) w'/\j<=g.procs.length) (fun j=>g.procs.length-j) 0 sB ⟨bw,by simpa [Kh] using ae,Aa⟩ ?_;rintro j w5 ⟨f5,X,hj⟩;have t5:=bx.fb f5 az Ao;have h5:=t5.blk;have y5:Below B w w5:=y4.trans f5.below;have bz:=Rb PD.text g.procs j;by_cases Z:j<g.procs.length
 . obtain ⟨kb,ko,rfl,-,L⟩:=mq (ax.procs.below y5) Aa;obtain ⟨qa,qc,ba,bc,rx,sv,sb⟩:=L j g.procs[j] (kg Z);have bf:g.procs[j].ok=true:=lG.1 O4.out _ (kq Z);have a1:=U.procs g.procs[j] (kq Z);have M:=S0 PD.text g.procs j Z;have af:=Rb PD.text g.procs (j+1);rw [M] at af;have HC:=kh M;clear M L;generalize g.procs[j]=p at *;simp only [PD.ok,ke,decide_eq_true_eq] at bf;obtain ⟨⟨⟨q1,q2⟩,q3⟩,q4⟩:=bf;obtain ⟨n1,n2,n3⟩:=K3 p.body a1.body q4;have cr:=a1.len;have Q3:=kh q3;clear q3;simp only [PD.text,j9,kf,ki] at af;refine eK ?_;refine EV C9 rfl rfl ?_;intro b6 w6 F t6;refine Hj Ab rfl rfl rfl rfl rfl rfl F t6 rfl ?_;clear F t6 w6;intro w6 F t6;have h6:=F.blk;have x6:=F.ext;have a2:b6≠f:=by have:=F.pos;have:=X.lt;omega
   refine eK ?_;refine Au (Da Ab C9 rfl rfl rfl rfl rfl rfl rfl rfl) rfl ?_ aFh;rintro _ w7 ⟨b7,rfl,V,ao⟩;refine cC rfl (CC B f b7 3 _ [[112,114,111,99,32],p.name,[40]] _ ((X.ext x6).ext V.ext) ⟨ao⟩ A6 (by simp only [lg,List.flatten_nil,j9,kf,ki];omega)) ?_;rintro _ w8 ⟨⟨⟩,N,f8⟩;have b0:Fb B f w5 w8:=(Fb.of_ext (x6.trans V.ext) X.le).trans f8;have t8:=(t6.ext V.ext).fb f8 a2 Ao;have h8:=t8.blk;have bg:Bld B f (Kh VD.line g.vars++Kh PD.text (g.procs.take j)++[112,114,111,99,32]++p.name++[40]) w8:=by simpa using N
   clear N V ao F;refine Ah (Ai (Al (Al (Ag (C1 Pf (C1 Lg (C1 Pz (C1 Mv (Ah (Ai (Ax ?_)))))))))));have b3:=Fb.refl B f w8;refine AM (ι:=Nat) (fun i=>[(40,.int .i64 i),(39,.int .i64 p.params.length),(38,.slice qa p.params.length qc),(29,.int .i64 j),(28,.int .i64 g.procs.length),(27,.slice (some ⟨kb,ko,none⟩) g.procs.length pc),(8,.pointer (some ⟨b6,0,none⟩)),(4,.pointer (some ⟨f,0,none⟩)),(1,.pointer (some ⟨b1,0,none⟩))]) (fun i w'=>Fb B f w8 w'/\Bld B f (Kh VD.line g.vars++Kh PD.text (g.procs.take j)++[112,114,111,99,32]++p.name++[40]++CV VD.text true (p.params.take i)) w'/\i<=p.params.length) (fun i=>p.params.length-i) 0 sB ⟨b3,by simpa [CV] using bg,Aa⟩ ?_;rintro i w9 ⟨f9,O,hi⟩;have t9:=t8.fb f9 a2 Ao;have h9:=t9.blk;have a3:Fb B f w5 w9:=b0.trans f9;have y9:Below B w w9:=y5.trans a3.below;have b4:=PN VD.text p.params i;by_cases ah:i<p.params.length
   . obtain ⟨vb,vo,rfl,-,au⟩:=mq (sv.below a3.below) Aa;have rv:Row w9 ⟨vb,vo+i*3,none⟩ p.params[i].cells:=au i p.params[i] (kg ah);have an:p.params[i].ok=true:=by have:=Q3.out;unfold Dd at this;exact lG.1 this _ (kq ah)
     have a4:=S1 VD.text p.params i ah;have a5:=PN VD.text p.params (i+1);rw [a4] at a5;have HM:=kh a4;clear a4 au;generalize p.params[i]=v at *;refine eK ?_;refine EV C9 rfl rfl ?_;intro a6 Y h ap;refine C1 Pa (Hj Ab rfl rfl rfl rfl rfl rfl h ap rfl ?_);clear h ap Y;intro Y h ap;have ct:=h.blk;have aq:=h.ext;have bh:a6≠f:=by have:=h.pos;have:=O.lt;omega
     have E:=O.ext aq;have ar:Below B w Y:=y9.trans (Below.mono aq O.le);by_cases a7:i=0
     . subst a7;simp only [if_true,j9,ki] at a5;refine Ah (Ai (Al (Al (Ag (C1 Mv (C1 V5 (Ah (Ai (E4 (Av (Ai ?_)))))))))));refine Ag ?_;refine Ch (by exact BS Ab rfl rfl rfl (by exact fun wz hz=>by (try subst hz);exact (l8 Af)) (by rfl)) rfl ?_;refine cC rfl (Uu v an B f _ _ E (ht.below ar Aa) Aa (by simp only [j9,kf,ki];omega)) ?_;rintro _ ai ⟨⟨⟩,aj,ad⟩;refine Ah (Ad (Ai (Ag (C1 V7 (C1 Mv (Ah ?_))))));refine Ay (1:Nat) sB ⟨f9.trans ((Fb.of_ext aq O.le).trans ad),?_,Aa⟩ (by simp;omega);rw [HM.out];simpa using aj
     . simp only [At a7,j9,kf,ki] at a5;refine eK ?_;refine Au (Da Ab C9 rfl rfl rfl rfl rfl rfl rfl rfl) rfl ?_ aFh;rintro _ ai ⟨b8,rfl,aa,bi⟩;refine cC rfl (CC B f b8 1 _ [[44,32]] _ (E.ext aa.ext) ⟨bi⟩ A6 (by simp only [lg,List.flatten_nil,j9,kf,ki];omega)) ?_;rintro _ bj ⟨⟨⟩,ab,ak⟩;have ca:=(ap.ext aa.ext).fb ak bh Ao;have cu:=ca.blk;have cb:Below B w bj:=ar.trans ((Below.mono aa.ext E.le).trans ak.below);refine Ah (Ai (Ag ?_));refine Ch (by exact BS Ab rfl rfl rfl (by exact fun wz hz=>by (try subst hz);exact (l8 Af)) (by rfl)) rfl ?_;refine cC rfl (Uu v an B f _ _ ab (ht.below cb Aa) Aa (by simp only [lg,List.flatten_nil,j9,kf,ki];omega)) ?_;rintro _ cc ⟨⟨⟩,bk,cd⟩;refine Ah (Ad (Ai (Ag (C1 V7 (C1 Mv (Ah ?_))))));refine Ay (i+1) sB ⟨f9.trans ((Fb.of_ext aq O.le).trans ((Fb.of_ext aa.ext E.le).trans (ak.trans cd))),?_,Aa⟩ Aa;rw [HM.out];simpa [a7] using bk
   . obtain rfl:i=p.params.length:=by omega
     simp only [kE] at b4 O;refine eK ?_;refine Au (Da Ab C9 rfl rfl rfl rfl rfl rfl rfl rfl) rfl ?_ aFh;rintro _ Y ⟨a6,rfl,h,bm⟩;refine cC rfl (CC B f a6 1 _ [[41]] _ (O.ext h.ext) ⟨bm⟩ A6 (by simp only [lg,List.flatten_nil,j9,kf,ki];omega)) ?_;rintro _ ai ⟨⟨⟩,aj,ad⟩;have ce:=(t9.ext h.ext).fb ad a2 Ao;have cv:=ce.blk;have al:Fb B f w5 ai:=a3.trans ((Fb.of_ext h.ext O.le).trans ad);have cf:Below B w ai:=y5.trans al.below;have a8:=Cg p.body 0;simp only [Nat.zero_add] at a8;refine Ah (Ai (Al (Ag (C1 Pf ?_))));refine Ch (by exact D2 Ab rfl rfl rfl (by exact fun wz hz=>by (try subst hz);assumption) (by rfl)) rfl ?_;refine cC rfl (NZ p.body (Vx p.body a1.body n2) B f _ _ ba bc 0 aj (ht.below cf Aa) Aa (sits.below sb al.below) Aa (by simp only [lg,List.flatten_nil,j9,kf,ki] at *;omega)) ?_;rintro _ bj ⟨⟨⟩,ab,ak⟩;refine eK ?_;refine Au (Da Ab C9 rfl rfl rfl rfl rfl rfl rfl rfl) rfl ?_ aFh;rintro _ cc ⟨cg,rfl,av,bn⟩;refine cC rfl (CC B f cg 1 _ [[10]] _ (ab.ext av.ext) ⟨bn⟩ A6 (by simp only [lg,List.flatten_nil,j9,kf,ki] at *;omega)) ?_;rintro _ cw ⟨⟨⟩,bo,ch⟩;refine Ah (Ad (Ai (Ag (C1 V7 (C1 Mv (Ah ?_))))));refine Ay (j+1) sB ⟨f5.trans (al.trans (ak.trans ((Fb.of_ext av.ext ab.le).trans ch))),?_,Aa⟩ Aa;rw [HC.out]
     simpa [PD.text,BL,Du] using bo
 . obtain rfl:j=g.procs.length:=by omega
   simp only [kE] at bz X;refine eK ?_;refine Au (Da Ab C9 rfl rfl rfl rfl rfl rfl rfl rfl) rfl ?_ aFh;rintro _ w6 ⟨b6,rfl,F,ci⟩;refine cC rfl (CC B f b6 1 _ [[109,97,105,110]] _ (X.ext F.ext) ⟨ci⟩ A6 (by simp only [lg,List.flatten_nil,j9,kf,ki];omega)) ?_;rintro _ w7 ⟨⟨⟩,bp,f7⟩;have bq:Fb B f w5 w7:=(Fb.of_ext F.ext X.le).trans f7;have t7:=t5.fb bq az Ao;have h7:=t7.blk;have y7:Below B w w7:=y5.trans bq.below;have a8:=Cg g.main 0;simp only [Nat.zero_add] at a8;refine Ah (Ai (Al (Ag (C1 Pf ?_))));refine Ch (by exact D2 Ab rfl rfl rfl (by exact fun wz hz=>by (try subst hz);assumption) (by rfl)) rfl ?_;refine cC rfl (NZ g.main (Vx g.main U.main m2) B f _ _ ma mc 0 bp (ht.below y7 Aa) Aa (sits.below ax.main y7) Aa (by simp only [lg,List.flatten_nil,j9,kf,ki] at *;omega)) ?_;rintro _ w8 ⟨⟨⟩,N,f8⟩;refine eK ?_;refine Au (Da Ab C9 rfl rfl rfl rfl rfl rfl rfl rfl) rfl ?_ aFh;rintro _ w9 ⟨b9,rfl,br,cj⟩;refine cC rfl (CC B f b9 1 _ [[10]] _ (N.ext br.ext) ⟨cj⟩ A6 (by simp only [lg,List.flatten_nil,j9,kf,ki] at *;omega)) ?_;rintro _ Y ⟨⟨⟩,E,ck⟩;have ar:Below B w Y:=y7.trans (f8.below.trans ((Below.mono br.ext N.le).trans ck.below))
   have aw:Bld B f g.text Y:=by simpa [PG.text,BL,Du] using E
   clear E N bp X;refine eK ?_;refine cC rfl (NT 113 B f g.text _ aw.is aw.le) ?_;rintro _ ai ⟨⟨⟩,-,ad⟩;refine eK ?_;refine CZ results30 rfl rfl ?_;refine ⟨rfl,?_⟩;unfold Ext;rw [HB.out];exact ar.trans ad.below
def EX.text (e:EX):lB:=H4 e (Lib.countByte e.g.text 10:Nat)++e.g.text
def BF (l:List EX):lB:=l.flatMap EX.text
def JK (l:List EX):Prop:= ∃i,i<l.length /\ ∃e,l[i]? = some e/\GR (l.take i) e.name=true
open Classical in
noncomputable def EC (l:List EX):lB×Int:=
 if 100<l.length then ([],5) else if ¬ ∀e∈l,e.valid then ([],3) else if JK l then ([],22) else if 65536<(BF l).length then ([],5) else (BF l,0)
def Ml {l:List EX} (h:100<l.length):EC l=([],5):=by unfold EC;rw [AH h]
def N4 {l:List EX} (h : ¬ 100<l.length) (e:EX) (f:e∈l) (E : ¬e.valid):EC l=([],3):=by
 unfold EC;rw [At h,AH (fun h=>E (h e f))]
def N5 {l:List EX} (h : ¬ 100<l.length) (f : ∀e∈l,e.valid) (E:JK l):EC l=([],22):=by
 unfold EC;rw [At h,At (fun h=>h f),AH E]
def K4 {l:List EX} (h : ¬ 100<l.length) (f : ∀e∈l,e.valid) (E : ¬JK l) (F:65536<(BF l).length):EC l=([],5):=by
 unfold EC;rw [At h,At (fun h=>h f),At E,AH F]
def LF {l:List EX} (h : ¬ 100<l.length) (f : ∀e∈l,e.valid) (E : ¬JK l) (F : ¬ 65536<(BF l).length):EC l=(BF l,0):=by
 unfold EC;rw [At h,At (fun h=>h f),At E,At F]
def Kc {vs:List VD} {b:BoxV} (h:(G9 vs b).2=0):b.ok:=by
 unfold G9 at h;split at h
 . rename_i h1;exact h1.1
 . cases h
def EX.valid_rng {e:EX} (h:e.valid):e.rng:=by
 obtain ⟨⟨-,h1,F⟩,-,-,f,-⟩:=h;have E:=Kc f;unfold BoxV.ok at E;exact ⟨Aa,Aa,Aa,Aa,Aa⟩
def EX.valid_name {e:EX} (h:e.valid):e.name.length<=16:=De h.1.1
def Xc (e:EX) (n:Int) (h:e.rng) (E:0<=n/\n<=9223372036854775807):(H4 e n).length<=e.name.length+1000:=by
 have h1:=LD (FW e n) (fun p f=>⟨NQ e n p f,LC e n h E p f⟩);have F:=NR (FW e n);rw [PK] at h1 F;unfold H4 Ec;generalize (FW e n).flatMap (fun p=>[p.1,Lib.itoa p.2])=r at *;rw [j9,kD,Lib.join_length];unfold Lib.lens at h1 ⊢;simp only [kD,lk,kf,ki,lr,List.sum_cons];omega
def H9 (s:lB):Lib.countByte s 10<=s.length:=by
 unfold Lib.countByte
 first|exact List.countP_le_length|exact List.count_le_length|simpa using List.countP_le_length
def EX.text_le {e:EX} (f:e.wf) (h:e.valid):e.text.length<=1000000002000:=by
 have h1:=PG.text_len e.g f.g h.2.1.1;have E:=H9 e.g.text;have F:=Xc e (Lib.countByte e.g.text 10:Nat) (EX.valid_rng h) ⟨Aa,Aa⟩;have L:=EX.valid_name h;unfold EX.text;rw [j9];omega
def Xd {l:List EX} {j:Nat} (h:j<l.length):BF (l.take (j+1))=BF (l.take j)++l[j].text:=by
 unfold BF;rw [ky h,List.flatMap_append];simp
def cB {l:List EX} {j:Nat}:(BF (l.take j)).length<=(BF l).length:=by
 conv=>rhs;rw [<-lf j l]
 unfold BF;rw [List.flatMap_append,j9];omega
def gJ (b:Nat) (l:lB) (H:Nat) (w:wD) (h:BdF w b l H) :
 Calls prog 34 #[.pointer (some ⟨b,0,none⟩)] w fun e w'=>e = .returned (.int .i64 l.length)/\w'=w:=
 (Tryz.Builder_Len_f b b (Lib.byteCells l) w h.is).mono fun e w' ⟨h1,h2⟩=>⟨by rw [h1,Lib.byteCells_length],h2⟩
attribute [local irreducible] Go.Calls
def cD {w:wD} {b:Nat} (h:TB w b [.pointer none,.slice none 0 0] 69):BdF w b [] w.heap.size:=by
 refine Y8 (kj ⟨kv _,.slice none 0 0,h,⟨by simp [Lib.byteCells],kj ⟨rfl,rfl⟩⟩,by simp [lp]⟩)
set_option maxHeartbeats 8000000 in
def PQ (l:List EX) (hw : ∀e∈l,e.wf) (S:nP) (a:oA) (c:Nat) (hl:l.length<=1000000) (hc:l.length<=c) (w:wD) (f:EXs S w l a) (E:TabsF w) :
 Calls prog 15 #[.slice a l.length c] w fun r w'=>r = .returned (.tuple #[str (EC l).1,.int .i64 (EC l).2])/\Ext w w':=by
 have X:=lN w;have f:=f.ltA;have ca:=E.g;have HW:=kh hw;clear hw;by_cases aa:100<l.length
 . rw [Ml aa];refine Ae func15 ntmps15 rfl rfl ?_;refine eK ?_;refine xT ?_;all_goals exact ⟨rfl,X⟩
 have cb:l.length<=100:=by omega
 have HB:=kh (fun e he Z=>N4 aa e he Z);have HD:=kh (fun Z hd=>N5 aa Z hd);have HG:=kh (fun Z hd hc=>K4 aa Z hd hc);have HO:=kh (fun Z hd hc=>LF aa Z hd hc);refine Ae func15 ntmps15 rfl rfl ?_;refine cS (C1 Pa (C1 Pa (cT (Al (cS (C1 Mv (C1 Pz (C1 V5 (cT (E4 (Av ?_)))))))))));refine Ai (Al (cS (C1 Mv (C1 Pz (C1 Mv (cT ?_))))));refine Ax ?_;refine AM (ι:=Nat) (fun j=>[(0,.slice a l.length c),(16,.slice a l.length c),(17,.int .i64 l.length),(18,.int .i64 j)])
  (fun j w'=>j<=l.length/\(∀e∈l.take j,e.valid)/\EXs (· < w.heap.size) w' l a/\TabsF w'/\Ext w w') (fun j=>l.length-j) 0 sB ⟨kC _,(fun e he=>by simp at he),f,E,X⟩ ?_
 clear f E X;rintro j w1 ⟨hj,hq,f,E,X⟩;have hz:=X.size;have HQ:=kh hq;clear hq;by_cases U:j<l.length
 . obtain ⟨kb,ko,rfl,-,hk⟩:=mq f Aa;obtain ⟨va,vc,pa,pc,ma,mc,M,L⟩:=hk j _ (kg U);have hm:=kq U;have ac:=HW.out _ hm;have hn:l[j].valid -> ∀e∈l.take (j+1),e.valid:=fun h e he=>by
    rw [ky U,List.mem_append,lM] at he;rcases he with he|rfl
    . exact HQ.out e he
    . exact h
   have F:=HB.out l[j] hm;clear hk hm;generalize l[j]=e at *;have HV:=kh (fun w1 h=>LB e ac (· < w.heap.size) va vc pa pc ma mc w1 h);clear ac;by_cases Z:e.valid
   . rw [decide_eq_true Z] at HV;have HN:=kh (hn Z);clear hn Z F;unfold EX.cells at M HV;refine eK ?_;refine xA [_,_,_,_,_,_,_,_,_,_,_,_] ?_;intro cc cd ba;refine eI [_,_,_,_,_,_,_,_,_,_,_,_] ba ?_;intro ce ap bb cf cg;revert E X f M L;refine eE bb ?_;intro E X f M L;refine cN (BG [_,_,_,_,_,_,_,_,_,_,_,_] Ab rfl rfl rfl ap rfl rfl rfl (cC rfl (HV.out _ Af) ?_));rintro _ br ⟨⟨⟩,bc⟩;revert ap E X f M L;refine eY bc ?_;intro bs ap E X f M L;refine C1 Pt (cT (CT rfl (Av (Ad (Ai (Ag (C1 V7 (C1 Mv (Ah ?_)))))))));exact Ay (j+1) sB ⟨Aa,HN.out,Af,Af,X⟩ Aa
   . rw [decide_eq_false Z] at HV;rw [F Z];clear hn Z F;unfold EX.cells at M HV;refine eK ?_;refine xA [_,_,_,_,_,_,_,_,_,_,_,_] ?_;intro ch ci bd;refine eI [_,_,_,_,_,_,_,_,_,_,_,_] bd ?_;intro cj aq be ck cl;revert E X f M L;refine eE be ?_;intro E X f M L;refine cN (BG [_,_,_,_,_,_,_,_,_,_,_,_] Ab rfl rfl rfl aq rfl rfl rfl (cC rfl (HV.out _ Af) ?_));rintro _ bt ⟨⟨⟩,bf⟩;revert aq E X f M L;refine eY bf ?_;intro bu aq E X f M L;refine eK ?_;refine xT ?_;exact ⟨rfl,X⟩
 obtain rfl:j=l.length:=by omega
 have ak : ∀e∈l,e.valid:=by have:=HQ.out;rwa [kE] at this
 clear HQ HB;have HA:=kh ak;clear ak;refine cS (C1 V3 (cT (Al (E4 (DP (AQ (AQ (Bs (Ai (Al (cS ?_)))))))))));refine C1 Mv (C1 Pz (C1 Mv (cT ?_)));refine Ax ?_;refine AM (ι:=Nat) (fun j=>[(0,.slice a l.length c),(26,.slice a l.length c),(27,.int .i64 l.length),(28,.int .i64 j)])
  (fun j w'=>j<=l.length/\(∀i,i<j -> ∀e,l[i]? = some e->GR (l.take i) e.name=false)/\EXs (· < w.heap.size) w' l a/\TabsF w'/\Ext w w') (fun j=>l.length-j) 0 sB ⟨kC _,(fun i h=>absurd h Aa),f,E,X⟩ ?_
 clear f E X;rintro j w2 ⟨hj,hq,f,E,X⟩;have cm:=X.size;have HQ:=kh hq;clear hq;by_cases U:j<l.length
 . obtain ⟨kb,ko,rfl,-,hk⟩:=mq f Aa;obtain ⟨va,vc,pa,pc,ma,mc,M,L⟩:=hk j _ (kg U);have HH:Hid (∀s w1,EXs (· < w.heap.size) w1 l (some ⟨kb,ko,none⟩)->Calls prog 29 #[.slice (some ⟨kb,ko,none⟩) j c,str s] w1 fun r w'=>r = .returned (.bool (GR (l.take j) s))/\Ext w1 w'):=kh fun s w1 h=>by
    have:=eJ (l.take j) (by rw [kU];omega) s _ _ c w1 (h.take j);rwa [kU,Nat.min_eq_left hj] at this
   have hn:GR (l.take j) l[j].name=false -> ∀i,i<j+1 -> ∀e,l[i]? = some e->GR (l.take i) e.name=false:=fun h i hi e he=>by
    rcases kK i j with h1|h1
    . exact HQ.out i h1 e he
    . obtain rfl:i=j:=by omega
      rw [kg U] at he;rw [<-kG he];exact h
   have hd:GR (l.take j) l[j].name=true->JK l:=fun h=>⟨j,U,_,kg U,h⟩
   clear hk;generalize l[j]=e at *;unfold EX.cells at M;have HH:=kh (HH.out e.name);generalize GR (l.take j) e.name=q at *;generalize e.name=t at *
   focus
    refine eK ?_;refine eA [_,_,_,_,_,_,_,_,_,_,_,_] ?_;intro cn co bg bh cp cq;revert E X f L M;refine eE bh ?_;intro E X f L M;refine C1 Pa (eS [_,_,_,_,_,_,_,_,_,_,_,_] bg ?_);intro av ab al bv;revert E X f L;refine eF al ?_;intro E X f L;clear M al;refine eK ?_;refine AE (fun wz=>Ext av wz) 5 (.pure 0 (.pure 1 (.pure 2 (.pure 3 (.pure 4 .tail))))) mixed BD (Ac (Ak (Ac (Ac (Ak (Ac An)))))) ?_;intro aw am _;have ad:(fun wz=>Ext av wz) aw:=am;simp only at ad;have ag:=ab;have ax:=E;have ay:=f;have az:=L;revert ab E X f L;refine eY am ?_;intro bw ab E X f L;refine ⟨ad,?_⟩;refine Tq rfl Mv (Tq rfl Mv (Tq rfl (JA Ab rfl rfl rfl rfl rfl Aa) (Tq rfl Pg (Tq rfl (Db ag) ?_))));refine AI rfl (cC rfl (HH.out _ Af) ?_);rintro _ bx ⟨⟨⟩,a0⟩;revert ab E X f L;refine eY a0 ?_;intro bz ab E X f L;refine cT ?_;refine E6 rfl (fun a1=>?_) (fun a1=>?_);refine eK ?_;refine xT ?_;rotate_left;refine Av (Ad (Ai (Ag (C1 V7 (C1 Mv (Ah ?_))))));rotate_left
   . rw [HD.out HA.out (hd Af)];exact ⟨rfl,X⟩
   . exact Ay (j+1) sB ⟨Aa,hn Af,Af,Af,X⟩ Aa
 obtain rfl:j=l.length:=by omega
 have a2 : ¬JK l:=fun ⟨i,hi,e,he,h⟩=>by rw [HQ.out i hi e he] at h;cases h
 clear HQ HD;have HN:=kh a2;clear a2;refine eK ?_;refine EV C9 rfl rfl ?_;intro ah bi ar bj;have bk:=ar.ext;have cr:=ar.pos;have ct:=ar.size;revert f E X;refine eE bk ?_;intro f E X;refine cT (Al (cS (C1 Mv (C1 Pz (C1 Mv (cT ?_))))));have F:=cD bj;refine Ax ?_;refine AM (ι:=Nat×Nat) (fun y=>[(8,.pointer (some ⟨ah,0,none⟩)),(40,.slice a l.length c),(41,.int .i64 l.length),(42,.int .i64 y.1)])
  (fun y w'=>y.1<=l.length/\BdF w' ah (BF (l.take y.1)) y.2/\y.2<=w'.heap.size/\(BF (l.take y.1)).length<=65536/\EXs (· < w.heap.size) w' l a/\TabsF w'/\Ext w w'/\ah<w'.heap.size) (fun y=>l.length-y.1) (0,bi.heap.size) sB ⟨kC _,F,kv _,by simp [BF],f,E,X,Aa⟩ ?_
 clear F f E X;rintro ⟨j,H⟩ w3 ⟨hj,F,hH,a3,f,E,X,cu⟩;simp only at hj F hH a3;have cv:=X.size;have cw:=E.g;refine CW.sub (m:=[(8,.pointer (some ⟨ah,0,none⟩)),(40,.slice a l.length c),(41,.int .i64 l.length),(42,.int .i64 j)]) ?_ sB;by_cases U:j<l.length
 . obtain ⟨kb,ko,rfl,-,hk⟩:=mq f Aa;obtain ⟨va,vc,pa,pc,ma,mc,M,L⟩:=hk j _ (kg U);have hm:=kq U;have Z:=HA.out _ hm;have ac:=HW.out _ hm;have ai:=Xd U;have a4:(BF (l.take (j+1))).length<=(BF l).length:=cB;clear hk hm;generalize l[j]=e at *;have a5:=EX.text_le ac Z;have HP:=kh (fun (w1:wD) (h1:TabsF w1) h2=>PO e.g (· < w.heap.size) va vc pa pc ma mc w1 ac.g h1.t h1.g h2);have aj:e.g.ok=true:=Z.2.1.1;rw [AH aj,AH aj] at HP;have cx:=H9 e.g.text;have cy:=PG.text_len e.g ac.g aj;have Y:=L.g;have HH:=kh (fun w1 h=>Y0 e (Lib.countByte e.g.text 10:Nat) (EX.valid_rng Z) ⟨Aa,Aa⟩ (by have:=EX.valid_name Z;omega) va vc pa pc ma mc w1 h);rw [ai] at a4;unfold EX.text at a4 a5 ai;clear aj Z ac;generalize H4 e (Lib.countByte e.g.text 10:Nat)=hd at *;generalize BF (l.take j)=a6 at *;unfold EX.cells at M HH;generalize e.g.text=tx at *;have cz:hd.length+tx.length<=1000000002000:=by rw [<-j9];exact a5
   have bm:a6.length+(hd++tx).length<=140737488355328:=by omega
   focus
    refine eK ?_;refine EV C9 rfl rfl ?_;intro c0 c1 ae V;refine Hj Ab rfl rfl rfl rfl rfl rfl ae V rfl ?_;intro c2 ae V;have bn:=ae.ext;have c3:=ae.pos;have c4:=ae.size;revert E X f M L Y F;refine eE bn ?_;intro E X f M L Y F;refine eK ?_;refine BG [_,_,_,_,_,_] Ab rfl rfl rfl (mg V) rfl rfl rfl (cC rfl (HP.out _ Af Af) ?_);rintro _ an ⟨⟨⟩,bo⟩;revert V E X f M L Y F;refine eY bo ?_;intro b0 V E X f M L Y F;refine eK ?_;refine AE (fun wz=>Ext an wz) 5 (.pure 0 (.pure 1 (.pure 4 (.fork 2 (.fork 3 .tail .none) .none)))) mixed BD (Ac (Ak (Ac (Ac (Ak (Ac An)))))) ?_;intro a7 ao _;have N:(fun wz=>Ext an wz) a7:=ao;simp only at N;have au:=V;have ax:=E;have ay:=f;have b1:=M;have az:=L;have bp:=Y;have bq:=F;revert V E X f M L Y F;refine eY ao ?_;intro b2 V E X f M L Y F;refine ⟨N,?_⟩;refine Tq rfl (xL [_,_,_,_,_,_,_,_,_,_,_,_] (fun wz hz=>(Blk.ext (mg au) hz))) (Tq rfl Mv (Tq rfl Mv ?_));refine tC rfl rfl (PL _ _) ?_;rintro _ b3 ⟨⟨⟩,rfl⟩;refine ⟨N,?_⟩;refine tC rfl rfl (HH.out _ Af) ?_;rintro _ b4 ⟨⟨⟩,a8⟩;revert N V E X f M L Y F;refine eY a8 ?_;intro b5 N V E X f M L Y F;refine ⟨N,?_⟩;refine AI rfl (C1 (Rr rfl rfl Aa) (cC rfl (Y9 _ _ _ _ _ Af bm) ?_));rintro _ b6 ⟨⟨⟩,⟨b7,O⟩⟩;have b8:=O.size;have V:=TB.fr V O (fun e=>e.elim (fun e=>by omega) (fun e=>bW Af Ao e.2));have E:=TabsF.fr E O (fun k hk=>hk.elim (fun e=>by omega) (fun e=>by have:=e.1;omega));have X:=Ext.fr X O (fun k hk=>hk.elim (fun e=>by omega) (fun e=>by have:=e.1;omega));have f:=EXs.fr f O (fun b hb hT=>hT.elim (fun e=>by (try dsimp only at hb);omega) (fun e=>by have:=e.1;(try dsimp only at hb);omega));clear M;have L:=EX.sits.fr L O (fun b hb hT=>hT.elim (fun e=>by (try dsimp only at hb);omega) (fun e=>by have:=e.1;(try dsimp only at hb);omega));have Y:=PG.sits.fr Y O (fun b hb hT=>hT.elim (fun e=>by (try dsimp only at hb);omega) (fun e=>by have:=e.1;(try dsimp only at hb);omega));clear F O;refine cN (cC rfl (gJ _ _ _ _ Af) ?_);rintro _ b9 ⟨⟨⟩,rfl⟩;refine eK ?_
    refine AF rfl (fun a9=>?_) (fun a9=>?_);refine eK ?_;refine xT ?_;rotate_left;refine Av (Ad (Ai (Ag (C1 V7 (C1 Mv (Ah ?_))))));rotate_left
   . rw [HG.out HA.out HN.out Aa];exact ⟨rfl,X⟩
   . exact Ay (j+1,_) sB ⟨by (try dsimp only);omega,by dsimp only;rw [ai];assumption,kv _,by dsimp only;rw [ai];omega,Af,Af,X,Aa⟩ (by (try dsimp only);omega)
 obtain rfl:j=l.length:=by omega
 rw [kE] at F a3;rw [HO.out HA.out HN.out Aa];clear HO HG HA HN;generalize BF l=a6 at *;refine eK ?_;refine cC rfl (W9 _ _ _ _ Af) ?_;rintro _ c5 ⟨⟨⟩,af⟩;have c6:=af.size;have f:=f.fr af Aa;have E:=TabsF.fr E af (fun k hk=>hk.elim (fun e=>by omega) (fun e=>by have:=e.1;omega));have X:=Ext.fr X af (fun k hk=>hk.elim (fun e=>by omega) (fun e=>by have:=e.1;omega));clear F af;refine eK ?_;refine xT ?_;exact ⟨rfl,X⟩
end Bk
