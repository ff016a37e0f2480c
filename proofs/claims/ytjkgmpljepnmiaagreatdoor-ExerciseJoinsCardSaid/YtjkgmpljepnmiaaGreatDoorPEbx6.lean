/- Texts that the proofs of ExerciseBack, ExerciseJoins need. No condition. (Part 6 of 10.) -/
import Derived.Test.YtjkgmpljepnmiaaGreatDoorPEbx5
set_option linter.unusedSimpArgs false
set_option linter.unusedVariables false
set_option linter.defProp false
set_option maxRecDepth 100000
set_option maxHeartbeats 4000000
open Go.Proofs.Tryz
open List renaming length_append->jy,length_cons->jz,getElem?_eq_getElem->jB,length_nil->jD,getElem_cons_succ->jE,getElem_mem->jH,set_cons_zero->jI,take_succ_eq_append_getElem->jK,cons_append->jP,take_length->jQ,mem_cons->jR,append_assoc->jS,not_mem_nil->jU,flatten_cons->jY,getElem?_eq_none->j4,replicate->ke,getElem?_append_left->kj,nil_append->km,length_take->kn,getElem?_append_right->kp,drop_eq_getElem_cons->kv,take_append_drop->kA,append_nil->kB,isEmpty_iff->kF,all_eq_true->kG,mem_cons_of_mem->kH,take_succ_cons->kK,map_cons->kN,mem_singleton->kP
open Bool renaming and_eq_true->jA,false_eq_true->kx
open Go.Lib renaming hid->jC,indexByte->ky
open Or renaming inl->jF,inr->jG
open Option.some renaming injEq->jJ,inj->jW
open Nat renaming le_refl->jL,zero_le->jN,blt->jT,lt_or_ge->jX,le_of_ble_eq_true->kg,le_trans->kz,eq_of_beq_eq_true->kD,ble->kJ,beq->kL
open Go.Result renaming andThen->jM,andThen_ok->kE
open Go.Sem renaming run_bind->jO,run_pure->jZ
open Go renaming Calls->jV
open Go.Region renaming ready->j6,binds->kO
open Go.IntWalk renaming i64_in->j7
open Go.Value.slice renaming injEq->j8
open List.cons renaming injEq->j9
open Prod.mk renaming injEq->kf
open Go.DataW renaming trod->kh
open Array renaming getElem?_eq_none->ki
open Go.Value renaming slice->kq,ownBlock->kC
open Go.Addr renaming add->kI
open Bk.Ext renaming refl->kQ,alloc->kT,trans->kV,drew->lm
open Bk.Nd renaming size->kU,kind->kZ,sits->lg,kids->li,name->lj,text->lk,num->lp,val->lq
open Bk.Blk renaming row->lf
namespace Bk
open Go Go.RowKit Go.Proofs
attribute [local irreducible] Go.Calls
structure Errs2 (w:wD):Prop where
 r:Errs w
 s : ∃te pe,w.cell? ⟨3,0,none⟩=some (.iface te pe)
 m : ∃m,w.cell? ⟨0,0,none⟩=some (.int .i64 m)
def Errs2.ext {w w':wD} (h:Errs2 w) (x:Ext w w'):Errs2 w':=by
 obtain ⟨r,⟨f,E,h1⟩,m,F⟩:=h;exact ⟨r.ext x,⟨f,E,x.keep h1⟩,m,x.keep F⟩
instance {w w':wD}:LfE w w' (Errs2 w) (Errs2 w'):=⟨fun x h=>Bk.Errs2.ext h x⟩
def Errs2.fr {S:nP} {w w':wD} (h:Errs2 w) (x:Fr S w w') (f : ∀k,S k->prog.globals.size<=k):Errs2 w':=by
 obtain ⟨r,⟨E,F,h1⟩,m,L⟩:=h;have g1:3<prog.globals.size:=of_decide_eq_true Bx;have M:0<prog.globals.size:=of_decide_eq_true Bx;have g3:4<prog.globals.size:=of_decide_eq_true Bx;exact ⟨r.fr x (fun h=>by have:=f _ h;omega),⟨E,F,x.keep (fun h=>by have:=f _ h;omega) h1⟩,m,x.keep (fun h=>by have:=f _ h;omega) L⟩
instance {S:nP} {w w':wD}:LfF S w w' (Errs2 w) (∀k,S k->prog.globals.size<=k) (Errs2 w'):=⟨fun x s h=>Bk.Errs2.fr h x s⟩
def Hs (s:lB):Int×Bool:=match Lib.atoiAll s with
 | .ok v=>if (0<=v/\v<=1000000000)/\Lib.itoa v=s then (v,true) else (0,false)
 | _=>(0,false)
def gS (s:lB) (w:wD):Ending->wD->Prop:=fun e w'=>(∃v,Lib.atoiAll s = .ok v/\e = .returned (.tuple #[.int .i64 v,.nilIface])\/(∀v,Lib.atoiAll s≠.ok v) /\ ∃te pe,e = .returned (.tuple #[.int .i64 v,.iface te pe]))/\Ext w w'
def Sj (s:lB) (V:s.length<=1000000) (w:wD) (h:Errs2 w):Calls prog 156 #[str s] w (gS s w):=by
 obtain ⟨O,⟨L,M,h1⟩,-⟩:=h;obtain ⟨f,E,U⟩:=O.ex;rcases ha:Lib.atoiAll s with v | - | -
 . refine (Tryz.strconv_Atoi_ok ⟨s.toArray⟩ (by rw [FE];omega) v (by simpa using ha) w).mono ?_;rintro e w' ⟨rfl,rfl|⟨t,rfl⟩⟩
   . exact ⟨⟨v,jF ⟨ha,rfl⟩⟩,kQ _⟩
   . exact ⟨⟨v,jF ⟨ha,rfl⟩⟩,Ext.bytes _ _ _⟩
 . refine (Any.strconv_Atoi_syntax Tryz.laysC172 ⟨s.toArray⟩ (by rw [FE];omega) (by simpa using ha) (.iface L M) w h1 (jG ⟨L,M,rfl⟩)).mono ?_;rintro e w' ⟨N,rfl,-,-,F⟩;exact ⟨⟨_,jG ⟨fun v h=>(by rw [ha] at h;cases h),_,_,rfl⟩⟩,F⟩
 . refine (Tryz.strconv_Atoi_range ⟨s.toArray⟩ (by rw [FE];omega) (by simpa using ha) (.iface f E) w U (jG ⟨f,E,rfl⟩)).mono ?_;rintro e w' ⟨N,rfl,-,-,F⟩;exact ⟨⟨_,jG ⟨fun v h=>(by rw [ha] at h;cases h),_,_,rfl⟩⟩,F⟩
def T0 (s:lB) (hs:s.length<=1000000) (w:wD) (E:Errs2 w) (F:TabsF w) :
 Calls prog 111 #[str s] w fun r w'=>r = .returned (.tuple #[.int .i64 (Hs s).1,.bool (Hs s).2])/\Ext w w':=by
 have X:=kQ w;by_cases O : ∃v,Lib.atoiAll s = .ok v
 . obtain ⟨v,M⟩:=O;have hb:=Lib.atoiAll_bounds M;have N:Hid (∀f,Errs2 f->Calls prog 156 #[str s] f fun e w'=>e = .returned (.tuple #[.int .i64 v,.nilIface])/\Ext f w'):=jC fun f h=>(Sj s hs f h).mono fun e w' ⟨⟨U,h1⟩,L⟩=>by
    rcases h1 with ⟨h1,h3⟩|⟨h1,-⟩
    . rw [M] at h1;injection h1 with h1
      subst h1;exact ⟨h3,L⟩
    . exact absurd M (h1 v)
   have e:Hs s=if (0<=v/\v<=1000000000)/\Lib.itoa v=s then (v,true) else (0,false):=by unfold Hs;rw [M]
   rw [e];have V:=jC (fun f h=>UY v f h hb.1 hb.2);clear M e;by_cases h1:0<=v/\v<=1000000000
   . obtain ⟨o1,o2⟩:=h1;by_cases L:Lib.itoa v=s
     . rw [AH ⟨⟨o1,o2⟩,L⟩];rw [L] at V;refine Ad func111 ntmps111 rfl rfl ?_;refine eK ?_;refine cC rfl (N.out _ Af) ?_;rintro _ w2 ⟨⟨⟩,x1⟩;revert E F X;refine eY x1 ?_;intro z3 E F X;refine eK ?_;refine C1 (Hb Ac rfl rfl) ?_;refine eK ?_;refine cC rfl (V.out _ Af) ?_;rintro _ w5 ⟨⟨⟩,x4⟩;revert E F X;refine eY x4 ?_;intro z6 E F X;refine LG (C1 Mv (LG (C1 V9 (C1 OK (cT (FN rfl (not_not_intro rfl) ?_))))));refine eK ?_;refine xT ?_;exact ⟨rfl,X⟩
     . rw [At (fun h=>L h.2)];generalize Lib.itoa v=t at *;refine Ad func111 ntmps111 rfl rfl ?_;refine eK ?_;refine cC rfl (N.out _ Af) ?_;rintro _ af ⟨⟨⟩,Y⟩;revert E F X;refine eY Y ?_;intro ag E F X;refine eK ?_;refine C1 (Hb Ac rfl rfl) ?_;refine eK ?_;refine cC rfl (V.out _ Af) ?_;rintro _ ah ⟨⟨⟩,Z⟩;revert E F X;refine eY Z ?_;intro ai E F X;refine eK ?_;refine xT ?_;exact ⟨rfl,X⟩
   . rw [At (fun h=>h1 h.1)];refine Ad func111 ntmps111 rfl rfl ?_
     focus
      refine eK ?_;refine cC rfl (N.out _ Af) ?_;rintro _ aj ⟨⟨⟩,aa⟩;revert E F X;refine eY aa ?_;intro ak E F X;refine eK ?_;refine C1 (Hb Ac rfl rfl) ?_;refine eK ?_;refine DO rfl rfl rfl (fun ab=>?_) (fun ab=>?_);refine eK ?_;refine xT ?_;rotate_left;refine eK ?_;refine xT ?_;rotate_left
     all_goals first|exact ⟨rfl,X⟩|exact absurd Aa h1
 . have e:Hs s=(0,false):=by
    unfold Hs;rcases ha:Lib.atoiAll s with v | - | -
    . exact absurd ⟨v,ha⟩ O
    . rfl
    . rfl
   rw [e];have N:Hid (∀f,Errs2 f->Calls prog 156 #[str s] f fun e w'=> ∃v te pe,e = .returned (.tuple #[.int .i64 v,.iface te pe])/\Ext f w'):=jC fun f h=>(Sj s hs f h).mono fun e w' ⟨⟨U,h1⟩,L⟩=>by
    rcases h1 with ⟨h1,h3⟩|⟨-,te,pe,h1⟩
    . exact absurd ⟨U,h1⟩ O
    . exact ⟨U,te,pe,h1,L⟩
   clear e O;refine Ad func111 ntmps111 rfl rfl ?_;refine eK ?_;refine AB (BF Bx rfl (N.out _ Af) (fun _ _ ⟨_,_,_,h⟩=>⟨_,h.1⟩)) rfl ?_ aFh;rintro _ al ⟨am,⟨ad,⟨ae,⟨⟨⟩,ac⟩⟩⟩⟩;revert E F X;refine eY ac ?_;intro an E F X;refine eK ?_;refine C1 (Q9 Ac rfl rfl) ?_;refine eK ?_;refine xT ?_;exact ⟨rfl,X⟩
def JR (s:lB):Nat->Option Nat
 | 0=>some 0
 | n+1=>(JR s n).bind fun e=>if ky (s.drop e) 10<0 then none else some (e+(ky (s.drop e) 10).toNat+1)
def E2 (s:lB) (n:Nat):lB×lB×Bool:=match JR s n with
 | none=>([],[],false)
 | some e=>(s.take e,s.drop e,true)
def Ym {s:lB} (h : ¬ky s 10<0):(ky s 10).toNat<s.length:=by
 obtain ⟨o,f⟩:=Int.eq_ofNat_of_zero_le (show 0<=ky s 10 by omega);have:=(Lib.indexByte_some f).1;rw [f];exact (List.getElem?_eq_some_iff.1 this).1
def UZ {s:lB} : ∀ {n e:Nat},JR s n=some e->e<=s.length
 | 0,e,h=>by simp [JR] at h;omega
 | n+1,e,h=>by
  simp only [JR,Option.bind_eq_some_iff] at h;obtain ⟨F,h1,f⟩:=h;have L:=UZ h1;split at f
  . cases f
  . rename_i E;have:=Ym E;rw [List.length_drop] at this;simp only [jJ] at f;omega
def Ww {s:lB} {n m:Nat} (h:JR s n=none) (E:n<=m):JR s m=none:=by
 induction m with
 | zero=>
  have:n=0:=by omega
  subst this;exact h
 | succ m f=>
  rcases jX m n with h1|h1
  . have:n=m+1:=by omega
    subst this;exact h
  . simp only [JR,f h1,Option.bind_none]
def L3 (s:lB) (w:wD):Calls prog 112 #[str s,.int .u8 10] w fun e w'=>e = .returned (.int .i64 (ky s 10))/\w'=w:=
 (Tryz.strings_IndexByte ⟨s.toArray⟩ 10 w).mono fun e w' ⟨h1,h2⟩=>⟨h1,h2⟩
def Pj (s:lB) (w:wD):Calls prog 33 #[str s,str [10]] w fun e w'=>e = .returned (.int .i64 (Lib.countByte s 10:Nat))/\w'=w:=
 (Tryz.strings_Count_one ⟨s.toArray⟩ 10 w).mono fun e w' ⟨h1,h2⟩=>⟨h1,h2⟩
def fD (s:lB) (hs:s.length<=1000000) (n:Nat) (hn:n<=1000000000) (w:wD) :
 Calls prog 71 #[str s,.int .i64 n] w fun r w'=>r = .returned (.tuple #[str (E2 s n).1,str (E2 s n).2.1,.bool (E2 s n).2.2])/\Ext w w':=by
 have X:=kQ w;have HI:=jC (fun s f=>L3 s f);refine Ad func71 ntmps71 rfl rfl ?_;refine cS (C1 Pa (C1 Pa (C1 Pa (cN (C1 Pa (cT (Al (cS (C1 Mv (C1 Mv (cT ?_)))))))))));refine Av ?_;refine AK (ι:=Nat×Nat) (fun x=>[(0,str s),(4,.string ⟨#[]⟩),(5,.string ⟨#[]⟩),(6,.bool false),(7,.int .i64 x.2),(9,.int .i64 n),(10,.int .i64 x.1)])
  (fun x w'=>x.1<=n/\JR s x.1=some x.2/\Ext w w') (fun x=>n-x.1) (0,0) sB ⟨jN _,rfl,X⟩ ?_
 clear X;rintro ⟨j,e⟩ f ⟨hj,M,X⟩;simp only at hj M;have aa:=UZ M;refine CW.sub (m:=[(0,str s),(4,.string ⟨#[]⟩),(5,.string ⟨#[]⟩),(6,.bool false),(7,.int .i64 e),(9,.int .i64 n),(10,.int .i64 j)]) ?_ sB;by_cases O:j<n
 . by_cases N:ky (s.drop e) 10<0
   . have U:E2 s n=([],[],false):=by
      have:JR s (j+1)=none:=by simp only [JR,M,Option.bind_some,AH N]
      unfold E2;rw [Ww this O]
     rw [U];refine eK ?_;refine C1 (Gj Ac rfl rfl rfl Aa) (cC rfl (HI.out _ _) ?_);rintro _ ab ⟨⟨⟩,rfl⟩;refine eK ?_;refine FF rfl rfl rfl rfl ?_;exact ⟨rfl,X⟩
   . have E:=Ym N;rw [List.length_drop] at E;have F:JR s (j+1)=some (e+(ky (s.drop e) 10).toNat+1):=by simp only [JR,M,Option.bind_some,At N]
     obtain ⟨o,V⟩:=Int.eq_ofNat_of_zero_le (show 0<=ky (s.drop e) 10 by omega);have HJ:Hid (∀f,Calls prog 112 #[str (s.drop e),.int .u8 10] f fun r w'=>r = .returned (.int .i64 (o:Int))/\w'=f):=jC fun f=>by rw [<-V];exact L3 _ f
     rw [V] at F E;simp only [Int.toNat_natCast] at F E;clear HI N V;refine eK ?_;refine C1 (Gj Ac rfl rfl rfl Aa) (cC rfl (HJ.out _) ?_);rintro _ ac ⟨⟨⟩,rfl⟩;refine C1 Pa (cT (Al (cS (C1 Mv (C1 V3 (cT (II (Aw (Ag (Ak (C1 Mv ?_)))))))))));refine C1 Mv (C1 V7 (C1 V7 (C1 Pa (Ai (Ae (Ag (Ak (C1 V7 (C1 Mv (Ai ?_))))))))));exact Ax (j+1,e+o+1) sB ⟨by (try dsimp only);omega,F,X⟩ (by (try dsimp only);omega)
 . obtain rfl:j=n:=by omega
   have U:E2 s j=(s.take e,s.drop e,true):=by unfold E2;rw [M]
   rw [U];refine eK ?_;refine AD (fun Y=>Ext f Y) 7 (.pure 0 (.pure 1 (.pure 2 (.pure 3 (.pure 4 (.pure 5 (.pure 6 .tail))))))) mixed Bx (Ab Am) ?_;intro Z L _;have h:(fun Y=>Ext f Y) Z:=L;simp only at h;have ad:=L.size;have X:=X.ext L;refine ⟨h,?_⟩;refine Tq rfl Mv (Tq rfl Mv (Tq rfl (OF Ac rfl rfl rfl Aa Aa) (Tq rfl Mv (Tq rfl Mv (Tq rfl (Gj Ac rfl rfl rfl Aa) (Tq rfl Pa ?_))))));refine AE rfl ?_;refine eK ?_;refine FF rfl rfl rfl rfl ?_;exact ⟨by simp only [Int.toNat_natCast],X⟩
def Bm (k:Int):lB:=
 if k=44 then [112,117,115,104,32] else if k=45 then [112,111,112,32] else if k=46 then [114,101,97,100,32] else if k=47 then [117,110,114,101,97,100,32] else if k=48 then [119,114,105,116,101,32] else if k=49 then [117,110,119,114,105,116,101,32]
 else if k=50 then [99,97,108,108,32] else if k=51 then [117,110,99,97,108,108,32] else if k=52 then [105,102,32] else if k=53 then [102,114,111,109,32] else if k=54 then [108,111,99,97,108,32] else if k=55 then [108,111,99,97,108,32,115,116,97,99,107,32] else []
def Cl (k:Int):lB:=if k=56 then [58,61] else if k=43 then [60,61,62] else Cm k
def CU (d:Nat):lB:=ke d 9
def CY:Bool->List Nd->lB
 | _,[]=>[]
 | first,t::r=>(if first then [] else [44,32])++t.text++CY false r
mutual
def Nd.stmtT:Nd->Nat->lB
 | .mk k _ s l,d=>
  if k=40\/k=41\/k=42\/k=56\/k=43 then match l with|[x,y]=>x.text++[32]++Cl k++[32]++y.text|_=>[]
  else if k=44\/k=45 then match l with|[x]=>Bm k++x.text++[44,32]++s|_=>[]
  else if 46<=k/\k<=49 then match l with|[x]=>Bm k++x.text|_=>[]
  else if k=50\/k=51 then Bm k++s++[40]++CY true l++[41]
  else if k=52 then match l with|[x,y,z,u]=>Bm k++x.text++([32,123,10]++y.linesT (d+1)++CU d++[125])++[32,101,108,115,101]++([32,123,10]++z.linesT (d+1)++CU d++[125])++[32,102,105,32]++u.text|_=>[]
  else if k=53 then match l with|[x,y,z,u]=>Bm k++x.text++([32,123,10]++y.linesT (d+1)++CU d++[125])++[32,108,111,111,112]++([32,123,10]++z.linesT (d+1)++CU d++[125])++[32,117,110,116,105,108,32]++u.text|_=>[]
  else if k=54 then match l with|[x,y,z]=>Bm k++s++[32,61,32]++x.text++([32,123,10]++y.linesT (d+1)++CU d++[125])++[32,100,101,108,111,99,97,108,32]++z.text|_=>[]
  else if k=55 then match l with|[x]=>Bm k++s++([32,123,10]++x.linesT (d+1)++CU d++[125])|_=>[]
  else []
def Nd.linesT:Nd->Nat->lB
 | .mk _ _ _ l,d=>BW l d
def BW:List Nd->Nat->lB
 | [],_=>[]
 | t::r,d=>CU d++t.stmtT d++[59,10]++BW r d
end
def Cg (t:Nd) (d:Nat):lB:=[32,123,10]++t.linesT (d+1)++CU d++[125]
end Bk
namespace Bk
open Go Go.RowKit Go.Proofs
structure BT (T:TypeId):Prop where
 lies:liesAt prog prog.depth T (2/prog.cellsOf T) 0 69 1=true
 ne:T≠5
def dD:(prog.info? 69).map (·.size)=some 2:=by kernel_rfl
def infoByte:(prog.info? 5).map (fun i=>(i.zero,i.size,i.bytes))=some (some (.int .u8 0),1,1):=by kernel_rfl
def Yn:prog.underlying 66=some (.pointer 69):=by kernel_rfl
def U0:prog.underlying 170=some .unsafePointer:=by kernel_rfl
def Yo:prog.underlying 67=some (.slice 5):=by kernel_rfl
def Ml (T:TypeId) (hT:BT T) (b:Nat) (w:wD) (h0:w.cell? ⟨b,0,none⟩=some (.pointer none)) (hsh:w.shape? b=some (T,2)) (hfz:w.frozen? ⟨b,0,none⟩=false) :
 Calls prog 60 #[.pointer (some ⟨b,0,none⟩)] w fun e w'=>e = .returned (.tuple #[])/\w'=w.setCell ⟨b,0,none⟩ (.pointer (some ⟨b,0,none⟩)):=by
 obtain ⟨j,hj,hjs⟩:=Option.map_eq_some_iff.1 dD
 go_enter func60,ntmps60
 go_wp2
 rw [Lib.run_to_unsafe w ⟨b,0,none⟩ Yn U0 hj (by rw [hjs];decide) hsh (Nat.zero_lt_succ 1)];simp only [jM];rw [Oper.upon_value]
 go_wp2
 rw [run_callFunc_extern func103 (by kernel_rfl) (by kernel_rfl) (by kernel_rfl) (e:=Extern.AbiNoEscape.same) (by kernel_rfl)];rw [Lib.run_noEscape];simp only [jM];rw [Oper.upon_value]
 go_wp2
 rw [Lib.run_from_unsafe w ⟨b,0,none⟩ U0 Yn hj hsh hT.lies];simp only [jM];rw [Oper.upon_value]
 go_wp2
 go_end0
 exact ⟨rfl,rfl⟩
def ND (b:Nat) (w:wD) (h0:w.cell? ⟨b,0,none⟩=some (.pointer (some ⟨b,0,none⟩))) :
 Calls prog 60 #[.pointer (some ⟨b,0,none⟩)] w fun e w'=>e = .returned (.tuple #[])/\w'=w:=by
 obtain ⟨j,hj,hjs⟩:=Option.map_eq_some_iff.1 dD
 go_enter func60,ntmps60
 go_wp2
 rw [Lib.run_neq_ptr_same w _ Yn hj]
 go_wp2
 go_end0
 exact ⟨rfl,rfl⟩
structure Fb (B b:Nat) (w w':wD):Prop where
 below:Below B w w'
 kept:Lib.OthersKept 5 (some b) w w'
def Fb.refl (B b:Nat) (w:wD):Fb B b w w:=⟨Below.refl _ _,Lib.OthersKept.refl _ _ _⟩
def Fb.trans {B b:Nat} {u v w:wD} (h:Fb B b u v) (k:Fb B b v w):Fb B b u w:=⟨h.below.trans k.below,h.kept.trans k.kept⟩
def L4 (T:TypeId) (E:BT T) (B b:Nat) (f:lV) (w:wD) (h:Lib.IsBuilderF T 5 B b f w) :
 Calls prog 60 #[.pointer (some ⟨b,0,none⟩)] w fun e w'=>e = .returned (.tuple #[])/\(Lib.BuilderAtF T 5 B b (.pointer (some ⟨b,0,none⟩)) f w'/\Fb B b w w'):=by
 rcases h with h|h
 . refine (Ml T E b w h.cell0 h.shape h.frozen0).mono ?_;rintro e w' ⟨rfl,rfl⟩;exact ⟨rfl,h.used _,(Below.refl B w).setCell (p:=⟨b,0,none⟩) h.1 _,(Lib.OthersKept.refl _ _ w).setCell ⟨b,0,none⟩ rfl _⟩
 . refine (ND b w h.cell0).mono ?_;rintro e w' ⟨rfl,rfl⟩;exact ⟨rfl,h,Below.refl B _,Lib.OthersKept.refl _ _ _⟩
def Sm (T:TypeId) (hT:BT T) (B b:Nat) (bs:lV) (c:Int) (w:wD) (h:Lib.IsBuilderF T 5 B b bs w) (hlen:bs.length+1<=140737488355328) (hBw:B<=w.heap.size) :
 Calls prog 147 #[.pointer (some ⟨b,0,none⟩),.int .u8 c] w fun e w'=>e = .returned .nilIface/\(Lib.IsBuilderF T 5 B b (bs++[.int .u8 c]) w'/\Fb B b w w'):=by
 obtain ⟨i0,hi,hz0,hz1,hz2⟩:=info_parts infoByte
 go_enter func147,ntmps147
 go_wp2_with (go_at_call 60;refine (L4 T hT B b bs _ h).mono ?_)
 rintro e w1 ⟨rfl,h1,hb1,hk1⟩;obtain ⟨hB,v,hbk,hown,hne⟩:=h1
 have c0:w1.cell? ⟨b,0,none⟩=some (.pointer (some ⟨b,0,none⟩)):=by rw [Lib.cell_of_heap hbk];rfl
 have c1:w1.cell? ⟨b,1,none⟩=some v:=by rw [Lib.cell_of_heap hbk];rfl
 go_wp2_with (at_builtin;refine wpList_append_ownF _ rfl _ _ 67 rfl B 5 i0 (.int .u8 0) 1 1 Yo hi hz0 hz1 hz2 rfl (by decide) _ _ _ rfl (hown.alloc _) ⟨w1.heap.size,0,none⟩ 1 1 [.int .u8 c] rfl rfl ?c1 ?c2 ?c3 ?c4 ?c5 ?_)
 case c1=>
  intro j u hj
  match j,hj with
  | 0,hj=>simp at hj;subst hj;simp [kI]
 case c2=>intro u hu;simp at hu;subst hu;rfl
 case c3=>unfold maxLen;omega
 case c4=>omega
 case c5=>have:=hb1.size;simp;omega
 intro v' w2 hown' hgrow _
 have hlt:b<w1.heap.size:=by
  rcases jX b w1.heap.size with h'|h'
  . exact h'
  . simp [ki h'] at hbk
 have hb2:w2.heap[b]? = some (.cells #[.pointer (some ⟨b,0,none⟩),v] T (0,0)):=by
  rw [hgrow.block b (by simp;omega) (fun e=>hne e.symm),Lib.alloc_old w1 _ b hlt]
  exact hbk
 have d0:w2.cell? ⟨b,0,none⟩=some (.pointer (some ⟨b,0,none⟩)):=by rw [Lib.cell_of_heap hb2];rfl
 have d1:w2.cell? ⟨b,1,none⟩=some v:=by rw [Lib.cell_of_heap hb2];rfl
 have f1:w2.frozen? ⟨b,1,none⟩=false:=Lib.frozen_of_heap hb2 1
 obtain ⟨g,cap,rfl⟩ : ∃g cap,v' = .slice (some ⟨g,0,none⟩) (bs.length+1) cap:=by
  rcases hown'.2 with ⟨_,h0⟩|⟨g,cap,cur,fz,hv,_⟩
  . omega
  . exact ⟨g,cap,hv⟩
 go_wp2
 go_ret
 refine ⟨rfl,.inr ?_,?_,((hk1.alloc _).grown hgrow (Lib.ownsRowF_kind (hown.alloc _))).setCell ⟨b,1,none⟩ rfl _⟩
 . exact Lib.BuilderAtF.put (T:=T) (e:=5) hB hb2 (bs':=bs++[.int .u8 c]) (by simpa using hown') hT.ne
 . exact ((hb1.alloc (by have:=hb1.size;omega) _).grown hgrow (by have:=hb1.size;simp;omega) (fun k hk=>(hown.lt k hk).1)).setCell (p:=⟨b,1,none⟩) hB _
def JB (T:TypeId) (hT:BT T) (B b:Nat) (bs:lV) (s:ByteArray) (w:wD) (h:Lib.IsBuilderF T 5 B b bs w) (hlen:bs.length+s.size<=140737488355328) (hBw:B<=w.heap.size) :
 Calls prog 31 #[.pointer (some ⟨b,0,none⟩),.string s] w fun e w'=>e = .returned (.tuple #[.int .i64 s.size,.nilIface])/\(Lib.IsBuilderF T 5 B b (bs++Lib.strCells s) w'/\Fb B b w w'):=by
 obtain ⟨i0,hi,hz0,hz1,hz2⟩:=info_parts infoByte
 go_enter func31,ntmps31
 go_wp2_with (go_at_call 60;refine (L4 T hT B b bs _ h).mono ?_)
 rintro e w1 ⟨rfl,h1,hb1,hk1⟩;obtain ⟨hB,v,hbk,hown,hne⟩:=h1
 have c0:w1.cell? ⟨b,0,none⟩=some (.pointer (some ⟨b,0,none⟩)):=by rw [Lib.cell_of_heap hbk];rfl
 have c1:w1.cell? ⟨b,1,none⟩=some v:=by rw [Lib.cell_of_heap hbk];rfl
 go_wp2_with (at_builtin;refine Lib.wpList_append_own_stringF _ rfl _ _ 67 9 rfl B 5 i0 Yo Fg hi hz0 hz1 hz2 _ _ _ rfl hown s rfl ?c3 ?c4 ?c5 ?_)
 case c3=>unfold maxLen;omega
 case c4=>omega
 case c5=>have:=hb1.size;omega
 intro v' w2 hown' hgrow _
 have hlt:b<w1.heap.size:=by
  rcases jX b w1.heap.size with h'|h'
  . exact h'
  . simp [ki h'] at hbk
 have hb2:w2.heap[b]? = some (.cells #[.pointer (some ⟨b,0,none⟩),v] T (0,0)):=by
  rw [hgrow.block b hlt (fun e=>hne e.symm)]
  exact hbk
 have d0:w2.cell? ⟨b,0,none⟩=some (.pointer (some ⟨b,0,none⟩)):=by rw [Lib.cell_of_heap hb2];rfl
 have d1:w2.cell? ⟨b,1,none⟩=some v:=by rw [Lib.cell_of_heap hb2];rfl
 have f1:w2.frozen? ⟨b,1,none⟩=false:=Lib.frozen_of_heap hb2 1
 obtain ⟨ao,n',cap,rfl⟩ : ∃ao n' cap,v' = .slice ao n' cap:=by
  rcases hown'.2 with ⟨hv,_⟩|⟨g,cap,cur,fz,hv,_⟩
  . exact ⟨_,_,_,hv⟩
  . exact ⟨_,_,_,hv⟩
 go_wp2
 go_ret2
 refine ⟨rfl,.inr ?_,?_,(hk1.grown hgrow (Lib.ownsRowF_kind hown)).setCell ⟨b,1,none⟩ rfl _⟩
 . exact Lib.BuilderAtF.put (T:=T) (e:=5) hB hb2 (bs':=bs++Lib.strCells s) (by simpa [Lib.strCells_length] using hown') hT.ne
 . exact (hb1.grown hgrow (by have:=hb1.size;omega) (fun k hk=>(hown.lt k hk).1)).setCell (p:=⟨b,1,none⟩) hB _
def Sn:prog.underlying 128=some (.pointer 5):=by kernel_rfl
def cellsByte:prog.cellsOf 5=1:=by kernel_rfl
def EW (W:wD) (q:oA):(Builtin.unsafeString_ #[128,3] 9 #[.pointer q,.int .i64 0]).run prog W = .ok (.string .empty) W:=
 Lib.run_unsafeString_none W _ _ _ q
def So (T:TypeId) (B b:Nat) (l:lB) (w:wD) (h:Lib.IsBuilderF T 5 B b (Lib.byteCells l) w) (h0:l≠[]) :
 Calls prog 35 #[.pointer (some ⟨b,0,none⟩)] w fun e w'=>e = .returned (.string ⟨l.toArray⟩)/\(Lib.IsBuilderF T 5 B b (Lib.byteCells l) w'/\Fb B b w w'):=by
 obtain ⟨p,hp,hAt⟩ : ∃p,(p = .pointer none\/p = .pointer (some ⟨b,0,none⟩))/\Lib.BuilderAtF T 5 B b p (Lib.byteCells l) w:=by
  rcases h with h|h
  . exact ⟨_,.inl rfl,h⟩
  . exact ⟨_,.inr rfl,h⟩
 obtain ⟨hB,v,hbk,hown,hne⟩:=hAt
 have hl0:l.length≠0:=by simpa using h0
 rw [Lib.byteCells_length] at hown
 obtain ⟨g,cap,cur,fz,rfl,hbg,hg,hfz,hnc,hcm,hcs,htake⟩ : ∃g cap cur fz,v = .slice (some ⟨g,0,none⟩) l.length cap/\B<=g/\w.heap[g]? = some (.cells cur 5 fz)/\fz.2<=l.length*1/\l.length<=cap/\cap<=maxLen/\cur.size=cap*1/\cur.toList.take (l.length*1)=Lib.byteCells l:=by
  rcases hown.2 with ⟨_,hz⟩|⟨g,cap,cur,fz,hv,r⟩
  . exact absurd hz hl0
  . exact ⟨g,cap,cur,fz,hv,r⟩
 have c1:w.drew.cell? ⟨b,1,none⟩=some (.slice (some ⟨g,0,none⟩) l.length cap):=by
  have:w.drew.heap[b]? = some (.cells #[p,.slice (some ⟨g,0,none⟩) l.length cap] T (0,0)):=hbk
  rw [Lib.cell_of_heap this];rfl
 have hSD:(Builtin.unsafeSliceData_ #[67] 128 #[.slice (some ⟨g,0,none⟩) l.length cap]).run prog w.drew = .ok (.pointer (some ⟨g,0,none⟩)) w.drew:=
  Lib.run_unsafeSliceData_row _ _ _ _ _ _ (by omega)
 have hUS:(Builtin.unsafeString_ #[128,3] 9 #[.pointer (some ⟨g,0,none⟩),.int .i64 l.length]).run prog w.drew = .ok (.string ⟨l.toArray⟩) (w.drew.freeze ⟨g,0,none⟩ l.length):=by
  refine Lib.run_unsafeString_row w.drew 128 3 9 5 Sn cellsByte g cur.size (by have hg':w.drew.heap[g]? = some (.cells cur 5 fz):=hg;simp [World.shape?,hg']) l h0 (by omega) (by unfold maxLen at hcm;omega) ?_;intro j x hx;have:=hown.cells (g:=g) rfl j (.int .u8 x.toNat) (by simp [Lib.byteCells,hx])
  exact this
 have hkeep:Lib.IsBuilderF T 5 B b (Lib.byteCells l) (w.drew.freeze ⟨g,0,none⟩ l.length):=by
  have hA:Lib.BuilderAtF T 5 B b p (Lib.byteCells l) w.drew:=⟨hB,_,hbk,by rw [Lib.byteCells_length];exact hown,hne⟩;have hF:=hA.froze (g:=g) (cap:=cap) (by rw [Lib.byteCells_length];exact c1);rw [Lib.byteCells_length] at hF
  rcases hp with rfl|rfl
  . exact .inl hF
  . exact .inr hF
 go_enter func35,ntmps35
 go_wp2
 go_region
 all_goals (go_wp2;go_ret;exact ⟨rfl,hkeep,Lib.below_freeze (Below.drew (Below.refl B w)) (p:=⟨g,0,none⟩) hbg _,((Lib.OthersKept.refl _ _ w).drew).freeze ⟨g,0,none⟩ _ ⟨cur,fz,hg⟩⟩)
def T1 (T:TypeId) (B b:Nat) (p:Value) (w:wD) (hbk:w.heap[b]? = some (.cells #[p,.slice none 0 0] T (0,0))) (hA:Lib.BuilderAtF T 5 B b p [] w) :
 Calls prog 35 #[.pointer (some ⟨b,0,none⟩)] w fun e w'=>e = .returned (.string ⟨#[]⟩)/\(Lib.BuilderAtF T 5 B b p [] w'/\Fb B b w w'):=by
 have hUS:=EW
 have c1:w.drew.cell? ⟨b,1,none⟩=some (.slice none 0 0):=by
  have:w.drew.heap[b]? = some (.cells #[p,.slice none 0 0] T (0,0)):=hbk
  rw [Lib.cell_of_heap this];rfl
 have hSD:(Builtin.unsafeSliceData_ #[67] 128 #[.slice none 0 0]).run prog w.drew = .ok (.pointer none) w.drew:=rfl
 go_enter func35,ntmps35
 go_wp2
 go_region
 all_goals (go_wp2;go_ret;exact ⟨rfl,hA.drew,Below.drew (Below.refl B w),(Lib.OthersKept.refl _ _ w).drew⟩)
def Ot (T:TypeId) (B b g:Nat) (p:Value) (cur:Array Value) (w:wD) (hBw:B<=w.heap.size) (hbk:w.heap[b]? = some (.cells #[p,.slice (some ⟨g,0,none⟩) 0 0] T (0,0))) (fz:Nat×Nat) (hg:w.heap[g]? = some (.cells cur 5 fz)) (hA:Lib.BuilderAtF T 5 B b p [] w) :
 Calls prog 35 #[.pointer (some ⟨b,0,none⟩)] w fun e w'=>e = .returned (.string ⟨#[]⟩)/\(Lib.BuilderAtF T 5 B b p [] w'/\Fb B b w w'):=by
 have hUS:=EW
 have hlt:b<w.heap.size:=by
  rcases jX b w.heap.size with h'|h'
  . exact h'
  . simp [ki h'] at hbk
 have c1:w.drew.cell? ⟨b,1,none⟩=some (.slice (some ⟨g,0,none⟩) 0 0):=by
  have:w.drew.heap[b]? = some (.cells #[p,.slice (some ⟨g,0,none⟩) 0 0] T (0,0)):=hbk
  rw [Lib.cell_of_heap this];rfl
 have hSD:(Builtin.unsafeSliceData_ #[67] 128 #[.slice (some ⟨g,0,none⟩) 0 0]).run prog w.drew = .ok (.pointer (some ⟨w.drew.heap.size,0,none⟩)) (w.drew.alloc (.view ⟨g,0,none⟩ 5)):=
  Lib.run_unsafeSliceData_zero w.drew _ _ 5 Sn ⟨g,0,none⟩ 0 (5,cur.size) (by have hg':w.drew.heap[g]? = some (.cells cur 5 fz):=hg;simp [World.shape?,hg'])
 have c2:(w.drew.alloc (.view ⟨g,0,none⟩ 5)).cell? ⟨b,1,none⟩=some (.slice (some ⟨g,0,none⟩) 0 0):=by
  have:(w.drew.alloc (.view ⟨g,0,none⟩ 5)).heap[b]? = _:=(Lib.alloc_old w.drew _ b hlt).trans hbk
  rw [Lib.cell_of_heap this];rfl
 have c3:(w.alloc (.view ⟨g,0,none⟩ 5)).drew.cell? ⟨b,1,none⟩=some (.slice (some ⟨g,0,none⟩) 0 0):=c2;have c0:w.cell? ⟨b,1,none⟩=some (.slice (some ⟨g,0,none⟩) 0 0):=c1
 go_enter func35,ntmps35
 go_wp2
 go_region
 all_goals (go_wp2;go_ret;exact ⟨rfl,hA.drew.alloc _,(Below.drew (Below.refl B w)).alloc hBw _,((Lib.OthersKept.refl _ _ w).drew).alloc _⟩)
def Sq (T:TypeId) (B b g cap:Nat) (p:Value) (w:wD) (hc0:cap≠0) (hbk:w.heap[b]? = some (.cells #[p,.slice (some ⟨g,0,none⟩) 0 cap] T (0,0))) (hA:Lib.BuilderAtF T 5 B b p [] w) :
 Calls prog 35 #[.pointer (some ⟨b,0,none⟩)] w fun e w'=>e = .returned (.string ⟨#[]⟩)/\(Lib.BuilderAtF T 5 B b p [] w'/\Fb B b w w'):=by
 have hUS:=EW
 have c1:w.drew.cell? ⟨b,1,none⟩=some (.slice (some ⟨g,0,none⟩) 0 cap):=by
  have:w.drew.heap[b]? = some (.cells #[p,.slice (some ⟨g,0,none⟩) 0 cap] T (0,0)):=hbk
  rw [Lib.cell_of_heap this];rfl
 have hSD:(Builtin.unsafeSliceData_ #[67] 128 #[.slice (some ⟨g,0,none⟩) 0 cap]).run prog w.drew = .ok (.pointer (some ⟨g,0,none⟩)) w.drew:=
  Lib.run_unsafeSliceData_row _ _ _ _ _ _ hc0
 clear hc0
 go_enter func35,ntmps35
 go_wp2
 go_region
 all_goals (go_wp2;go_ret;exact ⟨rfl,hA.drew,Below.drew (Below.refl B w),(Lib.OthersKept.refl _ _ w).drew⟩)
def QL (T:TypeId) (B b:Nat) (w:wD) (h:Lib.IsBuilderF T 5 B b [] w) (N:B<=w.heap.size) :
 Calls prog 35 #[.pointer (some ⟨b,0,none⟩)] w fun e w'=>e = .returned (.string ⟨#[]⟩)/\(Lib.IsBuilderF T 5 B b [] w'/\Fb B b w w'):=by
 obtain ⟨p,Z,U⟩ : ∃p,(p = .pointer none\/p = .pointer (some ⟨b,0,none⟩))/\Lib.BuilderAtF T 5 B b p [] w:=by
  rcases h with h|h
  . exact ⟨_,.inl rfl,h⟩
  . exact ⟨_,.inr rfl,h⟩
 have f : ∀(e:Ending) (w':wD),(e = .returned (.string ⟨#[]⟩)/\(Lib.BuilderAtF T 5 B b p [] w'/\Fb B b w w'))->e = .returned (.string ⟨#[]⟩)/\(Lib.IsBuilderF T 5 B b [] w'/\Fb B b w w'):=by
  rintro e w' ⟨V,X,Y⟩;rcases Z with rfl|rfl
  . exact ⟨V,.inl X,Y⟩
  . exact ⟨V,.inr X,Y⟩
 have E:=U;obtain ⟨hB,v,F,L,aa⟩:=U;rcases L.2 with ⟨rfl,_⟩|⟨g,cap,O,fz,rfl,ab,hg,_,_,_,_,_⟩
 . exact (T1 T B b p w F E).mono f
 . by_cases M:cap=0
   . subst M;exact (Ot T B b g p O w N F fz hg E).mono f
   . exact (Sq T B b g cap p w M F E).mono f
def NE (T:TypeId) (B b:Nat) (l:lB) (w:wD) (h:Lib.IsBuilderF T 5 B b (Lib.byteCells l) w) (f:B<=w.heap.size) :
 Calls prog 35 #[.pointer (some ⟨b,0,none⟩)] w fun e w'=>e = .returned (.string ⟨l.toArray⟩)/\(Lib.IsBuilderF T 5 B b (Lib.byteCells l) w'/\Fb B b w w'):=by
 cases l with
 | nil=>exact QL T B b w h f
 | cons x r=>exact So T B b (x::r) w h Bg
def Pk:BT 113:=⟨by kernel_rfl,Ao⟩
structure Bld (B b:Nat) (l:lB) (w:wD):Prop where
 is:Lib.IsBuilderF 113 5 B b (Lib.byteCells l) w
 le:B<=w.heap.size
def I6 {T e:TypeId} {B b:Nat} {p:Value} {L:lV} {w w':wD} (h:Lib.BuilderAtF T e B b p L w) (x:Ext w w'):Lib.BuilderAtF T e B b p L w':=by
 have E:=h.lt;obtain ⟨M,v,N,f,F⟩:=h;exact ⟨M,v,(x.block E).trans N,f.kept (row:=none) ⟨Below.os x,Below.tape x,Below.output x,Below.size x,fun k O _=>x.block O⟩ (by cases U:v.ownBlock<;>simp),F⟩
def Bld.ext {B b:Nat} {l:lB} {w w':wD} (h:Bld B b l w) (x:Ext w w'):Bld B b l w':=
 ⟨h.is.elim (fun a=>.inl (I6 a x)) (fun a=>.inr (I6 a x)),kz h.le x.size⟩
instance {B b:Nat} {l:lB} {w w':wD}:LfE w w' (Bld B b l w) (Bld B b l w'):=⟨fun x h=>Bk.Bld.ext h x⟩
def Bld.alloc {B b:Nat} {l:lB} {w:wD} (h:Bld B b l w) (o:Obj):Bld B b l (w.alloc o):=h.ext ((kQ _).alloc o)
def Bld.drew {B b:Nat} {l:lB} {w:wD} (h:Bld B b l w):Bld B b l w.drew:=h.ext (kQ _).drew
def Bld.lt {B b:Nat} {l:lB} {w:wD} (h:Bld B b l w):b<w.heap.size:=h.is.elim (fun a=>a.lt) (fun a=>a.lt)
def Fb.of_ext {B b:Nat} {w w':wD} (x:Ext w w') (h:B<=w.heap.size):Fb B b w w':=
 ⟨Below.mono x h,fun k o f _ _=>(x.block (Array.getElem?_eq_some_iff.1 f).1).trans f⟩
def Fb.alloc {B b:Nat} {u w:wD} (h:Fb B b u w) (f:B<=u.heap.size) (o:Obj):Fb B b u (w.alloc o):=
 h.trans (.of_ext ((kQ _).alloc o) (kz f h.below.size))
structure Box (k:Nat) (cs:Array Value) (T:TypeId) (w:wD):Prop where
 heap:w.heap[k]? = some (.cells cs T (0,0))
def Box.new (w:wD) (cs:Array Value) (T:TypeId):Box w.heap.size cs T (w.alloc (.cells cs T)):=⟨by show (w.heap.push _)[w.heap.size]? = _;simp⟩
def Box.new' {k:Nat} {w:wD} (cs:Array Value) (T:TypeId) (f:k=w.heap.size):Box k cs T (w.alloc (.cells cs T)):=by subst f;exact Box.new w cs T
def Box.lt {k:Nat} {cs:Array Value} {T:TypeId} {w:wD} (h:Box k cs T w):k<w.heap.size:=(Array.getElem?_eq_some_iff.1 h.heap).1
def Box.ext {k:Nat} {cs:Array Value} {T:TypeId} {w w':wD} (h:Box k cs T w) (x:Ext w w'):Box k cs T w':=⟨(x.block h.lt).trans h.heap⟩
instance {k:Nat} {cs:Array Value} {T:TypeId} {w w':wD}:LfE w w' (Box k cs T w) (Box k cs T w'):=⟨fun x h=>Bk.Box.ext h x⟩
def Box.alloc {k:Nat} {cs:Array Value} {T:TypeId} {w:wD} (h:Box k cs T w) (o:Obj):Box k cs T (w.alloc o):=h.ext ((kQ _).alloc o)
def Box.drew {k:Nat} {cs:Array Value} {T:TypeId} {w:wD} (h:Box k cs T w):Box k cs T w.drew:=h.ext (kQ _).drew
def Box.fb {k B b:Nat} {cs:Array Value} {T:TypeId} {w w':wD} (h:Box k cs T w) (x:Fb B b w w') (f:k≠b) (E:T≠5):Box k cs T w':=
 ⟨x.kept k _ h.heap (by simpa using f) (fun c F e=>E (by injection e))⟩
def Box.cell {k:Nat} {cs:Array Value} {T:TypeId} {w:wD} (h:Box k cs T w) (o:Nat):w.cell? ⟨k,o,none⟩=cs[o]? := by rw [Lib.cell_of_heap h.heap]
def Box.node {k:Nat} {v0 f v2 v3:Value} {T:TypeId} {w:wD} (h:Box k #[v0,f,v2,v3] T w) :
 w.cell? ⟨k,0,none⟩=some v0/\w.cell? ⟨k,1,none⟩=some f/\w.cell? ⟨k,2,none⟩=some v2/\w.cell? ⟨k,3,none⟩=some v3:=⟨h.cell 0,h.cell 1,h.cell 2,h.cell 3⟩
def rowSits.fb {B b:Nat} {w w':wD} {l:List Nd} {a:oA} (h:rowSits (· < B) w l a) (x:Fb B b w w'):rowSits (· < B) w' l a:=
 E6 aFh (fun k o _ f E=>(Below.cell (p:=⟨k,o,none⟩) x.below f).trans E) l a h
def Sr {P:Program} {B:Nat} {w w':wD} {name:String} {k:IntKind} {f:List Int} (h:Lib.TabIs P w name k f) (E:Below B w w') (F : ∀g,P.globalNamed name=some g->g<B):Lib.TabIs P w' name k f:=by
 unfold Lib.TabIs World.var? at *;cases hn:P.globalNamed name with
 | none=>rw [hn] at h;simp at h
 | some g=>rw [hn] at h;simp only [Option.bind_some] at h ⊢;rw [E.block g (F g hn)];exact h
def Tabs.below {B:Nat} {w w':wD} (h:Tabs w) (E:Below B w w') (M:prog.globals.size<=B):Tabs w':=by
 have h1:1<prog.globals.size:=of_decide_eq_true Bx;have N:2<prog.globals.size:=of_decide_eq_true Bx;refine ⟨fun i F=>(Below.cell (p:=⟨1,i,none⟩) E (by show 1<B;omega)).trans (h.sym i F),Sr h.pow E fun g f=>?_⟩
 have L:prog.globalNamed "internal/strconv.uint64pow10" = some 2:=by kernel_rfl
 rw [L] at f
 injection f with f
 omega
def Tabs.ext {w w':wD} (h:Tabs w) (x:Ext w w') (f:prog.globals.size<=w.heap.size):Tabs w':=h.below x f
def AR (B b tb tc:Nat) (l:lB) (ss:List lB) (w:wD) (h:Bld B b l w) (ht:Box tb (ss.map str).toArray 9 w) (hn:ss.length<=100) (hlen:(l++ss.flatten).length<=140737488355328) :
 Calls prog 58 #[.pointer (some ⟨b,0,none⟩),.slice (some ⟨tb,0,none⟩) ss.length tc] w fun e w'=>e = .returned (.tuple #[])/\Bld B b (l++ss.flatten) w'/\Fb B b w w':=by
 have hle:=h.le
 have htb:tb≠b:=by
  intro e;have h1:=ht.heap;rw [e] at h1
  rcases h.is with h'|h'<;>(obtain ⟨_,v,hb,_⟩:=h';rw [hb] at h1;injection h1 with h1;injection h1 with _ h1 _;exact absurd h1 (by decide))
 have HB:=jC h;clear h
 have HT:=jC ht;clear ht
 go_enter func58,ntmps58
 go_wp2_with fail
 go_loopw [8] (fun i wr=> ∃j:Nat,j<=ss.length/\i = .int .i64 j/\Bld B b (l++(ss.take j).flatten) wr/\Fb B b w wr) (fun i _=>ss.length-(intOf i).toNat)
 case atStart=>exact ⟨0,jN _,rfl,by simpa using HB.out,Fb.refl _ _ _⟩
 case round=>
  obtain ⟨j,hj,rfl,hbl,hfb⟩:=hrel
  by_cases hlt:j<ss.length
  . have hc:=(HT.out.fb hfb htb (by decide)).cell j
    have hg:(ss.map str).toArray[j]? = some (str ss[j]):=by simp [hlt]
    rw [hg] at hc
    have htk:(ss.take (j+1)).flatten=(ss.take j).flatten++ss[j]:=by rw [jK hlt,List.flatten_append];simp
    have hpre:(ss.take (j+1)).flatten.length<=ss.flatten.length:=by
     have e:ss=ss.take (j+1)++ss.drop (j+1):=(kA _ _).symm
     have e2:ss.flatten.length=(ss.take (j+1)).flatten.length+(ss.drop (j+1)).flatten.length:=by rw [<-jy,<-List.flatten_append,<-e]
     omega
    generalize ss[j]=sj at *
    have HTK:=jC htk;clear hg
    rw [htk] at hpre;simp only [jy] at hlen hpre;clear htk
    have hll:(Lib.byteCells (l++(ss.take j).flatten)).length+(⟨sj.toArray⟩:ByteArray).size<=140737488355328:=by
     rw [Lib.byteCells_length,jy];show _+sj.length<=_;omega
    have HLL:=jC hll;clear hll
    go_wp2_with fail
    refine (JB 113 Pk B b _ _ _ hbl.is HLL.out hbl.le).mono ?_;rintro e w1 ⟨rfl,hi1,hf1⟩;simp only
    have hbl1:Bld B b (l++(ss.take (j+1)).flatten) w1:=by
     refine ⟨?_,kz hbl.le hf1.below.size⟩;rw [HTK.out,<-jS]
     have:Lib.byteCells (l++(ss.take j).flatten++sj)=Lib.byteCells (l++(ss.take j).flatten)++Lib.strCells ⟨sj.toArray⟩:=by
      rw [Lib.strCells_toArray];simp [Lib.byteCells]
     rw [this];exact hi1
    clear hbl hc hi1
    go_wp2_with fail
    go_roundw
    case rel=>exact ⟨j+1,by omega,by go_num,hbl1,hfb.trans hf1⟩
    case measure=>simp [intOf];omega
  . go_wp2_with fail
    go_end0
    refine ⟨rfl,?_,hfb⟩;rw [List.take_of_length_le (by omega)] at hbl
    exact hbl
def Yp (B b:Nat) (l:lB) (n:Nat) (w:wD) (h:Bld B b l w) (hn:n<=1000000) (hlen:l.length+n<=140737488355328) :
 Calls prog 102 #[.pointer (some ⟨b,0,none⟩),.int .i64 n] w fun e w'=>e = .returned (.tuple #[])/\Bld B b (l++ke n 9) w'/\Fb B b w w':=by
 have HB:=jC h;clear h
 go_enter func102,ntmps102
 go_wp2_with fail
 go_loopw [5] (fun i wr=> ∃j:Nat,j<=n/\i = .int .i64 j/\Bld B b (l++ke j 9) wr/\Fb B b w wr) (fun i _=>n-(intOf i).toNat)
 case atStart=>exact ⟨0,jN _,rfl,by simpa using HB.out,Fb.refl _ _ _⟩
 case round=>
  obtain ⟨j,hj,rfl,hbl,hfb⟩:=hrel
  by_cases hlt:j<n
  . go_wp2_with fail
    refine (Sm 113 Pk B b _ _ _ hbl.is (by rw [Lib.byteCells_length];simp;omega) hbl.le).mono ?_;rintro e w1 ⟨rfl,hi1,hf1⟩;simp only
    have hbl1:Bld B b (l++ke (j+1) 9) w1:=by
     refine ⟨?_,kz hbl.le hf1.below.size⟩
     have:Lib.byteCells (l++ke (j+1) 9)=Lib.byteCells (l++ke j 9)++[Value.int .u8 9]:=by
      rw [List.replicate_succ',<-jS];simp [Lib.byteCells]
     rw [this];exact hi1
    clear hbl hi1
    go_wp2_with fail
    go_roundw
    case rel=>exact ⟨j+1,by omega,by go_num,hbl1,hfb.trans hf1⟩
    case measure=>simp [intOf];omega
  . go_wp2_with fail
    go_end0
    refine ⟨rfl,?_,hfb⟩
    have:j=n:=by omega
    subst this;exact hbl
def BC (f:FuncId) (Q1:Nd->lB) (t:Nd):Prop:=
 ∀(B b:Nat) (l:lB) (w:wD) (a:oA) (c:Nat),Bld B b l w->Tabs w->prog.globals.size<=B->t.sits (· < B) w a->(l++Q1 t).length<=140737488355328 ->
  Calls prog f #[.pointer (some ⟨b,0,none⟩),t.val a c] w fun e w'=>e = .returned (.tuple #[])/\Bld B b (l++Q1 t) w'/\Fb B b w w'
def Nd.sits.fb {B b:Nat} {w w':wD} {t:Nd} {a:oA} (h:t.sits (· < B) w a) (x:Fb B b w w'):t.sits (· < B) w' a:=
 Nd.sits_mono aFh (fun k o _ f E=>(Below.cell (p:=⟨k,o,none⟩) x.below f).trans E) t a h
def Tabs.fb {B b:Nat} {w w':wD} (h:Tabs w) (x:Fb B b w w') (f:prog.globals.size<=B):Tabs w':=h.below x.below f
def Ht (t:Nd) (hp:BC 192 lk t) (B b:Nat) (l:lB) (q:Bool) (w:wD) (a:oA) (c:Nat) (h:Bld B b l w) (ht:Tabs w) (hB:prog.globals.size<=B)
 (hs:t.sits (· < B) w a) (hlen:(l++wrap t.text q).length<=140737488355328) :
 Calls prog 229 #[.pointer (some ⟨b,0,none⟩),t.val a c,.bool q] w fun e w'=>e = .returned (.tuple #[])/\Bld B b (l++wrap t.text q) w'/\Fb B b w w':=by
 have hle:=h.le;have hlt:=h.lt
 have HP:=jC hp;clear hp
 cases q
 . have HL:Hid ((l++t.text).length<=140737488355328):=jC (by simpa [wrap] using hlen)
   clear hlen
   go_enter func229,ntmps229
   go_wp2_with fail
   refine (HP.out B b l _ a c (h.alloc _) (ht.ext ((kQ _).alloc _) (by omega)) hB (hs.ext ((kQ _).alloc _)) HL.out).mono ?_;rintro e w1 ⟨rfl,hb1,hx1⟩;simp only
   go_wp2_with fail
   ((try simp only [Exit.inBlock,Exit.then]);refine bodyPost_ret (results_none rfl _ _ _) rfl ?_)
   exact ⟨rfl,by simpa [wrap] using hb1,Fb.trans ((Fb.refl _ _ _).alloc hle _) hx1⟩
 . simp only [wrap,if_true,jy,jz,jD] at hlen
   go_enter func229,ntmps229
   go_wp2_with fail
   have hbx0:Box w.heap.size #[.int .u8 t.kind,.int .i64 t.num,str t.name,.slice a t.kids.length c] 32 (w.alloc (.cells #[.int .u8 t.kind,.int .i64 t.num,str t.name,.slice a t.kids.length c] 32)):=Box.new _ _ _;refine (AR B b (w.heap.size+1) 1 l [[40]] _ ((h.alloc _).alloc _) (Box.new' _ _ (by simp)) (by decide) (by simp;omega)).mono ?_;rintro e w1 ⟨rfl,hb1,hx1⟩;have hbx1:=(hbx0.alloc (Obj.cells #[.string { data:= #[40] }] 9)).fb hx1 (by omega) (by decide);have hxx1:Fb B b w w1:=Fb.trans (((Fb.refl _ _ _).alloc hle _).alloc hle _) hx1;obtain ⟨g0,g1,g2,g3⟩:=hbx1.node;simp only
   go_wp2_with fail
   refine (HP.out B b (l++[[40]].flatten) _ a c hb1 (ht.fb hxx1 hB) hB (hs.fb hxx1) (by simp;omega)).mono ?_;rintro e w2 ⟨rfl,hb2,hx2⟩;simp only
   go_wp2_with fail
   refine (AR B b w2.heap.size 1 _ [[41]] _ (hb2.alloc _) (Box.new' _ _ (by simp)) (by decide) (by simp;omega)).mono ?_;rintro e w3 ⟨rfl,hb3,hx3⟩;simp only
   go_wp2_with fail
   go_end0
   refine ⟨rfl,by simpa [wrap] using hb3,?_⟩
   exact (hxx1.trans hx2).trans (Fb.trans ((Fb.refl _ _ _).alloc hb2.le _) hx3)
open Go.Sort
def Yq (w:wD) (k:Nat) (f:Array Obj):Ext w (grow (w.drewN k) f):=by
 have h:(grow (w.drewN k) f).heap=w.heap++f:=rfl;refine ⟨rfl,rfl,rfl,?_,fun i E=>?_⟩
 . rw [h];simp
 . rw [h,Array.getElem?_append_left E]
def Yr (n:Int) (f : -9223372036854775808<=n) (h1:n<=9223372036854775807) (w:wD) (h:Tabs w) :
 Calls prog 62 #[.int .i64 n] w fun e w'=>e = .returned (str (Lib.itoa n))/\Ext w w':=
 (Tryz.strconv_Itoa n f h1 w h.pow).mono fun e w' ⟨E,k,os,hw⟩=>⟨E,hw▸Yq w k os⟩
def I7 (k n:Int) (s:lB) (a:oA) (l c:Nat) (w:wD) :
 Calls prog 230 #[.agg #[.int .u8 k,.int .i64 n,str s,.slice a l c]] w fun e w'=>e = .returned (.bool (CE k))/\Ext w w':=by
 go_enter func230,ntmps230
 go_wp2_with fail
 all_goals go_ret
 all_goals exact ⟨AM (by unfold CE;rw [Bool.eq_iff_iff];simp;try omega),(by repeat (first|exact kQ _|assumption|refine kT ?_ _|refine lm ?_|refine kV ?_ ‹_›))⟩
def fE (n:Int) (s:lB) (l:List Nd) (hn0 : -9223372036854775808<=n) (hn1:n<=9223372036854775807):BC 192 lk (.mk 1 n s l):=by
 intro B b t w a c h ht hB hs hlen
 have htx:(Nd.mk 1 n s l).text=Lib.itoa n:=by rw [Nd.text.eq_def];simp
 rw [htx] at hlen ⊢;have hle:=h.le;have hlt:=h.lt;simp only [jy] at hlen;simp only [kZ,lp,lj,li,lq];clear hs
 go_enter func192,ntmps192
 go_wp2_with fail
 refine (Yr n hn0 hn1 _ (ht.ext ((kQ _).alloc _) (by omega))).mono ?_;rintro e w1 ⟨rfl,hx1⟩;have hb1:=(h.alloc _).ext hx1;simp only
 go_wp2_with fail
 refine (AR B b w1.heap.size 1 t [Lib.itoa n] _ (hb1.alloc _) (Box.new' _ _ (by simp)) (by simp) (by simp;omega)).mono ?_;rintro e w2 ⟨rfl,hb2,hx2⟩;simp only
 go_wp2_with fail
 go_end0
 exact ⟨rfl,by simpa using hb2,Fb.trans (Fb.of_ext (by refine kT ?_ _;refine kV ?_ ‹_›;refine kT ?_ _;exact kQ _) hle) hx2⟩
def fF (n:Int) (s:lB) (l:List Nd):BC 192 lk (.mk 2 n s l):=by
 intro B b t w a c h ht hB hs hlen
 have htx:(Nd.mk 2 n s l).text=s:=by rw [Nd.text.eq_def];simp
 rw [htx] at hlen ⊢;have hle:=h.le;have hlt:=h.lt;simp only [jy] at hlen;simp only [kZ,lp,lj,li,lq];clear hs
 go_enter func192,ntmps192
 go_wp2_with fail
 refine (AR B b (w.heap.size+1) 1 t [s] _ ((h.alloc _).alloc _) (Box.new' _ _ (by simp)) (by simp) (by simp;omega)).mono ?_;rintro e w2 ⟨rfl,hb2,hx2⟩;simp only
 go_wp2_with fail
 go_end0
 exact ⟨rfl,by simpa using hb2,Fb.trans (Fb.of_ext (by refine kT ?_ _;refine kT ?_ _;exact kQ _) hle) hx2⟩
def fG (n:Int) (s:lB) (l:List Nd):BC 192 lk (.mk 4 n s l):=by
 intro B b t w a c h ht hB hs hlen
 have htx:(Nd.mk 4 n s l).text=[116,111,112,40]++s++[41]:=by rw [Nd.text.eq_def];simp
 rw [htx] at hlen ⊢;have hle:=h.le;have hlt:=h.lt;simp only [jy,jz,jD] at hlen;simp only [kZ,lp,lj,li,lq];clear hs
 go_enter func192,ntmps192
 go_wp2_with fail
 refine (AR B b (w.heap.size+1) 3 t [[116,111,112,40],s,[41]] _ ((h.alloc _).alloc _) (Box.new' _ _ (by simp)) (by simp) (by simp;omega)).mono ?_;rintro e w2 ⟨rfl,hb2,hx2⟩;simp only
 go_wp2_with fail
 go_end0
 exact ⟨rfl,by simpa using hb2,Fb.trans (Fb.of_ext (by refine kT ?_ _;refine kT ?_ _;exact kQ _) hle) hx2⟩
def fH (n:Int) (s:lB) (l:List Nd):BC 192 lk (.mk 5 n s l):=by
 intro B b t w a c h ht hB hs hlen
 have htx:(Nd.mk 5 n s l).text=[115,105,122,101,40]++s++[41]:=by rw [Nd.text.eq_def];simp
 rw [htx] at hlen ⊢;have hle:=h.le;have hlt:=h.lt;simp only [jy,jz,jD] at hlen;simp only [kZ,lp,lj,li,lq];clear hs
 go_enter func192,ntmps192
 go_wp2_with fail
 refine (AR B b (w.heap.size+1) 3 t [[115,105,122,101,40],s,[41]] _ ((h.alloc _).alloc _) (Box.new' _ _ (by simp)) (by simp) (by simp;omega)).mono ?_;rintro e w2 ⟨rfl,hb2,hx2⟩;simp only
 go_wp2_with fail
 go_end0
 exact ⟨rfl,by simpa using hb2,Fb.trans (Fb.of_ext (by refine kT ?_ _;refine kT ?_ _;exact kQ _) hle) hx2⟩
def aC {S:nP} {w:wD} {x:Nd} {a:oA} (h:rowSits S w [x] a) : ∃f E xa xc,a=some ⟨f,E,none⟩/\S f/\w.cell? ⟨f,E,none⟩=some (.int .u8 x.kind)/\w.cell? ⟨f,E+1,none⟩=some (.int .i64 x.num)/\w.cell? ⟨f,E+2,none⟩=some (str x.name)/\w.cell? ⟨f,E+3,none⟩=some (.slice xa x.kids.length xc)/\x.sits S w xa:=by
 obtain ⟨b,o,F,c,rfl,L,h1,M,N,O,U⟩:=AS h (i:=0) (t:=x) rfl;exact ⟨b,o,F,c,rfl,L,by simpa using h1,by simpa using M,by simpa using N,by simpa using O,U⟩
def fI (n:Int) (s:lB) (x:Nd) (hx:BC 192 lk x):BC 192 lk (.mk 3 n s [x]):=by
 intro B b t w a c h ht hB hs hlen
 have htx:(Nd.mk 3 n s [x]).text=s++[91]++x.text++[93]:=by rw [Nd.text.eq_def];simp
 rw [htx] at hlen ⊢;have hle:=h.le;have hlt:=h.lt;simp only [jy,jz,jD] at hlen;simp only [kZ,lp,lj,li,lq,jz,jD]
 have HX:=jC hx;clear hx
 simp only [lg] at hs;obtain ⟨kb,ko,xa,xc,rfl,-,-⟩:=aC hs;have hbx0:Box w.heap.size #[.int .u8 3,.int .i64 n,str s,.slice (some ⟨kb,ko,none⟩) 1 c] 32 (w.alloc (.cells #[.int .u8 3,.int .i64 n,str s,.slice (some ⟨kb,ko,none⟩) 1 c] 32)):=Box.new _ _ _
 go_enter func192,ntmps192
 go_wp2_with fail
 refine (AR B b (w.heap.size+1) 2 t [s,[91]] _ ((h.alloc _).alloc _) (Box.new' _ _ (by simp)) (by simp) (by simp;omega)).mono ?_;rintro e w1 ⟨rfl,hb1,hx1⟩;have hbx1:=(hbx0.alloc _).fb hx1 (by omega) (by decide);have hxx1:Fb B b w w1:=Fb.trans (Fb.of_ext (by refine kT ?_ _;refine kT ?_ _;exact kQ _) hle) hx1;obtain ⟨g0,g1,g2,g3⟩:=hbx1.node;have hs1:=hs.fb hxx1;obtain ⟨kb',ko',xa,xc,he,hk1,k0,k1,k2,k3,hxs⟩:=aC hs1;simp only [jJ,Addr.mk.injEq] at he;obtain ⟨rfl,rfl,-⟩:=he;simp only
 go_wp2_with fail
 refine (HX.out B b _ _ xa xc hb1 (ht.fb hxx1 hB) hB hxs (by simp;omega)).mono ?_;rintro e w2 ⟨rfl,hb2,hx2⟩;simp only
 go_wp2_with fail
 refine (AR B b w2.heap.size 1 _ [[93]] _ (hb2.alloc _) (Box.new' _ _ (by simp)) (by simp) (by simp;omega)).mono ?_;rintro e w3 ⟨rfl,hb3,hx3⟩;simp only
 go_wp2_with fail
 go_end0
 exact ⟨rfl,by simpa using hb3,(hxx1.trans hx2).trans (Fb.trans (Fb.of_ext (by refine kT ?_ _;exact kQ _) hb2.le) hx3)⟩
def aD (k n:Int) (s:lB) (x:Nd) (hk:k=6\/k=7) (hx:BC 192 lk x):BC 192 lk (.mk k n s [x]):=by
 intro B b t w a c h ht hB hs hlen
 have htx:(Nd.mk k n s [x]).text=Cm k++wrap x.text (CE x.kind):=by rcases hk with rfl|rfl<;>(rw [Nd.text.eq_def];simp)
 rw [htx] at hlen ⊢;have hle:=h.le;have hlt:=h.lt;simp only [jy,jz,jD] at hlen;simp only [kZ,lp,lj,li,lq,jz,jD]
 have HX:=jC hx;clear hx htx
 simp only [lg] at hs;obtain ⟨kb,ko,xa,xc,rfl,-,-⟩:=aC hs;have hbx0:Box w.heap.size #[.int .u8 k,.int .i64 n,str s,.slice (some ⟨kb,ko,none⟩) 1 c] 32 (w.alloc (.cells #[.int .u8 k,.int .i64 n,str s,.slice (some ⟨kb,ko,none⟩) 1 c] 32)):=Box.new _ _ _
 have hk0:0<=k/\k<=255:=by omega
 obtain ⟨hk0,hk1⟩:=hk0
 have d1:(k==1)=false:=by rw [beq_eq_false_iff_ne];omega
 have d2:(k==2)=false:=by rw [beq_eq_false_iff_ne];omega
 have d3:(k==3)=false:=by rw [beq_eq_false_iff_ne];omega
 have d4:(k==4)=false:=by rw [beq_eq_false_iff_ne];omega
 have d5:(k==5)=false:=by rw [beq_eq_false_iff_ne];omega
 have dk:(k==6)=true\/(k==6)=false/\(k==7)=true:=by rcases hk with rfl|rfl<;>simp
 clear hk
 rcases dk with d6|⟨d6,d7⟩
 all_goals
  go_enter func192,ntmps192
  go_wp2_with fail
  refine (GA _ _ hk0 hk1 (ht.ext ((kQ _).alloc _) (by omega))).mono ?_;rintro e w1 ⟨rfl,rfl⟩;simp only
  go_wp2_with fail
  refine (AR B b (w.heap.size+1) 1 t [Cm k] _ ((h.alloc _).alloc _) (Box.new' _ _ (by simp)) (by simp) (by simp;omega)).mono ?_;rintro e w1 ⟨rfl,hb1,hx1⟩;have hbx1:=(hbx0.alloc _).fb hx1 (by omega) (by decide);have hxx1:Fb B b w w1:=Fb.trans (Fb.of_ext (by repeat (first|exact kQ _|assumption|refine kT ?_ _|refine lm ?_|refine kV ?_ ‹_›)) hle) hx1;obtain ⟨g0,g1,g2,g3⟩:=hbx1.node;have hs1:=hs.fb hxx1;obtain ⟨kb',ko',xa,xc,he,hkB,k0,k1,k2,k3,hxs⟩:=aC hs1;simp only [jJ,Addr.mk.injEq] at he;obtain ⟨rfl,rfl,-⟩:=he;have ht1:=ht.fb hxx1 hB;simp only
  go_wp2_with fail
  go_region_held3 (fun w'=>w'.cell? ⟨w.heap.size,3,none⟩=some (.slice (some ⟨kb,ko,none⟩) 1 c)/\w'.cell? ⟨kb,ko,none⟩=some (.int .u8 x.kind)/\w'.cell? ⟨kb,ko+1,none⟩=some (.int .i64 x.num)/\w'.cell? ⟨kb,ko+2,none⟩=some (str x.name)/\w'.cell? ⟨kb,ko+3,none⟩=some (.slice xa x.kids.length xc))
   (first|exact ⟨g3,k0,k1,k2,k3⟩|exact ⟨hx2.keep g3,hx2.keep k0,hx2.keep k1,hx2.keep k2,hx2.keep k3⟩|exact ⟨(((hbx1.drew.ext hx2).fb hx3 (by omega) (by decide)).node).2.2.2,(Below.cell (p:=⟨_,_,none⟩) hx3.below hkB).trans (hx2.keep k0),(Below.cell (p:=⟨_,_,none⟩) hx3.below hkB).trans (hx2.keep k1),(Below.cell (p:=⟨_,_,none⟩) hx3.below hkB).trans (hx2.keep k2),(Below.cell (p:=⟨_,_,none⟩) hx3.below hkB).trans (hx2.keep k3)⟩)
   (first|(go_at_call 230;refine (I7 _ _ _ _ _ _ _).mono ?_;rintro e w2 ⟨rfl,hx2⟩)|(go_at_call 229;refine (Ht x HX.out B b _ _ _ xa xc (hb1.drew.ext hx2) ((ht1.ext (kQ _).drew (by have:=hb1.le;omega)).ext hx2 (by have:=hb1.le;show _<=w1.heap.size;omega)) hB (hxs.ext (kV (kQ _).drew hx2)) (by simp;omega)).mono ?_;rintro e w3 ⟨rfl,hb3,hx3⟩))
  go_wp2_with fail
  go_end0
  exact ⟨rfl,by simpa [kZ] using hb3,(hxx1.trans (Fb.of_ext (kV (kQ _).drew hx2) hb1.le)).trans hx3⟩
def Ss {a k:Int} (h:CE a=false):ET a k=false:=by simp [ET,h]
def St {a k:Int} (h:CE a=false):Fs a k=false:=by simp [Fs,h]
def Su {a k:Int} (h:CE a=true) {q:Bool} (f:q=true↔Bv a<Bv k):ET a k=q:=by rw [Bool.eq_iff_iff,f];simp [ET,h]
def Sw {a k:Int} (h:CE a=true) {q:Bool} (f:q=true↔Bv a<=Bv k):Fs a k=q:=by rw [Bool.eq_iff_iff,f];simp [Fs,h]
def iR {S:nP} {w:wD} {x y:Nd} {a:oA} (h:rowSits S w [x,y] a) : ∃f E xa xc ya yc,a=some ⟨f,E,none⟩/\S f/\(w.cell? ⟨f,E,none⟩=some (.int .u8 x.kind)/\w.cell? ⟨f,E+1,none⟩=some (.int .i64 x.num)/\w.cell? ⟨f,E+2,none⟩=some (str x.name)/\w.cell? ⟨f,E+3,none⟩=some (.slice xa x.kids.length xc)/\x.sits S w xa) /\
 (w.cell? ⟨f,E+4,none⟩=some (.int .u8 y.kind)/\w.cell? ⟨f,E+4+1,none⟩=some (.int .i64 y.num)/\w.cell? ⟨f,E+4+2,none⟩=some (str y.name)/\w.cell? ⟨f,E+4+3,none⟩=some (.slice ya y.kids.length yc)/\y.sits S w ya):=by
 obtain ⟨b,o,X,c,rfl,Y,h1,Z,h3,h4,h5⟩:=AS h (i:=0) (t:=x) rfl;obtain ⟨b',o',F,c',V,aa,L,M,N,O,U⟩:=AS h (i:=1) (t:=y) rfl;simp only [jJ,Addr.mk.injEq] at V;obtain ⟨rfl,rfl,-⟩:=V;exact ⟨b,o,X,c,F,c',rfl,Y,⟨by simpa using h1,by simpa using Z,by simpa using h3,by simpa using h4,h5⟩,⟨by simpa using L,by simpa using M,by simpa using N,by simpa using O,U⟩⟩
set_option maxHeartbeats 8000000 in
def Ys (k n:Int) (s:lB) (x y:Nd) (hk8:8<=k) (hk23:k<=23) (hx:BC 192 lk x) (hy:BC 192 lk y):BC 192 lk (.mk k n s [x,y]):=by
 intro B b t w a c h ht hB hs hlen
 have d1:(k==1)=false:=by rw [beq_eq_false_iff_ne];omega
 have d2:(k==2)=false:=by rw [beq_eq_false_iff_ne];omega
 have d3:(k==3)=false:=by rw [beq_eq_false_iff_ne];omega
 have d4:(k==4)=false:=by rw [beq_eq_false_iff_ne];omega
 have d5:(k==5)=false:=by rw [beq_eq_false_iff_ne];omega
 have d6:(k==6)=false:=by rw [beq_eq_false_iff_ne];omega
 have d7:(k==7)=false:=by rw [beq_eq_false_iff_ne];omega
 have htx:(Nd.mk k n s [x,y]).text=wrap x.text (ET x.kind k)++[32]++Cm k++[32]++wrap y.text (Fs y.kind k):=by
  rw [Nd.text.eq_def];simp only [];rw [At (by omega),At (by omega),At (by omega),At (by omega),At (by omega),At (by omega)]
 rw [htx] at hlen ⊢;have hle:=h.le;have hlt:=h.lt;simp only [jy,jz,jD] at hlen;simp only [kZ,lp,lj,li,lq,jz,jD]
 have HX:=jC hx;clear hx htx
 have HY:=jC hy;clear hy
 simp only [lg] at hs;obtain ⟨xk,xn,xs,xl⟩:=x;obtain ⟨yk,yn,ys,yl⟩:=y;obtain ⟨kb,ko,xa,xc,ya,yc,rfl,hkB,⟨k0,k1,k2,k3,hxs⟩,⟨m0,m1,m2,m3,hys⟩⟩:=iR hs;simp only [kZ,lp,lj,li] at *
 go_enter func192,ntmps192
 have hkw:kb<w.heap.size:=Nat.lt_of_lt_of_le hkB hle;have m1':w.cell? ⟨kb,ko+5,none⟩=some (.int .i64 yn):=m1;have m2':w.cell? ⟨kb,ko+6,none⟩=some (str ys):=m2;have m3':w.cell? ⟨kb,ko+7,none⟩=some (.slice ya yl.length yc):=m3
 have hkw1:kb<w.heap.size+1:=by omega
 have hkw2:kb<w.heap.size+2:=by omega
 have hkw3:kb<w.heap.size+1+1:=by omega
 go_upto_region 2 with fail
 go_cut [4,5] (fun s4 s5 W=> ∃pl pr:Nat,s4 = .pointer (some ⟨pl,0,none⟩)/\s5 = .pointer (some ⟨pr,0,none⟩)/\Box w.heap.size #[.int .u8 k,.int .i64 n,str s,.slice (some ⟨kb,ko,none⟩) 2 c] 32 W/\Box pl #[.int .u8 xk,.int .i64 xn,str xs,.slice xa xl.length xc] 32 W/\Box pr #[.int .u8 yk,.int .i64 yn,str ys,.slice ya yl.length yc] 32 W/\Ext w W/\b<pl/\b<pr)
 case first=>
  go_region
  . go_wp2_with fail
    go_meet
    exact ⟨w.heap.size+1,w.heap.size+1+1,rfl,rfl,(((Box.new _ _ _).alloc _).alloc _).drew,((Box.new' _ _ (by simp)).alloc _).drew,(Box.new' _ _ (by simp)).drew,(by refine lm ?_;refine kT ?_ _;refine kT ?_ _;refine kT ?_ _;exact kQ _),by omega,by omega⟩
  . go_wp2_with fail
    go_meet
    exact ⟨w.heap.size+1+1,w.heap.size+1,rfl,rfl,(((Box.new _ _ _).alloc _).alloc _).drew,(Box.new' _ _ (by simp)).drew,((Box.new' _ _ (by simp)).alloc _).drew,(by refine lm ?_;refine kT ?_ _;refine kT ?_ _;refine kT ?_ _;exact kQ _),by omega,by omega⟩
 case rest=>
  obtain ⟨W,hW⟩ : ∃W:wD,W=wc:=⟨wc,rfl⟩;subst hW;obtain ⟨pl,pr,rfl,rfl,hbn,hbl,hbr,hxW,hpl,hpr⟩:=hcut;have hle1:B<=W.heap.size:=kz hle hxW.size;have ht1:=ht.ext hxW (by omega);have hxW1:Fb B b w W:=Fb.of_ext hxW hle;have hxs1:=hxs.ext hxW;have hys1:=hys.ext hxW;have hb0:=h.ext hxW;clear k0 k1 k2 k3 m0 m1 m2 m3 m1' m2' m3' hxs hys hs h ht hkw hkw1 hkw2 hkw3;have hbb:=hb0.lt;obtain ⟨c0,c1,c2,c3⟩:=hbn.node;obtain ⟨l0,l1,l2,l3⟩:=hbl.node
  go_wp2_with fail
  refine (D2 _ _ (by omega) (by omega)).mono ?_;rintro e w1 ⟨rfl,rfl⟩;simp only
  go_upto_region 4 with fail
  go_cut [] (fun u3=>Bld B b (t++wrap (Nd.mk xk xn xs xl).text (ET xk k)) u3/\Fb B b W u3)
  case first=>
   cases hq:CE xk
   . have HQ:=jC hq;clear hq
     refine wp_region_held_drew (S:=fun w'=>w'.cell? ⟨pl,0,none⟩=some (.int .u8 xk)/\w'.cell? ⟨pl,1,none⟩=some (.int .i64 xn)/\w'.cell? ⟨pl,2,none⟩=some (str xs)/\w'.cell? ⟨pl,3,none⟩=some (.slice xa xl.length xc)) (by kernel_rfl) ⟨l0,l1,l2,l3⟩ (fun hHeld=>?_)
     ((refine wpAnyH_take (i:=0) (oi:=_) (v:=?v0_1) rfl (by kernel_rfl) (by kernel_rfl) (by kernel_rfl) (fun _ _ _ h=>h) (jF ⟨by rfl,?y0_1⟩) ‹_› ?r0_1);(case y0_1=>(intro w hSw;(try dsimp only at hSw);go_simp;try (with_reducible rfl)));(try simp only [Act.put,List.getElem_toArray,List.getElem_cons_zero,jE,List.setIfInBounds_toArray,jI,List.set_cons_succ]))
     ((refine wpAnyH_take (i:=1) (oi:=_) (v:=?v1_2) rfl (by kernel_rfl) (by kernel_rfl) (by kernel_rfl) (fun _ _ _ h=>h) (jF ⟨by rfl,?y1_2⟩) ‹_› ?r1_2);(case y1_2=>(intro w hSw;(try dsimp only at hSw);go_simp;try (with_reducible rfl)));(try simp only [Act.put,List.getElem_toArray,List.getElem_cons_zero,jE,List.setIfInBounds_toArray,jI,List.set_cons_succ]))
     ((refine wpAnyH_take (i:=2) (oi:=_) (v:=?v2_3) rfl (by kernel_rfl) (by kernel_rfl) (by kernel_rfl) (fun _ _ _ h=>h) (jF ⟨by rfl,?y2_3⟩) ‹_› ?r2_3);(case y2_3=>(intro w hSw;(try dsimp only at hSw);go_simp;try (with_reducible rfl)));(try simp only [Act.put,List.getElem_toArray,List.getElem_cons_zero,jE,List.setIfInBounds_toArray,jI,List.set_cons_succ]))
     ((refine wpAnyH_ready (rs:=[3]) (by kernel_rfl) (by simp) ?_);(refine AllReadyH.cons (o:=_) rfl (fun K hK=>?_) AllReadyH.nil);go_simp)
     refine (I7 _ _ _ _ _ _ _).mono ?_;rintro e u2 ⟨rfl,hx2⟩;rw [HQ.out];refine hK.out _ _ ⟨hx2.keep l0,hx2.keep l1,hx2.keep l2,hx2.keep l3⟩ (fun hHeld=>?_);clear hK K;(try simp only [Act.put,List.getElem_toArray,List.getElem_cons_zero,jE,List.setIfInBounds_toArray,jI,List.set_cons_succ])
     ((refine wpAnyH_take (i:=4) (oi:=_) (v:=?v4_4) rfl (by kernel_rfl) (by kernel_rfl) (by kernel_rfl) (fun _ _ _ h=>h) (jF ⟨by rfl,?y4_4⟩) ‹_› ?r4_4);(case y4_4=>(intro w hSw;(try dsimp only at hSw);go_simp;try (with_reducible rfl)));(try simp only [Act.put,List.getElem_toArray,List.getElem_cons_zero,jE,List.setIfInBounds_toArray,jI,List.set_cons_succ]))
     ((refine wpAnyH_take (i:=5) (oi:=_) (v:=undef) rfl (by kernel_rfl) (by kernel_rfl) (by kernel_rfl) (fun _ _ _ h=>h) (jG ⟨by rfl,rfl⟩) ‹_› ?_);(try simp only [Act.put,List.getElem_toArray,List.getElem_cons_zero,jE,List.setIfInBounds_toArray,jI,List.set_cons_succ]))
     ((refine wpAnyH_take (i:=6) (oi:=_) (v:=undef) rfl (by kernel_rfl) (by kernel_rfl) (by kernel_rfl) (fun _ _ _ h=>h) (jG ⟨by rfl,rfl⟩) ‹_› ?_);(try simp only [Act.put,List.getElem_toArray,List.getElem_cons_zero,jE,List.setIfInBounds_toArray,jI,List.set_cons_succ]))
     ((refine wpAnyH_take (i:=7) (oi:=_) (v:=undef) rfl (by kernel_rfl) (by kernel_rfl) (by kernel_rfl) (fun _ _ _ h=>h) (jG ⟨by rfl,rfl⟩) ‹_› ?_);(try simp only [Act.put,List.getElem_toArray,List.getElem_cons_zero,jE,List.setIfInBounds_toArray,jI,List.set_cons_succ]))
     ((refine wpAnyH_take (i:=8) (oi:=_) (v:=undef) rfl (by kernel_rfl) (by kernel_rfl) (by kernel_rfl) (fun _ _ _ h=>h) (jG ⟨by rfl,rfl⟩) ‹_› ?_);(try simp only [Act.put,List.getElem_toArray,List.getElem_cons_zero,jE,List.setIfInBounds_toArray,jI,List.set_cons_succ]))
     ((refine wpAnyH_take (i:=9) (oi:=_) (v:=undef) rfl (by kernel_rfl) (by kernel_rfl) (by kernel_rfl) (fun _ _ _ h=>h) (jG ⟨by rfl,rfl⟩) ‹_› ?_);(try simp only [Act.put,List.getElem_toArray,List.getElem_cons_zero,jE,List.setIfInBounds_toArray,jI,List.set_cons_succ]))
     ((refine wpAnyH_take (i:=10) (oi:=_) (v:=?v10_5) rfl (by kernel_rfl) (by kernel_rfl) (by kernel_rfl) (fun _ _ _ h=>h) (jF ⟨by rfl,?y10_5⟩) ‹_› ?r10_5);(case y10_5=>(intro w hSw;(try dsimp only at hSw);go_simp;try (with_reducible rfl)));(try simp only [Act.put,List.getElem_toArray,List.getElem_cons_zero,jE,List.setIfInBounds_toArray,jI,List.set_cons_succ]))
     ((refine wpAnyH_ready (rs:=[11]) (by kernel_rfl) (by simp) ?_);(refine AllReadyH.cons (o:=_) rfl (fun K hK=>?_) AllReadyH.nil);go_simp)
     refine (Ht (.mk xk xn xs xl) HX.out B b _ _ _ xa xc (hb0.drew.ext hx2) ((ht1.ext (kQ _).drew (by omega)).ext hx2 (by show _<=W.heap.size;omega)) hB (hxs1.ext (kV (kQ _).drew hx2)) (by rw [<-Ss (k:=k) HQ.out];simp only [jy,jY,List.flatten_nil,jz,jD] at hlen ⊢;omega)).mono ?_;rintro e u3 ⟨rfl,hb3,hx3⟩;rw [<-Ss (k:=k) HQ.out] at hb3;refine hK.out _ _ ((hbl.drew.ext hx2).fb hx3 (by omega) (by decide)).node (fun hHeld=>?_);clear hK K hHeld;(try simp only [Act.put,List.getElem_toArray,List.getElem_cons_zero,jE,List.setIfInBounds_toArray,jI,List.set_cons_succ]);(refine wpAnyH_done (by kernel_rfl) ?_ _)
     go_wp2_with fail
     go_meet
     refine ⟨?_,(Fb.of_ext (kV (kQ _).drew hx2) hle1).trans hx3⟩
     exact hb3
   . have HQ:=jC hq;clear hq
     refine wp_region_held_drew (S:=fun w'=>w'.cell? ⟨pl,0,none⟩=some (.int .u8 xk)/\w'.cell? ⟨pl,1,none⟩=some (.int .i64 xn)/\w'.cell? ⟨pl,2,none⟩=some (str xs)/\w'.cell? ⟨pl,3,none⟩=some (.slice xa xl.length xc)) (by kernel_rfl) ⟨l0,l1,l2,l3⟩ (fun hHeld=>?_)
     ((refine wpAnyH_take (i:=0) (oi:=_) (v:=?v0_6) rfl (by kernel_rfl) (by kernel_rfl) (by kernel_rfl) (fun _ _ _ h=>h) (jF ⟨by rfl,?y0_6⟩) ‹_› ?r0_6);(case y0_6=>(intro w hSw;(try dsimp only at hSw);go_simp;try (with_reducible rfl)));(try simp only [Act.put,List.getElem_toArray,List.getElem_cons_zero,jE,List.setIfInBounds_toArray,jI,List.set_cons_succ]))
     ((refine wpAnyH_take (i:=1) (oi:=_) (v:=?v1_7) rfl (by kernel_rfl) (by kernel_rfl) (by kernel_rfl) (fun _ _ _ h=>h) (jF ⟨by rfl,?y1_7⟩) ‹_› ?r1_7);(case y1_7=>(intro w hSw;(try dsimp only at hSw);go_simp;try (with_reducible rfl)));(try simp only [Act.put,List.getElem_toArray,List.getElem_cons_zero,jE,List.setIfInBounds_toArray,jI,List.set_cons_succ]))
     ((refine wpAnyH_take (i:=2) (oi:=_) (v:=?v2_8) rfl (by kernel_rfl) (by kernel_rfl) (by kernel_rfl) (fun _ _ _ h=>h) (jF ⟨by rfl,?y2_8⟩) ‹_› ?r2_8);(case y2_8=>(intro w hSw;(try dsimp only at hSw);go_simp;try (with_reducible rfl)));(try simp only [Act.put,List.getElem_toArray,List.getElem_cons_zero,jE,List.setIfInBounds_toArray,jI,List.set_cons_succ]))
     ((refine wpAnyH_ready (rs:=[3]) (by kernel_rfl) (by simp) ?_);(refine AllReadyH.cons (o:=_) rfl (fun K hK=>?_) AllReadyH.nil);go_simp)
     refine (I7 _ _ _ _ _ _ _).mono ?_;rintro e u2 ⟨rfl,hx2⟩;rw [HQ.out];refine hK.out _ _ ⟨hx2.keep l0,hx2.keep l1,hx2.keep l2,hx2.keep l3⟩ (fun hHeld=>?_);clear hK K;(try simp only [Act.put,List.getElem_toArray,List.getElem_cons_zero,jE,List.setIfInBounds_toArray,jI,List.set_cons_succ])
     ((refine wpAnyH_take (i:=4) (oi:=_) (v:=?v4_9) rfl (by kernel_rfl) (by kernel_rfl) (by kernel_rfl) (fun _ _ _ h=>h) (jF ⟨by rfl,?y4_9⟩) ‹_› ?r4_9);(case y4_9=>(intro w hSw;(try dsimp only at hSw);go_simp;try (with_reducible rfl)));(try simp only [Act.put,List.getElem_toArray,List.getElem_cons_zero,jE,List.setIfInBounds_toArray,jI,List.set_cons_succ]))
     have hbk:8<=xk/\xk<=23:=by have:=HQ.out;simp [CE] at this;exact this
     obtain ⟨hbk0,hbk1⟩:=hbk
     ((refine wpAnyH_take (i:=5) (oi:=_) (v:=?v5_10) rfl (by kernel_rfl) (by kernel_rfl) (by kernel_rfl) (fun _ _ _ h=>h) (jF ⟨by rfl,?y5_10⟩) ‹_› ?r5_10);(case y5_10=>(intro w hSw;(try dsimp only at hSw);go_simp;try (with_reducible rfl)));(try simp only [Act.put,List.getElem_toArray,List.getElem_cons_zero,jE,List.setIfInBounds_toArray,jI,List.set_cons_succ]))
     ((refine wpAnyH_take (i:=6) (oi:=_) (v:=?v6_11) rfl (by kernel_rfl) (by kernel_rfl) (by kernel_rfl) (fun _ _ _ h=>h) (jF ⟨by rfl,?y6_11⟩) ‹_› ?r6_11);(case y6_11=>(intro w hSw;(try dsimp only at hSw);go_simp;try (with_reducible rfl)));(try simp only [Act.put,List.getElem_toArray,List.getElem_cons_zero,jE,List.setIfInBounds_toArray,jI,List.set_cons_succ]))
     ((refine wpAnyH_take (i:=8) (oi:=_) (v:=?v8_12) rfl (by kernel_rfl) (by kernel_rfl) (by kernel_rfl) (fun _ _ _ h=>h) (jF ⟨by rfl,?y8_12⟩) ‹_› ?r8_12);(case y8_12=>(intro w hSw;(try dsimp only at hSw);go_simp;try (with_reducible rfl)));(try simp only [Act.put,List.getElem_toArray,List.getElem_cons_zero,jE,List.setIfInBounds_toArray,jI,List.set_cons_succ]))
     ((refine wpAnyH_ready (rs:=[7]) (by kernel_rfl) (by simp) ?_);(refine AllReadyH.cons (o:=_) rfl (fun K hK=>?_) AllReadyH.nil);go_simp)
     refine (D2 _ _ (by omega) (by omega)).mono ?_;rintro e u' ⟨rfl,rfl⟩;refine hK.out _ _ ⟨hx2.keep l0,hx2.keep l1,hx2.keep l2,hx2.keep l3⟩ (fun hHeld=>?_);clear hK K;(try simp only [Act.put,List.getElem_toArray,List.getElem_cons_zero,jE,List.setIfInBounds_toArray,jI,List.set_cons_succ])
     ((refine wpAnyH_take (i:=9) (oi:=_) (v:=?v9_13) rfl (by kernel_rfl) (by kernel_rfl) (by kernel_rfl) (fun _ _ _ h=>h) (jF ⟨by rfl,?y9_13⟩) ‹_› ?r9_13);(case y9_13=>(intro w hSw;(try dsimp only at hSw);go_simp;try (with_reducible rfl)));(try simp only [Act.put,List.getElem_toArray,List.getElem_cons_zero,jE,List.setIfInBounds_toArray,jI,List.set_cons_succ]))
     ((refine wpAnyH_take (i:=10) (oi:=_) (v:=?v10_14) rfl (by kernel_rfl) (by kernel_rfl) (by kernel_rfl) (fun _ _ _ h=>h) (jF ⟨by rfl,?y10_14⟩) ‹_› ?r10_14);(case y10_14=>(intro w hSw;(try dsimp only at hSw);go_simp;try (with_reducible rfl)));(try simp only [Act.put,List.getElem_toArray,List.getElem_cons_zero,jE,List.setIfInBounds_toArray,jI,List.set_cons_succ]))
     ((refine wpAnyH_ready (rs:=[11]) (by kernel_rfl) (by simp) ?_);(refine AllReadyH.cons (o:=_) rfl (fun K hK=>?_) AllReadyH.nil);go_simp)
     refine (Ht (.mk xk xn xs xl) HX.out B b _ _ _ xa xc (hb0.drew.ext hx2) ((ht1.ext (kQ _).drew (by omega)).ext hx2 (by show _<=W.heap.size;omega)) hB (hxs1.ext (kV (kQ _).drew hx2)) (by rw [<-Su (k:=k) HQ.out (decide_eq_true_iff)];simp only [jy,jY,List.flatten_nil,jz,jD] at hlen ⊢;omega)).mono ?_;rintro e u3 ⟨rfl,hb3,hx3⟩;rw [<-Su (k:=k) HQ.out (decide_eq_true_iff)] at hb3;refine hK.out _ _ ((hbl.drew.ext hx2).fb hx3 (by omega) (by decide)).node (fun hHeld=>?_);clear hK K hHeld;(try simp only [Act.put,List.getElem_toArray,List.getElem_cons_zero,jE,List.setIfInBounds_toArray,jI,List.set_cons_succ]);(refine wpAnyH_done (by kernel_rfl) ?_ _)
     go_wp2_with fail
     go_meet
     refine ⟨?_,(Fb.of_ext (kV (kQ _).drew hx2) hle1).trans hx3⟩
     exact hb3
  case rest=>
   obtain ⟨u3,hu3⟩ : ∃u3:wD,u3=wc:=⟨wc,rfl⟩;subst hu3;obtain ⟨hb3,hxx3⟩:=hcut
   have hlen2:t.length+(wrap (Nd.mk xk xn xs xl).text (ET xk k)).length+(1+(Cm k).length+1)+(wrap (Nd.mk yk yn ys yl).text (Fs yk k)).length<=140737488355328:=by omega
   clear hlen;obtain ⟨c0,c1,c2,c3⟩:=(hbn.fb hxx3 (by omega) (by decide)).node;have hbr3:=hbr.fb hxx3 (by omega) (by decide);have ht3:=ht1.fb hxx3 hB;have hys3:=hys1.fb hxx3;have hle3:=hb3.le;clear hbl hbn hxs1 l0 l1 l2 l3 ht1 hys1 hbr hb0
   go_wp2_with fail
   refine (GA _ _ (by omega) (by omega) ht3).mono ?_;rintro e u4 ⟨rfl,rfl⟩;simp only
   go_wp2_with fail
   refine (AR B b u3.heap.size 3 _ [[32],Cm k,[32]] _ (hb3.alloc _) (Box.new' _ _ (by simp)) (by simp) (by simp only [jy,jY,List.flatten_nil,jz,jD];omega)).mono ?_;rintro e u4 ⟨rfl,hb4,hx4⟩;have hxx4:Fb B b u3 u4:=Fb.trans (Fb.of_ext (by refine kT ?_ _;exact kQ _) hle3) hx4;have hbr4:=hbr3.fb hxx4 (by omega) (by decide);obtain ⟨r0,r1,r2,r3⟩:=hbr4.node;have ht4:=ht3.fb hxx4 hB;have hys4:=hys3.fb hxx4;have hle4:=hb4.le;clear hbr3 ht3 hys3 c0 c1 c2 c3 hx4;simp only
   go_wp2_with fail
   cases hq:CE yk
   . have HR:=jC hq;clear hq
     refine wp_region_held_drew (S:=fun w'=>w'.cell? ⟨pr,0,none⟩=some (.int .u8 yk)/\w'.cell? ⟨pr,1,none⟩=some (.int .i64 yn)/\w'.cell? ⟨pr,2,none⟩=some (str ys)/\w'.cell? ⟨pr,3,none⟩=some (.slice ya yl.length yc)) (by kernel_rfl) ⟨r0,r1,r2,r3⟩ (fun hHeld=>?_)
     ((refine wpAnyH_take (i:=0) (oi:=_) (v:=?v0_15) rfl (by kernel_rfl) (by kernel_rfl) (by kernel_rfl) (fun _ _ _ h=>h) (jF ⟨by rfl,?y0_15⟩) ‹_› ?r0_15);(case y0_15=>(intro w hSw;(try dsimp only at hSw);go_simp;try (with_reducible rfl)));(try simp only [Act.put,List.getElem_toArray,List.getElem_cons_zero,jE,List.setIfInBounds_toArray,jI,List.set_cons_succ]))
     ((refine wpAnyH_take (i:=1) (oi:=_) (v:=?v1_16) rfl (by kernel_rfl) (by kernel_rfl) (by kernel_rfl) (fun _ _ _ h=>h) (jF ⟨by rfl,?y1_16⟩) ‹_› ?r1_16);(case y1_16=>(intro w hSw;(try dsimp only at hSw);go_simp;try (with_reducible rfl)));(try simp only [Act.put,List.getElem_toArray,List.getElem_cons_zero,jE,List.setIfInBounds_toArray,jI,List.set_cons_succ]))
     ((refine wpAnyH_take (i:=2) (oi:=_) (v:=?v2_17) rfl (by kernel_rfl) (by kernel_rfl) (by kernel_rfl) (fun _ _ _ h=>h) (jF ⟨by rfl,?y2_17⟩) ‹_› ?r2_17);(case y2_17=>(intro w hSw;(try dsimp only at hSw);go_simp;try (with_reducible rfl)));(try simp only [Act.put,List.getElem_toArray,List.getElem_cons_zero,jE,List.setIfInBounds_toArray,jI,List.set_cons_succ]))
     ((refine wpAnyH_ready (rs:=[3]) (by kernel_rfl) (by simp) ?_);(refine AllReadyH.cons (o:=_) rfl (fun K hK=>?_) AllReadyH.nil);go_simp)
     refine (I7 _ _ _ _ _ _ _).mono ?_;rintro e u5 ⟨rfl,hx5⟩;rw [HR.out];refine hK.out _ _ ⟨hx5.keep r0,hx5.keep r1,hx5.keep r2,hx5.keep r3⟩ (fun hHeld=>?_);clear hK K;(try simp only [Act.put,List.getElem_toArray,List.getElem_cons_zero,jE,List.setIfInBounds_toArray,jI,List.set_cons_succ])
     ((refine wpAnyH_take (i:=4) (oi:=_) (v:=?v4_18) rfl (by kernel_rfl) (by kernel_rfl) (by kernel_rfl) (fun _ _ _ h=>h) (jF ⟨by rfl,?y4_18⟩) ‹_› ?r4_18);(case y4_18=>(intro w hSw;(try dsimp only at hSw);go_simp;try (with_reducible rfl)));(try simp only [Act.put,List.getElem_toArray,List.getElem_cons_zero,jE,List.setIfInBounds_toArray,jI,List.set_cons_succ]))
     ((refine wpAnyH_take (i:=5) (oi:=_) (v:=undef) rfl (by kernel_rfl) (by kernel_rfl) (by kernel_rfl) (fun _ _ _ h=>h) (jG ⟨by rfl,rfl⟩) ‹_› ?_);(try simp only [Act.put,List.getElem_toArray,List.getElem_cons_zero,jE,List.setIfInBounds_toArray,jI,List.set_cons_succ]))
     ((refine wpAnyH_take (i:=6) (oi:=_) (v:=undef) rfl (by kernel_rfl) (by kernel_rfl) (by kernel_rfl) (fun _ _ _ h=>h) (jG ⟨by rfl,rfl⟩) ‹_› ?_);(try simp only [Act.put,List.getElem_toArray,List.getElem_cons_zero,jE,List.setIfInBounds_toArray,jI,List.set_cons_succ]))
     ((refine wpAnyH_take (i:=7) (oi:=_) (v:=undef) rfl (by kernel_rfl) (by kernel_rfl) (by kernel_rfl) (fun _ _ _ h=>h) (jG ⟨by rfl,rfl⟩) ‹_› ?_);(try simp only [Act.put,List.getElem_toArray,List.getElem_cons_zero,jE,List.setIfInBounds_toArray,jI,List.set_cons_succ]))
     ((refine wpAnyH_take (i:=8) (oi:=_) (v:=undef) rfl (by kernel_rfl) (by kernel_rfl) (by kernel_rfl) (fun _ _ _ h=>h) (jG ⟨by rfl,rfl⟩) ‹_› ?_);(try simp only [Act.put,List.getElem_toArray,List.getElem_cons_zero,jE,List.setIfInBounds_toArray,jI,List.set_cons_succ]))
     ((refine wpAnyH_take (i:=9) (oi:=_) (v:=undef) rfl (by kernel_rfl) (by kernel_rfl) (by kernel_rfl) (fun _ _ _ h=>h) (jG ⟨by rfl,rfl⟩) ‹_› ?_);(try simp only [Act.put,List.getElem_toArray,List.getElem_cons_zero,jE,List.setIfInBounds_toArray,jI,List.set_cons_succ]))
     ((refine wpAnyH_take (i:=10) (oi:=_) (v:=?v10_19) rfl (by kernel_rfl) (by kernel_rfl) (by kernel_rfl) (fun _ _ _ h=>h) (jF ⟨by rfl,?y10_19⟩) ‹_› ?r10_19);(case y10_19=>(intro w hSw;(try dsimp only at hSw);go_simp;try (with_reducible rfl)));(try simp only [Act.put,List.getElem_toArray,List.getElem_cons_zero,jE,List.setIfInBounds_toArray,jI,List.set_cons_succ]))
     ((refine wpAnyH_ready (rs:=[11]) (by kernel_rfl) (by simp) ?_);(refine AllReadyH.cons (o:=_) rfl (fun K hK=>?_) AllReadyH.nil);go_simp)
     refine (Ht (.mk yk yn ys yl) HY.out B b _ _ _ ya yc (hb4.drew.ext hx5) ((ht4.ext (kQ _).drew (by omega)).ext hx5 (by show _<=u4.heap.size;omega)) hB (hys4.ext (kV (kQ _).drew hx5)) (by rw [<-St (k:=k) HR.out];simp only [jy,jY,List.flatten_nil,jz,jD] at hlen2 ⊢;omega)).mono ?_;rintro e u6 ⟨rfl,hb6,hx6⟩;rw [<-St (k:=k) HR.out] at hb6;refine hK.out _ _ ((hbr4.drew.ext hx5).fb hx6 (by omega) (by decide)).node (fun hHeld=>?_);clear hK K hHeld;(try simp only [Act.put,List.getElem_toArray,List.getElem_cons_zero,jE,List.setIfInBounds_toArray,jI,List.set_cons_succ]);(refine wpAnyH_done (by kernel_rfl) ?_ _)
     go_wp2_with fail
     go_end0
     refine ⟨rfl,?_,(hxW1.trans hxx3).trans (hxx4.trans ((Fb.of_ext (kV (kQ _).drew hx5) hle4).trans hx6))⟩
     simpa using hb6
   . have HR:=jC hq;clear hq
     refine wp_region_held_drew (S:=fun w'=>w'.cell? ⟨pr,0,none⟩=some (.int .u8 yk)/\w'.cell? ⟨pr,1,none⟩=some (.int .i64 yn)/\w'.cell? ⟨pr,2,none⟩=some (str ys)/\w'.cell? ⟨pr,3,none⟩=some (.slice ya yl.length yc)) (by kernel_rfl) ⟨r0,r1,r2,r3⟩ (fun hHeld=>?_)
     ((refine wpAnyH_take (i:=0) (oi:=_) (v:=?v0_20) rfl (by kernel_rfl) (by kernel_rfl) (by kernel_rfl) (fun _ _ _ h=>h) (jF ⟨by rfl,?y0_20⟩) ‹_› ?r0_20);(case y0_20=>(intro w hSw;(try dsimp only at hSw);go_simp;try (with_reducible rfl)));(try simp only [Act.put,List.getElem_toArray,List.getElem_cons_zero,jE,List.setIfInBounds_toArray,jI,List.set_cons_succ]))
     ((refine wpAnyH_take (i:=1) (oi:=_) (v:=?v1_21) rfl (by kernel_rfl) (by kernel_rfl) (by kernel_rfl) (fun _ _ _ h=>h) (jF ⟨by rfl,?y1_21⟩) ‹_› ?r1_21);(case y1_21=>(intro w hSw;(try dsimp only at hSw);go_simp;try (with_reducible rfl)));(try simp only [Act.put,List.getElem_toArray,List.getElem_cons_zero,jE,List.setIfInBounds_toArray,jI,List.set_cons_succ]))
     ((refine wpAnyH_take (i:=2) (oi:=_) (v:=?v2_22) rfl (by kernel_rfl) (by kernel_rfl) (by kernel_rfl) (fun _ _ _ h=>h) (jF ⟨by rfl,?y2_22⟩) ‹_› ?r2_22);(case y2_22=>(intro w hSw;(try dsimp only at hSw);go_simp;try (with_reducible rfl)));(try simp only [Act.put,List.getElem_toArray,List.getElem_cons_zero,jE,List.setIfInBounds_toArray,jI,List.set_cons_succ]))
     ((refine wpAnyH_ready (rs:=[3]) (by kernel_rfl) (by simp) ?_);(refine AllReadyH.cons (o:=_) rfl (fun K hK=>?_) AllReadyH.nil);go_simp)
     refine (I7 _ _ _ _ _ _ _).mono ?_;rintro e u5 ⟨rfl,hx5⟩;rw [HR.out];refine hK.out _ _ ⟨hx5.keep r0,hx5.keep r1,hx5.keep r2,hx5.keep r3⟩ (fun hHeld=>?_);clear hK K;(try simp only [Act.put,List.getElem_toArray,List.getElem_cons_zero,jE,List.setIfInBounds_toArray,jI,List.set_cons_succ])
     ((refine wpAnyH_take (i:=4) (oi:=_) (v:=?v4_23) rfl (by kernel_rfl) (by kernel_rfl) (by kernel_rfl) (fun _ _ _ h=>h) (jF ⟨by rfl,?y4_23⟩) ‹_› ?r4_23);(case y4_23=>(intro w hSw;(try dsimp only at hSw);go_simp;try (with_reducible rfl)));(try simp only [Act.put,List.getElem_toArray,List.getElem_cons_zero,jE,List.setIfInBounds_toArray,jI,List.set_cons_succ]))
     have hbk:8<=yk/\yk<=23:=by have:=HR.out;simp [CE] at this;exact this
     obtain ⟨hbk0,hbk1⟩:=hbk
     ((refine wpAnyH_take (i:=5) (oi:=_) (v:=?v5_24) rfl (by kernel_rfl) (by kernel_rfl) (by kernel_rfl) (fun _ _ _ h=>h) (jF ⟨by rfl,?y5_24⟩) ‹_› ?r5_24);(case y5_24=>(intro w hSw;(try dsimp only at hSw);go_simp;try (with_reducible rfl)));(try simp only [Act.put,List.getElem_toArray,List.getElem_cons_zero,jE,List.setIfInBounds_toArray,jI,List.set_cons_succ]))
     ((refine wpAnyH_take (i:=6) (oi:=_) (v:=?v6_25) rfl (by kernel_rfl) (by kernel_rfl) (by kernel_rfl) (fun _ _ _ h=>h) (jF ⟨by rfl,?y6_25⟩) ‹_› ?r6_25);(case y6_25=>(intro w hSw;(try dsimp only at hSw);go_simp;try (with_reducible rfl)));(try simp only [Act.put,List.getElem_toArray,List.getElem_cons_zero,jE,List.setIfInBounds_toArray,jI,List.set_cons_succ]))
     ((refine wpAnyH_take (i:=8) (oi:=_) (v:=?v8_26) rfl (by kernel_rfl) (by kernel_rfl) (by kernel_rfl) (fun _ _ _ h=>h) (jF ⟨by rfl,?y8_26⟩) ‹_› ?r8_26);(case y8_26=>(intro w hSw;(try dsimp only at hSw);go_simp;try (with_reducible rfl)));(try simp only [Act.put,List.getElem_toArray,List.getElem_cons_zero,jE,List.setIfInBounds_toArray,jI,List.set_cons_succ]))
     ((refine wpAnyH_ready (rs:=[7]) (by kernel_rfl) (by simp) ?_);(refine AllReadyH.cons (o:=_) rfl (fun K hK=>?_) AllReadyH.nil);go_simp)
     refine (D2 _ _ (by omega) (by omega)).mono ?_;rintro e u' ⟨rfl,rfl⟩;refine hK.out _ _ ⟨hx5.keep r0,hx5.keep r1,hx5.keep r2,hx5.keep r3⟩ (fun hHeld=>?_);clear hK K;(try simp only [Act.put,List.getElem_toArray,List.getElem_cons_zero,jE,List.setIfInBounds_toArray,jI,List.set_cons_succ])
     ((refine wpAnyH_take (i:=9) (oi:=_) (v:=?v9_27) rfl (by kernel_rfl) (by kernel_rfl) (by kernel_rfl) (fun _ _ _ h=>h) (jF ⟨by rfl,?y9_27⟩) ‹_› ?r9_27);(case y9_27=>(intro w hSw;(try dsimp only at hSw);go_simp;try (with_reducible rfl)));(try simp only [Act.put,List.getElem_toArray,List.getElem_cons_zero,jE,List.setIfInBounds_toArray,jI,List.set_cons_succ]))
     ((refine wpAnyH_take (i:=10) (oi:=_) (v:=?v10_28) rfl (by kernel_rfl) (by kernel_rfl) (by kernel_rfl) (fun _ _ _ h=>h) (jF ⟨by rfl,?y10_28⟩) ‹_› ?r10_28);(case y10_28=>(intro w hSw;(try dsimp only at hSw);go_simp;try (with_reducible rfl)));(try simp only [Act.put,List.getElem_toArray,List.getElem_cons_zero,jE,List.setIfInBounds_toArray,jI,List.set_cons_succ]))
     ((refine wpAnyH_ready (rs:=[11]) (by kernel_rfl) (by simp) ?_);(refine AllReadyH.cons (o:=_) rfl (fun K hK=>?_) AllReadyH.nil);go_simp)
     refine (Ht (.mk yk yn ys yl) HY.out B b _ _ _ ya yc (hb4.drew.ext hx5) ((ht4.ext (kQ _).drew (by omega)).ext hx5 (by show _<=u4.heap.size;omega)) hB (hys4.ext (kV (kQ _).drew hx5)) (by rw [<-Sw (k:=k) HR.out (decide_eq_true_iff)];simp only [jy,jY,List.flatten_nil,jz,jD] at hlen2 ⊢;omega)).mono ?_;rintro e u6 ⟨rfl,hb6,hx6⟩;rw [<-Sw (k:=k) HR.out (decide_eq_true_iff)] at hb6;refine hK.out _ _ ((hbr4.drew.ext hx5).fb hx6 (by omega) (by decide)).node (fun hHeld=>?_);clear hK K hHeld;(try simp only [Act.put,List.getElem_toArray,List.getElem_cons_zero,jE,List.setIfInBounds_toArray,jI,List.set_cons_succ]);(refine wpAnyH_done (by kernel_rfl) ?_ _)
     go_wp2_with fail
     go_end0
     refine ⟨rfl,?_,(hxW1.trans hxx3).trans (hxx4.trans ((Fb.of_ext (kV (kQ _).drew hx5) hle4).trans hx6))⟩
     simpa using hb6
def Yt (N:Nat) : ∀t:Nd,t.size<N->t.wf->t.isExpr=true->BC 192 lk t:=by
 induction N with
 | zero=>intro t h;omega
 | succ N O=>
  rintro ⟨k,n,s,l⟩ U L f;simp only [Nd.wf,kU] at L U;obtain ⟨Z,aa,V,X,ab,ac,E⟩:=L;by_cases Y:k=1
  . subst Y;exact fE n s l V X
  by_cases c2:k=2
  . subst c2;exact fF n s l
  by_cases c4:k=4
  . subst c4;exact fG n s l
  by_cases c5:k=5
  . subst c5;exact fH n s l
  rw [Nd.isExpr.eq_def] at f;simp only [Y,c2,c4,c5,or_self,if_false,false_or] at f;by_cases c3:k=3
  . subst c3;rcases l with _|⟨x,_|⟨y,l⟩⟩
    . simp at f
    . simp at f;simp only [Ah,Be] at U E;exact fI n s x (O x Aa E.1 f.2)
    . simp at f
  simp only [c3,if_false] at f;by_cases M:k=6\/k=7
  . rcases l with _|⟨x,_|⟨y,l⟩⟩
    . simp [M] at f
    . simp [M] at f;simp only [Ah,Be] at U E;exact aD k n s x M (O x Aa E.1 f.2)
    . simp [M] at f
  simp only [M,if_false] at f;by_cases F:8<=k/\k<=23
  . rcases l with _|⟨x,_|⟨y,_|⟨z,l⟩⟩⟩
    . simp [F] at f
    . simp [F] at f
    . simp [F] at f;simp only [Ah,Be] at U E;exact Ys k n s x y F.1 F.2 (O x Aa E.1 f.2.1) (O y Aa E.2.1 f.2.2)
    . simp [F] at f
  . simp [F] at f
def C4 (t:Nd) (f:t.wf) (h:t.isExpr=true):BC 192 lk t:=Yt (t.size+1) t Aa f h
def De {s:lB} (h:AU s=true):s.length<=16:=by
 simp only [AU,jA,decide_eq_true_eq] at h;exact h.1.1.1.2
def NF (s:lB) (q:Bool):(wrap s q).length<=s.length+2:=by
 unfold wrap;split<;>simp
def NG (k:Int):(Cm k).length<=2:=by
 by_cases h:k.toNat<43
 . have key : ∀i:Fin 43,(symbols.getD i.val []).length<=2:=by decide
   exact key ⟨k.toNat,h⟩
 . unfold Cm;rw [List.getD_eq_getElem?_getD,j4 (show 43<=k.toNat by omega)];simp
def text_len (N:Nat) : ∀t:Nd,t.size<N->t.wf->t.isExpr=true->t.text.length<=30*t.size:=by
 induction N with
 | zero=>intro t h;omega
 | succ N L=>
  rintro ⟨k,n,s,l⟩ M F f;simp only [Nd.wf,kU] at F M ⊢;obtain ⟨aa,ab,O,U,ac,ad,E⟩:=F;rw [Nd.isExpr.eq_def] at f;rw [Nd.text.eq_def];simp only [] at f ⊢;by_cases V:k=1
  . have:=Lib.itoa_length_le n O U;rw [AH V];omega
  rw [At V] at f ⊢;by_cases c2:k=2\/k=4\/k=5
  . rw [AH c2] at f;simp only [named,jA] at f;have:=De f.1.2;rcases c2 with rfl|rfl|rfl
    . simp;omega
    . simp;omega
    . simp;omega
  rw [At c2] at f;have e2 : ¬k=2:=by omega
  have e4 : ¬k=4:=by omega
  have e5 : ¬k=5:=by omega
  rw [At e2];by_cases c3:k=3
  . rw [AH c3] at f ⊢;rcases l with _|⟨x,_|⟨y,l⟩⟩
    . simp at f
    . simp only [named,jA] at f;have:=De f.1.2;simp only [Ah,Be] at M E ⊢;have X:=L x Aa E.1 f.2;simp;omega
    . simp at f
  rw [At c3] at f ⊢;rw [At e4,At e5];have ae:=NG k;by_cases Y:k=6\/k=7
  . rw [AH Y] at f ⊢;rcases l with _|⟨x,_|⟨y,l⟩⟩
    . simp at f
    . simp only [jA] at f;simp only [Ah,Be] at M E ⊢;have X:=L x Aa E.1 f.2;have hw:=NF x.text (CE x.kind);simp only [jy];omega
    . simp at f
  rw [At Y] at f ⊢;by_cases Z:8<=k/\k<=23
  . rw [AH Z] at f;rcases l with _|⟨x,_|⟨y,_|⟨z,l⟩⟩⟩
    . simp at f
    . simp at f
    . simp only [jA] at f;simp only [Ah,Be] at M E ⊢;have X:=L x Aa E.1 f.2.1;have hy:=L y Aa E.2.1 f.2.2;have hw:=NF x.text (ET x.kind k);have hv:=NF y.text (Fs y.kind k);simp only [jy,jz,jD];omega
    . simp at f
  . rw [At Z] at f;simp at f
def Ej (k:Int) (w:wD) (h0:0<=k) (h1:k<=255):Calls prog 191 #[.int .u8 k] w fun e w'=>e = .returned (str (Bm k))/\w=w':=by
 go_enter func191,ntmps191
 go_wp2_with fail
 all_goals go_ret
 all_goals (refine ⟨Zs ?_,rfl⟩;(try simp only [beq_iff_eq,beq_eq_false_iff_ne,ne_eq,bne_iff_ne,decide_eq_true_eq,decide_eq_false_iff_not] at *);first|(subst k;rfl)|(unfold Bm;(repeat' split)<;>first|rfl|omega))
def Hu (k:Int) (w:wD) (h0:0<=k) (h1:k<=255) (ht:Tabs w):Calls prog 193 #[.int .u8 k] w fun e w'=>e = .returned (str (Cl k))/\w=w':=by
 have HT:=jC ht;clear ht
 by_cases h56:k=56
 . subst h56
   go_enter func193,ntmps193
   go_wp2_with fail
   go_ret
   exact ⟨rfl,rfl⟩
 by_cases h43:k=43
 . subst h43
   go_enter func193,ntmps193
   go_wp2_with fail
   go_ret
   exact ⟨rfl,rfl⟩
 have hu:Cl k=Cm k:=by unfold Cl;rw [At h56,At h43]
 rw [hu]
 have d1:(k==56)=false:=by simpa using h56
 have d2:(k==43)=false:=by simpa using h43
 clear hu h56 h43
 go_enter func193,ntmps193
 go_wp2_with (go_at_call 160;refine (GA _ _ h0 h1 HT.out).mono ?_;rintro e w1 ⟨rfl,rfl⟩)
 go_ret
 exact ⟨rfl,rfl⟩
def Sx (d:Nat):(CU d).length=d:=by simp [CU]
def I8 (t:Nd) (d:Nat):(Cg t d).length=(t.linesT (d+1)).length+d+4:=by
 simp [Cg,Sx];omega
attribute [local simp] Sx I8
def BB (f:FuncId) (Q1:Nd->Nat->lB) (t:Nd):Prop:=
 ∀(B b:Nat) (l:lB) (w:wD) (a:oA) (c d:Nat),Bld B b l w->Tabs w->prog.globals.size<=B->t.sits (· < B) w a->d+t.size<=1000000->(l++Q1 t d).length<=140737488355328 ->
  Calls prog f #[.pointer (some ⟨b,0,none⟩),t.val a c,.int .i64 d] w fun e w'=>e = .returned (.tuple #[])/\Bld B b (l++Q1 t d) w'/\Fb B b w w'
def KI {S:nP} {w:wD} {x:Nd} {r:List Nd} {f E:Nat} (h:rowSits S w (x::r) (some ⟨f,E,none⟩)) :
 ∃xa xc,w.cell? ⟨f,E,none⟩=some (.int .u8 x.kind)/\w.cell? ⟨f,E+1,none⟩=some (.int .i64 x.num)/\w.cell? ⟨f,E+2,none⟩=some (str x.name)/\w.cell? ⟨f,E+3,none⟩=some (.slice xa x.kids.length xc)/\x.sits S w xa:=by
 obtain ⟨b,o,L,c,F,V,h1,M,N,O,U⟩:=AS h (i:=0) (t:=x) rfl;simp only [jJ,Addr.mk.injEq] at F;obtain ⟨rfl,rfl,-⟩:=F;exact ⟨L,c,by simpa using h1,by simpa using M,by simpa using N,by simpa using O,U⟩
def NH {S:nP} {w:wD} {O x:Nd} {r:List Nd} {f E:Nat} (h:rowSits S w (O::x::r) (some ⟨f,E,none⟩)) :
 ∃xa xc,w.cell? ⟨f,E+4,none⟩=some (.int .u8 x.kind)/\w.cell? ⟨f,E+4+1,none⟩=some (.int .i64 x.num)/\w.cell? ⟨f,E+4+2,none⟩=some (str x.name)/\w.cell? ⟨f,E+4+3,none⟩=some (.slice xa x.kids.length xc)/\w.cell? ⟨f,E+5,none⟩=some (.int .i64 x.num)/\w.cell? ⟨f,E+6,none⟩=some (str x.name)/\w.cell? ⟨f,E+7,none⟩=some (.slice xa x.kids.length xc)/\x.sits S w xa:=by
 obtain ⟨b,o,U,c,F,X,h1,L,M,N,V⟩:=AS h (i:=1) (t:=x) rfl;simp only [jJ,Addr.mk.injEq] at F;obtain ⟨rfl,rfl,-⟩:=F;exact ⟨U,c,by simpa using h1,by simpa using L,by simpa using M,by simpa using N,by simpa using L,by simpa using M,by simpa using N,V⟩
def dE {S:nP} {w:wD} {O U x:Nd} {r:List Nd} {f E:Nat} (h:rowSits S w (O::U::x::r) (some ⟨f,E,none⟩)) :
 ∃xa xc,w.cell? ⟨f,E+8,none⟩=some (.int .u8 x.kind)/\w.cell? ⟨f,E+8+1,none⟩=some (.int .i64 x.num)/\w.cell? ⟨f,E+8+2,none⟩=some (str x.name)/\w.cell? ⟨f,E+8+3,none⟩=some (.slice xa x.kids.length xc)/\w.cell? ⟨f,E+9,none⟩=some (.int .i64 x.num)/\w.cell? ⟨f,E+10,none⟩=some (str x.name)/\w.cell? ⟨f,E+11,none⟩=some (.slice xa x.kids.length xc)/\x.sits S w xa:=by
 obtain ⟨b,o,V,c,F,Y,h1,L,M,N,X⟩:=AS h (i:=2) (t:=x) rfl;simp only [jJ,Addr.mk.injEq] at F;obtain ⟨rfl,rfl,-⟩:=F;exact ⟨V,c,by simpa using h1,by simpa using L,by simpa using M,by simpa using N,by simpa using L,by simpa using M,by simpa using N,X⟩
def iV {S:nP} {w:wD} {O U V x:Nd} {r:List Nd} {f E:Nat} (h:rowSits S w (O::U::V::x::r) (some ⟨f,E,none⟩)) :
 ∃xa xc,w.cell? ⟨f,E+12,none⟩=some (.int .u8 x.kind)/\w.cell? ⟨f,E+12+1,none⟩=some (.int .i64 x.num)/\w.cell? ⟨f,E+12+2,none⟩=some (str x.name)/\w.cell? ⟨f,E+12+3,none⟩=some (.slice xa x.kids.length xc)/\w.cell? ⟨f,E+13,none⟩=some (.int .i64 x.num)/\w.cell? ⟨f,E+14,none⟩=some (str x.name)/\w.cell? ⟨f,E+15,none⟩=some (.slice xa x.kids.length xc)/\x.sits S w xa:=by
 obtain ⟨b,o,X,c,F,Z,h1,L,M,N,Y⟩:=AS h (i:=3) (t:=x) rfl;simp only [jJ,Addr.mk.injEq] at F;obtain ⟨rfl,rfl,-⟩:=F;exact ⟨X,c,by simpa using h1,by simpa using L,by simpa using M,by simpa using N,by simpa using L,by simpa using M,by simpa using N,Y⟩
def Hv (y:Nd) (hy:BB 101 Nd.linesT y) :
 ∀(B b:Nat) (t:lB) (w:wD) (a:oA) (c d:Nat),Bld B b t w->Tabs w->prog.globals.size<=B->y.sits (· < B) w a->d+1+y.size<=1000000->(t++Cg y d).length<=140737488355328 ->
 Calls prog 59 #[.pointer (some ⟨b,0,none⟩),y.val a c,.int .i64 d] w fun e w'=>e = .returned (.tuple #[])/\Bld B b (t++Cg y d) w'/\Fb B b w w':=by
 intro B b t w a c d h ht hB hs hd hlen;have hle:=h.le;have hlt:=h.lt
 have HY:=jC hy;clear hy
 have hbx0:Box w.heap.size #[.int .u8 y.kind,.int .i64 y.num,str y.name,.slice a y.kids.length c] 32 (w.alloc (.cells #[.int .u8 y.kind,.int .i64 y.num,str y.name,.slice a y.kids.length c] 32)):=Box.new _ _ _;have hxW:Fb B b w (w.alloc (.cells #[.int .u8 y.kind,.int .i64 y.num,str y.name,.slice a y.kids.length c] 32)):=Fb.of_ext ((kQ _).alloc _) hle;have hb0:Bld B b t (w.alloc (.cells #[.int .u8 y.kind,.int .i64 y.num,str y.name,.slice a y.kids.length c] 32)):=h.alloc _;have ht0:=ht.fb hxW hB;have hs0:=hs.fb hxW
 go_enter func59,ntmps59
 go_wp2_with fail
 refine (AR B b (w.heap.size+1) 1 _ [[32,123,10]] _ (hb0.alloc _) (Box.new' _ _ (by simp)) (by simp) (by (try simp at hlen ⊢)<;>omega)).mono ?_;rintro e u1 ⟨rfl,hb1,hx1⟩;have hxx1:Fb B b (w.alloc (.cells #[.int .u8 y.kind,.int .i64 y.num,str y.name,.slice a y.kids.length c] 32)) u1:=Fb.trans (Fb.of_ext ((kQ _).alloc _) hb0.le) hx1;obtain ⟨g0,g1,g2,g3⟩:=(hbx0.fb hxx1 (by omega) (by decide)).node;have ht1:=ht0.fb hxx1 hB;have hs1:=hs0.fb hxx1;simp only
 go_wp2_with fail
 rw [show ((d:Int)+1)=((d+1:Nat):Int) from by omega];refine (HY.out B b _ _ a c (d+1) hb1 ht1 hB hs1 (by omega) (by (try simp at hlen ⊢)<;>omega)).mono ?_;rintro e u2 ⟨rfl,hb2,hx2⟩;have hxx2:Fb B b (w.alloc (.cells #[.int .u8 y.kind,.int .i64 y.num,str y.name,.slice a y.kids.length c] 32)) u2:=Fb.trans hxx1 hx2;obtain ⟨g0,g1,g2,g3⟩:=(hbx0.fb hxx2 (by omega) (by decide)).node;have ht2:=ht0.fb hxx2 hB;simp only
 go_wp2_with fail
 refine (Yp B b _ d _ hb2 (by omega) (by (try simp at hlen ⊢)<;>omega)).mono ?_;rintro e u3 ⟨rfl,hb3,hx3⟩;have hxx3:Fb B b (w.alloc (.cells #[.int .u8 y.kind,.int .i64 y.num,str y.name,.slice a y.kids.length c] 32)) u3:=Fb.trans hxx2 hx3;obtain ⟨g0,g1,g2,g3⟩:=(hbx0.fb hxx3 (by omega) (by decide)).node;have ht3:=ht0.fb hxx3 hB;simp only
 go_wp2_with fail
 refine (AR B b u3.heap.size 1 _ [[125]] _ (hb3.alloc _) (Box.new' _ _ (by simp)) (by simp) (by (try simp at hlen ⊢)<;>omega)).mono ?_;rintro e u4 ⟨rfl,hb4,hx4⟩;have hxx4:Fb B b (w.alloc (.cells #[.int .u8 y.kind,.int .i64 y.num,str y.name,.slice a y.kids.length c] 32)) u4:=Fb.trans (Fb.trans hxx3 (Fb.of_ext ((kQ _).alloc _) hb3.le)) hx4;obtain ⟨g0,g1,g2,g3⟩:=(hbx0.fb hxx4 (by omega) (by decide)).node;have ht4:=ht0.fb hxx4 hB;simp only
 go_wp2_with fail
 go_end0
 exact ⟨rfl,by simpa [Cg,CU] using hb4,hxW.trans hxx4⟩
def aE (n:Int) (s:lB) (x y:Nd) (hx:BC 192 lk x) (hy:BC 192 lk y):BB 146 Nd.stmtT (.mk 40 n s [x,y]):=by
 intro B b t w a c d h ht hB hs hd hlen
 have htx:(Nd.mk 40 n s [x,y]).stmtT d=Bm 40++x.text++[32]++Cl 40++[32]++y.text:=by rw [Nd.stmtT.eq_def];simp [Bm]
 rw [htx] at hlen ⊢;clear htx;have hle:=h.le;have hlt:=h.lt;simp only [kZ,lp,lj,li,lq,lg,kU,Ah,jz,jD] at hs hd ⊢
 obtain ⟨kb,ko,rfl⟩ : ∃kb ko,a=some ⟨kb,ko,none⟩:=by
  obtain ⟨b0,o0,_,_,he,_⟩:=AS hs (i:=0) rfl
  exact ⟨b0,o0,he⟩
 have HX:=jC hx;clear hx
 have HY:=jC hy;clear hy
 have hbx0:Box w.heap.size #[.int .u8 40,.int .i64 n,str s,.slice (some ⟨kb,ko,none⟩) 2 c] 32 (w.alloc (.cells #[.int .u8 40,.int .i64 n,str s,.slice (some ⟨kb,ko,none⟩) 2 c] 32)):=Box.new _ _ _;have hxW:Fb B b w (w.alloc (.cells #[.int .u8 40,.int .i64 n,str s,.slice (some ⟨kb,ko,none⟩) 2 c] 32)):=Fb.of_ext ((kQ _).alloc _) hle;have hb0:Bld B b t (w.alloc (.cells #[.int .u8 40,.int .i64 n,str s,.slice (some ⟨kb,ko,none⟩) 2 c] 32)):=h.alloc _;have ht0:=ht.fb hxW hB;have hs0:=hs.fb hxW
 go_enter func146,ntmps146
 go_wp2_with fail
 refine (Ej _ _ (by omega) (by omega)).mono ?_;rintro e w1 ⟨rfl,rfl⟩;simp only
 go_wp2_with fail
 refine (AR B b (w.heap.size+1) 1 _ [Bm 40] _ (hb0.alloc _) (Box.new' _ _ (by simp)) (by simp) (by (try simp at hlen ⊢)<;>omega)).mono ?_;rintro e u1 ⟨rfl,hb1,hx1⟩;have hxx1:Fb B b (w.alloc (.cells #[.int .u8 40,.int .i64 n,str s,.slice (some ⟨kb,ko,none⟩) 2 c] 32)) u1:=Fb.trans (Fb.of_ext ((kQ _).alloc _) hb0.le) hx1;obtain ⟨g0,g1,g2,g3⟩:=(hbx0.fb hxx1 (by omega) (by decide)).node;have ht1:=ht0.fb hxx1 hB;have hs1:=hs0.fb hxx1;obtain ⟨ka1,kc1,m0,m1,m2,m3,hk1⟩:=KI hs1;simp only
 go_wp2_with fail
 refine (HX.out B b _ _ ka1 kc1 hb1 ht1 hB hk1 (by (try simp at hlen ⊢)<;>omega)).mono ?_;rintro e u2 ⟨rfl,hb2,hx2⟩;have hxx2:Fb B b (w.alloc (.cells #[.int .u8 40,.int .i64 n,str s,.slice (some ⟨kb,ko,none⟩) 2 c] 32)) u2:=Fb.trans hxx1 hx2;obtain ⟨g0,g1,g2,g3⟩:=(hbx0.fb hxx2 (by omega) (by decide)).node;have ht2:=ht0.fb hxx2 hB;have hs2:=hs0.fb hxx2;simp only
 go_wp2_with fail
 refine (Hu _ _ (by omega) (by omega) ht2).mono ?_;rintro e w1 ⟨rfl,rfl⟩;simp only
 go_wp2_with fail
 refine (AR B b u2.heap.size 3 _ [[32],Cl 40,[32]] _ (hb2.alloc _) (Box.new' _ _ (by simp)) (by simp) (by (try simp at hlen ⊢)<;>omega)).mono ?_;rintro e u3 ⟨rfl,hb3,hx3⟩;have hxx3:Fb B b (w.alloc (.cells #[.int .u8 40,.int .i64 n,str s,.slice (some ⟨kb,ko,none⟩) 2 c] 32)) u3:=Fb.trans (Fb.trans hxx2 (Fb.of_ext ((kQ _).alloc _) hb2.le)) hx3;obtain ⟨g0,g1,g2,g3⟩:=(hbx0.fb hxx3 (by omega) (by decide)).node;have ht3:=ht0.fb hxx3 hB;have hs3:=hs0.fb hxx3;obtain ⟨ka3,kc3,m0,m1,m2,m3,m4,m5,m6,hk3⟩:=NH hs3;simp only
 go_wp2_with fail
 refine (HY.out B b _ _ ka3 kc3 hb3 ht3 hB hk3 (by (try simp at hlen ⊢)<;>omega)).mono ?_;rintro e u4 ⟨rfl,hb4,hx4⟩;have hxx4:Fb B b (w.alloc (.cells #[.int .u8 40,.int .i64 n,str s,.slice (some ⟨kb,ko,none⟩) 2 c] 32)) u4:=Fb.trans hxx3 hx4;obtain ⟨g0,g1,g2,g3⟩:=(hbx0.fb hxx4 (by omega) (by decide)).node;have ht4:=ht0.fb hxx4 hB;have hs4:=hs0.fb hxx4;simp only
 go_wp2_with fail
 go_end0
 exact ⟨rfl,by simpa using hb4,hxW.trans hxx4⟩
def aF (n:Int) (s:lB) (x y:Nd) (hx:BC 192 lk x) (hy:BC 192 lk y):BB 146 Nd.stmtT (.mk 41 n s [x,y]):=by
 intro B b t w a c d h ht hB hs hd hlen
 have htx:(Nd.mk 41 n s [x,y]).stmtT d=Bm 41++x.text++[32]++Cl 41++[32]++y.text:=by rw [Nd.stmtT.eq_def];simp [Bm]
 rw [htx] at hlen ⊢;clear htx;have hle:=h.le;have hlt:=h.lt;simp only [kZ,lp,lj,li,lq,lg,kU,Ah,jz,jD] at hs hd ⊢
 obtain ⟨kb,ko,rfl⟩ : ∃kb ko,a=some ⟨kb,ko,none⟩:=by
  obtain ⟨b0,o0,_,_,he,_⟩:=AS hs (i:=0) rfl
  exact ⟨b0,o0,he⟩
 have HX:=jC hx;clear hx
 have HY:=jC hy;clear hy
 have hbx0:Box w.heap.size #[.int .u8 41,.int .i64 n,str s,.slice (some ⟨kb,ko,none⟩) 2 c] 32 (w.alloc (.cells #[.int .u8 41,.int .i64 n,str s,.slice (some ⟨kb,ko,none⟩) 2 c] 32)):=Box.new _ _ _;have hxW:Fb B b w (w.alloc (.cells #[.int .u8 41,.int .i64 n,str s,.slice (some ⟨kb,ko,none⟩) 2 c] 32)):=Fb.of_ext ((kQ _).alloc _) hle;have hb0:Bld B b t (w.alloc (.cells #[.int .u8 41,.int .i64 n,str s,.slice (some ⟨kb,ko,none⟩) 2 c] 32)):=h.alloc _;have ht0:=ht.fb hxW hB;have hs0:=hs.fb hxW
 go_enter func146,ntmps146
 go_wp2_with fail
 refine (Ej _ _ (by omega) (by omega)).mono ?_;rintro e w1 ⟨rfl,rfl⟩;simp only
 go_wp2_with fail
 refine (AR B b (w.heap.size+1) 1 _ [Bm 41] _ (hb0.alloc _) (Box.new' _ _ (by simp)) (by simp) (by (try simp at hlen ⊢)<;>omega)).mono ?_;rintro e u1 ⟨rfl,hb1,hx1⟩;have hxx1:Fb B b (w.alloc (.cells #[.int .u8 41,.int .i64 n,str s,.slice (some ⟨kb,ko,none⟩) 2 c] 32)) u1:=Fb.trans (Fb.of_ext ((kQ _).alloc _) hb0.le) hx1;obtain ⟨g0,g1,g2,g3⟩:=(hbx0.fb hxx1 (by omega) (by decide)).node;have ht1:=ht0.fb hxx1 hB;have hs1:=hs0.fb hxx1;obtain ⟨ka1,kc1,m0,m1,m2,m3,hk1⟩:=KI hs1;simp only
 go_wp2_with fail
 refine (HX.out B b _ _ ka1 kc1 hb1 ht1 hB hk1 (by (try simp at hlen ⊢)<;>omega)).mono ?_;rintro e u2 ⟨rfl,hb2,hx2⟩;have hxx2:Fb B b (w.alloc (.cells #[.int .u8 41,.int .i64 n,str s,.slice (some ⟨kb,ko,none⟩) 2 c] 32)) u2:=Fb.trans hxx1 hx2;obtain ⟨g0,g1,g2,g3⟩:=(hbx0.fb hxx2 (by omega) (by decide)).node;have ht2:=ht0.fb hxx2 hB;have hs2:=hs0.fb hxx2;simp only
 go_wp2_with fail
 refine (Hu _ _ (by omega) (by omega) ht2).mono ?_;rintro e w1 ⟨rfl,rfl⟩;simp only
 go_wp2_with fail
 refine (AR B b u2.heap.size 3 _ [[32],Cl 41,[32]] _ (hb2.alloc _) (Box.new' _ _ (by simp)) (by simp) (by (try simp at hlen ⊢)<;>omega)).mono ?_;rintro e u3 ⟨rfl,hb3,hx3⟩;have hxx3:Fb B b (w.alloc (.cells #[.int .u8 41,.int .i64 n,str s,.slice (some ⟨kb,ko,none⟩) 2 c] 32)) u3:=Fb.trans (Fb.trans hxx2 (Fb.of_ext ((kQ _).alloc _) hb2.le)) hx3;obtain ⟨g0,g1,g2,g3⟩:=(hbx0.fb hxx3 (by omega) (by decide)).node;have ht3:=ht0.fb hxx3 hB;have hs3:=hs0.fb hxx3;obtain ⟨ka3,kc3,m0,m1,m2,m3,m4,m5,m6,hk3⟩:=NH hs3;simp only
 go_wp2_with fail
 refine (HY.out B b _ _ ka3 kc3 hb3 ht3 hB hk3 (by (try simp at hlen ⊢)<;>omega)).mono ?_;rintro e u4 ⟨rfl,hb4,hx4⟩;have hxx4:Fb B b (w.alloc (.cells #[.int .u8 41,.int .i64 n,str s,.slice (some ⟨kb,ko,none⟩) 2 c] 32)) u4:=Fb.trans hxx3 hx4;obtain ⟨g0,g1,g2,g3⟩:=(hbx0.fb hxx4 (by omega) (by decide)).node;have ht4:=ht0.fb hxx4 hB;have hs4:=hs0.fb hxx4;simp only
 go_wp2_with fail
 go_end0
 exact ⟨rfl,by simpa using hb4,hxW.trans hxx4⟩
def aG (n:Int) (s:lB) (x y:Nd) (hx:BC 192 lk x) (hy:BC 192 lk y):BB 146 Nd.stmtT (.mk 42 n s [x,y]):=by
 intro B b t w a c d h ht hB hs hd hlen
 have htx:(Nd.mk 42 n s [x,y]).stmtT d=Bm 42++x.text++[32]++Cl 42++[32]++y.text:=by rw [Nd.stmtT.eq_def];simp [Bm]
 rw [htx] at hlen ⊢;clear htx;have hle:=h.le;have hlt:=h.lt;simp only [kZ,lp,lj,li,lq,lg,kU,Ah,jz,jD] at hs hd ⊢
 obtain ⟨kb,ko,rfl⟩ : ∃kb ko,a=some ⟨kb,ko,none⟩:=by
  obtain ⟨b0,o0,_,_,he,_⟩:=AS hs (i:=0) rfl
  exact ⟨b0,o0,he⟩
 have HX:=jC hx;clear hx
 have HY:=jC hy;clear hy
 have hbx0:Box w.heap.size #[.int .u8 42,.int .i64 n,str s,.slice (some ⟨kb,ko,none⟩) 2 c] 32 (w.alloc (.cells #[.int .u8 42,.int .i64 n,str s,.slice (some ⟨kb,ko,none⟩) 2 c] 32)):=Box.new _ _ _;have hxW:Fb B b w (w.alloc (.cells #[.int .u8 42,.int .i64 n,str s,.slice (some ⟨kb,ko,none⟩) 2 c] 32)):=Fb.of_ext ((kQ _).alloc _) hle;have hb0:Bld B b t (w.alloc (.cells #[.int .u8 42,.int .i64 n,str s,.slice (some ⟨kb,ko,none⟩) 2 c] 32)):=h.alloc _;have ht0:=ht.fb hxW hB;have hs0:=hs.fb hxW
 go_enter func146,ntmps146
 go_wp2_with fail
 refine (Ej _ _ (by omega) (by omega)).mono ?_;rintro e w1 ⟨rfl,rfl⟩;simp only
 go_wp2_with fail
 refine (AR B b (w.heap.size+1) 1 _ [Bm 42] _ (hb0.alloc _) (Box.new' _ _ (by simp)) (by simp) (by (try simp at hlen ⊢)<;>omega)).mono ?_;rintro e u1 ⟨rfl,hb1,hx1⟩;have hxx1:Fb B b (w.alloc (.cells #[.int .u8 42,.int .i64 n,str s,.slice (some ⟨kb,ko,none⟩) 2 c] 32)) u1:=Fb.trans (Fb.of_ext ((kQ _).alloc _) hb0.le) hx1;obtain ⟨g0,g1,g2,g3⟩:=(hbx0.fb hxx1 (by omega) (by decide)).node;have ht1:=ht0.fb hxx1 hB;have hs1:=hs0.fb hxx1;obtain ⟨ka1,kc1,m0,m1,m2,m3,hk1⟩:=KI hs1;simp only
 go_wp2_with fail
 refine (HX.out B b _ _ ka1 kc1 hb1 ht1 hB hk1 (by (try simp at hlen ⊢)<;>omega)).mono ?_;rintro e u2 ⟨rfl,hb2,hx2⟩;have hxx2:Fb B b (w.alloc (.cells #[.int .u8 42,.int .i64 n,str s,.slice (some ⟨kb,ko,none⟩) 2 c] 32)) u2:=Fb.trans hxx1 hx2;obtain ⟨g0,g1,g2,g3⟩:=(hbx0.fb hxx2 (by omega) (by decide)).node;have ht2:=ht0.fb hxx2 hB;have hs2:=hs0.fb hxx2;simp only
 go_wp2_with fail
 refine (Hu _ _ (by omega) (by omega) ht2).mono ?_;rintro e w1 ⟨rfl,rfl⟩;simp only
 go_wp2_with fail
 refine (AR B b u2.heap.size 3 _ [[32],Cl 42,[32]] _ (hb2.alloc _) (Box.new' _ _ (by simp)) (by simp) (by (try simp at hlen ⊢)<;>omega)).mono ?_;rintro e u3 ⟨rfl,hb3,hx3⟩;have hxx3:Fb B b (w.alloc (.cells #[.int .u8 42,.int .i64 n,str s,.slice (some ⟨kb,ko,none⟩) 2 c] 32)) u3:=Fb.trans (Fb.trans hxx2 (Fb.of_ext ((kQ _).alloc _) hb2.le)) hx3;obtain ⟨g0,g1,g2,g3⟩:=(hbx0.fb hxx3 (by omega) (by decide)).node;have ht3:=ht0.fb hxx3 hB;have hs3:=hs0.fb hxx3;obtain ⟨ka3,kc3,m0,m1,m2,m3,m4,m5,m6,hk3⟩:=NH hs3;simp only
 go_wp2_with fail
 refine (HY.out B b _ _ ka3 kc3 hb3 ht3 hB hk3 (by (try simp at hlen ⊢)<;>omega)).mono ?_;rintro e u4 ⟨rfl,hb4,hx4⟩;have hxx4:Fb B b (w.alloc (.cells #[.int .u8 42,.int .i64 n,str s,.slice (some ⟨kb,ko,none⟩) 2 c] 32)) u4:=Fb.trans hxx3 hx4;obtain ⟨g0,g1,g2,g3⟩:=(hbx0.fb hxx4 (by omega) (by decide)).node;have ht4:=ht0.fb hxx4 hB;have hs4:=hs0.fb hxx4;simp only
 go_wp2_with fail
 go_end0
 exact ⟨rfl,by simpa using hb4,hxW.trans hxx4⟩
def aH (n:Int) (s:lB) (x y:Nd) (hx:BC 192 lk x) (hy:BC 192 lk y):BB 146 Nd.stmtT (.mk 56 n s [x,y]):=by
 intro B b t w a c d h ht hB hs hd hlen
 have htx:(Nd.mk 56 n s [x,y]).stmtT d=Bm 56++x.text++[32]++Cl 56++[32]++y.text:=by rw [Nd.stmtT.eq_def];simp [Bm]
 rw [htx] at hlen ⊢;clear htx;have hle:=h.le;have hlt:=h.lt;simp only [kZ,lp,lj,li,lq,lg,kU,Ah,jz,jD] at hs hd ⊢
 obtain ⟨kb,ko,rfl⟩ : ∃kb ko,a=some ⟨kb,ko,none⟩:=by
  obtain ⟨b0,o0,_,_,he,_⟩:=AS hs (i:=0) rfl
  exact ⟨b0,o0,he⟩
 have HX:=jC hx;clear hx
 have HY:=jC hy;clear hy
 have hbx0:Box w.heap.size #[.int .u8 56,.int .i64 n,str s,.slice (some ⟨kb,ko,none⟩) 2 c] 32 (w.alloc (.cells #[.int .u8 56,.int .i64 n,str s,.slice (some ⟨kb,ko,none⟩) 2 c] 32)):=Box.new _ _ _;have hxW:Fb B b w (w.alloc (.cells #[.int .u8 56,.int .i64 n,str s,.slice (some ⟨kb,ko,none⟩) 2 c] 32)):=Fb.of_ext ((kQ _).alloc _) hle;have hb0:Bld B b t (w.alloc (.cells #[.int .u8 56,.int .i64 n,str s,.slice (some ⟨kb,ko,none⟩) 2 c] 32)):=h.alloc _;have ht0:=ht.fb hxW hB;have hs0:=hs.fb hxW
 go_enter func146,ntmps146
 go_wp2_with fail
 refine (Ej _ _ (by omega) (by omega)).mono ?_;rintro e w1 ⟨rfl,rfl⟩;simp only
 go_wp2_with fail
 refine (AR B b (w.heap.size+1) 1 _ [Bm 56] _ (hb0.alloc _) (Box.new' _ _ (by simp)) (by simp) (by (try simp at hlen ⊢)<;>omega)).mono ?_;rintro e u1 ⟨rfl,hb1,hx1⟩;have hxx1:Fb B b (w.alloc (.cells #[.int .u8 56,.int .i64 n,str s,.slice (some ⟨kb,ko,none⟩) 2 c] 32)) u1:=Fb.trans (Fb.of_ext ((kQ _).alloc _) hb0.le) hx1;obtain ⟨g0,g1,g2,g3⟩:=(hbx0.fb hxx1 (by omega) (by decide)).node;have ht1:=ht0.fb hxx1 hB;have hs1:=hs0.fb hxx1;obtain ⟨ka1,kc1,m0,m1,m2,m3,hk1⟩:=KI hs1;simp only
 go_wp2_with fail
 refine (HX.out B b _ _ ka1 kc1 hb1 ht1 hB hk1 (by (try simp at hlen ⊢)<;>omega)).mono ?_;rintro e u2 ⟨rfl,hb2,hx2⟩;have hxx2:Fb B b (w.alloc (.cells #[.int .u8 56,.int .i64 n,str s,.slice (some ⟨kb,ko,none⟩) 2 c] 32)) u2:=Fb.trans hxx1 hx2;obtain ⟨g0,g1,g2,g3⟩:=(hbx0.fb hxx2 (by omega) (by decide)).node;have ht2:=ht0.fb hxx2 hB;have hs2:=hs0.fb hxx2;simp only
 go_wp2_with fail
 refine (Hu _ _ (by omega) (by omega) ht2).mono ?_;rintro e w1 ⟨rfl,rfl⟩;simp only
 go_wp2_with fail
 refine (AR B b u2.heap.size 3 _ [[32],Cl 56,[32]] _ (hb2.alloc _) (Box.new' _ _ (by simp)) (by simp) (by (try simp at hlen ⊢)<;>omega)).mono ?_;rintro e u3 ⟨rfl,hb3,hx3⟩;have hxx3:Fb B b (w.alloc (.cells #[.int .u8 56,.int .i64 n,str s,.slice (some ⟨kb,ko,none⟩) 2 c] 32)) u3:=Fb.trans (Fb.trans hxx2 (Fb.of_ext ((kQ _).alloc _) hb2.le)) hx3;obtain ⟨g0,g1,g2,g3⟩:=(hbx0.fb hxx3 (by omega) (by decide)).node;have ht3:=ht0.fb hxx3 hB;have hs3:=hs0.fb hxx3;obtain ⟨ka3,kc3,m0,m1,m2,m3,m4,m5,m6,hk3⟩:=NH hs3;simp only
 go_wp2_with fail
 refine (HY.out B b _ _ ka3 kc3 hb3 ht3 hB hk3 (by (try simp at hlen ⊢)<;>omega)).mono ?_;rintro e u4 ⟨rfl,hb4,hx4⟩;have hxx4:Fb B b (w.alloc (.cells #[.int .u8 56,.int .i64 n,str s,.slice (some ⟨kb,ko,none⟩) 2 c] 32)) u4:=Fb.trans hxx3 hx4;obtain ⟨g0,g1,g2,g3⟩:=(hbx0.fb hxx4 (by omega) (by decide)).node;have ht4:=ht0.fb hxx4 hB;have hs4:=hs0.fb hxx4;simp only
 go_wp2_with fail
 go_end0
 exact ⟨rfl,by simpa using hb4,hxW.trans hxx4⟩
def aI (n:Int) (s:lB) (x y:Nd) (hx:BC 192 lk x) (hy:BC 192 lk y):BB 146 Nd.stmtT (.mk 43 n s [x,y]):=by
 intro B b t w a c d h ht hB hs hd hlen
 have htx:(Nd.mk 43 n s [x,y]).stmtT d=Bm 43++x.text++[32]++Cl 43++[32]++y.text:=by rw [Nd.stmtT.eq_def];simp [Bm]
 rw [htx] at hlen ⊢;clear htx;have hle:=h.le;have hlt:=h.lt;simp only [kZ,lp,lj,li,lq,lg,kU,Ah,jz,jD] at hs hd ⊢
 obtain ⟨kb,ko,rfl⟩ : ∃kb ko,a=some ⟨kb,ko,none⟩:=by
  obtain ⟨b0,o0,_,_,he,_⟩:=AS hs (i:=0) rfl
  exact ⟨b0,o0,he⟩
 have HX:=jC hx;clear hx
 have HY:=jC hy;clear hy
 have hbx0:Box w.heap.size #[.int .u8 43,.int .i64 n,str s,.slice (some ⟨kb,ko,none⟩) 2 c] 32 (w.alloc (.cells #[.int .u8 43,.int .i64 n,str s,.slice (some ⟨kb,ko,none⟩) 2 c] 32)):=Box.new _ _ _;have hxW:Fb B b w (w.alloc (.cells #[.int .u8 43,.int .i64 n,str s,.slice (some ⟨kb,ko,none⟩) 2 c] 32)):=Fb.of_ext ((kQ _).alloc _) hle;have hb0:Bld B b t (w.alloc (.cells #[.int .u8 43,.int .i64 n,str s,.slice (some ⟨kb,ko,none⟩) 2 c] 32)):=h.alloc _;have ht0:=ht.fb hxW hB;have hs0:=hs.fb hxW
 go_enter func146,ntmps146
 go_wp2_with fail
 refine (Ej _ _ (by omega) (by omega)).mono ?_;rintro e w1 ⟨rfl,rfl⟩;simp only
 go_wp2_with fail
 refine (AR B b (w.heap.size+1) 1 _ [Bm 43] _ (hb0.alloc _) (Box.new' _ _ (by simp)) (by simp) (by (try simp at hlen ⊢)<;>omega)).mono ?_;rintro e u1 ⟨rfl,hb1,hx1⟩;have hxx1:Fb B b (w.alloc (.cells #[.int .u8 43,.int .i64 n,str s,.slice (some ⟨kb,ko,none⟩) 2 c] 32)) u1:=Fb.trans (Fb.of_ext ((kQ _).alloc _) hb0.le) hx1;obtain ⟨g0,g1,g2,g3⟩:=(hbx0.fb hxx1 (by omega) (by decide)).node;have ht1:=ht0.fb hxx1 hB;have hs1:=hs0.fb hxx1;obtain ⟨ka1,kc1,m0,m1,m2,m3,hk1⟩:=KI hs1;simp only
 go_wp2_with fail
 refine (HX.out B b _ _ ka1 kc1 hb1 ht1 hB hk1 (by (try simp at hlen ⊢)<;>omega)).mono ?_;rintro e u2 ⟨rfl,hb2,hx2⟩;have hxx2:Fb B b (w.alloc (.cells #[.int .u8 43,.int .i64 n,str s,.slice (some ⟨kb,ko,none⟩) 2 c] 32)) u2:=Fb.trans hxx1 hx2;obtain ⟨g0,g1,g2,g3⟩:=(hbx0.fb hxx2 (by omega) (by decide)).node;have ht2:=ht0.fb hxx2 hB;have hs2:=hs0.fb hxx2;simp only
 go_wp2_with fail
 refine (Hu _ _ (by omega) (by omega) ht2).mono ?_;rintro e w1 ⟨rfl,rfl⟩;simp only
 go_wp2_with fail
 refine (AR B b u2.heap.size 3 _ [[32],Cl 43,[32]] _ (hb2.alloc _) (Box.new' _ _ (by simp)) (by simp) (by (try simp at hlen ⊢)<;>omega)).mono ?_;rintro e u3 ⟨rfl,hb3,hx3⟩;have hxx3:Fb B b (w.alloc (.cells #[.int .u8 43,.int .i64 n,str s,.slice (some ⟨kb,ko,none⟩) 2 c] 32)) u3:=Fb.trans (Fb.trans hxx2 (Fb.of_ext ((kQ _).alloc _) hb2.le)) hx3;obtain ⟨g0,g1,g2,g3⟩:=(hbx0.fb hxx3 (by omega) (by decide)).node;have ht3:=ht0.fb hxx3 hB;have hs3:=hs0.fb hxx3;obtain ⟨ka3,kc3,m0,m1,m2,m3,m4,m5,m6,hk3⟩:=NH hs3;simp only
 go_wp2_with fail
 refine (HY.out B b _ _ ka3 kc3 hb3 ht3 hB hk3 (by (try simp at hlen ⊢)<;>omega)).mono ?_;rintro e u4 ⟨rfl,hb4,hx4⟩;have hxx4:Fb B b (w.alloc (.cells #[.int .u8 43,.int .i64 n,str s,.slice (some ⟨kb,ko,none⟩) 2 c] 32)) u4:=Fb.trans hxx3 hx4;obtain ⟨g0,g1,g2,g3⟩:=(hbx0.fb hxx4 (by omega) (by decide)).node;have ht4:=ht0.fb hxx4 hB;have hs4:=hs0.fb hxx4;simp only
 go_wp2_with fail
 go_end0
 exact ⟨rfl,by simpa using hb4,hxW.trans hxx4⟩
def aJ (n:Int) (s:lB) (x:Nd) (hx:BC 192 lk x):BB 146 Nd.stmtT (.mk 44 n s [x]):=by
 intro B b t w a c d h ht hB hs hd hlen
 have htx:(Nd.mk 44 n s [x]).stmtT d=Bm 44++x.text++[44,32]++s:=by rw [Nd.stmtT.eq_def];simp
 rw [htx] at hlen ⊢;clear htx;have hle:=h.le;have hlt:=h.lt;simp only [kZ,lp,lj,li,lq,lg,kU,Ah,jz,jD] at hs hd ⊢
 obtain ⟨kb,ko,rfl⟩ : ∃kb ko,a=some ⟨kb,ko,none⟩:=by
  obtain ⟨b0,o0,_,_,he,_⟩:=AS hs (i:=0) rfl
  exact ⟨b0,o0,he⟩
 have HX:=jC hx;clear hx
 have hbx0:Box w.heap.size #[.int .u8 44,.int .i64 n,str s,.slice (some ⟨kb,ko,none⟩) 1 c] 32 (w.alloc (.cells #[.int .u8 44,.int .i64 n,str s,.slice (some ⟨kb,ko,none⟩) 1 c] 32)):=Box.new _ _ _;have hxW:Fb B b w (w.alloc (.cells #[.int .u8 44,.int .i64 n,str s,.slice (some ⟨kb,ko,none⟩) 1 c] 32)):=Fb.of_ext ((kQ _).alloc _) hle;have hb0:Bld B b t (w.alloc (.cells #[.int .u8 44,.int .i64 n,str s,.slice (some ⟨kb,ko,none⟩) 1 c] 32)):=h.alloc _;have ht0:=ht.fb hxW hB;have hs0:=hs.fb hxW
 go_enter func146,ntmps146
 go_wp2_with fail
 refine (Ej _ _ (by omega) (by omega)).mono ?_;rintro e w1 ⟨rfl,rfl⟩;simp only
 go_wp2_with fail
 refine (AR B b (w.heap.size+1) 1 _ [Bm 44] _ (hb0.alloc _) (Box.new' _ _ (by simp)) (by simp) (by (try simp at hlen ⊢)<;>omega)).mono ?_;rintro e u1 ⟨rfl,hb1,hx1⟩;have hxx1:Fb B b (w.alloc (.cells #[.int .u8 44,.int .i64 n,str s,.slice (some ⟨kb,ko,none⟩) 1 c] 32)) u1:=Fb.trans (Fb.of_ext ((kQ _).alloc _) hb0.le) hx1;obtain ⟨g0,g1,g2,g3⟩:=(hbx0.fb hxx1 (by omega) (by decide)).node;have ht1:=ht0.fb hxx1 hB;have hs1:=hs0.fb hxx1;obtain ⟨ka1,kc1,m0,m1,m2,m3,hk1⟩:=KI hs1;simp only
 go_wp2_with fail
 refine (HX.out B b _ _ ka1 kc1 hb1 ht1 hB hk1 (by (try simp at hlen ⊢)<;>omega)).mono ?_;rintro e u2 ⟨rfl,hb2,hx2⟩;have hxx2:Fb B b (w.alloc (.cells #[.int .u8 44,.int .i64 n,str s,.slice (some ⟨kb,ko,none⟩) 1 c] 32)) u2:=Fb.trans hxx1 hx2;obtain ⟨g0,g1,g2,g3⟩:=(hbx0.fb hxx2 (by omega) (by decide)).node;have ht2:=ht0.fb hxx2 hB;have hs2:=hs0.fb hxx2;simp only
 go_wp2_with fail
 refine (AR B b u2.heap.size 2 _ [[44,32],s] _ (hb2.alloc _) (Box.new' _ _ (by simp)) (by simp) (by (try simp at hlen ⊢)<;>omega)).mono ?_;rintro e u3 ⟨rfl,hb3,hx3⟩;have hxx3:Fb B b (w.alloc (.cells #[.int .u8 44,.int .i64 n,str s,.slice (some ⟨kb,ko,none⟩) 1 c] 32)) u3:=Fb.trans (Fb.trans hxx2 (Fb.of_ext ((kQ _).alloc _) hb2.le)) hx3;obtain ⟨g0,g1,g2,g3⟩:=(hbx0.fb hxx3 (by omega) (by decide)).node;have ht3:=ht0.fb hxx3 hB;have hs3:=hs0.fb hxx3;simp only
 go_wp2_with fail
 go_end0
 exact ⟨rfl,by simpa using hb3,hxW.trans hxx3⟩
def aK (n:Int) (s:lB) (x:Nd) (hx:BC 192 lk x):BB 146 Nd.stmtT (.mk 45 n s [x]):=by
 intro B b t w a c d h ht hB hs hd hlen
 have htx:(Nd.mk 45 n s [x]).stmtT d=Bm 45++x.text++[44,32]++s:=by rw [Nd.stmtT.eq_def];simp
 rw [htx] at hlen ⊢;clear htx;have hle:=h.le;have hlt:=h.lt;simp only [kZ,lp,lj,li,lq,lg,kU,Ah,jz,jD] at hs hd ⊢
 obtain ⟨kb,ko,rfl⟩ : ∃kb ko,a=some ⟨kb,ko,none⟩:=by
  obtain ⟨b0,o0,_,_,he,_⟩:=AS hs (i:=0) rfl
  exact ⟨b0,o0,he⟩
 have HX:=jC hx;clear hx
 have hbx0:Box w.heap.size #[.int .u8 45,.int .i64 n,str s,.slice (some ⟨kb,ko,none⟩) 1 c] 32 (w.alloc (.cells #[.int .u8 45,.int .i64 n,str s,.slice (some ⟨kb,ko,none⟩) 1 c] 32)):=Box.new _ _ _;have hxW:Fb B b w (w.alloc (.cells #[.int .u8 45,.int .i64 n,str s,.slice (some ⟨kb,ko,none⟩) 1 c] 32)):=Fb.of_ext ((kQ _).alloc _) hle;have hb0:Bld B b t (w.alloc (.cells #[.int .u8 45,.int .i64 n,str s,.slice (some ⟨kb,ko,none⟩) 1 c] 32)):=h.alloc _;have ht0:=ht.fb hxW hB;have hs0:=hs.fb hxW
 go_enter func146,ntmps146
 go_wp2_with fail
 refine (Ej _ _ (by omega) (by omega)).mono ?_;rintro e w1 ⟨rfl,rfl⟩;simp only
 go_wp2_with fail
 refine (AR B b (w.heap.size+1) 1 _ [Bm 45] _ (hb0.alloc _) (Box.new' _ _ (by simp)) (by simp) (by (try simp at hlen ⊢)<;>omega)).mono ?_;rintro e u1 ⟨rfl,hb1,hx1⟩;have hxx1:Fb B b (w.alloc (.cells #[.int .u8 45,.int .i64 n,str s,.slice (some ⟨kb,ko,none⟩) 1 c] 32)) u1:=Fb.trans (Fb.of_ext ((kQ _).alloc _) hb0.le) hx1;obtain ⟨g0,g1,g2,g3⟩:=(hbx0.fb hxx1 (by omega) (by decide)).node;have ht1:=ht0.fb hxx1 hB;have hs1:=hs0.fb hxx1;obtain ⟨ka1,kc1,m0,m1,m2,m3,hk1⟩:=KI hs1;simp only
 go_wp2_with fail
 refine (HX.out B b _ _ ka1 kc1 hb1 ht1 hB hk1 (by (try simp at hlen ⊢)<;>omega)).mono ?_;rintro e u2 ⟨rfl,hb2,hx2⟩;have hxx2:Fb B b (w.alloc (.cells #[.int .u8 45,.int .i64 n,str s,.slice (some ⟨kb,ko,none⟩) 1 c] 32)) u2:=Fb.trans hxx1 hx2;obtain ⟨g0,g1,g2,g3⟩:=(hbx0.fb hxx2 (by omega) (by decide)).node;have ht2:=ht0.fb hxx2 hB;have hs2:=hs0.fb hxx2;simp only
 go_wp2_with fail
 refine (AR B b u2.heap.size 2 _ [[44,32],s] _ (hb2.alloc _) (Box.new' _ _ (by simp)) (by simp) (by (try simp at hlen ⊢)<;>omega)).mono ?_;rintro e u3 ⟨rfl,hb3,hx3⟩;have hxx3:Fb B b (w.alloc (.cells #[.int .u8 45,.int .i64 n,str s,.slice (some ⟨kb,ko,none⟩) 1 c] 32)) u3:=Fb.trans (Fb.trans hxx2 (Fb.of_ext ((kQ _).alloc _) hb2.le)) hx3;obtain ⟨g0,g1,g2,g3⟩:=(hbx0.fb hxx3 (by omega) (by decide)).node;have ht3:=ht0.fb hxx3 hB;have hs3:=hs0.fb hxx3;simp only
 go_wp2_with fail
 go_end0
 exact ⟨rfl,by simpa using hb3,hxW.trans hxx3⟩
def aL (n:Int) (s:lB) (x:Nd) (hx:BC 192 lk x):BB 146 Nd.stmtT (.mk 46 n s [x]):=by
 intro B b t w a c d h ht hB hs hd hlen
 have htx:(Nd.mk 46 n s [x]).stmtT d=Bm 46++x.text:=by rw [Nd.stmtT.eq_def];simp
 rw [htx] at hlen ⊢;clear htx;have hle:=h.le;have hlt:=h.lt;simp only [kZ,lp,lj,li,lq,lg,kU,Ah,jz,jD] at hs hd ⊢
 obtain ⟨kb,ko,rfl⟩ : ∃kb ko,a=some ⟨kb,ko,none⟩:=by
  obtain ⟨b0,o0,_,_,he,_⟩:=AS hs (i:=0) rfl
  exact ⟨b0,o0,he⟩
 have HX:=jC hx;clear hx
 have hbx0:Box w.heap.size #[.int .u8 46,.int .i64 n,str s,.slice (some ⟨kb,ko,none⟩) 1 c] 32 (w.alloc (.cells #[.int .u8 46,.int .i64 n,str s,.slice (some ⟨kb,ko,none⟩) 1 c] 32)):=Box.new _ _ _;have hxW:Fb B b w (w.alloc (.cells #[.int .u8 46,.int .i64 n,str s,.slice (some ⟨kb,ko,none⟩) 1 c] 32)):=Fb.of_ext ((kQ _).alloc _) hle;have hb0:Bld B b t (w.alloc (.cells #[.int .u8 46,.int .i64 n,str s,.slice (some ⟨kb,ko,none⟩) 1 c] 32)):=h.alloc _;have ht0:=ht.fb hxW hB;have hs0:=hs.fb hxW
 go_enter func146,ntmps146
 go_wp2_with fail
 refine (Ej _ _ (by omega) (by omega)).mono ?_;rintro e w1 ⟨rfl,rfl⟩;simp only
 go_wp2_with fail
 refine (AR B b (w.heap.size+1) 1 _ [Bm 46] _ (hb0.alloc _) (Box.new' _ _ (by simp)) (by simp) (by (try simp at hlen ⊢)<;>omega)).mono ?_;rintro e u1 ⟨rfl,hb1,hx1⟩;have hxx1:Fb B b (w.alloc (.cells #[.int .u8 46,.int .i64 n,str s,.slice (some ⟨kb,ko,none⟩) 1 c] 32)) u1:=Fb.trans (Fb.of_ext ((kQ _).alloc _) hb0.le) hx1;obtain ⟨g0,g1,g2,g3⟩:=(hbx0.fb hxx1 (by omega) (by decide)).node;have ht1:=ht0.fb hxx1 hB;have hs1:=hs0.fb hxx1;obtain ⟨ka1,kc1,m0,m1,m2,m3,hk1⟩:=KI hs1;simp only
 go_wp2_with fail
 refine (HX.out B b _ _ ka1 kc1 hb1 ht1 hB hk1 (by (try simp at hlen ⊢)<;>omega)).mono ?_;rintro e u2 ⟨rfl,hb2,hx2⟩;have hxx2:Fb B b (w.alloc (.cells #[.int .u8 46,.int .i64 n,str s,.slice (some ⟨kb,ko,none⟩) 1 c] 32)) u2:=Fb.trans hxx1 hx2;obtain ⟨g0,g1,g2,g3⟩:=(hbx0.fb hxx2 (by omega) (by decide)).node;have ht2:=ht0.fb hxx2 hB;have hs2:=hs0.fb hxx2;simp only
 go_wp2_with fail
 go_end0
 exact ⟨rfl,by simpa using hb2,hxW.trans hxx2⟩
def aM (n:Int) (s:lB) (x:Nd) (hx:BC 192 lk x):BB 146 Nd.stmtT (.mk 47 n s [x]):=by
 intro B b t w a c d h ht hB hs hd hlen
 have htx:(Nd.mk 47 n s [x]).stmtT d=Bm 47++x.text:=by rw [Nd.stmtT.eq_def];simp
 rw [htx] at hlen ⊢;clear htx;have hle:=h.le;have hlt:=h.lt;simp only [kZ,lp,lj,li,lq,lg,kU,Ah,jz,jD] at hs hd ⊢
 obtain ⟨kb,ko,rfl⟩ : ∃kb ko,a=some ⟨kb,ko,none⟩:=by
  obtain ⟨b0,o0,_,_,he,_⟩:=AS hs (i:=0) rfl
  exact ⟨b0,o0,he⟩
 have HX:=jC hx;clear hx
 have hbx0:Box w.heap.size #[.int .u8 47,.int .i64 n,str s,.slice (some ⟨kb,ko,none⟩) 1 c] 32 (w.alloc (.cells #[.int .u8 47,.int .i64 n,str s,.slice (some ⟨kb,ko,none⟩) 1 c] 32)):=Box.new _ _ _;have hxW:Fb B b w (w.alloc (.cells #[.int .u8 47,.int .i64 n,str s,.slice (some ⟨kb,ko,none⟩) 1 c] 32)):=Fb.of_ext ((kQ _).alloc _) hle;have hb0:Bld B b t (w.alloc (.cells #[.int .u8 47,.int .i64 n,str s,.slice (some ⟨kb,ko,none⟩) 1 c] 32)):=h.alloc _;have ht0:=ht.fb hxW hB;have hs0:=hs.fb hxW
 go_enter func146,ntmps146
 go_wp2_with fail
 refine (Ej _ _ (by omega) (by omega)).mono ?_;rintro e w1 ⟨rfl,rfl⟩;simp only
 go_wp2_with fail
 refine (AR B b (w.heap.size+1) 1 _ [Bm 47] _ (hb0.alloc _) (Box.new' _ _ (by simp)) (by simp) (by (try simp at hlen ⊢)<;>omega)).mono ?_;rintro e u1 ⟨rfl,hb1,hx1⟩;have hxx1:Fb B b (w.alloc (.cells #[.int .u8 47,.int .i64 n,str s,.slice (some ⟨kb,ko,none⟩) 1 c] 32)) u1:=Fb.trans (Fb.of_ext ((kQ _).alloc _) hb0.le) hx1;obtain ⟨g0,g1,g2,g3⟩:=(hbx0.fb hxx1 (by omega) (by decide)).node;have ht1:=ht0.fb hxx1 hB;have hs1:=hs0.fb hxx1;obtain ⟨ka1,kc1,m0,m1,m2,m3,hk1⟩:=KI hs1;simp only
 go_wp2_with fail
 refine (HX.out B b _ _ ka1 kc1 hb1 ht1 hB hk1 (by (try simp at hlen ⊢)<;>omega)).mono ?_;rintro e u2 ⟨rfl,hb2,hx2⟩;have hxx2:Fb B b (w.alloc (.cells #[.int .u8 47,.int .i64 n,str s,.slice (some ⟨kb,ko,none⟩) 1 c] 32)) u2:=Fb.trans hxx1 hx2;obtain ⟨g0,g1,g2,g3⟩:=(hbx0.fb hxx2 (by omega) (by decide)).node;have ht2:=ht0.fb hxx2 hB;have hs2:=hs0.fb hxx2;simp only
 go_wp2_with fail
 go_end0
 exact ⟨rfl,by simpa using hb2,hxW.trans hxx2⟩
def aN (n:Int) (s:lB) (x:Nd) (hx:BC 192 lk x):BB 146 Nd.stmtT (.mk 48 n s [x]):=by
 intro B b t w a c d h ht hB hs hd hlen
 have htx:(Nd.mk 48 n s [x]).stmtT d=Bm 48++x.text:=by rw [Nd.stmtT.eq_def];simp
 rw [htx] at hlen ⊢;clear htx;have hle:=h.le;have hlt:=h.lt;simp only [kZ,lp,lj,li,lq,lg,kU,Ah,jz,jD] at hs hd ⊢
 obtain ⟨kb,ko,rfl⟩ : ∃kb ko,a=some ⟨kb,ko,none⟩:=by
  obtain ⟨b0,o0,_,_,he,_⟩:=AS hs (i:=0) rfl
  exact ⟨b0,o0,he⟩
 have HX:=jC hx;clear hx
 have hbx0:Box w.heap.size #[.int .u8 48,.int .i64 n,str s,.slice (some ⟨kb,ko,none⟩) 1 c] 32 (w.alloc (.cells #[.int .u8 48,.int .i64 n,str s,.slice (some ⟨kb,ko,none⟩) 1 c] 32)):=Box.new _ _ _;have hxW:Fb B b w (w.alloc (.cells #[.int .u8 48,.int .i64 n,str s,.slice (some ⟨kb,ko,none⟩) 1 c] 32)):=Fb.of_ext ((kQ _).alloc _) hle;have hb0:Bld B b t (w.alloc (.cells #[.int .u8 48,.int .i64 n,str s,.slice (some ⟨kb,ko,none⟩) 1 c] 32)):=h.alloc _;have ht0:=ht.fb hxW hB;have hs0:=hs.fb hxW
 go_enter func146,ntmps146
 go_wp2_with fail
 refine (Ej _ _ (by omega) (by omega)).mono ?_;rintro e w1 ⟨rfl,rfl⟩;simp only
 go_wp2_with fail
 refine (AR B b (w.heap.size+1) 1 _ [Bm 48] _ (hb0.alloc _) (Box.new' _ _ (by simp)) (by simp) (by (try simp at hlen ⊢)<;>omega)).mono ?_;rintro e u1 ⟨rfl,hb1,hx1⟩;have hxx1:Fb B b (w.alloc (.cells #[.int .u8 48,.int .i64 n,str s,.slice (some ⟨kb,ko,none⟩) 1 c] 32)) u1:=Fb.trans (Fb.of_ext ((kQ _).alloc _) hb0.le) hx1;obtain ⟨g0,g1,g2,g3⟩:=(hbx0.fb hxx1 (by omega) (by decide)).node;have ht1:=ht0.fb hxx1 hB;have hs1:=hs0.fb hxx1;obtain ⟨ka1,kc1,m0,m1,m2,m3,hk1⟩:=KI hs1;simp only
 go_wp2_with fail
 refine (HX.out B b _ _ ka1 kc1 hb1 ht1 hB hk1 (by (try simp at hlen ⊢)<;>omega)).mono ?_;rintro e u2 ⟨rfl,hb2,hx2⟩;have hxx2:Fb B b (w.alloc (.cells #[.int .u8 48,.int .i64 n,str s,.slice (some ⟨kb,ko,none⟩) 1 c] 32)) u2:=Fb.trans hxx1 hx2;obtain ⟨g0,g1,g2,g3⟩:=(hbx0.fb hxx2 (by omega) (by decide)).node;have ht2:=ht0.fb hxx2 hB;have hs2:=hs0.fb hxx2;simp only
 go_wp2_with fail
 go_end0
 exact ⟨rfl,by simpa using hb2,hxW.trans hxx2⟩
def aO (n:Int) (s:lB) (x:Nd) (hx:BC 192 lk x):BB 146 Nd.stmtT (.mk 49 n s [x]):=by
 intro B b t w a c d h ht hB hs hd hlen
 have htx:(Nd.mk 49 n s [x]).stmtT d=Bm 49++x.text:=by rw [Nd.stmtT.eq_def];simp
 rw [htx] at hlen ⊢;clear htx;have hle:=h.le;have hlt:=h.lt;simp only [kZ,lp,lj,li,lq,lg,kU,Ah,jz,jD] at hs hd ⊢
 obtain ⟨kb,ko,rfl⟩ : ∃kb ko,a=some ⟨kb,ko,none⟩:=by
  obtain ⟨b0,o0,_,_,he,_⟩:=AS hs (i:=0) rfl
  exact ⟨b0,o0,he⟩
 have HX:=jC hx;clear hx
 have hbx0:Box w.heap.size #[.int .u8 49,.int .i64 n,str s,.slice (some ⟨kb,ko,none⟩) 1 c] 32 (w.alloc (.cells #[.int .u8 49,.int .i64 n,str s,.slice (some ⟨kb,ko,none⟩) 1 c] 32)):=Box.new _ _ _;have hxW:Fb B b w (w.alloc (.cells #[.int .u8 49,.int .i64 n,str s,.slice (some ⟨kb,ko,none⟩) 1 c] 32)):=Fb.of_ext ((kQ _).alloc _) hle;have hb0:Bld B b t (w.alloc (.cells #[.int .u8 49,.int .i64 n,str s,.slice (some ⟨kb,ko,none⟩) 1 c] 32)):=h.alloc _;have ht0:=ht.fb hxW hB;have hs0:=hs.fb hxW
 go_enter func146,ntmps146
 go_wp2_with fail
 refine (Ej _ _ (by omega) (by omega)).mono ?_;rintro e w1 ⟨rfl,rfl⟩;simp only
 go_wp2_with fail
 refine (AR B b (w.heap.size+1) 1 _ [Bm 49] _ (hb0.alloc _) (Box.new' _ _ (by simp)) (by simp) (by (try simp at hlen ⊢)<;>omega)).mono ?_;rintro e u1 ⟨rfl,hb1,hx1⟩;have hxx1:Fb B b (w.alloc (.cells #[.int .u8 49,.int .i64 n,str s,.slice (some ⟨kb,ko,none⟩) 1 c] 32)) u1:=Fb.trans (Fb.of_ext ((kQ _).alloc _) hb0.le) hx1;obtain ⟨g0,g1,g2,g3⟩:=(hbx0.fb hxx1 (by omega) (by decide)).node;have ht1:=ht0.fb hxx1 hB;have hs1:=hs0.fb hxx1;obtain ⟨ka1,kc1,m0,m1,m2,m3,hk1⟩:=KI hs1;simp only
 go_wp2_with fail
 refine (HX.out B b _ _ ka1 kc1 hb1 ht1 hB hk1 (by (try simp at hlen ⊢)<;>omega)).mono ?_;rintro e u2 ⟨rfl,hb2,hx2⟩;have hxx2:Fb B b (w.alloc (.cells #[.int .u8 49,.int .i64 n,str s,.slice (some ⟨kb,ko,none⟩) 1 c] 32)) u2:=Fb.trans hxx1 hx2;obtain ⟨g0,g1,g2,g3⟩:=(hbx0.fb hxx2 (by omega) (by decide)).node;have ht2:=ht0.fb hxx2 hB;have hs2:=hs0.fb hxx2;simp only
 go_wp2_with fail
 go_end0
 exact ⟨rfl,by simpa using hb2,hxW.trans hxx2⟩
def NI (k n:Int) (s:lB) (x y z u:Nd) (hx:BC 192 lk x) (hy:BB 101 Nd.linesT y) (hz:BB 101 Nd.linesT z) (hu:BC 192 lk u) (mid lst:lB) (B b:Nat) (t:lB) (w:wD) (a:oA) (c d:Nat)
 (h:Bld B b t w) (ht:Tabs w) (hB:prog.globals.size<=B) (hs:rowSits (· < B) w [x,y,z,u] a) (hd:d+(1+Ah [x,y,z,u])<=1000000) (hlen:(t++(x.text++Cg y d++mid++Cg z d++lst++u.text)).length<=140737488355328) :
 Calls prog 194 #[.pointer (some ⟨b,0,none⟩),.agg #[.int .u8 k,.int .i64 n,str s,.slice a 4 c],.int .i64 d,str mid,str lst] w fun e w'=>e = .returned (.tuple #[])/\Bld B b (t++(x.text++Cg y d++mid++Cg z d++lst++u.text)) w'/\Fb B b w w':=by
 have hle:=h.le;have hlt:=h.lt;simp only [Ah] at hd
 obtain ⟨kb,ko,rfl⟩ : ∃kb ko,a=some ⟨kb,ko,none⟩:=by
  obtain ⟨b0,o0,_,_,he,_⟩:=AS hs (i:=0) rfl
  exact ⟨b0,o0,he⟩
 have HX:=jC hx;clear hx
 have HY:=jC hy;clear hy
 have HZ:=jC hz;clear hz
 have HU:=jC hu;clear hu
 have hbx0:Box w.heap.size #[.int .u8 k,.int .i64 n,str s,.slice (some ⟨kb,ko,none⟩) 4 c] 32 (w.alloc (.cells #[.int .u8 k,.int .i64 n,str s,.slice (some ⟨kb,ko,none⟩) 4 c] 32)):=Box.new _ _ _;have hxW:Fb B b w (w.alloc (.cells #[.int .u8 k,.int .i64 n,str s,.slice (some ⟨kb,ko,none⟩) 4 c] 32)):=Fb.of_ext ((kQ _).alloc _) hle;have hb0:Bld B b t (w.alloc (.cells #[.int .u8 k,.int .i64 n,str s,.slice (some ⟨kb,ko,none⟩) 4 c] 32)):=h.alloc _;have ht0:=ht.fb hxW hB;have hs0:=hs.fb hxW;have hxx0:=Fb.refl B b (w.alloc (.cells #[.int .u8 k,.int .i64 n,str s,.slice (some ⟨kb,ko,none⟩) 4 c] 32));obtain ⟨ka0,kc0,m0,m1,m2,m3,hk0⟩:=KI hs0
 have hkw:kb<w.heap.size:=by
  have:=CL m0;have h2:=(AS hs (i:=0) rfl);obtain ⟨_,_,_,_,he,h3,h4,_⟩:=h2;simp only [jJ,Addr.mk.injEq] at he;obtain ⟨rfl,rfl,-⟩:=he
  omega
 go_enter func194,ntmps194
 go_wp2_with fail
 refine (HX.out B b _ _ ka0 kc0 hb0 ht0 hB hk0 (by (try simp at hlen ⊢)<;>omega)).mono ?_;rintro e u1 ⟨rfl,hb1,hx1⟩;have hxx1:Fb B b (w.alloc (.cells #[.int .u8 k,.int .i64 n,str s,.slice (some ⟨kb,ko,none⟩) 4 c] 32)) u1:=Fb.trans hxx0 hx1;obtain ⟨g0,g1,g2,g3⟩:=(hbx0.fb hxx1 (by omega) (by decide)).node;have ht1:=ht0.fb hxx1 hB;have hs1:=hs0.fb hxx1;obtain ⟨ka1,kc1,m0,m1,m2,m3,m4,m5,m6,hk1⟩:=NH hs1;simp only
 go_wp2_with fail
 refine (Hv _ HY.out B b _ _ ka1 kc1 d hb1 ht1 hB hk1 (by omega) (by (try simp at hlen ⊢)<;>omega)).mono ?_;rintro e u2 ⟨rfl,hb2,hx2⟩;have hxx2:Fb B b (w.alloc (.cells #[.int .u8 k,.int .i64 n,str s,.slice (some ⟨kb,ko,none⟩) 4 c] 32)) u2:=Fb.trans hxx1 hx2;obtain ⟨g0,g1,g2,g3⟩:=(hbx0.fb hxx2 (by omega) (by decide)).node;have ht2:=ht0.fb hxx2 hB;have hs2:=hs0.fb hxx2;simp only
 go_wp2_with fail
 refine (AR B b u2.heap.size 1 _ [mid] _ (hb2.alloc _) (Box.new' _ _ (by simp)) (by simp) (by (try simp at hlen ⊢)<;>omega)).mono ?_;rintro e u3 ⟨rfl,hb3,hx3⟩;have hxx3:Fb B b (w.alloc (.cells #[.int .u8 k,.int .i64 n,str s,.slice (some ⟨kb,ko,none⟩) 4 c] 32)) u3:=Fb.trans (Fb.trans hxx2 (Fb.of_ext ((kQ _).alloc _) hb2.le)) hx3;obtain ⟨g0,g1,g2,g3⟩:=(hbx0.fb hxx3 (by omega) (by decide)).node;have ht3:=ht0.fb hxx3 hB;have hs3:=hs0.fb hxx3;obtain ⟨ka3,kc3,m0,m1,m2,m3,m4,m5,m6,hk3⟩:=dE hs3;simp only
 go_wp2_with fail
 refine (Hv _ HZ.out B b _ _ ka3 kc3 d hb3 ht3 hB hk3 (by omega) (by (try simp at hlen ⊢)<;>omega)).mono ?_;rintro e u4 ⟨rfl,hb4,hx4⟩;have hxx4:Fb B b (w.alloc (.cells #[.int .u8 k,.int .i64 n,str s,.slice (some ⟨kb,ko,none⟩) 4 c] 32)) u4:=Fb.trans hxx3 hx4;obtain ⟨g0,g1,g2,g3⟩:=(hbx0.fb hxx4 (by omega) (by decide)).node;have ht4:=ht0.fb hxx4 hB;have hs4:=hs0.fb hxx4;simp only
 go_wp2_with fail
 refine (AR B b u4.heap.size 1 _ [lst] _ (hb4.alloc _) (Box.new' _ _ (by simp)) (by simp) (by (try simp at hlen ⊢)<;>omega)).mono ?_;rintro e u5 ⟨rfl,hb5,hx5⟩;have hxx5:Fb B b (w.alloc (.cells #[.int .u8 k,.int .i64 n,str s,.slice (some ⟨kb,ko,none⟩) 4 c] 32)) u5:=Fb.trans (Fb.trans hxx4 (Fb.of_ext ((kQ _).alloc _) hb4.le)) hx5;obtain ⟨g0,g1,g2,g3⟩:=(hbx0.fb hxx5 (by omega) (by decide)).node;have ht5:=ht0.fb hxx5 hB;have hs5:=hs0.fb hxx5;obtain ⟨ka5,kc5,m0,m1,m2,m3,m4,m5,m6,hk5⟩:=iV hs5;simp only
 go_wp2_with fail
 refine (HU.out B b _ _ ka5 kc5 hb5 ht5 hB hk5 (by (try simp at hlen ⊢)<;>omega)).mono ?_;rintro e u6 ⟨rfl,hb6,hx6⟩;have hxx6:Fb B b (w.alloc (.cells #[.int .u8 k,.int .i64 n,str s,.slice (some ⟨kb,ko,none⟩) 4 c] 32)) u6:=Fb.trans hxx5 hx6;obtain ⟨g0,g1,g2,g3⟩:=(hbx0.fb hxx6 (by omega) (by decide)).node;have ht6:=ht0.fb hxx6 hB;have hs6:=hs0.fb hxx6;simp only
 go_wp2_with fail
 go_end0
 exact ⟨rfl,by simpa using hb6,hxW.trans hxx6⟩
def aP (n:Int) (s:lB) (x y z u:Nd) (hx:BC 192 lk x) (hy:BB 101 Nd.linesT y) (hz:BB 101 Nd.linesT z) (hu:BC 192 lk u):BB 146 Nd.stmtT (.mk 52 n s [x,y,z,u]):=by
 intro B b t w a c d h ht hB hs hd hlen
 have htx:(Nd.mk 52 n s [x,y,z,u]).stmtT d=Bm 52++x.text++Cg y d++[32,101,108,115,101]++Cg z d++[32,102,105,32]++u.text:=by rw [Nd.stmtT.eq_def];simp [Cg]
 rw [htx] at hlen ⊢;clear htx;have hle:=h.le;have hlt:=h.lt;simp only [kZ,lp,lj,li,lq,lg,kU,Ah,jz,jD] at hs hd ⊢
 obtain ⟨kb,ko,rfl⟩ : ∃kb ko,a=some ⟨kb,ko,none⟩:=by
  obtain ⟨b0,o0,_,_,he,_⟩:=AS hs (i:=0) rfl
  exact ⟨b0,o0,he⟩
 have HX:=jC hx;clear hx
 have HY:=jC hy;clear hy
 have HZ:=jC hz;clear hz
 have HU:=jC hu;clear hu
 have hbx0:Box w.heap.size #[.int .u8 52,.int .i64 n,str s,.slice (some ⟨kb,ko,none⟩) 4 c] 32 (w.alloc (.cells #[.int .u8 52,.int .i64 n,str s,.slice (some ⟨kb,ko,none⟩) 4 c] 32)):=Box.new _ _ _;have hxW:Fb B b w (w.alloc (.cells #[.int .u8 52,.int .i64 n,str s,.slice (some ⟨kb,ko,none⟩) 4 c] 32)):=Fb.of_ext ((kQ _).alloc _) hle;have hb0:Bld B b t (w.alloc (.cells #[.int .u8 52,.int .i64 n,str s,.slice (some ⟨kb,ko,none⟩) 4 c] 32)):=h.alloc _;have ht0:=ht.fb hxW hB;have hs0:=hs.fb hxW
 go_enter func146,ntmps146
 go_wp2_with fail
 refine (Ej _ _ (by omega) (by omega)).mono ?_;rintro e w1 ⟨rfl,rfl⟩;simp only
 go_wp2_with fail
 refine (AR B b (w.heap.size+1) 1 _ [Bm 52] _ (hb0.alloc _) (Box.new' _ _ (by simp)) (by simp) (by (try simp at hlen ⊢)<;>omega)).mono ?_;rintro e u1 ⟨rfl,hb1,hx1⟩;have hxx1:Fb B b (w.alloc (.cells #[.int .u8 52,.int .i64 n,str s,.slice (some ⟨kb,ko,none⟩) 4 c] 32)) u1:=Fb.trans (Fb.of_ext ((kQ _).alloc _) hb0.le) hx1;obtain ⟨g0,g1,g2,g3⟩:=(hbx0.fb hxx1 (by omega) (by decide)).node;have ht1:=ht0.fb hxx1 hB;have hs1:=hs0.fb hxx1;simp only
 go_wp2_with fail
 refine (NI _ _ _ x y z u HX.out HY.out HZ.out HU.out [32,101,108,115,101] [32,102,105,32] B b _ _ _ c d hb1 ht1 hB hs1 (by simp only [Ah];omega) (by (try simp at hlen ⊢)<;>omega)).mono ?_;rintro e u2 ⟨rfl,hb2,hx2⟩;have hxx2:Fb B b (w.alloc (.cells #[.int .u8 52,.int .i64 n,str s,.slice (some ⟨kb,ko,none⟩) 4 c] 32)) u2:=Fb.trans hxx1 hx2;obtain ⟨g0,g1,g2,g3⟩:=(hbx0.fb hxx2 (by omega) (by decide)).node;have ht2:=ht0.fb hxx2 hB;have hs2:=hs0.fb hxx2;simp only
 go_wp2_with fail
 go_end0
 exact ⟨rfl,by simpa using hb2,hxW.trans hxx2⟩
def aQ (n:Int) (s:lB) (x y z u:Nd) (hx:BC 192 lk x) (hy:BB 101 Nd.linesT y) (hz:BB 101 Nd.linesT z) (hu:BC 192 lk u):BB 146 Nd.stmtT (.mk 53 n s [x,y,z,u]):=by
 intro B b t w a c d h ht hB hs hd hlen
 have htx:(Nd.mk 53 n s [x,y,z,u]).stmtT d=Bm 53++x.text++Cg y d++[32,108,111,111,112]++Cg z d++[32,117,110,116,105,108,32]++u.text:=by rw [Nd.stmtT.eq_def];simp [Cg]
 rw [htx] at hlen ⊢;clear htx;have hle:=h.le;have hlt:=h.lt;simp only [kZ,lp,lj,li,lq,lg,kU,Ah,jz,jD] at hs hd ⊢
 obtain ⟨kb,ko,rfl⟩ : ∃kb ko,a=some ⟨kb,ko,none⟩:=by
  obtain ⟨b0,o0,_,_,he,_⟩:=AS hs (i:=0) rfl
  exact ⟨b0,o0,he⟩
 have HX:=jC hx;clear hx
 have HY:=jC hy;clear hy
 have HZ:=jC hz;clear hz
 have HU:=jC hu;clear hu
 have hbx0:Box w.heap.size #[.int .u8 53,.int .i64 n,str s,.slice (some ⟨kb,ko,none⟩) 4 c] 32 (w.alloc (.cells #[.int .u8 53,.int .i64 n,str s,.slice (some ⟨kb,ko,none⟩) 4 c] 32)):=Box.new _ _ _;have hxW:Fb B b w (w.alloc (.cells #[.int .u8 53,.int .i64 n,str s,.slice (some ⟨kb,ko,none⟩) 4 c] 32)):=Fb.of_ext ((kQ _).alloc _) hle;have hb0:Bld B b t (w.alloc (.cells #[.int .u8 53,.int .i64 n,str s,.slice (some ⟨kb,ko,none⟩) 4 c] 32)):=h.alloc _;have ht0:=ht.fb hxW hB;have hs0:=hs.fb hxW
 go_enter func146,ntmps146
 go_wp2_with fail
 refine (Ej _ _ (by omega) (by omega)).mono ?_;rintro e w1 ⟨rfl,rfl⟩;simp only
 go_wp2_with fail
 refine (AR B b (w.heap.size+1) 1 _ [Bm 53] _ (hb0.alloc _) (Box.new' _ _ (by simp)) (by simp) (by (try simp at hlen ⊢)<;>omega)).mono ?_;rintro e u1 ⟨rfl,hb1,hx1⟩;have hxx1:Fb B b (w.alloc (.cells #[.int .u8 53,.int .i64 n,str s,.slice (some ⟨kb,ko,none⟩) 4 c] 32)) u1:=Fb.trans (Fb.of_ext ((kQ _).alloc _) hb0.le) hx1;obtain ⟨g0,g1,g2,g3⟩:=(hbx0.fb hxx1 (by omega) (by decide)).node;have ht1:=ht0.fb hxx1 hB;have hs1:=hs0.fb hxx1;simp only
 go_wp2_with fail
 refine (NI _ _ _ x y z u HX.out HY.out HZ.out HU.out [32,108,111,111,112] [32,117,110,116,105,108,32] B b _ _ _ c d hb1 ht1 hB hs1 (by simp only [Ah];omega) (by (try simp at hlen ⊢)<;>omega)).mono ?_;rintro e u2 ⟨rfl,hb2,hx2⟩;have hxx2:Fb B b (w.alloc (.cells #[.int .u8 53,.int .i64 n,str s,.slice (some ⟨kb,ko,none⟩) 4 c] 32)) u2:=Fb.trans hxx1 hx2;obtain ⟨g0,g1,g2,g3⟩:=(hbx0.fb hxx2 (by omega) (by decide)).node;have ht2:=ht0.fb hxx2 hB;have hs2:=hs0.fb hxx2;simp only
 go_wp2_with fail
 go_end0
 exact ⟨rfl,by simpa using hb2,hxW.trans hxx2⟩
def aR (n:Int) (s:lB) (x y z:Nd) (hx:BC 192 lk x) (hy:BB 101 Nd.linesT y) (hz:BC 192 lk z):BB 146 Nd.stmtT (.mk 54 n s [x,y,z]):=by
 intro B b t w a c d h ht hB hs hd hlen
 have htx:(Nd.mk 54 n s [x,y,z]).stmtT d=Bm 54++s++[32,61,32]++x.text++Cg y d++[32,100,101,108,111,99,97,108,32]++z.text:=by rw [Nd.stmtT.eq_def];simp [Cg]
 rw [htx] at hlen ⊢;clear htx;have hle:=h.le;have hlt:=h.lt;simp only [kZ,lp,lj,li,lq,lg,kU,Ah,jz,jD] at hs hd ⊢
 obtain ⟨kb,ko,rfl⟩ : ∃kb ko,a=some ⟨kb,ko,none⟩:=by
  obtain ⟨b0,o0,_,_,he,_⟩:=AS hs (i:=0) rfl
  exact ⟨b0,o0,he⟩
 have HX:=jC hx;clear hx
 have HY:=jC hy;clear hy
 have HZ:=jC hz;clear hz
 have hbx0:Box w.heap.size #[.int .u8 54,.int .i64 n,str s,.slice (some ⟨kb,ko,none⟩) 3 c] 32 (w.alloc (.cells #[.int .u8 54,.int .i64 n,str s,.slice (some ⟨kb,ko,none⟩) 3 c] 32)):=Box.new _ _ _;have hxW:Fb B b w (w.alloc (.cells #[.int .u8 54,.int .i64 n,str s,.slice (some ⟨kb,ko,none⟩) 3 c] 32)):=Fb.of_ext ((kQ _).alloc _) hle;have hb0:Bld B b t (w.alloc (.cells #[.int .u8 54,.int .i64 n,str s,.slice (some ⟨kb,ko,none⟩) 3 c] 32)):=h.alloc _;have ht0:=ht.fb hxW hB;have hs0:=hs.fb hxW
 go_enter func146,ntmps146
 go_wp2_with fail
 refine (Ej _ _ (by omega) (by omega)).mono ?_;rintro e w1 ⟨rfl,rfl⟩;simp only
 go_wp2_with fail
 refine (AR B b (w.heap.size+1) 1 _ [Bm 54] _ (hb0.alloc _) (Box.new' _ _ (by simp)) (by simp) (by (try simp at hlen ⊢)<;>omega)).mono ?_;rintro e u1 ⟨rfl,hb1,hx1⟩;have hxx1:Fb B b (w.alloc (.cells #[.int .u8 54,.int .i64 n,str s,.slice (some ⟨kb,ko,none⟩) 3 c] 32)) u1:=Fb.trans (Fb.of_ext ((kQ _).alloc _) hb0.le) hx1;obtain ⟨g0,g1,g2,g3⟩:=(hbx0.fb hxx1 (by omega) (by decide)).node;have ht1:=ht0.fb hxx1 hB;have hs1:=hs0.fb hxx1;simp only
 go_wp2_with fail
 refine (AR B b u1.heap.size 2 _ [s,[32,61,32]] _ (hb1.alloc _) (Box.new' _ _ (by simp)) (by simp) (by (try simp at hlen ⊢)<;>omega)).mono ?_;rintro e u2 ⟨rfl,hb2,hx2⟩;have hxx2:Fb B b (w.alloc (.cells #[.int .u8 54,.int .i64 n,str s,.slice (some ⟨kb,ko,none⟩) 3 c] 32)) u2:=Fb.trans (Fb.trans hxx1 (Fb.of_ext ((kQ _).alloc _) hb1.le)) hx2;obtain ⟨g0,g1,g2,g3⟩:=(hbx0.fb hxx2 (by omega) (by decide)).node;have ht2:=ht0.fb hxx2 hB;have hs2:=hs0.fb hxx2;obtain ⟨ka2,kc2,m0,m1,m2,m3,hk2⟩:=KI hs2;simp only
 go_wp2_with fail
 refine (HX.out B b _ _ ka2 kc2 hb2 ht2 hB hk2 (by (try simp at hlen ⊢)<;>omega)).mono ?_;rintro e u3 ⟨rfl,hb3,hx3⟩;have hxx3:Fb B b (w.alloc (.cells #[.int .u8 54,.int .i64 n,str s,.slice (some ⟨kb,ko,none⟩) 3 c] 32)) u3:=Fb.trans hxx2 hx3;obtain ⟨g0,g1,g2,g3⟩:=(hbx0.fb hxx3 (by omega) (by decide)).node;have ht3:=ht0.fb hxx3 hB;have hs3:=hs0.fb hxx3;obtain ⟨ka3,kc3,m0,m1,m2,m3,m4,m5,m6,hk3⟩:=NH hs3;simp only
 go_wp2_with fail
 refine (Hv _ HY.out B b _ _ ka3 kc3 d hb3 ht3 hB hk3 (by omega) (by (try simp at hlen ⊢)<;>omega)).mono ?_;rintro e u4 ⟨rfl,hb4,hx4⟩;have hxx4:Fb B b (w.alloc (.cells #[.int .u8 54,.int .i64 n,str s,.slice (some ⟨kb,ko,none⟩) 3 c] 32)) u4:=Fb.trans hxx3 hx4;obtain ⟨g0,g1,g2,g3⟩:=(hbx0.fb hxx4 (by omega) (by decide)).node;have ht4:=ht0.fb hxx4 hB;have hs4:=hs0.fb hxx4;simp only
 go_wp2_with fail
 refine (AR B b u4.heap.size 1 _ [[32,100,101,108,111,99,97,108,32]] _ (hb4.alloc _) (Box.new' _ _ (by simp)) (by simp) (by (try simp at hlen ⊢)<;>omega)).mono ?_;rintro e u5 ⟨rfl,hb5,hx5⟩;have hxx5:Fb B b (w.alloc (.cells #[.int .u8 54,.int .i64 n,str s,.slice (some ⟨kb,ko,none⟩) 3 c] 32)) u5:=Fb.trans (Fb.trans hxx4 (Fb.of_ext ((kQ _).alloc _) hb4.le)) hx5;obtain ⟨g0,g1,g2,g3⟩:=(hbx0.fb hxx5 (by omega) (by decide)).node;have ht5:=ht0.fb hxx5 hB;have hs5:=hs0.fb hxx5;obtain ⟨ka5,kc5,m0,m1,m2,m3,m4,m5,m6,hk5⟩:=dE hs5;simp only
 go_wp2_with fail
 refine (HZ.out B b _ _ ka5 kc5 hb5 ht5 hB hk5 (by (try simp at hlen ⊢)<;>omega)).mono ?_;rintro e u6 ⟨rfl,hb6,hx6⟩;have hxx6:Fb B b (w.alloc (.cells #[.int .u8 54,.int .i64 n,str s,.slice (some ⟨kb,ko,none⟩) 3 c] 32)) u6:=Fb.trans hxx5 hx6;obtain ⟨g0,g1,g2,g3⟩:=(hbx0.fb hxx6 (by omega) (by decide)).node;have ht6:=ht0.fb hxx6 hB;have hs6:=hs0.fb hxx6;simp only
 go_wp2_with fail
 go_end0
 exact ⟨rfl,by simpa using hb6,hxW.trans hxx6⟩
def aS (n:Int) (s:lB) (x:Nd) (hx:BB 101 Nd.linesT x):BB 146 Nd.stmtT (.mk 55 n s [x]):=by
 intro B b t w a c d h ht hB hs hd hlen
 have htx:(Nd.mk 55 n s [x]).stmtT d=Bm 55++s++Cg x d:=by rw [Nd.stmtT.eq_def];simp [Cg]
 rw [htx] at hlen ⊢;clear htx;have hle:=h.le;have hlt:=h.lt;simp only [kZ,lp,lj,li,lq,lg,kU,Ah,jz,jD] at hs hd ⊢
 obtain ⟨kb,ko,rfl⟩ : ∃kb ko,a=some ⟨kb,ko,none⟩:=by
  obtain ⟨b0,o0,_,_,he,_⟩:=AS hs (i:=0) rfl
  exact ⟨b0,o0,he⟩
 have HX:=jC hx;clear hx
 have hbx0:Box w.heap.size #[.int .u8 55,.int .i64 n,str s,.slice (some ⟨kb,ko,none⟩) 1 c] 32 (w.alloc (.cells #[.int .u8 55,.int .i64 n,str s,.slice (some ⟨kb,ko,none⟩) 1 c] 32)):=Box.new _ _ _;have hxW:Fb B b w (w.alloc (.cells #[.int .u8 55,.int .i64 n,str s,.slice (some ⟨kb,ko,none⟩) 1 c] 32)):=Fb.of_ext ((kQ _).alloc _) hle;have hb0:Bld B b t (w.alloc (.cells #[.int .u8 55,.int .i64 n,str s,.slice (some ⟨kb,ko,none⟩) 1 c] 32)):=h.alloc _;have ht0:=ht.fb hxW hB;have hs0:=hs.fb hxW
 go_enter func146,ntmps146
 go_wp2_with fail
 refine (Ej _ _ (by omega) (by omega)).mono ?_;rintro e w1 ⟨rfl,rfl⟩;simp only
 go_wp2_with fail
 refine (AR B b (w.heap.size+1) 1 _ [Bm 55] _ (hb0.alloc _) (Box.new' _ _ (by simp)) (by simp) (by (try simp at hlen ⊢)<;>omega)).mono ?_;rintro e u1 ⟨rfl,hb1,hx1⟩;have hxx1:Fb B b (w.alloc (.cells #[.int .u8 55,.int .i64 n,str s,.slice (some ⟨kb,ko,none⟩) 1 c] 32)) u1:=Fb.trans (Fb.of_ext ((kQ _).alloc _) hb0.le) hx1;obtain ⟨g0,g1,g2,g3⟩:=(hbx0.fb hxx1 (by omega) (by decide)).node;have ht1:=ht0.fb hxx1 hB;have hs1:=hs0.fb hxx1;simp only
 go_wp2_with fail
 refine (AR B b u1.heap.size 1 _ [s] _ (hb1.alloc _) (Box.new' _ _ (by simp)) (by simp) (by (try simp at hlen ⊢)<;>omega)).mono ?_;rintro e u2 ⟨rfl,hb2,hx2⟩;have hxx2:Fb B b (w.alloc (.cells #[.int .u8 55,.int .i64 n,str s,.slice (some ⟨kb,ko,none⟩) 1 c] 32)) u2:=Fb.trans (Fb.trans hxx1 (Fb.of_ext ((kQ _).alloc _) hb1.le)) hx2;obtain ⟨g0,g1,g2,g3⟩:=(hbx0.fb hxx2 (by omega) (by decide)).node;have ht2:=ht0.fb hxx2 hB;have hs2:=hs0.fb hxx2;obtain ⟨ka2,kc2,m0,m1,m2,m3,hk2⟩:=KI hs2;simp only
 go_wp2_with fail
 refine (Hv _ HX.out B b _ _ ka2 kc2 d hb2 ht2 hB hk2 (by omega) (by (try simp at hlen ⊢)<;>omega)).mono ?_;rintro e u3 ⟨rfl,hb3,hx3⟩;have hxx3:Fb B b (w.alloc (.cells #[.int .u8 55,.int .i64 n,str s,.slice (some ⟨kb,ko,none⟩) 1 c] 32)) u3:=Fb.trans hxx2 hx3;obtain ⟨g0,g1,g2,g3⟩:=(hbx0.fb hxx3 (by omega) (by decide)).node;have ht3:=ht0.fb hxx3 hB;have hs3:=hs0.fb hxx3;simp only
 go_wp2_with fail
 go_end0
 exact ⟨rfl,by simpa using hb3,hxW.trans hxx3⟩
def KJ (q:Bool) (l r:List Nd):CY q (l++r)=CY q l++CY (q&&l.isEmpty) r:=by
 induction l generalizing q with
 | nil=>simp [CY]
 | cons x l f=>simp [CY,f]
def NJ (l:List Nd) (j:Nat) (h:j<l.length):CY true (l.take (j+1))=CY true (l.take j)++((if j=0 then [] else [44,32])++l[j].text):=by
 rw [jK h,KJ];rcases j with _|j
 . simp [CY]
 . have:(l.take (j+1)).isEmpty=false:=by
    rw [List.isEmpty_eq_false_iff];intro e;have h1:(l.take (j+1)).length=j+1:=by simp;omega
    rw [e] at h1;simp at h1
   rw [this];simp [CY]
def Sy (l:List Nd) (j:Nat):(CY true (l.take j)).length<=(CY true l).length:=by
 have e:=KJ true (l.take j) (l.drop j);rw [kA] at e;rw [e];simp
def ID (l r:List Nd) (d:Nat):BW (l++r) d=BW l d++BW r d:=by
 induction l with
 | nil=>simp [BW]
 | cons x l f=>simp [BW,f]
def Ou (l:List Nd) (j d:Nat) (h:j<l.length):BW (l.take (j+1)) d=BW (l.take j) d++(CU d++l[j].stmtT d++[59,10]):=by
 rw [jK h,ID];simp [BW]
def Sz (l:List Nd) (j d:Nat):(BW (l.take j) d).length<=(BW l d).length:=by
 have e:=ID (l.take j) (l.drop j) d;rw [kA] at e;rw [e];simp
def aT (k n:Int) (s:lB) (l:List Nd) (hll:l.length<=9223372036854775807) (hx : ∀x∈l,BB 146 Nd.stmtT x):BB 101 Nd.linesT (.mk k n s l):=by
 intro B b t w a c d h ht hB hs hd hlen
 have htx:(Nd.mk k n s l).linesT d=BW l d:=by simp [Nd.linesT]
 rw [htx] at hlen ⊢;clear htx;have hle:=h.le;have hlt:=h.lt;simp only [kZ,lp,lj,li,lq,lg,kU] at hs hd ⊢
 have HX:=jC hx;clear hx
 simp only [jy] at hlen
 go_enter func101,ntmps101
 go_wp2_with fail
 go_loopw [11] (fun i wr=> ∃j:Nat,j<=l.length/\i = .int .i64 j/\Bld B b (t++BW (l.take j) d) wr/\Fb B b w wr) (fun i _=>l.length-(intOf i).toNat)
 case atStart=>exact ⟨0,jN _,rfl,by simpa [BW] using h.alloc _,Fb.of_ext ((kQ _).alloc _) hle⟩
 case round=>
  obtain ⟨j,hj,rfl,hb0,hxx0⟩:=hrel;clear h
  by_cases hlj:j<l.length
  . have hg:l[j]? = some l[j]:=jB hlj
    have hmem:l[j]∈l:=jH hlj;have hsz:=EG hmem;have hsn:=Ou l j d hlj;have hsl:=Sz l (j+1) d;obtain ⟨kb,ko,xa,xc,rfl,hkB,k0,k1,k2,k3,hxs⟩:=AS (hs.fb hxx0) hg;have hP:=HX.out l[j] hmem
    have HG:=jC hg;clear hg
    generalize l[j]=x at *
    have HSN:=jC hsn;rw [hsn] at hsl;clear hsn
    have HP:=jC hP;clear hP
    simp only [jy,jz,jD] at hsl;have hb0l:=hb0.le;have hb0t:=hb0.lt
    have hkw:kb<wr.heap.size:=by omega
    have hbx0:Box wr.heap.size #[.int .u8 x.kind,.int .i64 x.num,str x.name,.slice xa x.kids.length xc] 32 (wr.alloc (.cells #[.int .u8 x.kind,.int .i64 x.num,str x.name,.slice xa x.kids.length xc] 32)):=Box.new _ _ _;have hxW:Fb B b wr (wr.alloc (.cells #[.int .u8 x.kind,.int .i64 x.num,str x.name,.slice xa x.kids.length xc] 32)):=Fb.of_ext ((kQ _).alloc _) hb0l
    go_wp2_with fail
    refine (Yp B b _ d _ (hb0.alloc _) (by omega) (by simp only [CU,List.length_replicate,jy] at *;omega)).mono ?_;rintro e u1 ⟨rfl,hb1,hx1⟩;obtain ⟨g0,g1,g2,g3⟩:=(hbx0.fb hx1 (by omega) (by decide)).node;have hxx1:Fb B b w u1:=(hxx0.trans hxW).trans hx1;have hxs1:=(hxs.fb hxW).fb hx1;have ht1:=ht.fb hxx1 hB;clear k0 k1 k2 k3;simp only
    go_wp2_with fail
    refine (HP.out B b _ _ xa xc d hb1 ht1 hB hxs1 (by omega) (by simp only [CU,List.length_replicate,jy] at *;omega)).mono ?_;rintro e u2 ⟨rfl,hb2,hx2⟩;simp only
    go_wp2_with fail
    refine (AR B b u2.heap.size 1 _ [[59,10]] _ (hb2.alloc _) (Box.new' _ _ (by simp)) (by simp) (by simp only [CU,List.length_replicate,jy,jY,List.flatten_nil,jz,jD] at *;omega)).mono ?_;rintro e u3 ⟨rfl,hb3,hx3⟩
    have hb4:Bld B b (t++BW (l.take (j+1)) d) u3:=by rw [HSN.out];simpa [CU] using hb3
    have hxx3:Fb B b w u3:=(hxx1.trans hx2).trans (Fb.trans (Fb.of_ext ((kQ _).alloc _) hb2.le) hx3);clear g0 g1 g2 g3 hb0 hb1 hb2 hb3 hsl;simp only
    go_wp2_with fail
    go_roundw
    case rel=>exact ⟨j+1,by omega,by go_num,hb4,hxx3⟩
    case measure=>simp [intOf];omega
  . go_wp2_with fail
    go_end0
    rw [List.take_of_length_le (by omega)] at hb0
    exact ⟨rfl,hb0,hxx0⟩
def aU (n:Int) (s:lB) (l:List Nd) (hll:l.length<=9223372036854775807) (hx : ∀x∈l,BC 192 lk x):BB 146 Nd.stmtT (.mk 50 n s l):=by
 intro B b t w a c d h ht hB hs hd hlen
 have htx:(Nd.mk 50 n s l).stmtT d=Bm 50++s++[40]++CY true l++[41]:=by rw [Nd.stmtT.eq_def];simp
 rw [htx] at hlen ⊢;clear htx;have hle:=h.le;have hlt:=h.lt;simp only [kZ,lp,lj,li,lq,lg,kU] at hs hd ⊢
 have HX:=jC hx;clear hx
 have hbx0:Box w.heap.size #[.int .u8 50,.int .i64 n,str s,.slice a l.length c] 32 (w.alloc (.cells #[.int .u8 50,.int .i64 n,str s,.slice a l.length c] 32)):=Box.new _ _ _;have hxW:Fb B b w (w.alloc (.cells #[.int .u8 50,.int .i64 n,str s,.slice a l.length c] 32)):=Fb.of_ext ((kQ _).alloc _) hle;have hb0:Bld B b t (w.alloc (.cells #[.int .u8 50,.int .i64 n,str s,.slice a l.length c] 32)):=h.alloc _;have ht0:=ht.fb hxW hB;have hs0:=hs.fb hxW
 go_enter func146,ntmps146
 go_wp2_with fail
 refine (Ej _ _ (by omega) (by omega)).mono ?_;rintro e w1 ⟨rfl,rfl⟩;simp only
 go_wp2_with fail
 refine (AR B b (w.heap.size+1) 1 _ [Bm 50] _ (hb0.alloc _) (Box.new' _ _ (by simp)) (by simp) (by simp only [jy,jY,List.flatten_nil,jz,jD,List.length_replicate,Cg,CU] at hlen ⊢;omega)).mono ?_;rintro e u1 ⟨rfl,hb1,hx1⟩;have hxx1:Fb B b (w.alloc (.cells #[.int .u8 50,.int .i64 n,str s,.slice a l.length c] 32)) u1:=Fb.trans (Fb.of_ext ((kQ _).alloc _) hb0.le) hx1;obtain ⟨g0,g1,g2,g3⟩:=(hbx0.fb hxx1 (by omega) (by decide)).node;have ht1:=ht0.fb hxx1 hB;have hs1:=hs0.fb hxx1;simp only
 go_wp2_with fail
 refine (AR B b u1.heap.size 2 _ [s,[40]] _ (hb1.alloc _) (Box.new' _ _ (by simp)) (by simp) (by simp only [jy,jY,List.flatten_nil,jz,jD,List.length_replicate,Cg,CU] at hlen ⊢;omega)).mono ?_;rintro e u2 ⟨rfl,hb2,hx2⟩;have hxx2:Fb B b (w.alloc (.cells #[.int .u8 50,.int .i64 n,str s,.slice a l.length c] 32)) u2:=Fb.trans (Fb.trans hxx1 (Fb.of_ext ((kQ _).alloc _) hb1.le)) hx2;obtain ⟨g0,g1,g2,g3⟩:=(hbx0.fb hxx2 (by omega) (by decide)).node;have ht2:=ht0.fb hxx2 hB;have hs2:=hs0.fb hxx2;clear g0 g1 g2;simp only
 go_wp2_with fail
 simp only [jy,jz,jD] at hlen;clear g3
 go_loopw [76] (fun i wr=> ∃j:Nat,j<=l.length/\i = .int .i64 j/\Bld B b (t++Bm 50++s++[40]++CY true (l.take j)) wr/\Fb B b (w.alloc (.cells #[.int .u8 50,.int .i64 n,str s,.slice a l.length c] 32)) wr) (fun i _=>l.length-(intOf i).toNat)
 case atStart=>exact ⟨0,jN _,rfl,by simpa [CY] using hb2,hxx2⟩
 case round=>
  obtain ⟨j,hj,rfl,hb3,hxx3⟩:=hrel;clear hb1 hx1 hxx1 hb2 hx2 hxx2 ht1 ht2 hs1 hs2
  by_cases hlj:j<l.length
  . have hg:l[j]? = some l[j]:=jB hlj
    have hmem:l[j]∈l:=jH hlj;have hsn:=NJ l j hlj;have hsl:=Sy l (j+1);obtain ⟨kb,ko,xa,xc,rfl,hkB,k0,k1,k2,k3,hxs⟩:=AS (hs0.fb hxx3) hg;have hP:=HX.out l[j] hmem
    have HG:=jC hg;clear hg
    generalize l[j]=x at *
    have HSN:=jC hsn;rw [hsn] at hsl;clear hsn
    have HP:=jC hP;clear hP
    have hb3l:=hb3.le;have hb3t:=hb3.lt
    have hkw:kb<wr.heap.size:=by omega
    have hbx3:Box wr.heap.size #[.int .u8 x.kind,.int .i64 x.num,str x.name,.slice xa x.kids.length xc] 32 (wr.alloc (.cells #[.int .u8 x.kind,.int .i64 x.num,str x.name,.slice xa x.kids.length xc] 32)):=Box.new _ _ _;have hxV:Fb B b wr (wr.alloc (.cells #[.int .u8 x.kind,.int .i64 x.num,str x.name,.slice xa x.kids.length xc] 32)):=Fb.of_ext ((kQ _).alloc _) hb3l
    by_cases hj0:j=0
    . have dj:decide (0<j)=false:=by simp;omega
      have hjz:j<=0:=by omega
      simp only [AH hj0,km,jy] at hsl
      have HJ:=jC hj0;clear hj0
      go_wp2_with fail
      refine (HP.out B b _ _ xa xc (hb3.alloc _) (ht0.fb (hxx3.trans hxV) hB) hB (hxs.fb hxV) (by simp only [jy,jz,jD];omega)).mono ?_;rintro e u5 ⟨rfl,hb5,hx5⟩
      have hb6:Bld B b (t++Bm 50++s++[40]++CY true (l.take (j+1))) u5:=by rw [HSN.out,AH HJ.out];simpa using hb5
      have hxx6:=(hxx3.trans hxV).trans hx5;clear k0 k1 k2 k3 hb3 hb5 hsl;simp only
      go_wp2_with fail
      go_roundw
      case rel=>exact ⟨j+1,by omega,by go_num,hb6,hxx6⟩
      case measure=>simp [intOf];omega
    . have dj:decide ((0:Int)<j)=true:=by simp;omega
      simp only [At hj0,jy,jz,jD] at hsl
      go_wp2_with fail
      refine (AR B b (wr.heap.size+1) 1 _ [[44,32]] _ ((hb3.alloc _).alloc _) (Box.new' _ _ (by simp)) (by simp) (by simp only [jy,jY,List.flatten_nil,jz,jD];omega)).mono ?_;rintro e u4 ⟨rfl,hb4,hx4⟩;have hx4':Fb B b (wr.alloc (.cells #[.int .u8 x.kind,.int .i64 x.num,str x.name,.slice xa x.kids.length xc] 32)) u4:=Fb.trans (Fb.of_ext ((kQ _).alloc _) (hb3.alloc _).le) hx4;obtain ⟨g0,g1,g2,g3⟩:=(hbx3.fb hx4' (by omega) (by decide)).node;clear k0 k1 k2 k3;simp only
      go_wp2_with fail
      refine (HP.out B b _ _ xa xc hb4 (ht0.fb ((hxx3.trans hxV).trans hx4') hB) hB ((hxs.fb hxV).fb hx4') (by simp only [jy,jY,List.flatten_nil,jz,jD];omega)).mono ?_;rintro e u5 ⟨rfl,hb5,hx5⟩
      have hb6:Bld B b (t++Bm 50++s++[40]++CY true (l.take (j+1))) u5:=by rw [HSN.out,At hj0];simpa using hb5
      have hxx6:=((hxx3.trans hxV).trans hx4').trans hx5;clear g0 g1 g2 g3 hb3 hb5 hsl hb4;simp only
      go_wp2_with fail
      go_roundw
      case rel=>exact ⟨j+1,by omega,by go_num,hb6,hxx6⟩
      case measure=>simp [intOf];omega
  . rw [List.take_of_length_le (by omega)] at hb3
    go_wp2_with fail
    refine (AR B b wr.heap.size 1 _ [[41]] _ (hb3.alloc _) (Box.new' _ _ (by simp)) (by simp) (by simp only [jy,jY,List.flatten_nil,jz,jD];omega)).mono ?_;rintro e u5 ⟨rfl,hb5,hx5⟩;simp only
    go_wp2_with fail
    go_end0
    exact ⟨rfl,by simpa using hb5,(hxW.trans hxx3).trans (Fb.trans (Fb.of_ext ((kQ _).alloc _) hb3.le) hx5)⟩
def aV (n:Int) (s:lB) (l:List Nd) (hll:l.length<=9223372036854775807) (hx : ∀x∈l,BC 192 lk x):BB 146 Nd.stmtT (.mk 51 n s l):=by
 intro B b t w a c d h ht hB hs hd hlen
 have htx:(Nd.mk 51 n s l).stmtT d=Bm 51++s++[40]++CY true l++[41]:=by rw [Nd.stmtT.eq_def];simp
 rw [htx] at hlen ⊢;clear htx;have hle:=h.le;have hlt:=h.lt;simp only [kZ,lp,lj,li,lq,lg,kU] at hs hd ⊢
 have HX:=jC hx;clear hx
 have hbx0:Box w.heap.size #[.int .u8 51,.int .i64 n,str s,.slice a l.length c] 32 (w.alloc (.cells #[.int .u8 51,.int .i64 n,str s,.slice a l.length c] 32)):=Box.new _ _ _;have hxW:Fb B b w (w.alloc (.cells #[.int .u8 51,.int .i64 n,str s,.slice a l.length c] 32)):=Fb.of_ext ((kQ _).alloc _) hle;have hb0:Bld B b t (w.alloc (.cells #[.int .u8 51,.int .i64 n,str s,.slice a l.length c] 32)):=h.alloc _;have ht0:=ht.fb hxW hB;have hs0:=hs.fb hxW
 go_enter func146,ntmps146
 go_wp2_with fail
 refine (Ej _ _ (by omega) (by omega)).mono ?_;rintro e w1 ⟨rfl,rfl⟩;simp only
 go_wp2_with fail
 refine (AR B b (w.heap.size+1) 1 _ [Bm 51] _ (hb0.alloc _) (Box.new' _ _ (by simp)) (by simp) (by simp only [jy,jY,List.flatten_nil,jz,jD,List.length_replicate,Cg,CU] at hlen ⊢;omega)).mono ?_;rintro e u1 ⟨rfl,hb1,hx1⟩;have hxx1:Fb B b (w.alloc (.cells #[.int .u8 51,.int .i64 n,str s,.slice a l.length c] 32)) u1:=Fb.trans (Fb.of_ext ((kQ _).alloc _) hb0.le) hx1;obtain ⟨g0,g1,g2,g3⟩:=(hbx0.fb hxx1 (by omega) (by decide)).node;have ht1:=ht0.fb hxx1 hB;have hs1:=hs0.fb hxx1;simp only
 go_wp2_with fail
 refine (AR B b u1.heap.size 2 _ [s,[40]] _ (hb1.alloc _) (Box.new' _ _ (by simp)) (by simp) (by simp only [jy,jY,List.flatten_nil,jz,jD,List.length_replicate,Cg,CU] at hlen ⊢;omega)).mono ?_;rintro e u2 ⟨rfl,hb2,hx2⟩;have hxx2:Fb B b (w.alloc (.cells #[.int .u8 51,.int .i64 n,str s,.slice a l.length c] 32)) u2:=Fb.trans (Fb.trans hxx1 (Fb.of_ext ((kQ _).alloc _) hb1.le)) hx2;obtain ⟨g0,g1,g2,g3⟩:=(hbx0.fb hxx2 (by omega) (by decide)).node;have ht2:=ht0.fb hxx2 hB;have hs2:=hs0.fb hxx2;clear g0 g1 g2;simp only
 go_wp2_with fail
 simp only [jy,jz,jD] at hlen;clear g3
 go_loopw [76] (fun i wr=> ∃j:Nat,j<=l.length/\i = .int .i64 j/\Bld B b (t++Bm 51++s++[40]++CY true (l.take j)) wr/\Fb B b (w.alloc (.cells #[.int .u8 51,.int .i64 n,str s,.slice a l.length c] 32)) wr) (fun i _=>l.length-(intOf i).toNat)
 case atStart=>exact ⟨0,jN _,rfl,by simpa [CY] using hb2,hxx2⟩
 case round=>
  obtain ⟨j,hj,rfl,hb3,hxx3⟩:=hrel;clear hb1 hx1 hxx1 hb2 hx2 hxx2 ht1 ht2 hs1 hs2
  by_cases hlj:j<l.length
  . have hg:l[j]? = some l[j]:=jB hlj
    have hmem:l[j]∈l:=jH hlj;have hsn:=NJ l j hlj;have hsl:=Sy l (j+1);obtain ⟨kb,ko,xa,xc,rfl,hkB,k0,k1,k2,k3,hxs⟩:=AS (hs0.fb hxx3) hg;have hP:=HX.out l[j] hmem
    have HG:=jC hg;clear hg
    generalize l[j]=x at *
    have HSN:=jC hsn;rw [hsn] at hsl;clear hsn
    have HP:=jC hP;clear hP
    have hb3l:=hb3.le;have hb3t:=hb3.lt
    have hkw:kb<wr.heap.size:=by omega
    have hbx3:Box wr.heap.size #[.int .u8 x.kind,.int .i64 x.num,str x.name,.slice xa x.kids.length xc] 32 (wr.alloc (.cells #[.int .u8 x.kind,.int .i64 x.num,str x.name,.slice xa x.kids.length xc] 32)):=Box.new _ _ _;have hxV:Fb B b wr (wr.alloc (.cells #[.int .u8 x.kind,.int .i64 x.num,str x.name,.slice xa x.kids.length xc] 32)):=Fb.of_ext ((kQ _).alloc _) hb3l
    by_cases hj0:j=0
    . have dj:decide (0<j)=false:=by simp;omega
      have hjz:j<=0:=by omega
      simp only [AH hj0,km,jy] at hsl
      have HJ:=jC hj0;clear hj0
      go_wp2_with fail
      refine (HP.out B b _ _ xa xc (hb3.alloc _) (ht0.fb (hxx3.trans hxV) hB) hB (hxs.fb hxV) (by simp only [jy,jz,jD];omega)).mono ?_;rintro e u5 ⟨rfl,hb5,hx5⟩
      have hb6:Bld B b (t++Bm 51++s++[40]++CY true (l.take (j+1))) u5:=by rw [HSN.out,AH HJ.out];simpa using hb5
      have hxx6:=(hxx3.trans hxV).trans hx5;clear k0 k1 k2 k3 hb3 hb5 hsl;simp only
      go_wp2_with fail
      go_roundw
      case rel=>exact ⟨j+1,by omega,by go_num,hb6,hxx6⟩
      case measure=>simp [intOf];omega
    . have dj:decide ((0:Int)<j)=true:=by simp;omega
      simp only [At hj0,jy,jz,jD] at hsl
      go_wp2_with fail
      refine (AR B b (wr.heap.size+1) 1 _ [[44,32]] _ ((hb3.alloc _).alloc _) (Box.new' _ _ (by simp)) (by simp) (by simp only [jy,jY,List.flatten_nil,jz,jD];omega)).mono ?_;rintro e u4 ⟨rfl,hb4,hx4⟩;have hx4':Fb B b (wr.alloc (.cells #[.int .u8 x.kind,.int .i64 x.num,str x.name,.slice xa x.kids.length xc] 32)) u4:=Fb.trans (Fb.of_ext ((kQ _).alloc _) (hb3.alloc _).le) hx4;obtain ⟨g0,g1,g2,g3⟩:=(hbx3.fb hx4' (by omega) (by decide)).node;clear k0 k1 k2 k3;simp only
      go_wp2_with fail
      refine (HP.out B b _ _ xa xc hb4 (ht0.fb ((hxx3.trans hxV).trans hx4') hB) hB ((hxs.fb hxV).fb hx4') (by simp only [jy,jY,List.flatten_nil,jz,jD];omega)).mono ?_;rintro e u5 ⟨rfl,hb5,hx5⟩
      have hb6:Bld B b (t++Bm 51++s++[40]++CY true (l.take (j+1))) u5:=by rw [HSN.out,At hj0];simpa using hb5
      have hxx6:=((hxx3.trans hxV).trans hx4').trans hx5;clear g0 g1 g2 g3 hb3 hb5 hsl hb4;simp only
      go_wp2_with fail
      go_roundw
      case rel=>exact ⟨j+1,by omega,by go_num,hb6,hxx6⟩
      case measure=>simp [intOf];omega
  . rw [List.take_of_length_le (by omega)] at hb3
    go_wp2_with fail
    refine (AR B b wr.heap.size 1 _ [[41]] _ (hb3.alloc _) (Box.new' _ _ (by simp)) (by simp) (by simp only [jy,jY,List.flatten_nil,jz,jD];omega)).mono ?_;rintro e u5 ⟨rfl,hb5,hx5⟩;simp only
    go_wp2_with fail
    go_end0
    exact ⟨rfl,by simpa using hb5,(hxW.trans hxx3).trans (Fb.trans (Fb.of_ext ((kQ _).alloc _) hb3.le) hx5)⟩
def A1 {t:Nd} (h:t.isPlace=true):t.isExpr=true:=by
 simp only [Nd.isPlace,jA] at h;exact h.2
def Iu {t:Nd} (h:t.isVar=true):t.isExpr=true:=by
 simp only [Nd.isVar,jA] at h;exact h.2
def I9 : ∀l:List Nd,DR l=l.all Nd.isStmt
 | []=>rfl
 | x::r=>by simp [DR,I9 r]
def KK {k n:Int} {s:lB} {l:List Nd} (h:(Nd.mk k n s l).isStmt=true):40<=k/\k<=56:=by
 by_cases f:k<40\/56<k
 . rw [LL k n s l f] at h;simp at h
 . omega
def SA (N:Nat):(∀t:Nd,t.size<N->t.wf->t.isStmt=true->BB 146 Nd.stmtT t)/\(∀t:Nd,t.size<N->t.wf->t.isBlock=true->BB 101 Nd.linesT t):=by
 induction N with
 | zero=>exact ⟨fun t h=>absurd h (Nat.not_lt_zero _),fun t h=>absurd h (Nat.not_lt_zero _)⟩
 | succ N U=>
  refine ⟨?_,?_⟩
  . rintro ⟨k,n,s,l⟩ F L f;have hk:=KK f;simp only [Nd.wf,kU] at L F;obtain ⟨V,X,Y,Z,aa,M,E⟩:=L;by_cases ab:k=40
    . subst ab;rw [Eu Bg] at f;rcases l with _|⟨x,_|⟨y,_|⟨v4,l⟩⟩⟩
      . simp [Au] at f
      . simp [Au] at f
      . simp only [Au,jA,Bool.and_true,and_true] at f;simp only [Ah,Be] at F E;exact aE n s x y (C4 x E.1 (A1 (f.2.1))) (C4 y E.2.1 (f.2.2))
      . simp [Au] at f
    by_cases ac:k=41
    . subst ac;rw [Eu Bg] at f;rcases l with _|⟨x,_|⟨y,_|⟨v4,l⟩⟩⟩
      . simp [Au] at f
      . simp [Au] at f
      . simp only [Au,jA,Bool.and_true,and_true] at f;simp only [Ah,Be] at F E;exact aF n s x y (C4 x E.1 (A1 (f.2.1))) (C4 y E.2.1 (f.2.2))
      . simp [Au] at f
    by_cases ad:k=42
    . subst ad;rw [Eu Bg] at f;rcases l with _|⟨x,_|⟨y,_|⟨v4,l⟩⟩⟩
      . simp [Au] at f
      . simp [Au] at f
      . simp only [Au,jA,Bool.and_true,and_true] at f;simp only [Ah,Be] at F E;exact aG n s x y (C4 x E.1 (A1 (f.2.1))) (C4 y E.2.1 (f.2.2))
      . simp [Au] at f
    by_cases ae:k=43
    . subst ae;rw [La Bg] at f;rcases l with _|⟨x,_|⟨y,_|⟨v4,l⟩⟩⟩
      . simp [Au] at f
      . simp [Au] at f
      . simp only [Au,jA,Bool.and_true,and_true] at f;simp only [Ah,Be] at F E;exact aI n s x y (C4 x E.1 (A1 (f.2.1))) (C4 y E.2.1 (A1 (f.2.2)))
      . simp [Au] at f
    by_cases af:k=44
    . subst af;rw [Hh Bg] at f;rcases l with _|⟨x,_|⟨v4,l⟩⟩
      . simp [Au] at f
      . simp only [Au,jA,Bool.and_true,and_true] at f;simp only [Ah,Be] at F E;exact aJ n s x (C4 x E.1 (A1 (f.2)))
      . simp [Au] at f
    by_cases ag:k=45
    . subst ag;rw [Hh Bg] at f;rcases l with _|⟨x,_|⟨v4,l⟩⟩
      . simp [Au] at f
      . simp only [Au,jA,Bool.and_true,and_true] at f;simp only [Ah,Be] at F E;exact aK n s x (C4 x E.1 (A1 (f.2)))
      . simp [Au] at f
    by_cases c46:k=46
    . subst c46;rw [Ev Bg] at f;rcases l with _|⟨x,_|⟨v4,l⟩⟩
      . simp [Au] at f
      . simp only [Au,jA,Bool.and_true,and_true] at f;simp only [Ah,Be] at F E;exact aL n s x (C4 x E.1 (A1 (f.2)))
      . simp [Au] at f
    by_cases ah:k=47
    . subst ah;rw [Ev Bg] at f;rcases l with _|⟨x,_|⟨v4,l⟩⟩
      . simp [Au] at f
      . simp only [Au,jA,Bool.and_true,and_true] at f;simp only [Ah,Be] at F E;exact aM n s x (C4 x E.1 (A1 (f.2)))
      . simp [Au] at f
    by_cases ai:k=48
    . subst ai;rw [Ev Bg] at f;rcases l with _|⟨x,_|⟨v4,l⟩⟩
      . simp [Au] at f
      . simp only [Au,jA,Bool.and_true,and_true] at f;simp only [Ah,Be] at F E;exact aN n s x (C4 x E.1 (A1 (f.2)))
      . simp [Au] at f
    by_cases aj:k=49
    . subst aj;rw [Ev Bg] at f;rcases l with _|⟨x,_|⟨v4,l⟩⟩
      . simp [Au] at f
      . simp only [Au,jA,Bool.and_true,and_true] at f;simp only [Ah,Be] at F E;exact aO n s x (C4 x E.1 (A1 (f.2)))
      . simp [Au] at f
    by_cases ak:k=50
    . subst ak;rw [Hj Bg] at f;simp only [jA,kG] at f;exact aU n s l M (fun x O=>C4 x (BY E x O) (Iu (f.2 x O)))
    by_cases c51:k=51
    . subst c51;rw [Hj Bg] at f;simp only [jA,kG] at f;exact aV n s l M (fun x O=>C4 x (BY E x O) (Iu (f.2 x O)))
    by_cases al:k=52
    . subst al;rw [Hi Bg] at f;rcases l with _|⟨x,_|⟨y,_|⟨z,_|⟨u,_|⟨v4,l⟩⟩⟩⟩⟩
      . simp [Au] at f
      . simp [Au] at f
      . simp [Au] at f
      . simp [Au] at f
      . simp only [Au,jA,Bool.and_true,and_true] at f;simp only [Ah,Be] at F E;exact aP n s x y z u (C4 x E.1 (f.2.1)) (U.2 y Aa E.2.1 (f.2.2.1)) (U.2 z Aa E.2.2.1 (f.2.2.2.1)) (C4 u E.2.2.2.1 (f.2.2.2.2))
      . simp [Au] at f
    by_cases c53:k=53
    . subst c53;rw [Hi Bg] at f;rcases l with _|⟨x,_|⟨y,_|⟨z,_|⟨u,_|⟨v4,l⟩⟩⟩⟩⟩
      . simp [Au] at f
      . simp [Au] at f
      . simp [Au] at f
      . simp [Au] at f
      . simp only [Au,jA,Bool.and_true,and_true] at f;simp only [Ah,Be] at F E;exact aQ n s x y z u (C4 x E.1 (f.2.1)) (U.2 y Aa E.2.1 (f.2.2.1)) (U.2 z Aa E.2.2.1 (f.2.2.2.1)) (C4 u E.2.2.2.1 (f.2.2.2.2))
      . simp [Au] at f
    by_cases am:k=54
    . subst am;rw [Lb Bg] at f;rcases l with _|⟨x,_|⟨y,_|⟨z,_|⟨v4,l⟩⟩⟩⟩
      . simp [Au] at f
      . simp [Au] at f
      . simp [Au] at f
      . simp only [Au,jA,Bool.and_true,and_true] at f;simp only [Ah,Be] at F E;exact aR n s x y z (C4 x E.1 (f.2.1)) (U.2 y Aa E.2.1 (f.2.2.1)) (C4 z E.2.2.1 (f.2.2.2))
      . simp [Au] at f
    by_cases an:k=55
    . subst an;rw [Lc Bg] at f;rcases l with _|⟨x,_|⟨v4,l⟩⟩
      . simp [Au] at f
      . simp only [Au,jA,Bool.and_true,and_true] at f;simp only [Ah,Be] at F E;exact aS n s x (U.2 x Aa E.1 (f.2))
      . simp [Au] at f
    by_cases ao:k=56
    . subst ao;rw [Eu Bg] at f;rcases l with _|⟨x,_|⟨y,_|⟨v4,l⟩⟩⟩
      . simp [Au] at f
      . simp [Au] at f
      . simp only [Au,jA,Bool.and_true,and_true] at f;simp only [Ah,Be] at F E;exact aH n s x y (C4 x E.1 (A1 (f.2.1))) (C4 y E.2.1 (f.2.2))
      . simp [Au] at f
    omega
  . rintro ⟨k,n,s,l⟩ F L f;simp only [Nd.wf,kU] at L F;obtain ⟨V,X,Y,Z,aa,M,E⟩:=L;simp only [Nd.isBlock,jA,I9,kG] at f;exact aT k n s l M (fun x O=>U.1 x (by have:=EG O;omega) (BY E x O) (f.2 x O))
def iW (t:Nd) (f:t.wf) (h:t.isStmt=true):BB 146 Nd.stmtT t:=(SA (t.size+1)).1 t Aa f h
def U1 (t:Nd) (f:t.wf) (h:t.isBlock=true):BB 101 Nd.linesT t:=(SA (t.size+1)).2 t Aa f h
def Cu (t:Nd) (f:t.wf) (h:t.isExpr=true):t.text.length<=30*t.size:=text_len (t.size+1) t Aa f h
def Wx (k:Int):(Bm k).length<=12:=by
 unfold Bm;by_cases f:k=44
 . rw [AH f];decide
 rw [At f];by_cases h:k=45
 . rw [AH h];decide
 rw [At h];by_cases c46:k=46
 . rw [AH c46];decide
 rw [At c46];by_cases E:k=47
 . rw [AH E];decide
 rw [At E];by_cases F:k=48
 . rw [AH F];decide
 rw [At F];by_cases L:k=49
 . rw [AH L];decide
 rw [At L];by_cases M:k=50
 . rw [AH M];decide
 rw [At M];by_cases c51:k=51
 . rw [AH c51];decide
 rw [At c51];by_cases N:k=52
 . rw [AH N];decide
 rw [At N];by_cases c53:k=53
 . rw [AH c53];decide
 rw [At c53];by_cases O:k=54
 . rw [AH O];decide
 rw [At O];by_cases U:k=55
 . rw [AH U];decide
 rw [At U];decide
def SB (k:Int):(Cl k).length<=3:=by
 unfold Cl;split
 . decide
 . split
   . decide
   . have:=NG k;omega
def Lo : ∀(l:List Nd) (q:Bool),Be l->(∀x∈l,x.isExpr=true)->(CY q l).length<=32*Ah l
 | [],_,_,_=>by simp [CY,Ah]
 | x::r,q,f,h=>by
  simp only [Be] at f;have h1:=Cu x f.1 (h x Bg);have F:=Lo r false f.2 (fun y E=>h y (by simp [E]));have L:=x.size_pos;simp only [CY,Ah,jy];split<;>simp<;>omega
def KL (d:Nat) : ∀l:List Nd,(∀x∈l,(x.stmtT d).length+d+2<=4000100*x.size)->(BW l d).length<=4000100*Ah l
 | [],_=>by simp [BW,Ah]
 | x::r,h=>by
  have h1:=h x Bg;have E:=KL d r (fun y f=>h y (by simp [f]));simp only [BW,Ah,CU,jy,List.length_replicate,jz,jD];omega
def Yu (N:Nat):(∀(t:Nd) (d:Nat),t.size<N->t.wf->t.isStmt=true->d+t.size<=1000000->(t.stmtT d).length+d+2<=4000100*t.size)/\(∀(t:Nd) (d:Nat),t.size<N->t.wf->t.isBlock=true->d+t.size<=1000000->(t.linesT d).length+4000100<=4000100*t.size):=by
 induction N with
 | zero=>exact ⟨fun t _ h=>absurd h (Nat.not_lt_zero _),fun t _ h=>absurd h (Nat.not_lt_zero _)⟩
 | succ N Y=>
  refine ⟨?_,?_⟩
  . rintro ⟨k,n,s,l⟩ d F U f L;have hk:=KK f;have ay:=Wx k;have az:=SB k;simp only [Nd.wf,kU] at U F L ⊢;obtain ⟨ab,ac,ad,ae,af,ag,E⟩:=U;by_cases ah:k=40
    . subst ah;rw [Eu Bg] at f;rcases l with _|⟨x,_|⟨y,_|⟨v4,l⟩⟩⟩
      . simp [Au] at f
      . simp [Au] at f
      . simp only [Au,jA,Bool.and_true,and_true] at f;simp only [Ah,Be] at F E L ⊢;have M:=x.size_pos;have O:=Cu x E.1 (A1 (f.2.1));have Z:=y.size_pos;have ly:=Cu y E.2.1 (f.2.2);rw [Nd.stmtT.eq_def];simp only [CU];simp [-jy];simp only [jy,jz,jD,List.length_replicate];omega
      . simp [Au] at f
    by_cases ai:k=41
    . subst ai;rw [Eu Bg] at f;rcases l with _|⟨x,_|⟨y,_|⟨v4,l⟩⟩⟩
      . simp [Au] at f
      . simp [Au] at f
      . simp only [Au,jA,Bool.and_true,and_true] at f;simp only [Ah,Be] at F E L ⊢;have M:=x.size_pos;have O:=Cu x E.1 (A1 (f.2.1));have Z:=y.size_pos;have ly:=Cu y E.2.1 (f.2.2);rw [Nd.stmtT.eq_def];simp only [CU];simp [-jy];simp only [jy,jz,jD,List.length_replicate];omega
      . simp [Au] at f
    by_cases aj:k=42
    . subst aj;rw [Eu Bg] at f;rcases l with _|⟨x,_|⟨y,_|⟨v4,l⟩⟩⟩
      . simp [Au] at f
      . simp [Au] at f
      . simp only [Au,jA,Bool.and_true,and_true] at f;simp only [Ah,Be] at F E L ⊢;have M:=x.size_pos;have O:=Cu x E.1 (A1 (f.2.1));have Z:=y.size_pos;have ly:=Cu y E.2.1 (f.2.2);rw [Nd.stmtT.eq_def];simp only [CU];simp [-jy];simp only [jy,jz,jD,List.length_replicate];omega
      . simp [Au] at f
    by_cases ak:k=43
    . subst ak;rw [La Bg] at f;rcases l with _|⟨x,_|⟨y,_|⟨v4,l⟩⟩⟩
      . simp [Au] at f
      . simp [Au] at f
      . simp only [Au,jA,Bool.and_true,and_true] at f;simp only [Ah,Be] at F E L ⊢;have M:=x.size_pos;have O:=Cu x E.1 (A1 (f.2.1));have Z:=y.size_pos;have ly:=Cu y E.2.1 (A1 (f.2.2));rw [Nd.stmtT.eq_def];simp only [CU];simp [-jy];simp only [jy,jz,jD,List.length_replicate];omega
      . simp [Au] at f
    by_cases al:k=44
    . subst al;rw [Hh Bg] at f;rcases l with _|⟨x,_|⟨v4,l⟩⟩
      . simp [Au] at f
      . simp only [Au,jA,Bool.and_true,and_true] at f;simp only [Ah,Be] at F E L ⊢;have M:=x.size_pos;have O:=Cu x E.1 (A1 (f.2));simp only [named,jA] at f;have V:=De f.1.2;rw [Nd.stmtT.eq_def];simp only [CU];simp [-jy];simp only [jy,jz,jD,List.length_replicate];omega
      . simp [Au] at f
    by_cases am:k=45
    . subst am;rw [Hh Bg] at f;rcases l with _|⟨x,_|⟨v4,l⟩⟩
      . simp [Au] at f
      . simp only [Au,jA,Bool.and_true,and_true] at f;simp only [Ah,Be] at F E L ⊢;have M:=x.size_pos;have O:=Cu x E.1 (A1 (f.2));simp only [named,jA] at f;have V:=De f.1.2;rw [Nd.stmtT.eq_def];simp only [CU];simp [-jy];simp only [jy,jz,jD,List.length_replicate];omega
      . simp [Au] at f
    by_cases c46:k=46
    . subst c46;rw [Ev Bg] at f;rcases l with _|⟨x,_|⟨v4,l⟩⟩
      . simp [Au] at f
      . simp only [Au,jA,Bool.and_true,and_true] at f;simp only [Ah,Be] at F E L ⊢;have M:=x.size_pos;have O:=Cu x E.1 (A1 (f.2));rw [Nd.stmtT.eq_def];simp only [CU];simp [-jy];simp only [jy,jz,jD,List.length_replicate];omega
      . simp [Au] at f
    by_cases an:k=47
    . subst an;rw [Ev Bg] at f;rcases l with _|⟨x,_|⟨v4,l⟩⟩
      . simp [Au] at f
      . simp only [Au,jA,Bool.and_true,and_true] at f;simp only [Ah,Be] at F E L ⊢;have M:=x.size_pos;have O:=Cu x E.1 (A1 (f.2));rw [Nd.stmtT.eq_def];simp only [CU];simp [-jy];simp only [jy,jz,jD,List.length_replicate];omega
      . simp [Au] at f
    by_cases ao:k=48
    . subst ao;rw [Ev Bg] at f;rcases l with _|⟨x,_|⟨v4,l⟩⟩
      . simp [Au] at f
      . simp only [Au,jA,Bool.and_true,and_true] at f;simp only [Ah,Be] at F E L ⊢;have M:=x.size_pos;have O:=Cu x E.1 (A1 (f.2));rw [Nd.stmtT.eq_def];simp only [CU];simp [-jy];simp only [jy,jz,jD,List.length_replicate];omega
      . simp [Au] at f
    by_cases ap:k=49
    . subst ap;rw [Ev Bg] at f;rcases l with _|⟨x,_|⟨v4,l⟩⟩
      . simp [Au] at f
      . simp only [Au,jA,Bool.and_true,and_true] at f;simp only [Ah,Be] at F E L ⊢;have M:=x.size_pos;have O:=Cu x E.1 (A1 (f.2));rw [Nd.stmtT.eq_def];simp only [CU];simp [-jy];simp only [jy,jz,jD,List.length_replicate];omega
      . simp [Au] at f
    by_cases aq:k=50
    . subst aq;rw [Hj Bg] at f;simp only [jA,kG,named] at f;have V:=De f.1.1.2;have ar:=Lo l true E (fun x X=>Iu (f.2 x X));have aa:(Nd.mk 50 n s l).stmtT d=Bm 50++s++[40]++CY true l++[41]:=by rw [Nd.stmtT.eq_def];simp
      rw [aa];simp only [jy,jz,jD];omega
    by_cases c51:k=51
    . subst c51;rw [Hj Bg] at f;simp only [jA,kG,named] at f;have V:=De f.1.1.2;have ar:=Lo l true E (fun x X=>Iu (f.2 x X));have aa:(Nd.mk 51 n s l).stmtT d=Bm 51++s++[40]++CY true l++[41]:=by rw [Nd.stmtT.eq_def];simp
      rw [aa];simp only [jy,jz,jD];omega
    by_cases au:k=52
    . subst au;rw [Hi Bg] at f;rcases l with _|⟨x,_|⟨y,_|⟨z,_|⟨u,_|⟨v4,l⟩⟩⟩⟩⟩
      . simp [Au] at f
      . simp [Au] at f
      . simp [Au] at f
      . simp [Au] at f
      . simp only [Au,jA,Bool.and_true,and_true] at f;simp only [Ah,Be] at F E L ⊢;have M:=x.size_pos;have O:=Cu x E.1 (f.2.1);have Z:=y.size_pos;have ly:=Y.2 y (d+1) Aa E.2.1 (f.2.2.1) Aa;have zz:=z.size_pos;have lz:=Y.2 z (d+1) Aa E.2.2.1 (f.2.2.2.1) Aa;have zu:=u.size_pos;have lu:=Cu u E.2.2.2.1 (f.2.2.2.2);rw [Nd.stmtT.eq_def];simp only [CU];simp [-jy];simp only [jy,jz,jD,List.length_replicate];omega
      . simp [Au] at f
    by_cases c53:k=53
    . subst c53;rw [Hi Bg] at f;rcases l with _|⟨x,_|⟨y,_|⟨z,_|⟨u,_|⟨v4,l⟩⟩⟩⟩⟩
      . simp [Au] at f
      . simp [Au] at f
      . simp [Au] at f
      . simp [Au] at f
      . simp only [Au,jA,Bool.and_true,and_true] at f;simp only [Ah,Be] at F E L ⊢;have M:=x.size_pos;have O:=Cu x E.1 (f.2.1);have Z:=y.size_pos;have ly:=Y.2 y (d+1) Aa E.2.1 (f.2.2.1) Aa;have zz:=z.size_pos;have lz:=Y.2 z (d+1) Aa E.2.2.1 (f.2.2.2.1) Aa;have zu:=u.size_pos;have lu:=Cu u E.2.2.2.1 (f.2.2.2.2);rw [Nd.stmtT.eq_def];simp only [CU];simp [-jy];simp only [jy,jz,jD,List.length_replicate];omega
      . simp [Au] at f
    by_cases av:k=54
    . subst av;rw [Lb Bg] at f;rcases l with _|⟨x,_|⟨y,_|⟨z,_|⟨v4,l⟩⟩⟩⟩
      . simp [Au] at f
      . simp [Au] at f
      . simp [Au] at f
      . simp only [Au,jA,Bool.and_true,and_true] at f;simp only [Ah,Be] at F E L ⊢;have M:=x.size_pos;have O:=Cu x E.1 (f.2.1);have Z:=y.size_pos;have ly:=Y.2 y (d+1) Aa E.2.1 (f.2.2.1) Aa;have zz:=z.size_pos;have lz:=Cu z E.2.2.1 (f.2.2.2);simp only [named,jA] at f;have V:=De f.1.2;rw [Nd.stmtT.eq_def];simp only [CU];simp [-jy];simp only [jy,jz,jD,List.length_replicate];omega
      . simp [Au] at f
    by_cases aw:k=55
    . subst aw;rw [Lc Bg] at f;rcases l with _|⟨x,_|⟨v4,l⟩⟩
      . simp [Au] at f
      . simp only [Au,jA,Bool.and_true,and_true] at f;simp only [Ah,Be] at F E L ⊢;have M:=x.size_pos;have O:=Y.2 x (d+1) Aa E.1 (f.2) Aa;simp only [named,jA] at f;have V:=De f.1.2;rw [Nd.stmtT.eq_def];simp only [CU];simp [-jy];simp only [jy,jz,jD,List.length_replicate];omega
      . simp [Au] at f
    by_cases ax:k=56
    . subst ax;rw [Eu Bg] at f;rcases l with _|⟨x,_|⟨y,_|⟨v4,l⟩⟩⟩
      . simp [Au] at f
      . simp [Au] at f
      . simp only [Au,jA,Bool.and_true,and_true] at f;simp only [Ah,Be] at F E L ⊢;have M:=x.size_pos;have O:=Cu x E.1 (A1 (f.2.1));have Z:=y.size_pos;have ly:=Cu y E.2.1 (f.2.2);rw [Nd.stmtT.eq_def];simp only [CU];simp [-jy];simp only [jy,jz,jD,List.length_replicate];omega
      . simp [Au] at f
    omega
  . rintro ⟨k,n,s,l⟩ d F U f L;simp only [Nd.wf,kU] at U F L ⊢;obtain ⟨ab,ac,ad,ae,af,ag,E⟩:=U;simp only [Nd.isBlock,jA,I9,kG] at f;have:=KL d l (fun x X=>Y.1 x d (by have:=EG X;omega) (BY E x X) (f.2 x X) (by have:=EG X;omega));simp only [Nd.linesT];omega
def Yv (t:Nd) (d:Nat) (f:t.wf) (h:t.isBlock=true) (E:d+t.size<=1000000):(t.linesT d).length+4000100<=4000100*t.size:=(Yu (t.size+1)).2 t d Aa f h E
def JY {α:Type} (f:α->lB) (l:List α):lB:=(l.map f).flatten
def SC {α:Type} (f:α->lB) (l:List α) (j:Nat) (h:j<l.length):JY f (l.take (j+1))=JY f (l.take j)++f l[j]:=by
 unfold JY;rw [jK h];simp only [List.map_append,List.flatten_append,kN,List.map_nil,jY,List.flatten_nil,kB]
def QM {α:Type} (f:α->lB) (l:List α) (j:Nat):(JY f (l.take j)).length<=(JY f l).length:=by
 have e:JY f l=JY f (l.take j)++JY f (l.drop j):=by unfold JY;rw [<-List.flatten_append,<-List.map_append,kA]
 rw [e,jy];omega
def CV {α:Type} (f:α->lB):Bool->List α->lB
 | _,[]=>[]
 | q,x::r=>(if q then [] else [44,32])++f x++CV f false r
def JS {α:Type} (f:α->lB) : ∀(l m:List α) (q:Bool),CV f q (l++m)=CV f q l++CV f (q&&l.isEmpty) m
 | [],m,q=>by simp [CV]
 | x::r,m,q=>by simp [CV,JS f r m false]
def SD {α:Type} (f:α->lB) (l:List α) (j:Nat) (h:j<l.length):CV f true (l.take (j+1))=CV f true (l.take j)++((if j=0 then [] else [44,32])++f l[j]):=by
 rw [jK h,JS];congr 1;cases j with
 | zero=>simp [CV]
 | succ j=>cases l with
  | nil=>simp at h
  | cons x r=>simp [CV]
def Pm {α:Type} (f:α->lB) (l:List α) (j:Nat):(CV f true (l.take j)).length<=(CV f true l).length:=by
 have e:CV f true l=CV f true (l.take j)++CV f (true&&(l.take j).isEmpty) (l.drop j):=by rw [<-JS,kA]
 rw [e,jy];omega
def VD.text (v:VD):lB:=if v.kind=1 then [105,110,116,32]++v.name else if v.kind=2 then [97,114,114,97,121,32]++v.name++[91]++Lib.itoa v.len++[93] else [115,116,97,99,107,32]++v.name
def VD.line (v:VD):lB:=v.text++[10]
def PD.text (p:PD):lB:=[112,114,111,99,32]++p.name++[40]++CV VD.text true p.params++[41,32,123,10]++p.body.linesT 1++[125,10]
def PG.text (g:PG):lB:=JY VD.line g.vars++JY PD.text g.procs++[109,97,105,110,32,123,10]++g.main.linesT 1++[125,10]
def T2 (n:Int) (f:1<=n) (h1:n<=16):(Lib.itoa n).length<=21:=Lib.itoa_length_le n Aa Aa
def VD.text_len (v:VD) (h:v.ok=true):v.text.length<=60:=by
 simp only [VD.ok,jA] at h;have h1:=De h.1;have f:=h.2;unfold VD.text;split
 . simp only [jy,jz,jD];omega
 . split
   . rename_i E c2;rw [At Aa,AH c2] at f;simp only [jA,decide_eq_true_eq] at f;have:=T2 v.len f.1 f.2;simp only [jy,jz,jD];omega
   . simp only [jy,jz,jD];omega
def QN {α:Type} (f:α->lB) (B:Nat) : ∀(l:List α),(∀x∈l,(f x).length<=B)->(JY f l).length<=l.length*B
 | [],_=>by simp [JY]
 | x::r,h=>by
  have h1:=h x List.mem_cons_self;have F:=QN f B r (fun y E=>h y (kH _ E));have e:JY f (x::r)=f x++JY f r:=by simp [JY]
  rw [e,jy,jz,Nat.add_mul,Nat.one_mul];omega
def NK {α:Type} (f:α->lB) (B:Nat) : ∀(l:List α) (q:Bool),(∀x∈l,(f x).length<=B)->(CV f q l).length<=l.length*(B+2)
 | [],q,_=>by simp [CV]
 | x::r,q,h=>by
  have h1:=h x List.mem_cons_self;have F:=NK f B r false (fun y E=>h y (kH _ E));simp only [CV,jy,jz,Nat.add_mul,Nat.one_mul];split<;>simp<;>omega
mutual
def NL : ∀(t:Nd) (d m:Int),0<=m->(t.lim d m).1=true->(t.size:Int)+(t.lim d m).2<=m
 | .mk _ _ s l,d,m,hm,h=>by
  simp only [Nd.lim] at h ⊢;split at h
  . simp at h
  . rename_i hn;rw [At hn];have:=L5 l (d-1) (m-1) Aa h;simp only [kU];omega
def L5 : ∀(l:List Nd) (d m:Int),0<=m->(Ct l d m).1=true->(Ah l:Int)+(Ct l d m).2<=m
 | [],d,m,hm,_=>by simp only [Ct,Ah];omega
 | t::r,d,m,hm,h=>by
  simp only [Ct] at h ⊢;split at h
  . rename_i ht;rw [AH ht];have h1:=NL t d m hm ht;have h0:=JP t d m hm;have h2:=L5 r d (t.lim d m).2 h0.1 h;simp only [Ah];omega
  . simp at h
end
def KM (t:Nd) (f:t.wf) (h:D7 t=true):t.size<=2000/\t.isBlock=true/\(t.linesT 1).length<=8001000000:=by
 simp only [D7,jA] at h;have h1:=NL t 80 2000 Aa h.1;have F:=JP t 80 2000 Aa;have E:t.size<=2000:=by omega
 have:=Yv t 1 f h.2 Aa;exact ⟨E,h.2,Aa⟩
def PD.text_len (p:PD) (f:p.wf) (h:p.ok=true):p.text.length<=8002000000:=by
 simp only [PD.ok,jA,decide_eq_true_eq] at h;have h1:=De h.1.1.1;have L:=KM p.body f.body h.2;have M:=NK VD.text 60 p.params true (fun v E=>VD.text_len v (by have:=h.1.2;unfold Dd at this;exact kG.1 this v E));have F:=h.1.1.2;unfold PD.text;simp only [jy,jz,jD];have:p.params.length*62<=8*62:=Nat.mul_le_mul_right _ F;omega
def PG.text_len (g:PG) (f:g.wf) (h:g.ok=true):g.text.length<=1000000000000:=by
 simp only [PG.ok,jA,decide_eq_true_eq] at h;obtain ⟨⟨⟨⟨h1,L⟩,E⟩,M⟩,N⟩:=h;have U:=QN VD.line 61 g.vars (fun v O=>by
  have:=VD.text_len v (by unfold Dd at E;exact kG.1 E v O);simp only [VD.line,jy,jz,jD];omega)
 have a2:=QN PD.text 8002000000 g.procs (fun p F=>PD.text_len p (f.procs p F) (kG.1 M p F));have a3:=KM g.main f.main N;have V:g.vars.length*61<=32*61:=Nat.mul_le_mul_right _ h1;have X:g.procs.length*8002000000<=64*8002000000:=Nat.mul_le_mul_right _ L;unfold PG.text;simp only [jy,jz,jD];omega
def Row.below {B:Nat} {w w':wD} {p:Addr} {vs:lV} (h:Row w p vs) (x:Below B w w') (f:p.block<B):Row w' p vs:=fun i v E=>by
 rw [Below.cell x (by rw [OA];exact f)];exact h i v E
def VDs.below {B:Nat} {w w':wD} {l:List VD} {a:oA} (h:VDs (· < B) w l a) (x:Below B w w'):VDs (· < B) w' l a:=h.mono aFh (fun _ _ _ _ f h=>Row.below h x f)
def sits.below {B:Nat} {w w':wD} {t:Nd} {a:oA} (h:t.sits (· < B) w a) (x:Below B w w'):t.sits (· < B) w' a:=
 Nd.sits_mono aFh (fun b o _ f E=>(Below.cell (p:=⟨b,o,none⟩) x f).trans E) t a h
def PDs.below {B:Nat} {w w':wD} {l:List PD} {a:oA} (h:PDs (· < B) w l a) (x:Below B w w'):PDs (· < B) w' l a:=
 h.mono aFh (fun _ _ _ _ f ⟨E,pc,ba,bc,h1,h2,h3⟩=>⟨E,pc,ba,bc,Row.below h1 x f,h2.below x,sits.below h3 x⟩)
def VDs.lt {S:nP} {w:wD} {l:List VD} {a:oA} (h:VDs S w l a):VDs (· < w.heap.size) w l a:=by
 rcases h with h|⟨b,o,h1,E,f⟩
 . exact jF h
 . cases l with
   | nil=>exact jF rfl
   | cons v r=>exact jG ⟨b,o,h1,CL (Row.at0 (f 0 v rfl) rfl),f⟩
def PDs.lt {S:nP} {w:wD} {l:List PD} {a:oA} (h:PDs S w l a):PDs (· < w.heap.size) w l a:=by
 rcases h with h|⟨b,o,h1,X,E⟩
 . exact jF h
 . cases l with
   | nil=>exact jF rfl
   | cons v r=>
    obtain ⟨F,L,M,N,f,-,-⟩:=E 0 v rfl;refine jG ⟨b,o,h1,CL (Row.at0 f rfl),fun i x O=>?_⟩;obtain ⟨F,L,M,N,f,U,V⟩:=E i x O;exact ⟨F,L,M,N,f,U.lt,Mu _ _ V⟩
def PG.sits.lt {S:nP} {w:wD} {g:PG} {f E F:oA} (h:g.sits S w f E F):g.sits (· < w.heap.size) w f E F:=⟨h.vars.lt,h.procs.lt,Mu _ _ h.main⟩
def TB.fb {w w':wD} {k B b:Nat} {vs:lV} {T:TypeId} (h:TB w k vs T) (x:Fb B b w w') (f:k≠b) (E:T≠5):TB w' k vs T:=
 (Box.fb (cs:=vs.toArray) ⟨h⟩ x f E).heap
def Bld.ofTB {w:wD} {B b:Nat} (h:TB w b [.pointer none,.slice none 0 0] 113) (f:B<=b):Bld B b [] w:=
 ⟨.inl ⟨f,.slice none 0 0,h,⟨rfl,.inl ⟨rfl,rfl⟩⟩,by simp [kC]⟩,by have:=h.blk.lt;omega⟩
def T3 (v:VD) (X:v.ok=true) (B b:Nat) (l:lB) (w:wD) (h:Bld B b l w) (ht:Tabs w) (hg:prog.globals.size<=B) (f:l.length+v.text.length<=140737488355328) :
 Calls prog 57 #[.pointer (some ⟨b,0,none⟩),v.val] w fun e w'=>e = .returned (.tuple #[])/\Bld B b (l++v.text) w'/\Fb B b w w':=by
 have M:=h.le;simp only [VD.ok,jA] at X;have Y:=X.2;refine Ad func57 ntmps57 rfl rfl ?_;refine eK ?_;refine Ut rfl rfl rfl ?_;intro b1 w1 N t1;have h1:=N.blk;have Z:=N.ext;have O:=h.ext Z;by_cases c1:v.kind=1
 . have E:v.text=[105,110,116,32]++v.name:=by simp [VD.text,c1]
   rw [E] at f ⊢;refine eK ?_;refine AB (Da Ac Dj rfl rfl rfl rfl rfl rfl rfl rfl) rfl ?_ aFh;rintro _ w2 ⟨b2,rfl,F,U⟩;refine cC rfl (AR B b b2 2 l [[105,110,116,32],v.name] _ (O.ext F.ext) ⟨U⟩ Bg (by simpa using f)) ?_;rintro _ w3 ⟨⟨⟩,V,f3⟩;refine Ai (Ae ?_);exact Cn rfl ⟨rfl,by simpa using V,(Fb.of_ext (Z.trans F.ext) M).trans f3⟩
 by_cases c3:v.kind=3
 . have E:v.text=[115,116,97,99,107,32]++v.name:=by simp [VD.text,c3]
   rw [E] at f ⊢;refine eK ?_;refine AB (Da Ac Dj rfl rfl rfl rfl rfl rfl rfl rfl) rfl ?_ aFh;rintro _ w2 ⟨b2,rfl,F,U⟩;refine cC rfl (AR B b b2 2 l [[115,116,97,99,107,32],v.name] _ (O.ext F.ext) ⟨U⟩ Bg (by simpa using f)) ?_;rintro _ w3 ⟨⟨⟩,V,f3⟩;refine Ai (Ae ?_);exact Cn rfl ⟨rfl,by simpa using V,(Fb.of_ext (Z.trans F.ext) M).trans f3⟩
 by_cases c2:v.kind=2
 . have E:v.text=[97,114,114,97,121,32]++v.name++[91]++Lib.itoa v.len++[93]:=by simp [VD.text,c2]
   rw [E] at f ⊢;rw [At Aa,AH c2] at Y;simp only [jA,decide_eq_true_eq] at Y;obtain ⟨ad,ae⟩:=Y;refine Ai (Ag (Al (Ak (C1 Pf (C1 KZ (Ai (Ag (Av (Al (Ak (C1 V1 ?_)))))))))));refine C1 Pa (Ai (Ag (Tf (Al (Ak (C1 V1 (C1 Pa (Ai (Ag (Tf (Al ?_)))))))))));refine Ak (C1 V1 (C1 Pa (Ai (Ag (Tg ?_)))));refine Zg (fun w'=>Blk w' b1 v.cells) (.pure 0 (.pure 1 (.pure 2 (.pure 3 (.pure 4 (.fork 5 (.fork 6 (.fork 7 .done .none) .none) .none)))))) mixed Bx (by refine Aj ?_;exact Am) ?_;intro w2 x2 _;refine ⟨h1.ext x2,?_⟩;refine JZ rfl (by exact AX rfl) rfl (JZ rfl (by exact DE Ac rfl rfl rfl) rfl ?_);refine JZ rfl (by exact Ay Ac rfl rfl rfl (by exact fun wz hz=>by (try subst hz);exact (Blk.cell Af (by rfl)))) rfl ?_;refine JZ rfl (by exact AG Ac rfl rfl rfl) rfl ?_;refine JZ rfl (by exact Ay Ac rfl rfl rfl (by exact fun wz hz=>by (try subst hz);exact (Blk.cell Af (by rfl)))) rfl ?_;refine P3 rfl (BF Bx rfl (Yr v.len Aa Aa _ (ht.ext (Z.trans x2) Aa)) (fun _ _ h=>⟨_,h.1⟩)) rfl ?_ aFh P2;rintro _ w3 ⟨⟨⟩,x3⟩;refine ⟨(h1.ext x2).ext x3,?_⟩;refine P3 rfl (Da Ac Dj rfl rfl rfl rfl rfl rfl rfl rfl) rfl ?_ aFh P2;rintro _ w4 ⟨b4,rfl,aa,ab⟩;have L:Ext w1 w4:=(x2.trans x3).trans aa.ext;refine ⟨h1.ext L,?_⟩;refine P3 rfl (BF Bx rfl (AR B b b4 5 l [[97,114,114,97,121,32],v.name,[91],Lib.itoa v.len,[93]] _ (O.ext L) ⟨ab⟩ Bg (by simpa [Nat.add_assoc] using f)) (fun _ _ h=>⟨_,h.1⟩)) rfl ?_ aFh P2;rintro _ w5 ⟨⟨⟩,ac,f5⟩;refine ⟨(TB.fb (t1.ext L) f5 (by have:=N.pos;have:=h.lt;omega) Ao).blk,?_⟩;refine Zh (Ae ?_)
   exact Cn rfl ⟨rfl,by simpa using ac,(Fb.of_ext (Z.trans L) M).trans f5⟩
 . rw [At Aa,At c2] at Y;cases Y
def Po (g:PG) (S:nP) (va:oA) (vc:Nat) (pa:oA) (pc:Nat) (ma:oA) (mc:Nat) (w:wD) (U:g.wf) (ht:Tabs w) (hg:prog.globals.size<=w.heap.size) (hs:g.sits S w va pa ma) :
 Calls prog 30 #[.agg (g.cells va vc pa pc ma mc).toArray] w fun e w'=>e = .returned (.tuple #[str (if g.ok then g.text else []),.int .i64 (if g.ok then 0 else 3)])/\Ext w w':=by
 have cm:=U.nv;have cn:=U.np;refine Ad func30 ntmps30 rfl rfl ?_;refine eK ?_;refine Ut rfl rfl rfl ?_;intro b1 w1 am t1;have h1:=am.blk;have x1:=am.ext;refine C1 Pa (C1 Pa (Ai (Ag (Al (Al (Ak ?_))))));refine CB (by exact BQ Ac rfl rfl rfl (by exact fun wz hz=>by (try subst hz);exact (lf Af)) (by rfl)) rfl ?_;refine cC rfl (UW g S va vc pa pc ma mc _ U (hs.ext x1)) ?_;rintro _ w2 ⟨⟨⟩,x2⟩;cases hok:g.ok
 . try rw [hok]
   refine C1 Pt (Ai (Ag (FO rfl (by rfl) ?_)));refine eK ?_;refine CZ results30 rfl rfl ?_;exact ⟨rfl,x1.trans x2⟩
 try rw [hok]
 have a9:=PG.text_len g U hok;have HK:=jC hok;simp only [PG.ok,jA,decide_eq_true_eq] at hok;obtain ⟨⟨⟨⟨o1,o2⟩,o3⟩,o4⟩,o5⟩:=hok;obtain ⟨m1,m2,m3⟩:=KM g.main U.main o5;have O3:=jC o3;clear o3;have O4:=jC o4;clear o4;simp only [PG.text,jy,jz,jD] at a9;have ax:=hs.lt;have ay:Ext w w2:=x1.trans x2;refine C1 Pt (Ai (Ag (F1 rfl (by rfl) ?_)));refine eK ?_;refine G9 Dj rfl rfl ?_;intro f w3 ac t3;have bs:Bld w.heap.size f [] w3:=Bld.ofTB t3 (by have:=ac.pos;have:=ay.size;omega);have bt:Ext w w3:=ay.trans ac.ext;have bb:=(t1.ext x2).ext ac.ext;have az:b1≠f:=by have:=ac.pos;have:=(t1.ext x2).blk.lt;omega
 have co:=am.pos;have cp:=ac.pos;have cl:=ay.size;have cq:=bb.blk;generalize hB:w.heap.size=B at *;have HB:=jC hB;clear hB;have bu:Below B w w3:=HB.out▸bt;have bv:=Fb.refl B f w3;clear am ac t1 h1;refine eK ?_;refine AK (ι:=Nat) (fun j=>[(17,.int .i64 j),(16,.int .i64 g.vars.length),(15,.slice va g.vars.length vc),(4,.pointer (some ⟨f,0,none⟩)),(1,.pointer (some ⟨b1,0,none⟩))]) (fun j w'=>Fb B f w3 w'/\Bld B f (JY VD.line (g.vars.take j)) w'/\j<=g.vars.length) (fun j=>g.vars.length-j) 0 sB ⟨bv,bs,Aa⟩ ?_;rintro j w4 ⟨f4,ae,hj⟩;have t4:=bb.fb f4 az Ao;have h4:=t4.blk;have y4:Below B w w4:=bu.trans f4.below;have bd:=QM VD.line g.vars j;by_cases a0:j<g.vars.length
 . obtain ⟨kb,ko,rfl,-,L⟩:=Arr.get (ax.vars.below y4) Aa;have rx:Row w4 ⟨kb,ko+j*3,none⟩ g.vars[j].cells:=L j g.vars[j] (jB a0);have an:g.vars[j].ok=true:=by have:=O3.out;unfold Dd at this;exact kG.1 this _ (jH a0)
   have M:=SC VD.line g.vars j a0;have af:=QM VD.line g.vars (j+1);rw [M] at af;simp only [VD.line,jy,jz,jD] at af M bd;have HC:=jC M;clear M L;generalize g.vars[j]=v at *;refine eK ?_;refine G8 Dj rfl rfl ?_;intro b5 w5 ag;refine Jf Ac rfl rfl rfl rfl rfl rfl (ag) rfl ?_;clear ag w5;intro w5 ag;have h5:=ag.blk;have x5:=ag.ext;refine Ai (Ag (Al (Ak ?_)));refine CB (by exact BQ Ac rfl rfl rfl (by exact fun wz hz=>by (try subst hz);exact (lf Af)) (by rfl)) rfl ?_;refine cC rfl (T3 v an B f _ _ (ae.ext x5) (ht.below (y4.trans (Below.mono x5 ae.le)) Aa) Aa (by simp only at *;omega)) ?_;rintro _ w6 ⟨⟨⟩,be,f6⟩;refine eK ?_;refine AB (Da Ac Dj rfl rfl rfl rfl rfl rfl rfl rfl) rfl ?_ aFh;rintro _ w7 ⟨b7,rfl,V,ao⟩;refine cC rfl (AR B f b7 1 _ [[10]] _ (be.ext V.ext) ⟨ao⟩ Bg (by simp only [jY,List.flatten_nil,jy,jz,jD] at *;omega)) ?_;rintro _ w8 ⟨⟨⟩,N,f8⟩;refine Ai (Ae (Ag (Ak (C1 V7 (C1 Mv (Ai ?_))))));refine Ax (j+1) sB ⟨(f4.trans (Fb.of_ext x5 ae.le)).trans (f6.trans ((Fb.of_ext V.ext be.le).trans f8)),?_,Aa⟩ Aa;rw [HC.out];simpa using N
 obtain rfl:j=g.vars.length:=by omega
 simp only [jQ] at bd ae;clear hj;refine Al (Ak (C1 V3 (Ai (Ag (Al (II (DN (AP (AP (Bt (Ag ?_)))))))))));refine Al (Al (Ak (C1 Pf (C1 KZ (C1 Pz (C1 Mv (Ai (Ag (Av ?_)))))))));have bw:=Fb.refl B f w4;have bx:=t4;refine AK (ι:=Nat) (fun j=>[(29,.int .i64 j),(28,.int .i64 g.procs.length),(27,.slice pa g.procs.length pc),(4,.pointer (some ⟨f,0,none⟩)),(1,.pointer (some ⟨b1,0,none⟩))]) (fun j w'=>Fb B f w4 w'/\Bld B f (JY VD.line g.vars++JY PD.text (g.procs.take j)) w'/\j<=g.procs.length) (fun j=>g.procs.length-j) 0 sB ⟨bw,by simpa [JY] using ae,Aa⟩ ?_;rintro j w5 ⟨f5,X,hj⟩;have t5:=bx.fb f5 az Ao;have h5:=t5.blk;have y5:Below B w w5:=y4.trans f5.below;have bz:=QM PD.text g.procs j;by_cases Z:j<g.procs.length
 . obtain ⟨kb,ko,rfl,-,L⟩:=Arr.get (ax.procs.below y5) Aa;obtain ⟨qa,qc,ba,bc,rx,sv,sb⟩:=L j g.procs[j] (jB Z);have bf:g.procs[j].ok=true:=kG.1 O4.out _ (jH Z);have a1:=U.procs g.procs[j] (jH Z);have M:=SC PD.text g.procs j Z;have af:=QM PD.text g.procs (j+1);rw [M] at af;have HC:=jC M;clear M L;generalize g.procs[j]=p at *;simp only [PD.ok,jA,decide_eq_true_eq] at bf;obtain ⟨⟨⟨q1,q2⟩,q3⟩,q4⟩:=bf;obtain ⟨n1,n2,n3⟩:=KM p.body a1.body q4;have cr:=a1.len;have Q3:=jC q3;clear q3;simp only [PD.text,jy,jz,jD] at af;refine eK ?_;refine G9 Dj rfl rfl ?_;intro b6 w6 F t6;refine MF Ac rfl rfl rfl rfl rfl rfl F t6 rfl ?_;clear F t6 w6;intro w6 F t6;have h6:=F.blk;have x6:=F.ext;have a2:b6≠f:=by have:=F.pos;have:=X.lt;omega
   refine eK ?_;refine AB (Da Ac Dj rfl rfl rfl rfl rfl rfl rfl rfl) rfl ?_ aFh;rintro _ w7 ⟨b7,rfl,V,ao⟩;refine cC rfl (AR B f b7 3 _ [[112,114,111,99,32],p.name,[40]] _ ((X.ext x6).ext V.ext) ⟨ao⟩ Bg (by simp only [jY,List.flatten_nil,jy,jz,jD];omega)) ?_;rintro _ w8 ⟨⟨⟩,N,f8⟩;have b0:Fb B f w5 w8:=(Fb.of_ext (x6.trans V.ext) X.le).trans f8;have t8:=(t6.ext V.ext).fb f8 a2 Ao;have h8:=t8.blk;have bg:Bld B f (JY VD.line g.vars++JY PD.text (g.procs.take j)++[112,114,111,99,32]++p.name++[40]) w8:=by simpa using N
   clear N V ao F;refine Ai (Ag (Al (Al (Ak (C1 Pf (C1 KZ (C1 Pz (C1 Mv (Ai (Ag (Av ?_)))))))))));have b3:=Fb.refl B f w8;refine AK (ι:=Nat) (fun i=>[(40,.int .i64 i),(39,.int .i64 p.params.length),(38,.slice qa p.params.length qc),(29,.int .i64 j),(28,.int .i64 g.procs.length),(27,.slice (some ⟨kb,ko,none⟩) g.procs.length pc),(8,.pointer (some ⟨b6,0,none⟩)),(4,.pointer (some ⟨f,0,none⟩)),(1,.pointer (some ⟨b1,0,none⟩))]) (fun i w'=>Fb B f w8 w'/\Bld B f (JY VD.line g.vars++JY PD.text (g.procs.take j)++[112,114,111,99,32]++p.name++[40]++CV VD.text true (p.params.take i)) w'/\i<=p.params.length) (fun i=>p.params.length-i) 0 sB ⟨b3,by simpa [CV] using bg,Aa⟩ ?_;rintro i w9 ⟨f9,O,hi⟩;have t9:=t8.fb f9 a2 Ao;have h9:=t9.blk;have a3:Fb B f w5 w9:=b0.trans f9;have y9:Below B w w9:=y5.trans a3.below;have b4:=Pm VD.text p.params i;by_cases ah:i<p.params.length
   . obtain ⟨vb,vo,rfl,-,au⟩:=Arr.get (sv.below a3.below) Aa;have rv:Row w9 ⟨vb,vo+i*3,none⟩ p.params[i].cells:=au i p.params[i] (jB ah);have an:p.params[i].ok=true:=by have:=Q3.out;unfold Dd at this;exact kG.1 this _ (jH ah)
     have a4:=SD VD.text p.params i ah;have a5:=Pm VD.text p.params (i+1);rw [a4] at a5;have HM:=jC a4;clear a4 au;generalize p.params[i]=v at *;refine eK ?_;refine G9 Dj rfl rfl ?_;intro a6 Y h ap;refine C1 Pa (MF Ac rfl rfl rfl rfl rfl rfl h ap rfl ?_);clear h ap Y;intro Y h ap;have ct:=h.blk;have aq:=h.ext;have bh:a6≠f:=by have:=h.pos;have:=O.lt;omega
     have E:=O.ext aq;have ar:Below B w Y:=y9.trans (Below.mono aq O.le);by_cases a7:i=0
     . subst a7;simp only [if_true,jy,jD] at a5;refine Ai (Ag (Al (Al (Ak (C1 Mv (C1 V5 (Ai (Ag (II (Aw (Ag ?_)))))))))));refine Ak ?_;refine CB (by exact BQ Ac rfl rfl rfl (by exact fun wz hz=>by (try subst hz);exact (lf Af)) (by rfl)) rfl ?_;refine cC rfl (T3 v an B f _ _ E (ht.below ar Aa) Aa (by simp only [jy,jz,jD];omega)) ?_;rintro _ ai ⟨⟨⟩,aj,ad⟩;refine Ai (Ae (Ag (Ak (C1 V7 (C1 Mv (Ai ?_))))));refine Ax (1:Nat) sB ⟨f9.trans ((Fb.of_ext aq O.le).trans ad),?_,Aa⟩ (by simp;omega);rw [HM.out];simpa using aj
     . simp only [At a7,jy,jz,jD] at a5;refine eK ?_;refine AB (Da Ac Dj rfl rfl rfl rfl rfl rfl rfl rfl) rfl ?_ aFh;rintro _ ai ⟨b8,rfl,aa,bi⟩;refine cC rfl (AR B f b8 1 _ [[44,32]] _ (E.ext aa.ext) ⟨bi⟩ Bg (by simp only [jY,List.flatten_nil,jy,jz,jD];omega)) ?_;rintro _ bj ⟨⟨⟩,ab,ak⟩;have ca:=(ap.ext aa.ext).fb ak bh Ao;have cu:=ca.blk;have cb:Below B w bj:=ar.trans ((Below.mono aa.ext E.le).trans ak.below);refine Ai (Ag (Ak ?_));refine CB (by exact BQ Ac rfl rfl rfl (by exact fun wz hz=>by (try subst hz);exact (lf Af)) (by rfl)) rfl ?_;refine cC rfl (T3 v an B f _ _ ab (ht.below cb Aa) Aa (by simp only [jY,List.flatten_nil,jy,jz,jD];omega)) ?_;rintro _ cc ⟨⟨⟩,bk,cd⟩;refine Ai (Ae (Ag (Ak (C1 V7 (C1 Mv (Ai ?_))))));refine Ax (i+1) sB ⟨f9.trans ((Fb.of_ext aq O.le).trans ((Fb.of_ext aa.ext E.le).trans (ak.trans cd))),?_,Aa⟩ Aa;rw [HM.out];simpa [a7] using bk
   . obtain rfl:i=p.params.length:=by omega
     simp only [jQ] at b4 O;refine eK ?_;refine AB (Da Ac Dj rfl rfl rfl rfl rfl rfl rfl rfl) rfl ?_ aFh;rintro _ Y ⟨a6,rfl,h,bm⟩;refine cC rfl (AR B f a6 1 _ [[41]] _ (O.ext h.ext) ⟨bm⟩ Bg (by simp only [jY,List.flatten_nil,jy,jz,jD];omega)) ?_;rintro _ ai ⟨⟨⟩,aj,ad⟩;have ce:=(t9.ext h.ext).fb ad a2 Ao;have cv:=ce.blk;have al:Fb B f w5 ai:=a3.trans ((Fb.of_ext h.ext O.le).trans ad);have cf:Below B w ai:=y5.trans al.below;have a8:=I8 p.body 0;simp only [Nat.zero_add] at a8;refine Ai (Ag (Al (Ak (C1 Pf ?_))));refine CB (by exact D0 Ac rfl rfl rfl (by exact fun wz hz=>by (try subst hz);assumption) (by rfl)) rfl ?_;refine cC rfl (Hv p.body (U1 p.body a1.body n2) B f _ _ ba bc 0 aj (ht.below cf Aa) Aa (sits.below sb al.below) Aa (by simp only [jY,List.flatten_nil,jy,jz,jD] at *;omega)) ?_;rintro _ bj ⟨⟨⟩,ab,ak⟩;refine eK ?_;refine AB (Da Ac Dj rfl rfl rfl rfl rfl rfl rfl rfl) rfl ?_ aFh;rintro _ cc ⟨cg,rfl,av,bn⟩;refine cC rfl (AR B f cg 1 _ [[10]] _ (ab.ext av.ext) ⟨bn⟩ Bg (by simp only [jY,List.flatten_nil,jy,jz,jD] at *;omega)) ?_;rintro _ cw ⟨⟨⟩,bo,ch⟩;refine Ai (Ae (Ag (Ak (C1 V7 (C1 Mv (Ai ?_))))));refine Ax (j+1) sB ⟨f5.trans (al.trans (ak.trans ((Fb.of_ext av.ext ab.le).trans ch))),?_,Aa⟩ Aa;rw [HC.out]
     simpa [PD.text,Cg,CU] using bo
 . obtain rfl:j=g.procs.length:=by omega
   simp only [jQ] at bz X;refine eK ?_;refine AB (Da Ac Dj rfl rfl rfl rfl rfl rfl rfl rfl) rfl ?_ aFh;rintro _ w6 ⟨b6,rfl,F,ci⟩;refine cC rfl (AR B f b6 1 _ [[109,97,105,110]] _ (X.ext F.ext) ⟨ci⟩ Bg (by simp only [jY,List.flatten_nil,jy,jz,jD];omega)) ?_;rintro _ w7 ⟨⟨⟩,bp,f7⟩;have bq:Fb B f w5 w7:=(Fb.of_ext F.ext X.le).trans f7;have t7:=t5.fb bq az Ao;have h7:=t7.blk;have y7:Below B w w7:=y5.trans bq.below;have a8:=I8 g.main 0;simp only [Nat.zero_add] at a8;refine Ai (Ag (Al (Ak (C1 Pf ?_))));refine CB (by exact D0 Ac rfl rfl rfl (by exact fun wz hz=>by (try subst hz);assumption) (by rfl)) rfl ?_;refine cC rfl (Hv g.main (U1 g.main U.main m2) B f _ _ ma mc 0 bp (ht.below y7 Aa) Aa (sits.below ax.main y7) Aa (by simp only [jY,List.flatten_nil,jy,jz,jD] at *;omega)) ?_;rintro _ w8 ⟨⟨⟩,N,f8⟩;refine eK ?_;refine AB (Da Ac Dj rfl rfl rfl rfl rfl rfl rfl rfl) rfl ?_ aFh;rintro _ w9 ⟨b9,rfl,br,cj⟩;refine cC rfl (AR B f b9 1 _ [[10]] _ (N.ext br.ext) ⟨cj⟩ Bg (by simp only [jY,List.flatten_nil,jy,jz,jD] at *;omega)) ?_;rintro _ Y ⟨⟨⟩,E,ck⟩;have ar:Below B w Y:=y7.trans (f8.below.trans ((Below.mono br.ext N.le).trans ck.below))
   have aw:Bld B f g.text Y:=by simpa [PG.text,Cg,CU] using E
   clear E N bp X;refine eK ?_;refine cC rfl (NE 113 B f g.text _ aw.is aw.le) ?_;rintro _ ai ⟨⟨⟩,-,ad⟩;refine eK ?_;refine CZ results30 rfl rfl ?_;refine ⟨rfl,?_⟩;unfold Ext;rw [HB.out];exact ar.trans ad.below
end Bk
