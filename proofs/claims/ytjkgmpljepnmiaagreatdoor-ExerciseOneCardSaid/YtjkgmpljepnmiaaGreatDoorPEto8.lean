/- Texts that the proofs of ExerciseTwice, ExerciseOne need. No condition. (Part 8 of 8.) -/
import Derived.Test.YtjkgmpljepnmiaaGreatDoorPEto7
set_option linter.unusedSimpArgs false
set_option linter.unusedVariables false
set_option linter.defProp false
set_option maxRecDepth 100000
set_option maxHeartbeats 4000000
open Go.Proofs.Tryz
open List renaming length_append->ZZ,getElem?_eq_getElem->Z0,length_cons->Z1,length_nil->Z4,getElem_cons_succ->Z5,set_cons_zero->Z7,getElem_mem->Z8,take_succ_eq_append_getElem->aD,take_length->aH,flatten_cons->aJ,mem_cons->aK,getElem?_eq_none->aN,not_mem_nil->aR,replicate->aT,append_assoc->aW,take_append_drop->aZ,length_take->bB,drop_eq_getElem_cons->bD,getElem?_append_left->bG,take_succ_cons->bQ,all_eq_true->bR,getElem?_append_right->bS,getD_eq_getElem?_getD->bT,cons_append->bU,mem_singleton->bW,map_cons->bZ
open Go.Lib renaming hid->Z2,indexByte->bA
open Bool renaming and_eq_true->Z3,false_eq_true->bL
open Or renaming inl->Z6,inr->aA
open Option.some renaming injEq->Z9,inj->aI
open Go.Result renaming andThen->aB,andThen_ok->bN
open Nat renaming le_refl->aC,zero_le->aE,blt->aG,lt_or_ge->aL,le_of_ble_eq_true->aU,le_trans->bE,eq_of_beq_eq_true->bF,ble->bK,beq->bM
open Go.Sem renaming run_bind->aF,run_pure->aO
open Go renaming Calls->aM
open Go.Region renaming ready->aP,binds->bO
open Go.IntWalk renaming i64_in->aQ
open Go.Value.slice renaming injEq->aS
open Go.DataW renaming trod->aV
open List.cons renaming injEq->aX
open Array renaming getElem?_eq_none->aY
open Prod.mk renaming injEq->bC
open Go.Value renaming ownBlock->bH,slice->bI
open Go.Addr renaming add->bJ
open Go.Addr.mk renaming injEq->bX
namespace Bk
open Go Go.RowKit Go.Proofs
def Twice_d (e:EX) (f:oA) (h:Nat) (E:oA) (M:Nat) (F:oA) (N:Nat) (w:wD) (O:e.name.length<=9223372036854775807) (L:e.g.wf) (_:e.rng) (U:e.sits Ht w f E F h) (V:TabsF w) (X:Errs2 w) :
 Calls prog 7 #[.agg (e.cells f h E M F N).toArray] w fun r w'=>r = .returned (.bool true)/\Ext w w':=XE e O L Ht f h E M F N w U X V
open Go.Lib
def Mr {H:Type} {enc:TypeId×Value->H} {P:Program} {w:wD} {E:Nat} {sp:Nat->Bool} {F:Bool} {f:Nat} {t e:TypeId} {n:Nat} {cs:lV} {M:List lB} {p:List MemPlace}
 (Y:P.underlying t=some (.array n e)) (Z:P.underlying e=some .string) (N:P.cellsOf e=1) (O:P.cellsOf t=n)
 (h:aV enc P w E sp F f t cs=some (.agg (M.map fun z=>.lit (.string z)),p)):cs=M.map str:=by
 cases f with
 | zero=>simp [aV] at h
 | succ f=>
  simp only [aV,Y,N,O,Nat.mul_one] at h;split at h
  . rename_i hl;obtain ⟨xs,X,hx⟩:=Option.map_eq_some_iff.1 h;have L:xs.map (·.1)=M.map fun z=>(DataW.lit (.string z):DataW H):=by
     have:=congrArg Prod.fst hx;simpa using this
    have aa:xs.length=n:=by simpa using mapM_length X
    have ab:M.length=n:=by
     have:=congrArg List.length L;simp at this;omega
    apply List.ext_getElem?;intro i;by_cases hi:i<n
    . obtain ⟨b,hb,hf⟩:=mapM_at X i i (by simp [hi]);obtain ⟨z,hc,rfl,_⟩:=DataW.trod_string Z hf;have h1:cs[i]? = some (.string z):=by
       have:=congrArg (·[0]?) hc;simpa [List.getElem?_take,List.getElem?_drop] using this
      have U:(xs.map (·.1))[i]? = some (DataW.lit (.string z.data.toList):DataW H):=by simp [hb]
      rw [L] at U;simp only [List.getElem?_map,Option.map_eq_some_iff,DataW.lit.injEq,Lit.string.injEq] at U;obtain ⟨z',V,rfl⟩:=U;simp [h1,V]
    . rw [aN Aa,aN (by simp;omega)]
  . cases h
def gSym47:prog.globalNamed "backstep/arith.symbols" = some 1:=by kernel_rfl
def gSymT47:(prog.globals[1]?).map (·.type)=some 252:=by kernel_rfl
def XI:prog.underlying 252=some (.array 43 9):=by kernel_rfl
def XJ:prog.cellsOf 252=43:=by kernel_rfl
def YN:prog.underlying 9=some .string:=by kernel_rfl
def YO:prog.cellsOf 9=1:=by kernel_rfl
def gErr47:prog.globalNamed "strconv.ErrRange" = some 4:=by kernel_rfl
def gErrT47:(prog.globals[4]?).map (·.type)=some 72:=by kernel_rfl
def gSyn47:prog.globalNamed "strconv.ErrSyntax" = some 3:=by kernel_rfl
def gSynT47:(prog.globals[3]?).map (·.type)=some 72:=by kernel_rfl
def YP : ∃f,prog.underlying 72=some (.interface f):=⟨_,underlying72⟩
def gPow47:prog.globalNamed "internal/strconv.uint64pow10" = some 2:=by kernel_rfl
def gPowT47:(prog.globals[2]?).map (·.type)=some 261:=by kernel_rfl
def XK:prog.underlying 261=some (.array 20 240):=by kernel_rfl
def YQ:prog.underlying 240=some (.int .u64):=by kernel_rfl
def YR:prog.cellsOf 240=1:=by kernel_rfl
def XL:prog.cellsOf 261=20:=by kernel_rfl
def TP:(YtjkgmpljepnmiaaGreatDoor.Rows.laid_backstep_arith_symbols:DataW Unit) = .agg (symbols.map fun z=>.lit (.string z)):=rfl
def TQ:(YtjkgmpljepnmiaaGreatDoor.Rows.laid_internal_strconv_uint64pow10:DataW Unit)=tabData .u64 pow10Tab:=rfl
abbrev VJ:List (String×DataW Unit):=[("backstep/arith.symbols",YtjkgmpljepnmiaaGreatDoor.Rows.laid_backstep_arith_symbols),("math/bits.deBruijn32tab",YtjkgmpljepnmiaaGreatDoor.Rows.laid_math_bits_deBruijn32tab),("math/bits.deBruijn64tab",YtjkgmpljepnmiaaGreatDoor.Rows.laid_math_bits_deBruijn64tab),("internal/strconv.uint64pow10",YtjkgmpljepnmiaaGreatDoor.Rows.laid_internal_strconv_uint64pow10),("unicode/utf8.acceptRanges",YtjkgmpljepnmiaaGreatDoor.Rows.laid_unicode_utf8_acceptRanges),("strconv.ErrRange",YtjkgmpljepnmiaaGreatDoor.Rows.laid_strconv_ErrRange),("strconv.ErrSyntax",YtjkgmpljepnmiaaGreatDoor.Rows.laid_strconv_ErrSyntax),("unicode/utf8.first",YtjkgmpljepnmiaaGreatDoor.Rows.laid_unicode_utf8_first)]
def tabs47_of_laid {W:wD} (h:laidMetH prog VJ W) (U:W.ShapedOpen prog):TabsF W/\Errs2 W:=by
 have h':laidMet prog VJ W:=h;obtain ⟨ps,⟨g1,t1,am,f1,p1,q1,V,X,E,F,⟨g2,t2,an,f2,p2,q2,ao,ap,Y,aq,⟨g3,t3,ar,f3,p3,q3,au,av,Z,aw,⟨g4,t4,ax,f4,p4,q4,aa,ab,L,M,⟨g5,t5,ay,f5,p5,q5,az,a0,ac,a1,⟨g6,t6,a2,f6,p6,q6,ad,ae,N,af,⟨g7,t7,a3,f7,p7,q7,ag,ah,O,ai,⟨g8,t8,a4,f8,p8,q8,a5,a6,aj,a7,-,-⟩,-⟩,-⟩,-⟩,-⟩,-⟩,-⟩,-⟩,-⟩:=h';have key : ∀(nm:String) (g:Nat) (v:_),prog.globalNamed nm=some g->W.var? prog nm=some v->g<W.heap.size:=by
  intro nm g v hg hv;rcases aL g W.heap.size with ak|al
  . exact ak
  . unfold World.var? at hv;rw [hg] at hv;simp [aY al] at hv
 have k1:=key _ 1 _ Bo E;have k2:=key _ 5 _ Bo Y;have k3:=key _ 6 _ Bo Z;have k4:=key _ 2 _ Bo L;have k5:=key _ 8 _ Bo ac;have k6:=key _ 4 _ Bo N;have k7:=key _ 3 _ Bo O;have k8:=key _ 7 _ Bo aj;have hn:prog.globals.size=9:=by kernel_rfl
 have hg:prog.globals.size<=W.heap.size:=by rw [hn];omega
 obtain rfl:=aI (gSym47.symm.trans V);obtain rfl:=aI (gSymT47.symm.trans X);rw [TP] at F;have e1:=Mr XI YN YO XJ F;obtain rfl:=aI (gPow47.symm.trans aa);obtain rfl:=aI (gPowT47.symm.trans ab);rw [TQ] at M;have e4:=cells_of_tab XK YQ YR XL M;obtain rfl:=aI (gErr47.symm.trans ad);obtain rfl:=aI (gErrT47.symm.trans ae);obtain rfl:=aI (gSyn47.symm.trans ag);obtain rfl:=aI (gSynT47.symm.trans ah);obtain ⟨ms,hu⟩:=YP;refine ⟨⟨⟨fun i hi=>?_,?_⟩,hg⟩,⟨⟨?_⟩,?_,?_⟩⟩
 . rw [World.var?_cell gSym47 E i,<-Array.getElem?_toList,e1,List.getElem?_map];have:symbols[i]? = some (symbols.getD i []):=by
    rw [bT,Z0 (show i<symbols.length from hi)];rfl
   rw [this];rfl
 . unfold TabIs;rw [L,<-e4]
 . obtain ⟨f,u,v,hc,-,-⟩:=iface_of_trod hu af;refine ⟨u,v,?_⟩;rw [World.var?_cell gErr47 N 0,<-Array.getElem?_toList,hc];rfl
 . obtain ⟨f,u,v,hc,-,-⟩:=iface_of_trod hu ai;refine ⟨u,v,?_⟩;rw [World.var?_cell gSyn47 O 0,<-Array.getElem?_toList,hc];rfl
 . exact Go.Proofs.cell_of_shapedOpen_int (zero:= #[.int .i64 0]) (t:=3) U (of_decide_eq_true Bo) Bo rfl Bo Bo underlying3
def Js {c:UInt8} : ∀ {a b:lB},c∉a->bA (a++c::b) c=a.length
 | [],b,_=>by simp [bA]
 | x::a,b,h=>by
  have h1 : ¬(x==c)=true:=by simp only [beq_iff_eq];intro e;exact h (by simp [e])
  have f:=Js (a:=a) (b:=b) (c:=c) (fun e=>h (List.mem_cons_of_mem _ e));rw [bU,bA,AC h1,f,AC (by simp only [beq_iff_eq];omega)];simp
def Ih {c:UInt8} : ∀ {a:lB},c∉a->bA a c = -1
 | [],_=>rfl
 | x::a,h=>by
  have h1 : ¬(x==c)=true:=by simp only [beq_iff_eq];intro e;exact h (by simp [e])
  rw [bA,AC h1,Ih (fun e=>h (List.mem_cons_of_mem _ e))];rfl
def VK {a b:lB} (h:(10:UInt8)∉a):CK (a++10::b)=(a,b,true):=by
 unfold CK Lib.cut;rw [Lib.index_one,Js h,AX Aa];simp
def TR {a:lB} (h:(10:UInt8)∉a):CK a=(a,[],false):=by
 unfold CK Lib.cut;rw [Lib.index_one,Ih h,AC Aa]
def RC {k:Nat} {a:lB} (h:(32:UInt8)∉a):Lib.splitK [32] 0 k a=[a]:=by
 cases k with
 | zero=>rfl
 | succ k=>rw [Lib.splitK,Lib.index_one,Ih h,AX (by rfl)]
def RD {k:Nat} {a b:lB} (h:(32:UInt8)∉a):Lib.splitK [32] 0 (k+1) (a++32::b)=a::Lib.splitK [32] 0 k b:=by
 rw [Lib.splitK,Lib.index_one,Js h,AC (by simp only [beq_iff_eq];omega)];simp
def RE (x y:lB) (r:List lB):Lib.join (x::y::r) [32]=x++32::Lib.join (y::r) [32]:=by
 rw [Lib.join_cons,Lib.join_cons];simp [Lib.joinTail]
def pre (acc:List Tok) (r:List Tok×Option Nat):List Tok×Option Nat:=match r.2 with
 | none=>(acc++r.1,none)
 | some p=>([],some p)
inductive Pc where
 | tk (t:lB):Pc
 | sp (s:lB):Pc
def toks:List Pc->GV
 | []=>[]
 | .tk t::r=>t::toks r
 | .sp _::r=>toks r
structure TokT (t:lB):Prop where
 ne:t≠[]
 len:(AT t).2=t.length
 kind:(AT t).1=1\/(AT t).1=2\/(AT t).1=3
structure Adj (t:lB) (c:UInt8):Prop where
 word:(AT t).1=1->Hx c=false
 num:(AT t).1=2->C7 c=false
 sign:(AT t).1=3->c≠61/\c≠62/\c≠38/\c≠124
def wf:Option lB->List Pc->Prop
 | _,[]=>True
 | p,.sp s::r=>(∀c∈s,G3 c=true)/\wf (if s.isEmpty then p else none) r
 | p,.tk t::r=>TokT t/\(∀t0∈p,∀c∈t.head?,Adj t0 c)/\wf (some t) r
def VL (e:EX) (n:Int):Ir e n=[[101,120,101,114,99,105,115,101],e.name,[112,111,105,110,116,115],Lib.itoa e.points,[102,117,101,108],Lib.itoa e.fuel,[118,97,108,117,101],Lib.itoa e.box.v,[108,101,110,103,116,104],Lib.itoa e.box.l,[105,110,112,117,116],Lib.itoa e.box.i,[108,105,110,101,115],Lib.itoa n]:=rfl
section
variable {ts:List Tok} {n:Int}
end
def IG (c:UInt8) (s:lB):(c∉s/\bA s c = -1) \/ ∃a b,s=a++c::b/\c∉a/\bA s c=a.length:=by
 by_cases h:c∈s
 . obtain ⟨a,b,rfl,f⟩:=List.eq_append_cons_of_mem h;exact aA ⟨a,b,rfl,f,Js f⟩
 . exact Z6 ⟨h,Ih h⟩
def VM {s:lB} (h:(CK s).2.2=true):s=(CK s).1++10::(CK s).2.1/\(10:UInt8)∉(CK s).1:=by
 rcases IG 10 s with ⟨h1,-⟩|⟨a,b,rfl,h1,-⟩
 . rw [TR h1] at h;cases h
 . rw [VK h1];exact ⟨rfl,h1⟩
def TS (k:Nat) (s:lB):Lib.splitK [32] 0 k s≠[]:=by
 cases k with
 | zero=>simp [Lib.splitK]
 | succ k=>rw [Lib.splitK];split<;>simp
def Kw : ∀(k:Nat) (s:lB),Lib.join (Lib.splitK [32] 0 k s) [32]=s
 | 0,s=>by rw [Lib.splitK,Lib.join_one]
 | k+1,s=>by
  rcases IG 32 s with ⟨h1,-⟩|⟨a,b,rfl,h1,-⟩
  . rw [RC h1,Lib.join_one]
  . rw [RD h1];have f:=TS k b;have h:=Kw k b;cases h4:Lib.splitK [32] 0 k b with
    | nil=>exact absurd h4 f
    | cons x r=>rw [RE,<-h4,h]
def TU (s:lB):Lib.join (BG s) [32]=s:=Kw _ s
def L9 {s:lB} : ∀ {n e:Nat},Hn s n=some e->Lib.countByte (s.take e) 10=n
 | 0,e,h=>by simp only [Hn,Z9] at h;subst h;simp [Lib.countByte]
 | n+1,e,h=>by
  simp only [Hn,Option.bind_eq_some_iff] at h;obtain ⟨f,h1,E⟩:=h;have N:=L9 h1;have Z:=Oc h1;split at E
  . cases E
  . rename_i L;rcases IG 10 (s.drop f) with ⟨M,F⟩|⟨a,b,M,F,O⟩
    . rw [F] at L;exact absurd Au L
    . rw [O,Z9] at E;have U:s=s.take f++(a++10::b):=by rw [<-M,aZ]
      have V:s.take e=s.take f++(a++[10]):=by
       have X:s=(s.take f++(a++[10]))++b:=by rw [aW,aW];exact U
       have Y:(s.take f++(a++[10])).length=e:=by
        simp only [ZZ,bB,Z1,Z4];omega
       generalize s.take f++(a++[10])=u at *;subst X;rw [<-Y];exact List.take_left
      rw [V];unfold Lib.countByte at *;rw [List.count_append,List.count_append,N,List.count_eq_zero.2 F];rfl
def TV {s:lB} {n:Nat} (h:(Dc s n).2.2=true):s=(Dc s n).1++(Dc s n).2.1/\Lib.countByte (Dc s n).1 10=n:=by
 unfold Dc at *;cases he:Hn s n with
 | none=>rw [he] at h;cases h
 | some e=>exact ⟨(aZ e s).symm,L9 he⟩
def Gu {s:lB} (h:(D0 s).2=true):Lib.itoa (D0 s).1=s:=by
 unfold D0 at *;split at h
 . split at h
   . rename_i h1;rw [AX h1];exact h1.2
   . cases h
 . cases h
def YS {l:List lB} (h:l.length=14) : ∃a b c d e f g i j k m n o p,l=[a,b,c,d,e,f,g,i,j,k,m,n,o,p]:=by
 rcases l with _|⟨a,_|⟨b,_|⟨c,_|⟨d,_|⟨e,_|⟨f,_|⟨g,_|⟨i,_|⟨j,_|⟨k,_|⟨m,_|⟨n,_|⟨o,_|⟨p,_|⟨q,r⟩⟩⟩⟩⟩⟩⟩⟩⟩⟩⟩⟩⟩⟩⟩
 all_goals first|exact ⟨_,_,_,_,_,_,_,_,_,_,_,_,_,_,rfl⟩|(simp only [Z1,Z4] at h;omega)
def VN {F:List lB} (h:Nc F) (g:PG):Ir (Vv F g) (CM F 5)=F:=by
 obtain ⟨h1,h2,-,E⟩:=h;obtain ⟨a,b,c,d,e,f,g',i,j,k,m,n,o,p,rfl⟩:=YS h1;have L:=E 0 Aa;have M:=E 1 Aa;have N:=E 2 Aa;have O:=E 3 Aa;have U:=E 4 Aa;have V:=E 5 Aa;obtain ⟨L,X⟩:=L;obtain ⟨M,Y⟩:=M;obtain ⟨N,Z⟩:=N;obtain ⟨O,n3⟩:=O;obtain ⟨U,n4⟩:=U;obtain ⟨V,n5⟩:=V;have X:=Gu X;have Y:=Gu Y;have Z:=Gu Z;have n3:=Gu n3;have n4:=Gu n4;have n5:=Gu n5;change a=_ at h2;change c=_ at L;change e=_ at M;change g'=_ at N;change j=_ at O;change m=_ at U;change o=_ at V;change Lib.itoa (D0 d).1=d at X;change Lib.itoa (D0 f).1=f at Y;change Lib.itoa (D0 i).1=i at Z;change Lib.itoa (D0 k).1=k at n3;change Lib.itoa (D0 n).1=n at n4;change Lib.itoa (D0 p).1=p at n5;rw [VL];show [_,b,_,Lib.itoa (D0 d).1,_,Lib.itoa (D0 f).1,_,Lib.itoa (D0 i).1,_,Lib.itoa (D0 k).1,_,Lib.itoa (D0 n).1,_,Lib.itoa (D0 p).1]=_;rw [X,Y,Z,n3,n4,n5,h2,L,M,N,O,U,V];rfl
def TX {s:lB} {x:EX} {rest:lB} (h:FR s = .ok (x,rest)) (hs:s.length<=100000):s=x.text++rest/\x.valid/\x.g.wf:=by
 unfold FR at h;split at h
 . cases h
 rename_i h1;split at h
 . cases h
 rename_i h2;split at h
 . cases h
 rename_i h3;split at h
 . cases h
 rename_i h4;split at h
 . cases h
 rename_i h5;split at h
 . cases h
 rename_i h6;injection h with h
 injection h with h7 h8
 rw [Bool.not_eq_false] at h1 h3;have h2:=Classical.not_not.1 h2;have h4:=Classical.not_not.1 h4;have h5:=Classical.not_not.1 h5;have h6:=Classical.not_not.1 h6;have c1:=(VM h1).1;have c2:=TU (CK s).1;have c3:=TV h3;have hle:=Ry s;have a:=On (CK s).2.1 (CM (BG (CK s).1) 5).toNat;have c4:=VN h2 (A3 (Dc (CK s).2.1 (CM (BG (CK s).1) 5).toNat).1).1;have c5:(0:Int)<=CM (BG (CK s).1) 5:=(Oh _).1;have hwf:=E9 (Dc (CK s).2.1 (CM (BG (CK s).1) 5).toNat).1 Aa h4;rw [<-h7,<-h8];refine ⟨?_,h6,hwf⟩;unfold EX.text LO;show s=Lib.join (Ir (Vv _ _) ((Lib.countByte (PG.text (A3 (Dc (CK s).2.1 (CM (BG (CK s).1) 5).toNat).1).1) 10:Nat):Int)) [32]++[10]++PG.text (A3 (Dc (CK s).2.1 (CM (BG (CK s).1) 5).toNat).1).1++_;rw [h5,c3.2,Int.toNat_of_nonneg c5,c4,c2]
 conv=>lhs;rw [c1,c3.1]
 simp
def TY {l:List EX} {x:EX} (h : ¬L1 l) (L:Gn l x.name=false) : ¬L1 (l++[x]):=by
 rintro ⟨i,M,e,f,E⟩;rw [ZZ,List.length_singleton] at M;by_cases F:i<l.length
 . rw [bG F] at f;rw [List.take_append_of_le_length Aa] at E;exact h ⟨i,F,e,f,E⟩
 . obtain rfl:i=l.length:=by omega
   rw [bS (aC _),Nat.sub_self] at f;simp only [List.getElem?_cons_zero,Z9] at f;subst f;rw [List.take_left,L] at E;cases E
def VO (a b:List EX):EF (a++b)=EF a++EF b:=by
 unfold EF;rw [List.flatMap_append]
def Ma : ∀(n:Nat) (acc:List EX) (line:Nat) (s:lB),s.length<=100000->101<=n+acc.length->acc.length<=100->(∀e∈acc,e.valid/\e.g.wf) -> ¬L1 acc ->
 ((BH n acc line s).2.2≠0->(BH n acc line s).1=[])/\((BH n acc line s).2.2=0->(BH n acc line s).2.1=0/\EF (BH n acc line s).1=EF acc++s/\(∀e∈(BH n acc line s).1,e.valid/\e.g.wf) /\ ¬L1 (BH n acc line s).1/\(BH n acc line s).1.length<=100)
 | 0,acc,line,s,_,h1,L,_,_=>absurd h1 Aa
 | n+1,acc,line,s,M,h1,L,N,O=>by
  by_cases f:s=[]
  . rw [show BH (n+1) acc line s=(acc,0,0) from by rw [BH,AX f]];exact ⟨fun h=>absurd rfl h,fun _=>⟨rfl,by rw [f,List.append_nil],N,O,L⟩⟩
  by_cases F:acc.length=100
  . rw [show BH (n+1) acc line s=([],(line:Int),5) from by rw [BH,AC f,AX F]];exact ⟨fun _=>rfl,fun h=>by cases h⟩
  cases hr:FR s with
  | error k=>
   rw [show BH (n+1) acc line s=([],(line:Int),k) from by rw [BH,AC f,AC F,hr]];have hk:=No hr;exact ⟨fun _=>rfl,fun h=>by simp only at h;omega⟩
  | ok q=>
   obtain ⟨x,rest⟩:=q;obtain ⟨U,X⟩:=TX hr M;cases hh:Gn acc x.name with
   | true=>
    rw [show BH (n+1) acc line s=([],(line:Int),22) from by rw [BH,AC f,AC F,hr];exact AX hh];exact ⟨fun _=>rfl,fun h=>by cases h⟩
   | false=>
    rw [show BH (n+1) acc line s=BH n (acc++[x]) (line+Lib.countByte (s.take (s.length-rest.length)) 10) rest from by rw [BH,AC f,AC F,hr];exact AC (by rw [hh];decide)];have Y:rest.length<=100000:=by rw [U,ZZ] at M;omega
    have V:=Ma n (acc++[x]) (line+Lib.countByte (s.take (s.length-rest.length)) 10) rest Y (by simp only [ZZ,Z1,Z4];omega) (by simp only [ZZ,Z1,Z4];omega)
     (fun e E=>by rcases List.mem_append.1 E with E|E;exact N e E;rw [bW] at E;rw [E];exact X) (TY O hh)
    refine ⟨V.1,fun h=>?_⟩;obtain ⟨Z,i2,i3⟩:=V.2 h;refine ⟨Z,?_,i3⟩;rw [i2,VO,aW,U];simp [EF]
def RF {s:lB} (O:s.length<=20000) :
 ((EP s).2.2≠0->(EP s).1=[])/\((EP s).2.2=0->(EP s).2.1=0/\EC (EP s).1=(s,0)/\(EP s).1.length<=100 /\ ∀e∈(EP s).1,e.valid/\e.g.wf):=by
 have e:EP s=BH 101 [] 1 s:=by unfold EP;rw [AC Aa]
 rw [e];have h:=Ma 101 [] 1 s Aa Bn Bn (fun e E=>by cases E) (fun ⟨i,hi,_⟩=>by simp at hi);refine ⟨h.1,fun L=>?_⟩;obtain ⟨h1,f,F,M,N⟩:=h.2 L;have f:EF (BH 101 [] 1 s).1=s:=f;refine ⟨h1,?_,N,F⟩;rw [JT Aa (fun e E=>(F e E).1) M (by rw [f];omega),f]
end Bk
namespace Bk
open Go Go.RowKit Go.Proofs
attribute [local irreducible] Go.Calls
def Zn (s:List UInt8) (hs:s.length<=9223372036854775807) (w:World) (L:Errs2 w) (F:TabsF w) :
 Calls prog 4 #[str s] w fun r w'=>r = .returned (.bool true)/\Ext w w':=by
 have X:=Ext.refl w;have af:=F.g;have HA:=Z2 (fun E h1 h2=>Nq E h1 h2)
 by_cases hl:20000<s.length
 . refine Ad func4 ntmps4 rfl rfl ?_
   refine cS (C1 Pa (cT (Ah (cS ?_))));refine cC rfl (HA.out _ Ag Ag) ?_;rintro _ w2 ⟨⟨⟩,x1⟩;have z3:=x1.size;replace L:=L.ext x1;replace F:=F.ext x1;replace X:=X.ext x1;clear x1;refine C1 Pt (cT (AR rfl (Am (Ae (Ah (cS (C1 Mv (C1 Py (C1 V5 (cT (Ub ?_)))))))))));refine cS (C1 Pa (cT (AY (Ar (Bb rfl rfl ?_)))))
   all_goals exact ⟨rfl,X⟩
 . have hi:=RF (s:=s) Aa;have HP:=Z2 (fun E L F=>Np s hs E L F)
   generalize EP s=q at *
   obtain ⟨l,n,er⟩:=q;simp only at hi
   rcases (Decidable.em (er=0)).symm with O|O
   . have h0:=hi.1 O;subst h0;clear hi
     have HQ:Hid (∀E,Errs2 E->TabsF E->Calls prog 18 #[str s] E fun e w'=> ∃a c,e = .returned (.tuple #[.slice a 0 c,.int .i64 n,.int .i64 er])/\Ext E w'):=Z2 fun E h1 h2=>(HP.out E h1 h2).mono fun e w' ⟨a,c,k1,_,_,k2⟩=>⟨a,c,k1,k2⟩
     clear HP;refine Ad func4 ntmps4 rfl rfl ?_
     refine cS (C1 Pa (cT (Ah (cS ?_))));refine cC rfl (HA.out _ Ag Ag) ?_;rintro _ aj ⟨⟨⟩,U⟩;have ak:=U.size;replace L:=L.ext U;replace F:=F.ext U;replace X:=X.ext U;clear U;refine C1 Pt (cT (AR rfl (Am (Ae (Ah (cS (C1 Mv (C1 Py (C1 V5 (cT (F5 ?_)))))))))));refine Am (Ae (cS (C1 Mv ?_)));refine Ax (Bg Bo rfl (HQ.out _ Ag Ag) (fun _ _ ⟨_,_,h⟩=>⟨_,h.1⟩)) rfl ?_ aFh;rintro _ al ⟨am,⟨an,⟨⟨⟩,V⟩⟩⟩;have ao:=V.size;replace L:=L.ext V;replace F:=F.ext V;replace X:=X.ext V;clear V;refine C1 Mv (C1 Px (C1 Px (C1 Px (C1 Pa (C1 Pa (C1 Pa (cT (Ah (cS (C1 Mv (C1 V2 ?_)))))))))));refine cT (KY (cS (C1 Mv (C1 Pz (C1 V1 (C1 Pa (cT (AY (Ar (Bb rfl rfl ?_))))))))))
     all_goals exact ⟨rfl,X⟩
   . subst O;obtain ⟨h1,h2,h3,h4⟩:=hi.2 rfl;subst h1;clear hi
     have ac : ∀e∈l,e.wf:=fun e O=>by
      have:=EX.valid_name (h4 e O).1
      exact ⟨Aa,(h4 e O).2,by have:=Vw (h4 e O).1.2.1.1;omega⟩
     have HR:=Z2 (fun S a c hc E h1 h2=>Na l ac S a c Aa hc E h1 h2);rw [h2] at HR;have HV:=Z2 (fun e (O:e∈l) S va vc pa pc ma mc E h=>EN e (ac e O) S va vc pa pc ma mc E h);have HK:=Z2 (fun e (O:e∈l)=>(h4 e O).1);clear ac h2 h4;refine Ad func4 ntmps4 rfl rfl ?_
     refine cS (C1 Pa (cT (Ah (cS ?_))));refine cC rfl (HA.out _ Ag Ag) ?_;rintro _ ap ⟨⟨⟩,Y⟩;have aq:=Y.size;replace L:=L.ext Y;replace F:=F.ext Y;replace X:=X.ext Y;clear Y;refine C1 Pt (cT (AR rfl (Am (Ae (Ah (cS (C1 Mv (C1 Py (C1 V5 (cT (F5 ?_)))))))))));refine Am (Ae (cS (C1 Mv ?_)));refine eQ rfl (HP.out _ Ag Ag) ?_;rintro _ ar ⟨ad,⟨ag,⟨⟨⟩,⟨au,⟨aa,Z⟩⟩⟩⟩⟩;have ah:=Z.size;replace L:=L.ext Z;replace F:=F.ext Z;replace X:=X.ext Z;clear Z;refine C1 Mv (C1 Px (C1 Px (C1 Px (C1 Pa (C1 Pa (C1 Pa (cT (Ah (cS (C1 Mv (C1 V2 ?_)))))))))));refine cT (D2 rfl (not_not_intro rfl) (Am (Ae (cS (C1 Mv ?_)))));refine cC rfl (HR.out _ _ _ Ag _ Ag Ag) ?_;rintro _ ab ⟨⟨⟩,f⟩;have ai:=f.size;replace aa:=aa.ext f;replace L:=L.ext f;replace F:=F.ext f;replace X:=X.ext f;clear f;refine C1 Mv (C1 Px (C1 Px (C1 Pa (C1 Pa (cT (Ah (cS (C1 Mv (C1 Pz (C1 Mv (cT ?_)))))))))))
     have M:=EXs.ltA (show EXs _ ab l ad from aa);clear aa HA HP HR L F af;refine At ?_;refine AK (ι:=Nat) (fun j=>[(0,str s),(3,.slice ad l.length ag),(4,.int .i64 0),(6,str s),(7,.int .i64 0),(31,.int .i64 l.length),(32,.int .i64 j)])
      (fun j w'=>j<=l.length/\EXs (· < ab.heap.size) w' l ad/\Ext w w') (fun j=>l.length-j) 0 sB ⟨aE _,M,X⟩ ?_
     clear M X;rintro j E ⟨hj,M,X⟩
     by_cases ae:j<l.length
     . obtain ⟨kb,ko,rfl,-,hk⟩:=Arr.get M Aa;obtain ⟨va,vc,pa,pc,ma,mc,rx,sx⟩:=hk j _ (Z0 ae);have hm:=Z8 ae;have hv:=HK.out _ hm;have HW:=Z2 (fun S va vc pa pc ma mc E h=>HV.out _ hm S va vc pa pc ma mc E h);clear hk hm HV HK
       generalize l[j]=e at *
       rw [decide_eq_true hv] at HW;clear hv
       unfold EX.cells at rx HW
       refine cS (C1 V3 (cT (Ah (Ub (Am (Ae (Ah (At (cS (C1 Mv (C1 Pa ?_)))))))))));refine cN (C1 Mv (C1 Mv (C1 Pi (C1 (VP rx) ?_))));refine cC rfl (HW.out _ _ _ _ _ _ _ _ Ag) ?_;rintro _ av ⟨⟨⟩,N⟩;have aw:=N.size;replace X:=X.ext N;replace M:=M.ext N;replace rx:=rx.ext N;replace sx:=EX.sits.ext sx N;clear N;refine C1 Pt (cT (AR rfl (Am (Af (Ae (Aj (C1 V7 (C1 Mv (Ai ?_)))))))))
       exact Ay (j+1) sB ⟨Aa,Ag,X⟩ Aa
     . obtain rfl:j=l.length:=by omega
       refine cS (C1 V3 (cT (Ah (F5 (C3 (AG (AG (Bd (Ae (cS (C1 Mv ?_)))))))))));refine C1 V1 (C1 Mv (FJ (C1 Mv (FJ (C1 V1 (C1 RK (C1 Mv (FJ (C1 Mv (FJ (C1 Mv ?_)))))))))));refine FJ (C1 V8 (C1 RK (C1 Pa (cT (AY (Bb rfl rfl ?_))))))
       all_goals exact ⟨AI (decide_eq_true rfl),X⟩
end Bk
namespace Bk
open Go Go.RowKit Go.Proofs
def One_d (s:lB) (w:wD) (f:s.length<=9223372036854775807) (h:TabsF w) (E:Errs2 w) :
 Calls prog 4 #[str s] w fun r w'=>r = .returned (.bool true)/\Ext w w':=Zn s f w E h
end Bk
