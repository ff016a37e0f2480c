/- Texts that the proofs of ExercisePrints need. No condition. (Part 2 of 8.) -/
import Derived.Test.YtjkgmpljepnmiaaGreatDoorPEpr1
set_option linter.unusedSimpArgs false
set_option linter.unusedVariables false
set_option linter.defProp false
set_option maxRecDepth 100000
set_option maxHeartbeats 4000000
open Go.Proofs.Tryz
open List renaming length_append->aU,length_cons->aV,getElem_cons_succ->aW,length_nil->aX,getElem?_eq_getElem->aY,set_cons_zero->aZ,getElem_mem->bD,take_succ_eq_append_getElem->bE,take_length->bH,mem_cons->bR,getElem?_eq_none->bS,not_mem_nil->bX,replicate->cB,append_assoc->cF,length_take->cH,flatten_cons->cI,take_append_drop->cL,drop_eq_getElem_cons->cW,all_eq_true->cX,getD_eq_getElem?_getD->dC,getElem?_append_left->dD,take_succ_cons->dE,mem_singleton->dG
open Go.Lib renaming hid->bA,indexByte->dA
open Bool renaming and_eq_true->bB,false_eq_true->dH
open Or renaming inl->bC,inr->bF
open Go.Result renaming andThen->bG
open Nat renaming zero_le->bI,le_refl->bJ,blt->bM,lt_or_ge->bQ,le_trans->cD,le_of_ble_eq_true->cE,eq_of_beq_eq_true->cQ,ble->cY,beq->cZ
open Option.some renaming injEq->bK,inj->bO
open Go.Sem renaming run_bind->bL,run_pure->bW
open Go renaming Calls->bN
open Go.IntWalk renaming i64_in->bT
open Go.Region renaming ready->bU,binds->dB
open Go.Value.slice renaming injEq->bZ
open Go.DataW renaming trod->cG
open Array renaming getElem?_eq_none->cJ
open List.cons renaming injEq->cK
open Prod.mk renaming injEq->cO
open Go.Value renaming slice->cP,ownBlock->cV,bool->dF
open Go.Addr renaming add->cU
open Bk.Ext renaming refl->dI,alloc->dJ,trans->dK,drew->dX
open Bk.Nd renaming size->dL,kind->dM,kids->dN,sits->dY,sits_mono->fF
open Bk.Blk renaming cell->dP,ext->dV
open Bk.Row renaming ext->dZ
open Bk.Fr renaming of_ext->eJ
open Bk.Value renaming one->eL
namespace Bk
open Go Go.RowKit Go.Proofs
attribute [local irreducible] Go.Calls
def M7 (x:Int):Int:=IntKind.i64.wrap x
def OY (op:BinOp) (x y:Int):Int:=match op with
 | .and=>M7 (BitVec.ofInt 64 x &&& BitVec.ofInt 64 y).toNat
 | .or=>M7 (BitVec.ofInt 64 x ||| BitVec.ofInt 64 y).toNat
 | _=>M7 (BitVec.ofInt 64 x ^^^ BitVec.ofInt 64 y).toNat
section
variable {P:Program} {n:Nat} {l:Sl} {S:wD->Prop} {ty:TypeId} {x y:Operand} {t t':Nat} {a b:Int}
def WE (h:ev l x=some (.int .i64 a)) (E:ev l y=some (.int .i64 b)):BA P n l S (.binOp .and t x y t') ty (.int .i64 (OY .and a b)):=by
 unfold BA;intro d w F pos after g f _;simp only [execOp,f.ev h,f.ev E,bL,Bv,bG,binOp,Op.intBits];rfl
def Ys (h:ev l x=some (.int .i64 a)) (E:ev l y=some (.int .i64 b)):BA P n l S (.binOp .or t x y t') ty (.int .i64 (OY .or a b)):=by
 unfold BA;intro d w F pos after g f _;simp only [execOp,f.ev h,f.ev E,bL,Bv,bG,binOp,Op.intBits];rfl
def WG (h:ev l x=some (.int .i64 a)) (E:ev l y=some (.int .i64 b)):BA P n l S (.binOp .xor t x y t') ty (.int .i64 (OY .xor a b)):=by
 unfold BA;intro d w F pos after g f _;simp only [execOp,f.ev h,f.ev E,bL,Bv,bG,binOp,Op.intBits];rfl
def UA (f:ev l x=some (.int .i64 a)) (h:ev l y=some (.int .i64 b)):BA P n l S (.binOp .add t x y t') ty (.int .i64 (M7 (a+b))):=NT f h rfl
def UB (f:ev l x=some (.int .i64 a)) (h:ev l y=some (.int .i64 b)):BA P n l S (.binOp .sub t x y t') ty (.int .i64 (M7 (a-b))):=Cv f h rfl
def UC (f:ev l x=some (.int .i64 a)) (h:ev l y=some (.int .i64 b)):BA P n l S (.binOp .mul t x y t') ty (.int .i64 (M7 (a*b))):=DU f h rfl
def UD (f:ev l x=some (.int .i64 a)) (h:ev l y=some (.int .i64 b)) (E:b≠0):BA P n l S (.binOp .quo t x y t') ty (.int .i64 (M7 (a.tdiv b))):=NZ f h E rfl
def UE (f:ev l x=some (.int .i64 a)) (h:ev l y=some (.int .i64 b)) (E:b≠0):BA P n l S (.binOp .rem t x y t') ty (.int .i64 (a.tmod b)):=WC f h E rfl
def OZ (f:ev l x=some (.int .i64 a)):BA P n l S (.unOp .neg t x) ty (.int .i64 (M7 (0-a))):=by
 unfold BA;intro d w h pos after g E _;simp [execOp,E.ev f,Op.unary,Op.intArith,M7]
end
def Uq (b:Bool):Int:=if b then 1 else 0
def UF (k x y:Int):Int×Int:=if y=0 then (0,11) else if k=11 then (M7 (x.tdiv y),0) else (x.tmod y,0)
def GV (k x y:Int):Int×Int:=
 if k=8 then (M7 (x+y),0) else if k=9 then (M7 (x-y),0) else if k=10 then (M7 (x*y),0) else if k=11\/k=12 then UF k x y
 else if k=13 then (OY .and x y,0) else if k=14 then (OY .or x y,0) else if k=15 then (OY .xor x y,0)
 else if k=16 then (Uq (decide (x=y)),0) else if k=17 then (Uq (decide (x≠y)),0) else if k=18 then (Uq (decide (x<y)),0)
 else if k=19 then (Uq (decide (x<=y)),0) else if k=20 then (Uq (decide (y<x)),0) else if k=21 then (Uq (decide (y<=x)),0)
 else if k=22 then (Uq (decide (x≠0/\y≠0)),0) else if k=23 then (Uq (decide (x≠0\/y≠0)),0) else (0,7)
def GW (k x:Int):Int×Int:=if k=6 then (M7 (0-x),0) else if k=7 then (Uq (decide (x=0)),0) else (0,7)
def Dd (b:Bool) (w:wD):Calls prog 282 #[.bool b] w fun e w'=>e = .returned (.int .i64 (Uq b))/\w=w':=by
 cases b
 . refine Af func282 ntmps282 rfl rfl ?_;refine eK ?_;refine xR ?_;exact ⟨rfl,rfl⟩
 . refine Af func282 ntmps282 rfl rfl ?_;refine eK ?_;refine xR ?_;exact ⟨rfl,rfl⟩
def O0 (k x y:Int) (w:wD):Calls prog 283 #[.int .u8 k,.int .i64 x,.int .i64 y] w fun e w'=>e = .returned (.tuple #[.int .i64 (UF k x y).1,.int .i64 (UF k x y).2])/\w=w':=by
 refine Af func283 ntmps283 rfl rfl ?_
 focus
  refine eK ?_;refine AH rfl (fun f=>?_) (fun f=>?_);refine eK ?_;refine xT ?_;rotate_left;refine eK ?_;refine AH rfl (fun c2=>?_) (fun c2=>?_);refine eK ?_;refine C1 (UD rfl rfl Ag) ?_;refine eK ?_;refine xT ?_;rotate_left;refine eK ?_;refine C1 (UE rfl rfl Ag) ?_;refine eK ?_;refine xT ?_;rotate_left
 all_goals (refine ⟨?_,rfl⟩;unfold UF;simp [*])
def R2 (k x:Int) (w:wD):Calls prog 279 #[.int .u8 k,.int .i64 x] w fun e w'=>e = .returned (.tuple #[.int .i64 (GW k x).1,.int .i64 (GW k x).2])/\w=w':=by
 refine Af func279 ntmps279 rfl rfl ?_
 focus
  refine eK ?_;refine AH rfl (fun f=>?_) (fun f=>?_);refine eK ?_;refine C1 (OZ rfl) ?_;refine eK ?_;refine xT ?_;rotate_left;refine eK ?_;refine AH rfl (fun c2=>?_) (fun c2=>?_);refine eK ?_;refine cC rfl (Dd _ _) ?_;rintro _ h ⟨⟨⟩,rfl⟩;refine eK ?_;refine xT ?_;rotate_left;refine eK ?_;refine xT ?_;rotate_left
 all_goals (refine ⟨?_,rfl⟩;unfold GW;simp [*])
set_option maxHeartbeats 8000000 in
def WH (k x y:Int) (w:wD):Calls prog 280 #[.int .u8 k,.int .i64 x,.int .i64 y] w fun e w'=>e = .returned (.tuple #[.int .i64 (GV k x y).1,.int .i64 (GV k x y).2])/\w=w':=by
 refine Af func280 ntmps280 rfl rfl ?_
 focus
  refine eK ?_;refine AH rfl (fun X=>?_) (fun X=>?_);refine eK ?_;refine C1 (UA rfl rfl) ?_;refine eK ?_;refine xT ?_;rotate_left;refine eK ?_;refine AH rfl (fun c2=>?_) (fun c2=>?_);refine eK ?_;refine C1 (UB rfl rfl) ?_;refine eK ?_;refine xT ?_;rotate_left;refine eK ?_;refine AH rfl (fun c3=>?_) (fun c3=>?_);refine eK ?_;refine C1 (UC rfl rfl) ?_;refine eK ?_;refine xT ?_;rotate_left;refine eK ?_;refine AH rfl (fun c4=>?_) (fun c4=>?_);refine eK ?_;refine cC rfl (O0 _ _ _ _) ?_;rintro _ w5 ⟨⟨⟩,rfl⟩;refine eK ?_;refine xT ?_;rotate_left;refine eK ?_;refine AH rfl (fun Y=>?_) (fun Y=>?_);refine eK ?_;refine cC rfl (O0 _ _ _ _) ?_;rintro _ w7 ⟨⟨⟩,rfl⟩;refine eK ?_;refine xT ?_;rotate_left;refine eK ?_;refine AH rfl (fun Z=>?_) (fun Z=>?_);refine eK ?_;refine C1 (WE rfl rfl) ?_;refine eK ?_;refine xT ?_;rotate_left;refine eK ?_;refine AH rfl (fun c9=>?_) (fun c9=>?_);refine eK ?_;refine C1 (Ys rfl rfl) ?_;refine eK ?_;refine xT ?_;rotate_left;refine eK ?_;refine AH rfl (fun f=>?_) (fun f=>?_);refine eK ?_;refine C1 (WG rfl rfl) ?_;refine eK ?_;refine xT ?_;rotate_left;refine eK ?_;refine AH rfl (fun h=>?_) (fun h=>?_);refine eK ?_;refine cC rfl (Dd _ _) ?_;rintro _ aa ⟨⟨⟩,rfl⟩;refine eK ?_;refine xT ?_;rotate_left;refine eK ?_;refine AH rfl (fun E=>?_) (fun E=>?_);refine eK ?_;refine cC rfl (Dd _ _) ?_;rintro _ ab ⟨⟨⟩,rfl⟩;refine eK ?_;refine xT ?_;rotate_left;refine eK ?_;refine AH rfl (fun F=>?_) (fun F=>?_);refine eK ?_;refine cC rfl (Dd _ _) ?_;rintro _ ac ⟨⟨⟩,rfl⟩;refine eK ?_;refine xT ?_;rotate_left;refine eK ?_;refine AH rfl (fun L=>?_) (fun L=>?_);refine eK ?_;refine cC rfl (Dd _ _) ?_;rintro _ ad ⟨⟨⟩,rfl⟩;refine eK ?_;refine xT ?_;rotate_left;refine eK ?_;refine AH rfl (fun M=>?_) (fun M=>?_);refine eK ?_;refine cC rfl (Dd _ _) ?_;rintro _ ae ⟨⟨⟩,rfl⟩;refine eK ?_;refine xT ?_;rotate_left;refine eK ?_;refine AH rfl (fun c21=>?_) (fun c21=>?_);refine eK ?_;refine cC rfl (Dd _ _) ?_;rintro _ af ⟨⟨⟩,rfl⟩;refine eK ?_;refine xT ?_;rotate_left;refine eK ?_;refine AH rfl (fun N=>?_) (fun N=>?_);refine eK ?_;refine Cm rfl rfl rfl (fun O=>?_) (fun O=>?_);refine eK ?_;refine cC rfl (Dd _ _) ?_;rintro _ ag ⟨⟨⟩,rfl⟩;refine eK ?_;refine xT ?_;rotate_left;refine eK ?_;refine cC rfl (Dd _ _) ?_;rintro _ ah ⟨⟨⟩,rfl⟩;refine eK ?_;refine xT ?_;rotate_left;refine eK ?_;refine AH rfl (fun U=>?_) (fun U=>?_)
  refine eK ?_;refine Cm rfl rfl rfl (fun V=>?_) (fun V=>?_);refine eK ?_;refine cC rfl (Dd _ _) ?_;rintro _ ai ⟨⟨⟩,rfl⟩;refine eK ?_;refine xT ?_;rotate_left;refine eK ?_;refine cC rfl (Dd _ _) ?_;rintro _ aj ⟨⟨⟩,rfl⟩;refine eK ?_;refine xT ?_;rotate_left;refine eK ?_;refine xT ?_;rotate_left
 all_goals (refine ⟨?_,rfl⟩;unfold GV;simp [*])
structure VD where
 name:lB
 kind:Int
 len:Int
structure PD where
 name:lB
 params:List VD
 body:Nd
structure PG where
 vars:List VD
 procs:List PD
 main:Nd
def F2 (l:List VD) (s:lB):Option VD:=l.reverse.find? (fun v=>decide (v.name=s))
def Fm (l:List VD) (s:lB):Int:=if (F2 l s).isSome then 22 else 0
def O1 (l:List VD) (s:lB) (k:Int):Int:=match F2 l s with
 | none=>6
 | some v=>if v.kind=k then 0 else 7
def FI (ps:List PD) (s:lB):Option Nat:=ps.findIdx? (fun p=>decide (p.name=s))
def UG (ps:List PD) (s:lB) (m:Nat):Int:=match FI ps s with
 | none=>6
 | some i=>if m=((ps[i]?.map fun p=>p.params.length).getD 0) then 0 else 7
def Dq (ps:List PD) (v:List VD) (k:Int) (s:lB) (m:Nat):Int:=
 if k=2 then O1 v s 1 else if k=3 then O1 v s 2 else if k=4\/k=5\/k=44\/k=45 then O1 v s 3
 else if k=54\/k=55 then Fm v s else if k=50\/k=51 then UG ps s m else 0
def O2 (ps:List PD) (v:List VD) (s:lB) (m i:Nat) (x:lB):Int:=match F2 v x with
 | none=>6
 | some d=>match (FI ps s).bind (ps[·]?) with
  | none=>0
  | some p=>if m≠p.params.length then 0 else match p.params[i]? with
   | none=>0
   | some q=>if d.kind≠q.kind\/d.len≠q.len then 7 else 0
def DH (k:Int) (s:lB) (i:Nat) (v:List VD):List VD:=
 if k=54/\i=1 then v++[⟨s,1,0⟩] else if k=55/\i=0 then v++[⟨s,3,0⟩] else v
def QP (e:Int):Nat:=if e=0 then 0 else 1
def F3 (ps:List PD) (v:List VD) (s:lB) (m:Nat):Nat->List Nd->Nat
 | _,[]=>0
 | i,t::r=>QP (O2 ps v s m i t.name)+F3 ps v s m (i+1) r
mutual
def Nd.flt (ps:List PD) (v:List VD):Nd->Nat
 | .mk k _ s l=>QP (Dq ps v k s l.length)+if k=50\/k=51 then F3 ps v s l.length 0 l else EB ps v k s 0 l
def EB (ps:List PD) (v:List VD) (k:Int) (s:lB):Nat->List Nd->Nat
 | _,[]=>0
 | i,t::r=>t.flt ps (DH k s i v)+EB ps v k s (i+1) r
end
def CD:List VD->List VD->Nat
 | _,[]=>0
 | acc,v::r=>QP (Fm acc v.name)+CD (acc++[v]) r
def EC (ps:List PD):Nat->List PD->Nat
 | _,[]=>0
 | i,p::r=>(if (FI ps p.name).getD i<i then 1 else 0)+CD [] p.params+p.body.flt ps p.params+EC ps (i+1) r
def PG.flt (g:PG):Nat:=CD [] g.vars+EC g.procs 0 g.procs+g.main.flt g.procs g.vars
def Cz (c:UInt8):Bool:=decide (97<=c.toNat)&&decide (c.toNat<=122)
def Cw (c:UInt8):Bool:=decide (48<=c.toNat)&&decide (c.toNat<=57)
def Hr (c:UInt8):Bool:=decide (c.toNat=32)||decide (c.toNat=9)||decide (c.toNat=13)||decide (c.toNat=10)
def Cs (c:UInt8):Bool:=Cz c||Cw c
def O5 (c:UInt8):Bool:= !decide (c.toNat=10)
def GX (p:UInt8->Bool) (s:lB):Nat:=(s.takeWhile p).length
def keywords:List lB:=[[105,110,116],[97,114,114,97,121],[115,116,97,99,107],[112,114,111,99],[109,97,105,110],[112,117,115,104],[112,111,112],[114,101,97,100],[117,110,114,101,97,100],[119,114,105,116,101],[117,110,119,114,105,116,101],[99,97,108,108],[117,110,99,97,108,108],[105,102],[101,108,115,101],[102,105],[102,114,111,109],[108,111,111,112],[117,110,116,105,108],[108,111,99,97,108],[100,101,108,111,99,97,108],[116,111,112],[115,105,122,101]]
def E6 (s:lB):Bool:=keywords.contains s
def pairs:List lB:=[[58,61],[43,61],[45,61],[94,61],[61,61],[33,61],[60,61],[62,61],[38,38],[124,124]]
def singles:lB:=[43,45,42,47,37,38,124,94,33,61,60,62,40,41,123,125,91,93,59,44]
def Iu (s:lB):Nat:=
 if List.isPrefixOf [60,61,62] s then 3 else if pairs.contains (s.take 2) then 2 else if (s.head?.map (singles.contains ·)).getD false then 1 else 0
def AO:lB->Nat×Nat
 | []=>(3,0)
 | c::r=>if Cz c then (1,GX Cs (c::r)) else if Cw c then (2,GX Cw (c::r)) else if Hr c then (4,GX Hr (c::r)) else if c=35 then (5,GX O5 (c::r)) else (3,Iu (c::r))
def A9 (s:lB):Bool:= !s.isEmpty&&decide (s.length<=16)&&((AO s).1==1)&&((AO s).2==s.length) && !E6 s
def B3 (k:Int):Int:=
 if k=23 then 1 else if k=22 then 2 else if k=14 then 3 else if k=15 then 4 else if k=13 then 5
 else if 16<=k/\k<=21 then 6 else if k=8\/k=9 then 7 else if 10<=k/\k<=12 then 8 else if k=6\/k=7 then 9 else 0
def symbols:List lB:=[[],[],[],[],[],[],[45],[33],[43],[45],[42],[47],[37],[38],[124],[94],[61,61],[33,61],[60],[60,61],[62],[62,61],[38,38],[124,124],[],[],[],[],[],[],[],[],[],[],[],[],[],[],[],[],[43,61],[45,61],[94,61]]
def BQ (k:Int):lB:=symbols.getD k.toNat []
def Dk (k:Int):Bool:=decide (8<=k)&&decide (k<=23)
def named (n:Int) (s:lB):Bool:=n==0&&A9 s
def plain (n:Int) (s:lB):Bool:=n==0&&s.isEmpty
def Nd.isExpr:Nd->Bool
 | .mk k n s l=>
  if k=1 then decide (0<=n)&&s.isEmpty&&l.isEmpty
  else if k=2\/k=4\/k=5 then named n s&&l.isEmpty
  else if k=3 then named n s&&match l with|[x]=>x.isExpr|_=>false
  else if k=6\/k=7 then plain n s&&match l with|[x]=>x.isExpr|_=>false
  else if 8<=k/\k<=23 then plain n s&&match l with|[x,y]=>x.isExpr&&y.isExpr|_=>false
  else false
def Nd.isPlace (t:Nd):Bool:=(t.kind==2||t.kind==3)&&t.isExpr
def Nd.isVar (t:Nd):Bool:=t.kind==2&&t.isExpr
mutual
def Nd.isStmt:Nd->Bool
 | .mk k n s l=>
  if k=40\/k=41\/k=42\/k=56 then plain n s&&match l with|[x,y]=>x.isPlace&&y.isExpr|_=>false
  else if k=43 then plain n s&&match l with|[x,y]=>x.isPlace&&y.isPlace|_=>false
  else if k=44\/k=45 then named n s&&match l with|[x]=>x.isPlace|_=>false
  else if 46<=k/\k<=49 then plain n s&&match l with|[x]=>x.isPlace|_=>false
  else if k=50\/k=51 then named n s&&decide (l.length<=8)&&l.all Nd.isVar
  else if k=52\/k=53 then plain n s&&match l with|[x,y,z,u]=>x.isExpr&&y.isBlock&&z.isBlock&&u.isExpr|_=>false
  else if k=54 then named n s&&match l with|[x,y,z]=>x.isExpr&&y.isBlock&&z.isExpr|_=>false
  else if k=55 then named n s&&match l with|[x]=>x.isBlock|_=>false
  else false
def Nd.isBlock:Nd->Bool
 | .mk k n s l=>k==57&&plain n s&&DY l
def DY:List Nd->Bool
 | []=>true
 | t::r=>t.isStmt&&DY r
end
def Ei (a k:Int):Bool:=Dk a&&decide (B3 a<B3 k)
def ED (a k:Int):Bool:=Dk a&&decide (B3 a<=B3 k)
def wrap (s:lB) (b:Bool):lB:=if b then [40]++s++[41] else s
def Nd.text:Nd->lB
 | .mk k n s l=>
  if k=1 then Lib.itoa n else if k=2 then s
  else if k=3 then match l with|[x]=>s++[91]++x.text++[93]|_=>[]
  else if k=4 then [116,111,112,40]++s++[41] else if k=5 then [115,105,122,101,40]++s++[41]
  else if k=6\/k=7 then match l with|[x]=>BQ k++wrap x.text (Dk x.kind)|_=>[]
  else match l with
   | [x,y]=>wrap x.text (Ei x.kind k)++[32]++BQ k++[32]++wrap y.text (ED y.kind k)
   | _=>[]
inductive StmtSh:Nd->Prop where
 | upd {k:Int} {x y:Nd}:(k=40\/k=41\/k=42\/k=56)->x.isPlace=true->y.isExpr=true->StmtSh (.mk k 0 [] [x,y])
 | swap {x y:Nd}:x.isPlace=true->y.isPlace=true->StmtSh (.mk 43 0 [] [x,y])
 | stack {k:Int} {s:lB} {x:Nd}:(k=44\/k=45)->A9 s=true->x.isPlace=true->StmtSh (.mk k 0 s [x])
 | tape {k:Int} {x:Nd}:(k=46\/k=47\/k=48\/k=49)->x.isPlace=true->StmtSh (.mk k 0 [] [x])
 | call {k:Int} {s:lB} {l:List Nd}:(k=50\/k=51)->A9 s=true->l.length<=8->l.all Nd.isVar=true->StmtSh (.mk k 0 s l)
 | branch {k:Int} {x y z u:Nd}:(k=52\/k=53)->x.isExpr=true->y.isBlock=true->z.isBlock=true->u.isExpr=true->StmtSh (.mk k 0 [] [x,y,z,u])
 | local_ {s:lB} {x y z:Nd}:A9 s=true->x.isExpr=true->y.isBlock=true->z.isExpr=true->StmtSh (.mk 54 0 s [x,y,z])
 | lstack {s:lB} {x:Nd}:A9 s=true->x.isBlock=true->StmtSh (.mk 55 0 s [x])
def Ds {t:Nd} (h:t.isStmt=true):StmtSh t:=by
 obtain ⟨k,n,s,l⟩:=t;unfold Nd.isStmt at h;by_cases F:k=40\/k=41\/k=42\/k=56
 . rw [AU F] at h;simp only [bB,plain,beq_iff_eq,List.isEmpty_iff] at h;obtain ⟨⟨rfl,rfl⟩,f⟩:=h;split at f
   . simp only [bB] at f;exact .upd F f.1 f.2
   . cases f
 rw [AE F] at h;by_cases c2:k=43
 . rw [AU c2] at h;simp only [bB,plain,beq_iff_eq,List.isEmpty_iff] at h;obtain ⟨⟨rfl,rfl⟩,f⟩:=h;subst c2;split at f
   . simp only [bB] at f;exact .swap f.1 f.2
   . cases f
 rw [AE c2] at h;by_cases c3:k=44\/k=45
 . rw [AU c3] at h;simp only [bB,named,beq_iff_eq] at h;obtain ⟨⟨rfl,E⟩,f⟩:=h;split at f
   . exact .stack c3 E f
   . cases f
 rw [AE c3] at h;by_cases c4:46<=k/\k<=49
 . rw [AU c4] at h;simp only [bB,plain,beq_iff_eq,List.isEmpty_iff] at h;obtain ⟨⟨rfl,rfl⟩,f⟩:=h;split at f
   . exact .tape Ab f
   . cases f
 rw [AE c4] at h;by_cases c5:k=50\/k=51
 . rw [AU c5] at h;simp only [bB,named,beq_iff_eq,decide_eq_true_eq] at h;obtain ⟨⟨⟨rfl,E⟩,h1⟩,f⟩:=h;exact .call c5 E h1 f
 rw [AE c5] at h;by_cases L:k=52\/k=53
 . rw [AU L] at h;simp only [bB,plain,beq_iff_eq,List.isEmpty_iff] at h;obtain ⟨⟨rfl,rfl⟩,f⟩:=h;split at f
   . simp only [bB] at f;exact .branch L f.1.1.1 f.1.1.2 f.1.2 f.2
   . cases f
 rw [AE L] at h;by_cases M:k=54
 . rw [AU M] at h;simp only [bB,named,beq_iff_eq] at h;obtain ⟨⟨rfl,E⟩,f⟩:=h;subst M;split at f
   . simp only [bB] at f;exact .local_ E f.1.1 f.1.2 f.2
   . cases f
 rw [AE M] at h;by_cases N:k=55
 . rw [AU N] at h;simp only [bB,named,beq_iff_eq] at h;obtain ⟨⟨rfl,E⟩,f⟩:=h;subst N;split at f
   . exact .lstack E f
   . cases f
 rw [AE N] at h;cases h
def Ej {t:Nd} (h:StmtSh t):t.isStmt=true:=by
 cases h with
 | upd E f F=>unfold Nd.isStmt;rw [AU E];simp [plain,f,F]
 | swap f F=>unfold Nd.isStmt;simp [plain,f,F]
 | stack E L f=>rcases E with rfl|rfl<;>(unfold Nd.isStmt;simp [named,L,f])
 | tape E f=>rcases E with rfl|rfl|rfl|rfl<;>(unfold Nd.isStmt;simp [plain,f])
 | call E L N O=>rcases E with rfl|rfl<;>(unfold Nd.isStmt;simp only [named,L,O];simp [N])
 | branch E f F M U=>rcases E with rfl|rfl<;>(unfold Nd.isStmt;simp [plain,f,F,M,U])
 | local_ L f F M=>unfold Nd.isStmt;simp [named,L,f,F,M]
 | lstack L f=>unfold Nd.isStmt;simp [named,L,f]
def J3 {t:Nd} (h:t.isExpr=true):1<=t.kind/\t.kind<=23:=by
 obtain ⟨k,n,s,l⟩:=t;unfold Nd.isExpr at h;simp only [dM];by_cases f:k=1
 . omega
 rw [AE f] at h;by_cases c2:k=2\/k=4\/k=5
 . omega
 rw [AE c2] at h;by_cases c3:k=3
 . omega
 rw [AE c3] at h;by_cases c4:k=6\/k=7
 . omega
 rw [AE c4] at h;by_cases c5:8<=k/\k<=23
 . omega
 rw [AE c5] at h;cases h
def Bq {t:Nd} (h:t.isPlace=true):t.isExpr=true:=by
 simp only [Nd.isPlace,bB] at h;exact h.2
def IZ {t:Nd} (h:t.isVar=true):t.isExpr=true:=by
 simp only [Nd.isVar,bB] at h;exact h.2
def M8 {t:Nd} (h:t.isStmt=true):40<=t.kind/\t.kind<=56:=by
 cases Ds h<;>simp only [dM]<;>omega
def EU {t:Nd} (h:t.isBlock=true):t = .mk 57 0 [] t.kids/\DY t.kids=true:=by
 obtain ⟨k,n,s,l⟩:=t;unfold Nd.isBlock at h;simp only [bB,plain,beq_iff_eq,List.isEmpty_iff] at h;obtain ⟨⟨rfl,rfl,rfl⟩,f⟩:=h;exact ⟨rfl,f⟩
def rowStmt_iff : ∀ {l:List Nd},DY l=true ↔ ∀x∈l,x.isStmt=true
 | []=>by simp [DY]
 | t::r=>by simp [DY,rowStmt_iff (l:=r)]
structure Tok where
 kind:Int
 text:lB
 pos:Int
def Tok.zero:Tok:=⟨0,[],0⟩
structure PS where
 at_:Nat
 off:Int
 err:Int
section
variable (ts:List Tok) (n:Int)
def Ap (σ:PS):Tok:=if σ.err≠0\/σ.at_=ts.length then Tok.zero else ts.getD σ.at_ Tok.zero
def Bw (σ:PS) (off e:Int):PS:=if σ.err=0 then ⟨σ.at_,off,e⟩ else σ
def CU (σ:PS):PS:=if σ.at_<ts.length then Bw σ (ts.getD σ.at_ Tok.zero).pos 3 else Bw σ n 4
def Ao (σ:PS):PS:=⟨σ.at_+1,σ.off,σ.err⟩
def B7 (σ:PS) (t:lB):Bool:=decide ((Ap ts σ).text=t)
def DZ (σ:PS) (t:lB):PS:=if B7 ts σ t then Ao σ else σ
def AA (σ:PS) (t:lB):PS:=if B7 ts σ t then Ao σ else CU ts n σ
def A4 (σ:PS):lB×PS:=if A9 (Ap ts σ).text then ((Ap ts σ).text,Ao σ) else ([],CU ts n σ)
def Bs (s:lB):Nat:=s.foldl (fun a c=>a*10+(c.toNat-48)) 0
def B1 (least most:Int) (σ:PS):Int×PS:=
 if (Ap ts σ).kind=2 then
  if (Bs (Ap ts σ).text:Int)<=9223372036854775807/\least<=(Bs (Ap ts σ).text:Int)/\(Bs (Ap ts σ).text:Int)<=most then ((Bs (Ap ts σ).text:Int),Ao σ)
  else (0,Bw (Ao σ) (Ap ts σ).pos 2)
 else (0,CU ts n σ)
def IN (t:lB):Option Int:=[8,9,10,11,12,13,14,15,16,17,18,19,20,21,22,23].find? (fun k=>decide (BQ k=t))
mutual
def Bx:Nat->Int->PS->Nd×PS
 | 0,_,σ=>(.mk 0 0 [] [],σ)
 | k+1,lv,σ=>BW k lv (Bj k σ).1 (Bj k σ).2
def BW:Nat->Int->Nd->PS->Nd×PS
 | 0,_,x,σ=>(x,σ)
 | k+1,lv,x,σ=>match IN (Ap ts σ).text with
  | none=>(x,σ)
  | some op=>if B3 op<lv then (x,σ) else
   BW k lv (.mk op 0 [] [x,(Bx k (B3 op+1) (Ao σ)).1]) (Bx k (B3 op+1) (Ao σ)).2
def Bj:Nat->PS->Nd×PS
 | 0,σ=>(.mk 0 0 [] [],σ)
 | k+1,σ=>
  if B7 ts σ [45] then (.mk 6 0 [] [(Bj k (Ao σ)).1],(Bj k (Ao σ)).2)
  else if B7 ts σ [33] then (.mk 7 0 [] [(Bj k (Ao σ)).1],(Bj k (Ao σ)).2)
  else Bp k σ
def Bp:Nat->PS->Nd×PS
 | 0,σ=>(.mk 0 0 [] [],σ)
 | k+1,σ=>
  if (Ap ts σ).kind=2 then (.mk 1 (B1 ts n 0 9223372036854775807 σ).1 [] [],(B1 ts n 0 9223372036854775807 σ).2)
  else if B7 ts σ [116,111,112] then (.mk 4 0 (A4 ts n (AA ts n (Ao σ) [40])).1 [],AA ts n (A4 ts n (AA ts n (Ao σ) [40])).2 [41])
  else if B7 ts σ [115,105,122,101] then (.mk 5 0 (A4 ts n (AA ts n (Ao σ) [40])).1 [],AA ts n (A4 ts n (AA ts n (Ao σ) [40])).2 [41])
  else if B7 ts σ [40] then ((Bx k 1 (Ao σ)).1,AA ts n (Bx k 1 (Ao σ)).2 [41])
  else BF k σ
def BF:Nat->PS->Nd×PS
 | 0,σ=>(.mk 0 0 [] [],σ)
 | k+1,σ=>
  if B7 ts (A4 ts n σ).2 [91] then (.mk 3 0 (A4 ts n σ).1 [(Bx k 1 (Ao (A4 ts n σ).2)).1],AA ts n (Bx k 1 (Ao (A4 ts n σ).2)).2 [93])
  else (.mk 2 0 (A4 ts n σ).1 [],(A4 ts n σ).2)
end
def DB (σ:PS):Nd×PS:=(.mk 2 0 (A4 ts n σ).1 [],(A4 ts n σ).2)
def Cx:Nat->List Nd->PS->List Nd×PS
 | 0,acc,σ=>(acc,σ)
 | k+1,acc,σ=>
  if B7 ts σ [44] then
   Cx k (acc++[(DB ts n (if acc.length=8/\A9 (Ap ts (Ao σ)).text=true then Bw (Ao σ) (Ap ts (Ao σ)).pos 5 else Ao σ)).1])
    (DB ts n (if acc.length=8/\A9 (Ap ts (Ao σ)).text=true then Bw (Ao σ) (Ap ts (Ao σ)).pos 5 else Ao σ)).2
  else (acc,σ)
def Fq (k:Nat) (kind:Int) (σ:PS):Nd×PS:=
 let m:=A4 ts n (Ao σ)
 let σ1:=AA ts n m.2 [40]
 if B7 ts σ1 [41] then (.mk kind 0 m.1 [],Ao σ1)
 else
  let a:=DB ts n σ1
  let r:=Cx ts n k [a.1] a.2
  (.mk kind 0 m.1 r.1,AA ts n r.2 [41])
def CE (t:lB):Int:=if t=[43,61] then 40 else if t=[45,61] then 41 else if t=[94,61] then 42 else if t=[58,61] then 56 else 0
def Dt (k:Nat) (σ:PS):Nd×PS:=
 let p:=BF ts n k σ
 if B7 ts p.2 [60,61,62] then (.mk 43 0 [] [p.1,(BF ts n k (Ao p.2)).1],(BF ts n k (Ao p.2)).2)
 else if CE (Ap ts p.2).text=0 then (.mk 0 0 [] [],CU ts n p.2)
 else (.mk (CE (Ap ts p.2).text) 0 [] [p.1,(Bx ts n k 1 (Ao p.2)).1],(Bx ts n k 1 (Ao p.2)).2)
def Fo (k:Nat) (kind:Int) (σ:PS):Nd×PS:=
 let p:=BF ts n k (Ao σ)
 let m:=A4 ts n (AA ts n p.2 [44])
 (.mk kind 0 m.1 [p.1],m.2)
def F4 (k:Nat) (kind:Int) (σ:PS):Nd×PS:=(.mk kind 0 [] [(BF ts n k (Ao σ)).1],(BF ts n k (Ao σ)).2)
mutual
def Bt:Nat->PS->Nd×PS
 | 0,σ=>(.mk 0 0 [] [],σ)
 | k+1,σ=>
  if (Ap ts σ).text=[112,117,115,104] then Fo ts n k 44 σ else if (Ap ts σ).text=[112,111,112] then Fo ts n k 45 σ
  else if (Ap ts σ).text=[114,101,97,100] then F4 ts n k 46 σ else if (Ap ts σ).text=[117,110,114,101,97,100] then F4 ts n k 47 σ else if (Ap ts σ).text=[119,114,105,116,101] then F4 ts n k 48 σ else if (Ap ts σ).text=[117,110,119,114,105,116,101] then F4 ts n k 49 σ
  else if (Ap ts σ).text=[99,97,108,108] then Fq ts n k 50 σ else if (Ap ts σ).text=[117,110,99,97,108,108] then Fq ts n k 51 σ
  else if (Ap ts σ).text=[105,102] then BK k 52 [101,108,115,101] [102,105] σ else if (Ap ts σ).text=[102,114,111,109] then BK k 53 [108,111,111,112] [117,110,116,105,108] σ
  else if (Ap ts σ).text=[108,111,99,97,108] then Du k σ else Dt ts n k σ
def BK:Nat->Int->lB->lB->PS->Nd×PS
 | 0,_,_,_,σ=>(.mk 0 0 [] [],σ)
 | k+1,kind,mid,last,σ=>
  let a:=Bx ts n k 1 (Ao σ)
  let x:=Ct k a.2
  let y:=Ct k (AA ts n x.2 mid)
  let e:=Bx ts n k 1 (AA ts n y.2 last)
  (.mk kind 0 [] [a.1,x.1,y.1,e.1],e.2)
def Du:Nat->PS->Nd×PS
 | 0,σ=>(.mk 0 0 [] [],σ)
 | k+1,σ=>
  if B7 ts (Ao σ) [115,116,97,99,107] then
   let m:=A4 ts n (Ao (Ao σ))
   let x:=Ct k m.2
   (.mk 55 0 m.1 [x.1],x.2)
  else
   let m:=A4 ts n (Ao σ)
   let a:=Bx ts n k 1 (AA ts n m.2 [61])
   let x:=Ct k a.2
   let e:=Bx ts n k 1 (AA ts n x.2 [100,101,108,111,99,97,108])
   (.mk 54 0 m.1 [a.1,x.1,e.1],e.2)
def Ct:Nat->PS->Nd×PS
 | 0,σ=>(.mk 57 0 [] [],σ)
 | k+1,σ=>let r:=CA k [] (AA ts n σ [123]);(.mk 57 0 [] r.1,r.2)
def CA:Nat->List Nd->PS->List Nd×PS
 | 0,acc,σ=>(acc,σ)
 | k+1,acc,σ=>
  if σ.err≠0 then (acc,σ)
  else if B7 ts σ [125] then (acc,Ao σ)
  else CA k (acc++[(Bt k σ).1]) (AA ts n (Bt k σ).2 [59])
end
def Bu (σ:PS):VD×PS:=
 if B7 ts σ [105,110,116] then (⟨(A4 ts n (Ao σ)).1,1,0⟩,(A4 ts n (Ao σ)).2)
 else if B7 ts σ [115,116,97,99,107] then (⟨(A4 ts n (Ao σ)).1,3,0⟩,(A4 ts n (Ao σ)).2)
 else if B7 ts σ [97,114,114,97,121] then
  let m:=A4 ts n (Ao σ)
  let r:=B1 ts n 1 16 (AA ts n m.2 [91])
  (⟨m.1,2,r.1⟩,AA ts n r.2 [93])
 else (⟨[],0,0⟩,CU ts n σ)
def Cd (σ:PS):Bool:=B7 ts σ [105,110,116]||B7 ts σ [97,114,114,97,121]||B7 ts σ [115,116,97,99,107]
def Bo:Nat->List VD->PS->List VD×PS
 | 0,acc,σ=>(acc,σ)
 | k+1,acc,σ=>
  if B7 ts σ [44] then
   let σ1:=if acc.length=8/\Cd ts (Ao σ)=true then Bw (Ao σ) (Ap ts (Ao σ)).pos 5 else Ao σ
   Bo k (acc++[(Bu ts n σ1).1]) (Bu ts n σ1).2
  else (acc,σ)
end
mutual
def Nd.depth:Nd->Int
 | .mk _ _ _ l=>AT l+1
def AT:List Nd->Int
 | []=>0
 | t::r=>max t.depth (AT r)
end
section
variable (ts:List Tok) (n:Int)
def D8 (x:Nd) (off:Int) (σ:PS):PS:=if σ.err≠0 then σ else if 80<x.depth then Bw σ off 19 else if 2000<x.size then Bw σ off 5 else σ
def EQ (k:Nat) (σ:PS):Nd×PS:=((Ct ts n k σ).1,D8 (Ct ts n k σ).1 (Ap ts σ).pos (Ct ts n k σ).2)
def De (k:Nat) (σ:PS):PD×PS:=
 let m:=A4 ts n (AA ts n σ [112,114,111,99])
 let σ1:=AA ts n m.2 [40]
 let q:=if B7 ts σ1 [41] then ([],Ao σ1) else
  let d:=Bu ts n σ1
  let r:=Bo ts n k [d.1] d.2
  (r.1,AA ts n r.2 [41])
 let b:=EQ ts n k q.2
 (⟨m.1,q.1,b.1⟩,b.2)
def Dl:Nat->List VD->PS->List VD×PS
 | 0,acc,σ=>(acc,σ)
 | k+1,acc,σ=>
  if Cd ts σ then
   let σ1:=if acc.length=32 then Bw σ (Ap ts σ).pos 5 else σ
   Dl k (acc++[(Bu ts n σ1).1]) (Bu ts n σ1).2
  else (acc,σ)
def B5:Nat->List PD->PS->List PD×PS
 | 0,acc,σ=>(acc,σ)
 | k+1,acc,σ=>
  if B7 ts σ [112,114,111,99] then
   let σ1:=if acc.length=64 then Bw σ (Ap ts σ).pos 5 else σ
   B5 k (acc++[(De ts n k σ1).1]) (De ts n k σ1).2
  else (acc,σ)
def BH (k:Nat) (σ:PS):PG×PS:=
 let v:=Dl ts n k [] σ
 let p:=B5 ts n k [] v.2
 let b:=EQ ts n k (AA ts n p.2 [109,97,105,110])
 (⟨v.1,p.1,b.1⟩,b.2)
def DK (σ:PS):PS:=if σ.at_<ts.length then CU ts n σ else σ
end
def EF:Nat->lB->Nat->List Tok->List Tok×Option Nat
 | 0,_,_,acc=>(acc,none)
 | k+1,s,p,acc=>if p<s.length then
  if (AO (s.drop p)).2=0 then ([],some p)
  else EF k s (p+(AO (s.drop p)).2) (acc++[⟨((AO (s.drop p)).1:Nat),(s.drop p).take (AO (s.drop p)).2,(p:Int)⟩])
  else (acc,none)
def Gp (s:lB):List Tok×Int×Int:=
 if 65536<s.length then ([],0,5) else match EF (s.length+1) s 0 [] with
  | (l,none)=>(l,0,0)
  | (_,some p)=>([],(p:Int),3)
def Ek (l:List Tok):List Tok:=l.filter fun t=>decide (t.kind≠4)&&decide (t.kind≠5)
def Cn (s:lB):List Tok×PS:=(Ek (Gp s).1,⟨0,(Gp s).2.1,(Gp s).2.2⟩)
def Gq (s:lB):Nat:=4*s.length+20
def BI:Nd:=.mk 0 0 [] []
def Bf (s:lB):PG×Int×Int:=
 let ts:=(Cn s).1
 let r:=BH ts s.length (Gq s) (Cn s).2
 let σ:=DK ts s.length r.2
 if σ.err≠0 then (⟨[],[],BI⟩,σ.off,σ.err) else (r.1,0,0)
def EG (k:Int):Int:=
 if k=40 then 41 else if k=41 then 40 else if k=44 then 45 else if k=45 then 44 else if k=46 then 47 else if k=47 then 46
 else if k=48 then 49 else if k=49 then 48 else if k=50 then 51 else if k=51 then 50 else k
def Gr (l:List Nd):List Nd:=(l.set 0 (l.getD (l.length-1) (.mk 0 0 [] []))).set (l.length-1) (l.getD 0 (.mk 0 0 [] []))
mutual
def Nd.inv (q:Bool):Nd->Nd
 | .mk k n s l=>
  if k=57 then .mk k n s (Co q l).reverse
  else if k=52\/k=53\/k=54 then .mk k n s (Gr (DL q l))
  else if k=50\/k=51 then .mk (if q then k else EG k) n s (DL q l)
  else .mk (EG k) n s (DL q l)
def Co (q:Bool):List Nd->List Nd
 | []=>[]
 | t::r=>t.inv q::Co q r
def DL (q:Bool):List Nd->List Nd
 | []=>[]
 | t::r=>(if t.kind=57 then t.inv q else t)::DL q r
end
def Ly (q:Bool) : ∀l:List Nd,(Co q l).length=l.length
 | []=>rfl
 | t::r=>by simp only [Co,aV,Ly q r]
def Lz (q:Bool) : ∀l m:List Nd,Co q (l++m)=Co q l++Co q m
 | [],m=>rfl
 | t::r,m=>by simp only [Co,List.cons_append,Lz q r m]
def LA (q:Bool) : ∀l:List Nd,Co q l.reverse=(Co q l).reverse
 | []=>rfl
 | t::r=>by simp only [Co,List.reverse_cons,Lz,LA q r]
def DE (q:Bool) {t:Nd} (h:t.isExpr=true):(if t.kind=57 then t.inv q else t)=t:=by
 have:=J3 h;rw [AE Ab]
def GY (q:Bool) {t:Nd} (h:t.isBlock=true):(if t.kind=57 then t.inv q else t)=t.inv q:=by
 obtain ⟨e,-⟩:=EU h;rw [e];rfl
def M9 (q:Bool) : ∀l:List Nd,l.all Nd.isVar=true->DL q l=l
 | [],_=>rfl
 | t::r,h=>by
  simp only [List.all_cons,bB] at h;simp only [DL,DE q (IZ h.1),M9 q r h.2]
def Yt (x y z:Nd):Gr [x,y,z]=[z,y,x]:=rfl
def Yu (x y z u:Nd):Gr [x,y,z,u]=[u,y,z,x]:=rfl
section
variable (q:Bool)
def R3 {k:Int} {x y:Nd} (hk:k=40\/k=41\/k=42\/k=56) (hx:x.isExpr=true) (hy:y.isExpr=true):(Nd.mk k 0 [] [x,y]).inv q = .mk (EG k) 0 [] [x,y]:=by
 conv=>lhs;unfold Nd.inv
 rw [AE Ab,AE Ab,AE Ab];simp only [DL,DE q hx,DE q hy]
def O6 {x y:Nd} (hx:x.isExpr=true) (hy:y.isExpr=true):(Nd.mk 43 0 [] [x,y]).inv q = .mk 43 0 [] [x,y]:=by
 conv=>lhs;unfold Nd.inv
 rw [AE Ab,AE Ab,AE Ab];simp only [DL,DE q hx,DE q hy];rfl
def Lh {k:Int} {s:lB} {x:Nd} (hk:44<=k/\k<=49) (hx:x.isExpr=true):(Nd.mk k 0 s [x]).inv q = .mk (EG k) 0 s [x]:=by
 conv=>lhs;unfold Nd.inv
 rw [AE Ab,AE Ab,AE Ab];simp only [DL,DE q hx]
def O7 {k:Int} {s:lB} {l:List Nd} (hk:k=50\/k=51) (hl:l.all Nd.isVar=true):(Nd.mk k 0 s l).inv q = .mk (if q then k else EG k) 0 s l:=by
 conv=>lhs;unfold Nd.inv
 rw [AE Ab,AE Ab,AU hk,M9 q l hl]
def LB {k:Int} {x y z u:Nd} (hk:k=52\/k=53) (hx:x.isExpr=true) (hy:y.isBlock=true) (hz:z.isBlock=true) (hu:u.isExpr=true):(Nd.mk k 0 [] [x,y,z,u]).inv q = .mk k 0 [] [u,y.inv q,z.inv q,x]:=by
 conv=>lhs;unfold Nd.inv
 rw [AE Ab,AU Ab];simp only [DL,DE q hx,DE q hu,GY q hy,GY q hz,Yu]
def Na {s:lB} {x y z:Nd} (hx:x.isExpr=true) (hy:y.isBlock=true) (hz:z.isExpr=true):(Nd.mk 54 0 s [x,y,z]).inv q = .mk 54 0 s [z,y.inv q,x]:=by
 conv=>lhs;unfold Nd.inv
 rw [AE Ab,AU Ab];simp only [DL,DE q hx,DE q hz,GY q hy,Yt]
def LC {s:lB} {x:Nd} (hx:x.isBlock=true):(Nd.mk 55 0 s [x]).inv q = .mk 55 0 s [x.inv q]:=by
 conv=>lhs;unfold Nd.inv
 rw [AE Ab,AE Ab,AE Ab];simp only [DL,GY q hx];rfl
def Fz (l:List Nd):(Nd.mk 57 0 [] l).inv q = .mk 57 0 [] (Co q l).reverse:=by
 conv=>lhs;unfold Nd.inv
 rw [AU rfl]
end
def Iv {k:Int}:EG (EG k)=k:=by
 unfold EG;by_cases h1:k=40;· subst h1;rfl
 by_cases h:k=41;· subst h;rfl
 by_cases E:k=44;· subst E;rfl
 by_cases F:k=45;· subst F;rfl
 by_cases L:k=46;· subst L;rfl
 by_cases M:k=47;· subst M;rfl
 by_cases N:k=48;· subst N;rfl
 by_cases O:k=49;· subst O;rfl
 by_cases U:k=50;· subst U;rfl
 by_cases f:k=51;· subst f;rfl
 simp only [h1,h,E,F,L,M,N,O,U,f,if_false]
def O8 {k:Int} (h:k=40\/k=41\/k=42\/k=56):EG k=40\/EG k=41\/EG k=42\/EG k=56:=by rcases h with rfl|rfl|rfl|rfl<;>decide
def S4 {k:Int} (h:k=50\/k=51):EG k=50\/EG k=51:=by rcases h with rfl|rfl<;>decide
def LE {k:Int} (h:k=44\/k=45):EG k=44\/EG k=45:=by rcases h with rfl|rfl<;>decide
def Nb {k:Int} (h:k=46\/k=47\/k=48\/k=49):EG k=46\/EG k=47\/EG k=48\/EG k=49:=by rcases h with rfl|rfl|rfl|rfl<;>decide
structure InvOk (q:Bool) (t:Nd):Prop where
 st:t.isStmt=true->(t.inv q).isStmt=true
 bl:t.isBlock=true->(t.inv q).isBlock=true
 back:(t.inv q).inv q=t
 size:(t.inv q).size=t.size
 depth:(t.inv q).depth=t.depth
 wf:t.wf->(t.inv q).wf
def KA : ∀l m:List Nd,Am (l++m)=Am l+Am m
 | [],m=>by simp [Am]
 | t::r,m=>by simp only [Am,List.cons_append,KA r m];omega
def KB : ∀l:List Nd,Am l.reverse=Am l
 | []=>rfl
 | t::r=>by simp only [List.reverse_cons,KA,KB r,Am];omega
def GZ : ∀l:List Nd,0<=AT l
 | []=>by simp [AT]
 | t::r=>by have:=GZ r;simp only [AT];omega
def Jl : ∀l m:List Nd,AT (l++m)=max (AT l) (AT m)
 | [],m=>by have:=GZ m;simp only [AT,List.nil_append];omega
 | t::r,m=>by simp only [AT,List.cons_append,Jl r m];omega
def Jm : ∀l:List Nd,AT l.reverse=AT l
 | []=>rfl
 | t::r=>by have:=GZ r;simp only [List.reverse_cons,Jl,Jm r,AT];omega
def rowWf_iff : ∀ {l:List Nd},A3 l ↔ ∀x∈l,x.wf
 | []=>by simp [A3]
 | t::r=>by simp [A3,rowWf_iff (l:=r)]
def Jn : ∀ {l:List Nd} {x:Nd},x∈l->x.size<=Am l
 | t::r,x,h=>by
  simp only [Am];rcases bR.1 h with rfl|h
  . omega
  . have:=Jn h;omega
def UH (q:Bool) : ∀l:List Nd,(∀t∈l,InvOk q t)->(∀t∈l,t.isStmt=true)->(∀x∈Co q l,x.isStmt=true)/\Co q (Co q l)=l/\Am (Co q l)=Am l/\AT (Co q l)=AT l/\(A3 l->A3 (Co q l))
 | [],_,_=>⟨by simp [Co],rfl,rfl,rfl,fun h=>h⟩
 | t::r,h,L=>by
  have E:=h t Bd;obtain ⟨M,i2,i3,i4,i5⟩:=UH q r (fun x f=>h x (by simp [f])) (fun x f=>L x (by simp [f]));refine ⟨fun x f=>?_,?_,?_,?_,fun F=>?_⟩
  . simp only [Co,bR] at f;rcases f with rfl|f
    . exact E.st (L t Bd)
    . exact M x f
  . simp only [Co,E.back,i2]
  . simp only [Co,Am,E.size,i3]
  . simp only [Co,AT,E.depth,i4]
  . simp only [Co,A3] at F ⊢;exact ⟨E.wf F.1,i5 F.2⟩
def I0 {k:Int} (f:0<=k) (h1:k<=255):0<=EG k/\EG k<=255:=by
 unfold EG
 repeat' split
 all_goals omega
def Yv (q:Bool) (N:Nat) : ∀t:Nd,t.size<N->t.isStmt=true\/t.isBlock=true->InvOk q t:=by
 induction N with
 | zero=>intro t h;omega
 | succ N ih=>
  intro t hN h;by_cases O:t.isStmt=true
  . have ac : ∀ {u:Nd},u.isStmt=true -> ¬u.isBlock=true:=fun {u} Y hb=>by
     have h1:=M8 Y;obtain ⟨e,-⟩:=EU hb;rw [e] at h1;simp only [dM] at h1;omega
    have mk : ∀u v:Nd,u.isStmt=true->u.inv q=v->v.isStmt=true->v.inv q=u->v.size=u.size->v.depth=u.depth->(u.wf->v.wf)->InvOk q u:=fun u v Y e h1 h2 h3 h4 h5=>⟨fun _=>by rw [e];exact h1,fun hb=>absurd hb (ac Y),by rw [e,h2],by rw [e,h3],by rw [e,h4],by rw [e];exact h5⟩
    cases Ds O with
    | @upd k x y F f L=>
     have V:=Bq f;refine mk _ _ O (R3 q F V L) (Ej (.upd (O8 F) f L)) (by rw [R3 q (O8 F) V L,Iv]) rfl rfl (fun E=>?_);have:=I0 E.1 E.2.1;exact ⟨this.1,this.2,E.2.2⟩
    | @swap x y f L=>
     exact mk _ _ O (O6 q (Bq f) (Bq L)) O (O6 q (Bq f) (Bq L)) rfl rfl (fun E=>E)
    | @stack k s x F Z f=>
     have V:=Bq f;refine mk _ _ O (Lh q Ab V) (Ej (.stack (LE F) Z f)) (by rw [Lh q (by have:=LE F;omega) V,Iv]) rfl rfl (fun E=>?_);have:=I0 E.1 E.2.1;exact ⟨this.1,this.2,E.2.2⟩
    | @tape k x F f=>
     have V:=Bq f;refine mk _ _ O (Lh q Ab V) (Ej (.tape (Nb F) f)) (by rw [Lh q (by have:=Nb F;omega) V,Iv]) rfl rfl (fun E=>?_);have:=I0 E.1 E.2.1;exact ⟨this.1,this.2,E.2.2⟩
    | @call k s l F Z hl ha=>
     have aa:(if q then k else EG k)=50\/(if q then k else EG k)=51:=by
      cases q
      . exact S4 F
      . exact F
     refine mk _ _ O (O7 q F ha) (Ej (.call aa Z hl ha)) ?_ rfl rfl (fun E=>?_)
     . rw [O7 q aa ha];cases q
       . simp only [dH,if_false,Iv]
       . simp
     . exact ⟨Ab,Ab,E.2.2⟩
    | @branch k x y z u F f L X Y=>
     simp only [dL,Am] at hN;have M:=ih y Ab (bF L);have iz:=ih z Ab (bF X);refine mk _ _ O (LB q F f L X Y) (Ej (.branch F Y (M.bl L) (iz.bl X) f)) (by rw [LB q F Y (M.bl L) (iz.bl X) f,M.back,iz.back]) ?_ ?_ (fun E=>?_)
     . simp only [dL,Am,M.size,iz.size];omega
     . simp only [Nd.depth,AT,M.depth,iz.depth];omega
     . obtain ⟨w1,w2,w3,w4,w5,w6,U⟩:=E;exact ⟨w1,w2,w3,w4,w5,w6,U.2.2.2.1,M.wf U.2.1,iz.wf U.2.2.1,U.1,trivial⟩
    | @local_ s x y z Z f L X=>
     simp only [dL,Am] at hN;have M:=ih y Ab (bF L);refine mk _ _ O (Na q f L X) (Ej (.local_ Z X (M.bl L) f)) (by rw [Na q X (M.bl L) f,M.back]) ?_ ?_ (fun E=>?_)
     . simp only [dL,Am,M.size];omega
     . simp only [Nd.depth,AT,M.depth];omega
     . obtain ⟨w1,w2,w3,w4,w5,w6,U⟩:=E;exact ⟨w1,w2,w3,w4,w5,w6,U.2.2.1,M.wf U.2.1,U.1,trivial⟩
    | @lstack s x Z f=>
     simp only [dL,Am] at hN;have ix:=ih x Ab (bF f);refine mk _ _ O (LC q f) (Ej (.lstack Z (ix.bl f))) (by rw [LC q (ix.bl f),ix.back]) ?_ ?_ (fun E=>?_)
     . simp only [dL,Am,ix.size]
     . simp only [Nd.depth,AT,ix.depth]
     . obtain ⟨w1,w2,w3,w4,w5,w6,U⟩:=E;exact ⟨w1,w2,w3,w4,w5,w6,ix.wf U.1,trivial⟩
  . have hb:t.isBlock=true:=h.resolve_left O;obtain ⟨e,hr⟩:=EU hb;obtain ⟨k,n,s,l⟩:=t;simp only [dN,Nd.mk.injEq,and_true] at e;obtain ⟨rfl,rfl,rfl⟩:=e;simp only [dN] at hr;simp only [dL] at hN;have ab:=rowStmt_iff.1 hr;obtain ⟨i1,i2,i3,i4,i5⟩:=UH q l (fun t ht=>ih t (by have:=Jn ht;omega) (bC (ab t ht))) ab;refine ⟨fun h=>absurd h O,fun _=>?_,?_,?_,?_,fun E=>?_⟩
    . rw [Fz];unfold Nd.isBlock;rw [rowStmt_iff.2 (fun x f=>i1 x (List.mem_reverse.1 f))];rfl
    . rw [Fz,Fz,LA,List.reverse_reverse,i2]
    . rw [Fz];simp only [dL,KB,i3]
    . rw [Fz];simp only [Nd.depth,Jm,i4]
    . rw [Fz];obtain ⟨w1,w2,w3,w4,w5,w6,U⟩:=E;exact ⟨w1,w2,w3,w4,w5,by rw [List.length_reverse,Ly];exact w6,rowWf_iff.2 (fun x f=>rowWf_iff.1 (i5 U) x (List.mem_reverse.1 f))⟩
structure Shape (α:Type) where
 sz:Nat
 rep:wD->(nP)->α->lV->Prop
 len : ∀ {w S x cs},rep w S x cs->cs.length=sz
 one : ∀ {w S x cs},rep w S x cs->cs.all eL=true
 mono : ∀ {w w':wD} {S S' x cs},rep w S x cs->(∀b,S b->S' b)->(∀b o v,S b->w.cell? ⟨b,o,none⟩=some v->w'.cell? ⟨b,o,none⟩=some v)->rep w' S' x cs
 lt : ∀ {w S x cs},rep w S x cs->rep w (fun b=>S b/\b<w.heap.size) x cs
structure OwnL {α:Type} (sh:Shape α) (w:wD) (B:Nat) (e:TypeId) (v:Value) (xs:List α):Prop where
 ex : ∃css:List lV,Own w B e sh.sz v xs.length css.flatten/\css.length=xs.length /\ ∀(i:Nat) (x:α) (cs:lV),xs[i]? = some x->css[i]? = some cs->sh.rep w (fun b=>B<=b/\v.ownBlock≠some b) x cs
def OwnL.nil {α:Type} {sh:Shape α} {w:wD} {B e:Nat}:OwnL sh w B e (.slice none 0 0) []:=⟨⟨[],Own.nil,rfl,Bd⟩⟩
def Own.ge {w:wD} {b e sz n:Nat} {v:Value} {cs:lV} (h:Own w b e sz v n cs) {k:Nat} (f:v.ownBlock=some k):b<=k:=(h.blk f).1
def OwnL.ge {α:Type} {sh:Shape α} {w:wD} {B e:Nat} {v:Value} {xs:List α} (h:OwnL sh w B e v xs) {k:Nat} (f:v.ownBlock=some k):B<=k:=by
 obtain ⟨E,h1,-⟩:=h.ex;exact h1.ge f
def OwnL.ext {α:Type} {sh:Shape α} {w w':wD} {B e:Nat} {v:Value} {xs:List α} (h:OwnL sh w B e v xs) (x:Ext w w'):OwnL sh w' B e v xs:=by
 obtain ⟨f,h1,E,F⟩:=h.ex;exact ⟨f,h1.ext x,E,fun i y cs L M=>sh.mono (F i y cs L M) aFh (fun b o u _ N=>x.keep N)⟩
instance {α:Type} {sh:Shape α} {w w':wD} {B e:Nat} {v:Value} {xs:List α}:LfE w w' (OwnL sh w B e v xs) (OwnL sh w' B e v xs):=⟨fun x h=>Bk.OwnL.ext h x⟩
def OwnL.fr {α:Type} {sh:Shape α} {S:nP} {w w':wD} {B e:Nat} {v:Value} {xs:List α} (h:OwnL sh w B e v xs) (x:Fr S w w') (F : ∀k,S k->k<B):OwnL sh w' B e v xs:=by
 obtain ⟨f,h1,L,M⟩:=h.ex;exact ⟨f,h1.fr x (fun k N E=>by have:=h1.ge N;have:=F k E;omega),L,fun i y cs O U=>sh.mono (M i y cs O U) aFh (fun b o u X V=>x.keep (fun E=>by have:=F b E;omega) V)⟩
instance {α:Type} {sh:Shape α} {S:nP} {w w':wD} {B e:Nat} {v:Value} {xs:List α}:LfF S w w' (OwnL sh w B e v xs) (∀k,S k->k<B) (OwnL sh w' B e v xs):=⟨fun x s h=>Bk.OwnL.fr h x s⟩
def FJ {α:Type} {f:List (List α)} {n:Nat} (h : ∀cs∈f,cs.length=n):f.flatten.length=f.length*n:=by
 induction f with
 | nil=>simp
 | cons c r E=>
  simp only [cI,aU,aV,E (fun x F=>h x (List.mem_cons_of_mem _ F)),h c List.mem_cons_self,Nat.add_mul];omega
def Zl {α:Type} (sh:Shape α) (w:wD) (B:Nat) (e:TypeId) (xs:List α):Option Value->wD->Prop
 | some v',w'=> ∃g cap,v' = .slice (some ⟨g,0,none⟩) xs.length cap/\OwnL sh w' B e v' xs/\Fr (B <= ·) w w'
 | none,_=>False
section
variable {P:Program} {n:Nat} {l:Sl} {w:wD} {tab:Tab} {zt:Ey} {ty:TypeId} {α:Type} {sh:Shape α}
def Jo {x y:Operand} {t e sz1 B cap:Nat} {sE:Sk} {zs:lV} {v:Value} {xs:List α} {cs:lV} {z:α} {p:Addr} (T:TabOk P tab) (Z:Cy P zt) (ht:AD tab t=some (.slice e,sz1)) (hE:AD tab e=some (sE,sh.sz)) (hz:CT zt e=some zs) (hzl:zs.length=sh.sz)
 (hby:Do P e=true) (hsz:bM 0 sh.sz=true) (hx:ev l x=some v) (hy:ev l y=some (.slice (some p) 1 cap)) (hown:OwnL sh w B e v xs) (hr:Row w p cs) (hrep:sh.rep w (fun b=>B<=b/\v.ownBlock≠some b) z cs) (hlen:xs.length<=10000000000) (hB:B<=w.heap.size) :
 Cr P n l (.call ⟨.builtin .append,#[x,y],#[t,t]⟩) ty w (Zl sh w B e (xs++[z])):=by
 obtain ⟨css,h1,h2,h3⟩:=hown.ex;have hd:=Er (P:=P) (n:=n) (l:=l) (ty:=ty) T Z ht hE hz hzl hby hsz hx hy h1 hr (by rw [sh.len hrep];simp) (sh.one hrep) Ab Ab hB;unfold Cr at hd ⊢;intro a dst pos after g next Q ha hn c;refine hd a dst pos after g next Q ha (fun v' w' hG=>?_) (fun w' hG=>hG.elim);obtain ⟨g1,g2,g,cap',g3,g4⟩:=hG;have hgB:B<=g:=g1.ge (k:=g) (by rw [g3];rfl);refine hn v' w' ⟨g,cap',by rw [g3];simp,⟨css++[cs],?_,by simp [h2],fun i y ds hy hc=>?_⟩,g2.weaken (fun b hb=>h1.ge hb)⟩
 . have e1:(css++[cs]).flatten=css.flatten++cs:=by simp
   have e2:(xs++[z]).length=xs.length+1:=by simp
   rw [e1,e2];exact g1
 . have key:sh.rep w (fun b=>B<=b/\v.ownBlock≠some b) y ds:=by
    by_cases hi:i<xs.length
    . rw [dD hi] at hy;rw [dD Ab] at hc;exact h3 i y ds hy hc
    . have hil:i<(xs++[z]).length:=by
       rcases bQ i (xs++[z]).length with h|h
       . exact h
       . rw [bS h] at hy;cases hy
      simp only [aU,aV,aX] at hil;have hi':i=xs.length:=by omega
      subst hi';rw [List.getElem?_append_right (bJ _)] at hy;rw [List.getElem?_append_right Ab] at hc;simp only [Nat.sub_self,List.getElem?_cons_zero,bK] at hy;rw [h2] at hc;simp only [Nat.sub_self,List.getElem?_cons_zero,bK] at hc;subst hy hc;exact hrep
   refine sh.mono (sh.lt key) (fun b hb=>⟨hb.1.1,fun e=>?_⟩) (fun b o u hb hu=>g2.keep hb.1.2 hu);rw [g3] at e;simp only [cV,bK] at e;subst e;rcases g4 with h|h
   . exact hb.1.2 h
   . omega
def BN {ops:Array Oper} {Q:Exit->Act->wD->Prop} {rest:List Oper} {d:Nat} {pos:String} {after:Array Edge} {x y:Operand} {t e N B cap:Nat} {sE:Sk} {X:lV} {v:Value} {xs:List α} {cs:lV} {z:α} {p:Addr} (T:TabOk P tab) (Z:Cy P zt) (Y:AD tab t=some (.slice e,N)) (hE:AD tab e=some (sE,sh.sz)) (hz:CT zt e=some X) (O:X.length=sh.sz)
 (U:Do P e=true) (V:bM 0 sh.sz=true) (hx:ev l x=some v) (hy:ev l y=some (.slice (some p) 1 cap)) (E:OwnL sh w B e v xs) (hr:Row w p cs) (F:sh.rep w (fun b=>B<=b/\v.ownBlock≠some b) z cs) (L:xs.length<=10000000000) (hB:B<=w.heap.size) (hd:bM d n=true)
 (k : ∀g f M,OwnL sh M B e (.slice (some ⟨g,0,none⟩) (xs++[z]).length f) (xs++[z])->Fr (B <= ·) w M->LW P n ops Q rest ((d,.slice (some ⟨g,0,none⟩) (xs++[z]).length f)::l) M) :
 LW P n ops Q (⟨some d,.call ⟨.builtin .append,#[x,y],#[t,t]⟩,ty,pos,after,none⟩::rest) l w:=
 Au (Jo T Z Y hE hz O U V hx hy E hr F L hB) hd (fun v M ⟨g,cap,h,ho,hf⟩=>by subst h;exact k g cap M ho hf) aFh
end
section
variable {P:Program} {n:Nat} {l:Sl} {S:wD->Prop} {w:wD} {tab:Tab} {zt:Ey} {ty:TypeId} {ops:Array Oper} {Q:Exit->Act->wD->Prop} {rest:List Oper} {d:Nat} {pos:String} {after:Array Edge}
end
def OwnL.rows {α:Type} {sh:Shape α} {w:wD} {B e:Nat} {v:Value} {xs:List α} (h:OwnL sh w B e v xs) (hx:xs≠[]) : ∃g cap,v = .slice (some ⟨g,0,none⟩) xs.length cap/\B<=g /\ ∀(i:Nat) (x:α),xs[i]? = some x -> ∃cs,Row w ⟨g,i*sh.sz,none⟩ cs/\sh.rep w (fun b=>B<=b/\b≠g) x cs:=by
 obtain ⟨f,h1,h2,N⟩:=h.ex;rcases h1.row with ⟨rfl,hn,-⟩|⟨g,cap,rfl,hg,O,hr⟩
 . exact absurd (List.length_eq_zero_iff.1 hn) hx
 . refine ⟨g,cap,rfl,hg,fun i x M=>?_⟩;have aa:i<xs.length:=by
    rcases bQ i xs.length with h|h
    . exact h
    . rw [bS h] at M;cases M
   have hc:f[i]? = some f[i]:=aY Ab;refine ⟨f[i],?_,sh.mono (N i x _ M hc) (fun b hb=>⟨hb.1,fun e=>hb.2 (by rw [O,e])⟩) (fun _ _ _ _ h=>h)⟩;intro j u U;have E : ∀cs∈f,cs.length=sh.sz:=fun cs F=>by
    obtain ⟨k,hk,rfl⟩:=List.mem_iff_getElem.1 F;exact sh.len (N k xs[k] f[k] (aY Ab) (aY hk))
   have V:j<sh.sz:=by
    rw [<-sh.len (N i x _ M hc)];rcases bQ j f[i].length with h|h
    . exact h
    . rw [bS h] at U;cases U
   have L:f.flatten[i*sh.sz+j]? = some u:=by
    have X:f=f.take i++f[i]::f.drop (i+1):=by
     have h1:=(cL i f).symm;rwa [cW Ab] at h1
    have Y:f.flatten=(f.take i).flatten++(f[i]++(f.drop (i+1)).flatten):=by
     refine (congrArg List.flatten X).trans ?_;rw [List.flatten_append,cI]
    have Z:(f.take i).flatten.length=i*sh.sz:=by
     rw [FJ (fun cs F=>E cs (List.mem_of_mem_take F)),cH];congr 1;omega
    rw [Y,List.getElem?_append_right Ab,Z,Nat.add_sub_cancel_left,dD (by rw [E _ (bD _)];exact V)];exact U
   have:=hr.at (i:=i*sh.sz+j) L;have e:(⟨g,i*sh.sz,none⟩:Addr).add j=⟨g,0+(i*sh.sz+j),none⟩:=by unfold cU;by_cases h0:j=0<;>simp [h0]
   rw [e];exact this
def Gs {S:nP} {w:wD} (t:Nd) (a:oA) (h:t.sits S w a):t.sits (fun b=>S b/\b<w.heap.size) w a:=by
 have key : ∀N:Nat,(∀(l:List Nd) (a:oA),Am l<N->rowSits S w l a->rowSits (fun b=>S b/\b<w.heap.size) w l a):=by
  intro N
  induction N with
  | zero=>intro l a h;omega
  | succ N f=>
   intro l a E h;cases l with
   | nil=>simp [rowSits]
   | cons x r=>
    simp only [rowSits] at h ⊢;obtain ⟨b,o,F,c,rfl,O,L,h1,U,V,M,X⟩:=h;have Y:=Cb L;simp only [Am] at E;have Z:=Nd.size_pos x;obtain ⟨k,n,s,l⟩:=x;simp only [dL] at E;refine ⟨b,o,F,c,rfl,⟨O,Y⟩,L,h1,U,V,?_,f r _ Ab X⟩;simp only [dY] at M ⊢;exact f l F Ab M
 obtain ⟨k,n,s,l⟩:=t;simp only [dY] at h ⊢;exact key (Am l+1) l a Ab h
def ndShape:Shape Nd where
 sz:=4
 rep:=fun w S t cs=> ∃a c,cs=t.cells a c/\t.sits S w a
 len:=fun ⟨_,_,h,_⟩=>by rw [h];rfl
 one:=fun ⟨_,_,h,_⟩=>by rw [h];rfl
 mono:=fun ⟨a,c,h,hs⟩ hS hc=>⟨a,c,h,fF hS hc _ a hs⟩
 lt:=fun ⟨a,c,h,hs⟩=>⟨a,c,h,Gs _ a hs⟩
def El {S:nP} {w:wD} {g:Nat} (F:S g) : ∀(xs:List Nd) (o:Nat),(∀(i:Nat) (x:Nd),xs[i]? = some x -> ∃a c,Row w ⟨g,o+i*4,none⟩ (x.cells a c)/\x.sits S w a)->rowSits S w xs (some ⟨g,o,none⟩)
 | [],_,_=>by simp [rowSits]
 | x::r,o,h=>by
  simp only [rowSits];obtain ⟨a,c,f,E⟩:=h 0 x rfl;simp only [Nat.zero_mul,Nat.add_zero] at f;refine ⟨g,o,a,c,rfl,F,f.at0 rfl,f.at (i:=1) rfl,f.at (i:=2) rfl,f.at (i:=3) rfl,E,El F r (o+4) (fun i y L=>?_)⟩;obtain ⟨a,c,f,E⟩:=h (i+1) y (by simpa using L);exact ⟨a,c,by rw [show o+4+i*4=o+(i+1)*4 from by omega];exact f,E⟩
def OwnL.sits {w:wD} {B e:Nat} {a:oA} {len cap:Nat} {xs:List Nd} {S:nP} (h:OwnL ndShape w B e (.slice a len cap) xs) (E : ∀b,B<=b->S b):rowSits S w xs a:=by
 by_cases F:xs=[]
 . subst F;simp [rowSits]
 . obtain ⟨g,L,M,N,f⟩:=h.rows F;simp only [bZ] at M;obtain ⟨rfl,-,-⟩:=M;refine El (E g N) xs 0 (fun i x O=>?_);obtain ⟨cs,U,a,c,rfl,V⟩:=f i x O;exact ⟨a,c,by simpa [ndShape] using U,fF (fun b X=>E b X.1) (fun _ _ _ _ h=>h) _ _ V⟩
def N4 {w:wD} {b o:Nat} {v0 f v2 v3:Value} (E:w.cell? ⟨b,o,none⟩=some v0) (h1:w.cell? ⟨b,o+1,none⟩=some f) (F:w.cell? ⟨b,o+2,none⟩=some v2) (L:w.cell? ⟨b,o+3,none⟩=some v3):Row w ⟨b,o,none⟩ [v0,f,v2,v3]:=fun i v h=>by
 rcases i with _|_|_|_|i<;>simp at h<;>(subst h;simpa [cU])
def Ba {S:nP} {w:wD} {l:List Nd} {a:oA} (h:rowSits S w l a) (F:l≠[]) : ∃b o,a=some ⟨b,o,none⟩/\S b /\ ∀i t,l[i]? = some t -> ∃f c,Row w ⟨b,o+i*4,none⟩ (t.cells f c)/\t.sits S w f:=by
 cases l with
 | nil=>exact absurd rfl F
 | cons x r=>
  obtain ⟨b,o,f,c,rfl,L,-⟩:=DM h (i:=0) (t:=x) rfl;refine ⟨b,o,rfl,L,fun i t M=>?_⟩;obtain ⟨X,Y,f,c,E,-,N,h1,O,U,V⟩:=DM h M;simp only [bK,Addr.mk.injEq] at E;obtain ⟨rfl,rfl,-⟩:=E;exact ⟨f,c,N4 N h1 O U,V⟩
def Jp {S:nP} {w:wD} {k n:Int} {s:lB} {l:List Nd} {a:oA} (h:rowSits S w l a):(Nd.mk k n s l).sits S w a:=by simp only [dY];exact h
def OwnL.lt {α:Type} {sh:Shape α} {w:wD} {B e:Nat} {v:Value} {xs:List α} (h:OwnL sh w B e v xs) {k:Nat} (f:v.ownBlock=some k):k<w.heap.size:=by
 obtain ⟨E,h1,-⟩:=h.ex;exact (h1.blk f).2
def CX {S:nP} {w:wD} {k n:Int} {s:lB} {a:oA}:(Nd.mk k n s []).sits S w a:=by simp [dY,rowSits]
def Nd.sits.wide {S S':nP} {w:wD} {t:Nd} {a:oA} (h:t.sits S w a) (f : ∀b,S b->S' b):t.sits S' w a:=fF f (fun _ _ _ _ h=>h) t a h
section
variable {S:nP} {w:wD} {k n:Int} {s:lB} {b:Nat} {x y z u:Nd} {xa ya za ua:oA} {xc yc zc uc:Nat}
def Blk.sub {vs:lV} (h:Blk w b vs) (i m:Nat):Row w ⟨b,i,none⟩ ((vs.drop i).take m):=by
 have:=h.row.sub i m;simpa using this
def J4 {E:nP} (h:Blk w b (x.cells xa xc)) (F:S b) (L:x.sits E w xa) (M : ∀b,E b->S b):(Nd.mk k n s [x]).sits S w (some ⟨b,0,none⟩):=by
 simp only [dY];refine El F _ 0 (fun i t f=>?_)
 match i,f with
 | 0,f=>simp at f;subst f;exact ⟨xa,xc,h.sub 0 4,Nd.sits.wide L M⟩
def J6 {E S2:nP} (h:Blk w b (x.cells xa xc++y.cells ya yc)) (F:S b) (L:x.sits E w xa) (M : ∀b,E b->S b) (N:y.sits S2 w ya) (O : ∀b,S2 b->S b):(Nd.mk k n s [x,y]).sits S w (some ⟨b,0,none⟩):=by
 simp only [dY];refine El F _ 0 (fun i t f=>?_)
 match i,f with
 | 0,f=>simp at f;subst f;exact ⟨xa,xc,h.sub 0 4,Nd.sits.wide L M⟩
 | 1,f=>simp at f;subst f;exact ⟨ya,yc,h.sub 4 4,Nd.sits.wide N O⟩
def Yw {E S2 F:nP} (h:Blk w b (x.cells xa xc++y.cells ya yc++z.cells za zc)) (L:S b) (M:x.sits E w xa) (N : ∀b,E b->S b) (O:y.sits S2 w ya) (U : ∀b,S2 b->S b) (V:z.sits F w za) (X : ∀b,F b->S b):(Nd.mk k n s [x,y,z]).sits S w (some ⟨b,0,none⟩):=by
 simp only [dY];refine El L _ 0 (fun i t f=>?_)
 match i,f with
 | 0,f=>simp at f;subst f;exact ⟨xa,xc,h.sub 0 4,Nd.sits.wide M N⟩
 | 1,f=>simp at f;subst f;exact ⟨ya,yc,h.sub 4 4,Nd.sits.wide O U⟩
 | 2,f=>simp at f;subst f;exact ⟨za,zc,h.sub 8 4,Nd.sits.wide V X⟩
def Yx {E S2 F L:nP} (h:Blk w b (x.cells xa xc++y.cells ya yc++z.cells za zc++u.cells ua uc)) (M:S b) (N:x.sits E w xa) (O : ∀b,E b->S b) (U:y.sits S2 w ya) (V : ∀b,S2 b->S b) (X:z.sits F w za) (Y : ∀b,F b->S b) (Z:u.sits L w ua) (ku : ∀b,L b->S b):(Nd.mk k n s [x,y,z,u]).sits S w (some ⟨b,0,none⟩):=by
 simp only [dY];refine El M _ 0 (fun i t f=>?_)
 match i,f with
 | 0,f=>simp at f;subst f;exact ⟨xa,xc,h.sub 0 4,Nd.sits.wide N O⟩
 | 1,f=>simp at f;subst f;exact ⟨ya,yc,h.sub 4 4,Nd.sits.wide U V⟩
 | 2,f=>simp at f;subst f;exact ⟨za,zc,h.sub 8 4,Nd.sits.wide X Y⟩
 | 3,f=>simp at f;subst f;exact ⟨ua,uc,h.sub 12 4,Nd.sits.wide Z ku⟩
end
def WI {w:wD} {b o:Nat} {us vs:lV} (h1:Row w ⟨b,o,none⟩ us) (L:Row w ⟨b,o+us.length,none⟩ vs):Row w ⟨b,o,none⟩ (us++vs):=fun i v f=>by
 rcases bQ i us.length with E|F
 . rw [dD E] at f;exact h1 i v f
 . rw [List.getElem?_append_right F] at f;have h:=L.at f;have e:(⟨b,o,none⟩:Addr).add i=⟨b,o+i,none⟩:=by unfold cU;by_cases M:i=0<;>simp [M]
   rw [e,show o+i=o+us.length+(i-us.length) by omega];exact h
def J7 {P:Program} (w:wD) (t ty e:TypeId) (i:TypeInfo) (f:P.underlying t=some (.slice e)) (h:P.info? e=some i) (g n cap c:Nat) (E:n<=cap) :
 (Builtin.append_ #[t,t] ty #[.slice (some ⟨g,0,none⟩) n cap,.slice none 0 c]).run P w = .ok (.slice (some ⟨g,0,none⟩) n cap) w:=by
 simp [Builtin.append_,AK f,Go.sizeOf,typeInfo,h,Builtin.lenOf,Builtin.firstCells,E,storeCells]
def LF (K:Value->wD->Prop):Option Value->wD->Prop
 | some v,w=>K v w
 | none,_=>False
section
variable {P:Program} {n:Nat} {l:Sl} {w:wD} {tab:Tab} {zt:Ey} {ty:TypeId}
end
abbrev VD.cells (v:VD):lV:=[str v.name,.int .u8 v.kind,.int .i64 v.len]
abbrev VD.val (v:VD):Value:=.agg #[str v.name,.int .u8 v.kind,.int .i64 v.len]
def Zm (w:wD) (b o:Nat) (v:VD):Prop:=Row w ⟨b,o,none⟩ v.cells
def VDs (S:nP) (w:wD) (l:List VD) (a:oA):Prop:=Arr S 3 Zm w l a
abbrev PD.cells (p:PD) (pa:oA) (pc:Nat) (ba:oA) (bc:Nat):lV:=[str p.name,.slice pa p.params.length pc,.int .u8 p.body.kind,.int .i64 p.body.num,str p.body.name,.slice ba p.body.kids.length bc]
def Zn (S:nP) (w:wD) (b o:Nat) (p:PD):Prop:= ∃pa pc ba bc,Row w ⟨b,o,none⟩ (p.cells pa pc ba bc)/\VDs S w p.params pa/\p.body.sits S w ba
def PDs (S:nP) (w:wD) (l:List PD) (a:oA):Prop:=Arr S 6 (Zn S) w l a
def VDs.ext {S:nP} {w w':wD} {l:List VD} {a:oA} (h:VDs S w l a) (x:Ext w w'):VDs S w' l a:=h.mono aFh (fun _ _ _ _ _ h=>dZ h x)
instance {S:nP} {w w':wD} {l:List VD} {a:oA}:LfE w w' (VDs S w l a) (VDs S w' l a):=⟨fun x h=>Bk.VDs.ext h x⟩
def PDs.ext {S:nP} {w w':wD} {l:List PD} {a:oA} (h:PDs S w l a) (x:Ext w w'):PDs S w' l a:=
 h.mono aFh (fun _ _ _ _ _ ⟨f,pc,ba,bc,h1,h2,h3⟩=>⟨f,pc,ba,bc,h1.ext x,h2.ext x,h3.ext x⟩)
instance {S:nP} {w w':wD} {l:List PD} {a:oA}:LfE w w' (PDs S w l a) (PDs S w' l a):=⟨fun x h=>Bk.PDs.ext h x⟩
abbrev PG.cells (g:PG) (va:oA) (vc:Nat) (pa:oA) (pc:Nat) (ma:oA) (mc:Nat):lV:=
 [.slice va g.vars.length vc,.slice pa g.procs.length pc,.int .u8 g.main.kind,.int .i64 g.main.num,str g.main.name,.slice ma g.main.kids.length mc]
structure PG.sits (S:nP) (w:wD) (g:PG) (va pa ma:oA):Prop where
 vars:VDs S w g.vars va
 procs:PDs S w g.procs pa
 main:g.main.sits S w ma
def PG.sits.ext {S:nP} {w w':wD} {g:PG} {f E F:oA} (h:g.sits S w f E F) (x:Ext w w'):g.sits S w' f E F:=⟨h.vars.ext x,h.procs.ext x,h.main.ext x⟩
instance {S:nP} {w w':wD} {g:PG} {f E F:oA}:LfE w w' (g.sits S w f E F) (g.sits S w' f E F):=⟨fun x h=>Bk.PG.sits.ext h x⟩
def VDs.fr {S T:nP} {w w':wD} {l:List VD} {a:oA} (h:VDs S w l a) (x:Fr T w w') (f : ∀b,S b -> ¬T b):VDs S w' l a:=h.mono aFh (fun b _ _ _ E h=>Row.fr h x (f b E))
instance {S T:nP} {w w':wD} {l:List VD} {a:oA}:LfF T w w' (VDs S w l a) (∀b,S b -> ¬T b) (VDs S w' l a):=⟨fun x s h=>Bk.VDs.fr h x s⟩
def PDs.fr {S T:nP} {w w':wD} {l:List PD} {a:oA} (h:PDs S w l a) (x:Fr T w w') (f : ∀b,S b -> ¬T b):PDs S w' l a:=
 h.mono aFh (fun b _ _ _ E ⟨F,pc,ba,bc,h1,h2,h3⟩=>⟨F,pc,ba,bc,h1.fr x (f b E),h2.fr x f,h3.fr x f⟩)
instance {S T:nP} {w w':wD} {l:List PD} {a:oA}:LfF T w w' (PDs S w l a) (∀b,S b -> ¬T b) (PDs S w' l a):=⟨fun x s h=>Bk.PDs.fr h x s⟩
def PG.sits.fr {S T:nP} {w w':wD} {g:PG} {f E F:oA} (h:g.sits S w f E F) (x:Fr T w w') (L : ∀b,S b -> ¬T b):g.sits S w' f E F:=⟨h.vars.fr x L,h.procs.fr x L,h.main.fr x L⟩
instance {S T:nP} {w w':wD} {g:PG} {f E F:oA}:LfF T w w' (g.sits S w f E F) (∀b,S b -> ¬T b) (g.sits S w' f E F):=⟨fun x s h=>Bk.PG.sits.fr h x s⟩
def VDs.wide {S S':nP} {w:wD} {l:List VD} {a:oA} (h:VDs S w l a) (f : ∀b,S b->S' b):VDs S' w l a:=h.mono f (fun _ _ _ _ _ h=>h)
def LG {w w':wD} {b o:Nat} {vs:lV} (h:Row w ⟨b,o,none⟩ vs) (f : ∀o v,w.cell? ⟨b,o,none⟩=some v->w'.cell? ⟨b,o,none⟩=some v):Row w' ⟨b,o,none⟩ vs:=fun i v E=>by
 have:=h.at E;have e:(⟨b,o,none⟩:Addr).add i=⟨b,o+i,none⟩:=by unfold cU;by_cases F:i=0<;>simp [F]
 rw [e];exact f _ _ this
def VDs.move {S S':nP} {w w':wD} {l:List VD} {a:oA} (h:VDs S w l a) (f : ∀b,S b->S' b) (E : ∀b o v,S b->w.cell? ⟨b,o,none⟩=some v->w'.cell? ⟨b,o,none⟩=some v):VDs S' w' l a:=
 h.mono f (fun b o x _ F h=>LG h (fun o v=>E b o v F))
def VDs.lt2 {S:nP} {w:wD} {l:List VD} {a:oA} (h:VDs S w l a):VDs (fun b=>S b/\b<w.heap.size) w l a:=by
 rcases h with h|⟨b,o,h1,E,f⟩
 . exact bC h
 . cases l with
   | nil=>exact bC rfl
   | cons v r=>exact bF ⟨b,o,h1,⟨E,Cb (Row.at0 (f 0 v rfl) rfl)⟩,f⟩
def E7:Shape VD where
 sz:=3
 rep:=fun _ _ v cs=>cs=v.cells
 len:=fun h=>by rw [h];rfl
 one:=fun h=>by rw [h];rfl
 mono:=fun h _ _=>h
 lt:=fun h=>h
def OwnL.vds {w:wD} {B e:Nat} {a:oA} {len cap:Nat} {xs:List VD} {S:nP} (h:OwnL E7 w B e (.slice a len cap) xs) (M : ∀b,B<=b->S b):VDs S w xs a:=by
 by_cases E:xs=[]
 . exact bC E
 . obtain ⟨g,F,L,N,f⟩:=h.rows E;simp only [bZ] at L;obtain ⟨rfl,-,-⟩:=L;refine bF ⟨g,0,rfl,M g N,fun i x O=>?_⟩;obtain ⟨cs,U,rfl⟩:=f i x O;simpa [E7,Zm] using U
def QU:1<=maxLen:=by unfold maxLen;omega
def OwnL.lit {α:Type} {sh:Shape α} {w:wD} {B b e:Nat} {x:α} {cs:lV} (h:TB w b cs e) (N:B<=b) (L:sh.rep w (fun k=>B<=k/\k≠b) x cs):OwnL sh w B e (.slice (some ⟨b,0,none⟩) 1 1) [x]:=by
 have F:=sh.len L;refine ⟨[cs],⟨by simp [F],bF ⟨b,1,cs.toArray,rfl,N,h,bJ _,QU,by simp [F],by simp [<-F]⟩⟩,rfl,fun i y O f E=>?_⟩
 match i,f,E with
 | 0,f,E=>
  simp at f E;subst f E;exact sh.mono L (fun k M=>⟨M.1,fun e=>M.2 (by simpa [cV] using e.symm)⟩) (fun _ _ _ _ h=>h)
def Rows (S:nP) (w:wD) (cs:lV) (a:oA):Prop:=cs=[] \/ ∃b o,a=some ⟨b,o,none⟩/\S b/\Row w ⟨b,o,none⟩ cs
section
variable {S S' T:nP} {w w':wD} {cs:lV} {a:oA}
def Rows.ext (h:Rows S w cs a) (x:Ext w w'):Rows S w' cs a:=h.imp id fun ⟨b,o,h1,h2,h3⟩=>⟨b,o,h1,h2,h3.ext x⟩
instance  : LfE w w' (Rows S w cs a) (Rows S w' cs a):=⟨fun x h=>Bk.Rows.ext h x⟩
def Rows.fr (h:Rows S w cs a) (x:Fr T w w') (f : ∀b,S b -> ¬T b):Rows S w' cs a:=h.imp id fun ⟨b,o,h1,h2,h3⟩=>⟨b,o,h1,h2,h3.fr x (f b h2)⟩
instance  : LfF T w w' (Rows S w cs a) (∀b,S b -> ¬T b) (Rows S w' cs a):=⟨fun x s h=>Bk.Rows.fr h x s⟩
def Rows.wide (h:Rows S w cs a) (f : ∀b,S b->S' b):Rows S' w cs a:=h.imp id fun ⟨b,o,h1,h2,h3⟩=>⟨b,o,h1,f b h2,h3⟩
def Rows.lt2 (h:Rows S w cs a):Rows (fun b=>S b/\b<w.heap.size) w cs a:=by
 rcases h with h|⟨b,o,h1,E,f⟩
 . exact bC h
 . cases cs with
   | nil=>exact bC rfl
   | cons v r=>exact bF ⟨b,o,h1,⟨E,Cb (Row.at0 f rfl)⟩,f⟩
def Rows.ltA (h:Rows S w cs a):Rows (· < w.heap.size) w cs a:=h.lt2.wide fun _ h=>h.2
def Rows.get (h:Rows S w cs a) (f:cs≠[]) : ∃b o,a=some ⟨b,o,none⟩/\S b/\Row w ⟨b,o,none⟩ cs:=h.resolve_left f
def Rows.move (h:Rows S w cs a) (f : ∀b,S b->S' b) (E : ∀b o v,S b->w.cell? ⟨b,o,none⟩=some v->w'.cell? ⟨b,o,none⟩=some v):Rows S' w' cs a:=
 h.imp id fun ⟨b,o,h1,h2,h3⟩=>⟨b,o,h1,f b h2,LG h3 (fun o v=>E b o v h2)⟩
end
def OwnF (e sz B:Nat) (w:wD) (g cap n:Nat) (cs:lV):Prop:=B<=g/\Own w g e sz (.slice (some ⟨g,0,none⟩) n cap) n cs
def OwnF.lt {e sz B:Nat} {w:wD} {g cap n:Nat} {cs:lV} (h:OwnF e sz B w g cap n cs):g<w.heap.size:=(h.2.blk (k:=g) rfl).2
def OwnF.row {e sz B:Nat} {w:wD} {g cap n:Nat} {cs:lV} (h:OwnF e sz B w g cap n cs):Row w ⟨g,0,none⟩ cs:=by
 rcases h.2.row with ⟨f,-⟩|⟨L,E,f,-,-,F⟩
 . simp at f
 . simp only [bZ,bK,Addr.mk.injEq,and_true] at f;obtain ⟨rfl,-⟩:=f;exact F
def OwnF.rows {e sz B:Nat} {w:wD} {g cap n:Nat} {cs:lV} {S:nP} (h:OwnF e sz B w g cap n cs) (f:S g):Rows S w cs (some ⟨g,0,none⟩):=bF ⟨g,0,rfl,f,h.row⟩
def OwnF.le {e sz B:Nat} {w:wD} {g cap n:Nat} {cs:lV} (h:OwnF e sz B w g cap n cs):n<=cap:=by
 rcases h.2.2 with ⟨f,-⟩|⟨M,E,F,f,-,-,L,-⟩
 . simp at f
 . simp only [bZ] at f;obtain ⟨-,-,rfl⟩:=f;exact L
section
variable {P:Program} {n:Nat} {l:Sl} {w:wD} {tab:Tab} {zt:Ey} {ty:TypeId}
def Jq {t e sz1 sz B:Nat} {sE:Sk} (T:TabOk P tab) (ht:AD tab t=some (.slice e,sz1)) (hE:AD tab e=some (sE,sz)) (hB:B<=w.heap.size) :
 Cr P n l (.buildSlice t 0 #[]) ty w (LF fun o w'=> ∃g,o = .slice (some ⟨g,0,none⟩) 0 0/\OwnF e sz B w' g 0 0 []/\w.heap.size<=g/\g<w'.heap.size/\Ext w w'):=by
 unfold Cr;intro a dst pos after g next Q ha hn _;obtain ⟨i,hi,hs⟩:=(T _ _ _ hE).info;have hu:=(T _ _ _ ht).under;have e1:(Instr.buildSlice t 0 #[]).run P w = .ok (.slice (some ⟨w.heap.size,0,none⟩) 0 0) (w.alloc (.cells #[] e)):=by
  simp [Instr.buildSlice,AK hu,Go.sizeOf,typeInfo,hi,Instr.fill,newRow,show Array.range 0 = #[] from rfl]
 have e2:(execOp a.eval ⟨dst,.buildSlice t 0 #[],ty,pos,after,g⟩).run P w = .ok (.value (.slice (some ⟨w.heap.size,0,none⟩) 0 0)) (w.alloc (.cells #[] e)):=by
  simp [execOp,bL,e1,Result.andThen_ok]
 unfold Oper.wp;rw [e2];have hx:Ext w (w.alloc (.cells #[] e)):=(ET w [] e).ext;refine hn _ _ ⟨w.heap.size,rfl,⟨hB,Bd,bF ⟨w.heap.size,0,#[],rfl,bJ _,?_,bJ _,by unfold maxLen;omega,Bd,Bd⟩⟩,bJ _,?_,hx⟩
 . rw [show (w.alloc (Obj.cells #[] e)).heap=w.heap.push (.cells #[] e) from rfl];simp
 . rw [show (w.alloc (Obj.cells #[] e)).heap=w.heap.push (.cells #[] e) from rfl];simp
def Jr {x y:Operand} {t e sz1 sz B g cap c k m:Nat} {sE:Sk} {zs:lV} {a:oA} {cs ds:lV} {S:nP} (T:TabOk P tab) (Z:Cy P zt) (ht:AD tab t=some (.slice e,sz1)) (hE:AD tab e=some (sE,sz)) (hz:CT zt e=some zs) (hzl:zs.length=sz)
 (hby:Do P e=true) (hsz:bM 0 sz=true) (hx:ev l x=some (.slice (some ⟨g,0,none⟩) k cap)) (hy:ev l y=some (.slice a m c)) (hown:OwnF e sz B w g cap k cs) (hs:Rows S w ds a) (hl:ds.length=m*sz) (hone:ds.all eL=true) (hkm:k+m<=100000000000) :
 Cr P n l (.call ⟨.builtin .append,#[x,y],#[t,t]⟩) ty w (LF fun o w'=> ∃g' cap',o = .slice (some ⟨g',0,none⟩) (k+m) cap'/\OwnF e sz B w' g' cap' (k+m) (cs++ds)/\(g'=g\/w.heap.size<=g')/\g'<w'.heap.size/\Fr (fun k=>k=g) w w'):=by
 have hlt:=hown.lt;have hncap:=hown.le;obtain ⟨h0,h1⟩:=hown;have hsz':0<sz:=by simpa using hsz
 by_cases hm:m=0
 . subst hm;have d:ds=[]:=by simpa using hl
   subst d;unfold Cr;intro act dst pos after gd next Q ha hn _;obtain ⟨i,hi,hsz⟩:=(T _ _ _ hE).info;have hun:=(T _ _ _ ht).under;have key : ∃w',(Builtin.append_ #[t,t] ty #[.slice (some ⟨g,0,none⟩) k cap,.slice a 0 c]).run P w = .ok (.slice (some ⟨g,0,none⟩) k cap) w'/\Own w' g e sz (.slice (some ⟨g,0,none⟩) k cap) k cs/\Fr (fun k=>k=g) w w':=by
    cases a with
    | none=>exact ⟨w,J7 w t ty e i hun hi g k cap c hncap,h1,.of_ext (dI w)⟩
    | some p=>
     obtain ⟨w',r1,r2,r3⟩:=run_append_fits (P:=P) w g t ty e i sz hun hi hsz g k cap cs h1 p 0 c [] Bd (fun j u hj=>by simp at hj) (fun u hu=>by cases hu) Ab;refine ⟨w',by simpa using r1,by simpa using r2,?_⟩;have:=Fr.of_grown r3;exact this.weaken (fun b hb=>by simpa using hb)
   obtain ⟨w',hrun,ho,hf⟩:=key;have e1:(execOp act.eval ⟨dst,.call ⟨.builtin .append,#[x,y],#[t,t]⟩,ty,pos,after,gd⟩).run P w = .ok (.value (.slice (some ⟨g,0,none⟩) k cap)) w':=by
    simp only [execOp,resolve,invoke,builtin,bL,bW,Result.andThen_ok,List.map_toArray,List.map_cons,List.map_nil,ha.ev hx,ha.ev hy,hrun]
   unfold Oper.wp;rw [e1];have hsz':=hf.size;exact hn _ _ ⟨g,cap,Bd,⟨h0,by simpa using ho⟩,bC rfl,Ab,hf⟩
 . have hdn:ds≠[]:=by
    rintro rfl;simp only [aX] at hl;have:=Nat.mul_pos (Nat.pos_of_ne_zero hm) hsz';omega
   obtain ⟨pb,po,rfl,-,d1⟩:=hs.get hdn;have hd:=Er (P:=P) (n:=n) (l:=l) (ty:=ty) T Z ht hE hz hzl hby hsz hx hy h1 d1 hl hone Ab Ab Ab;unfold Cr at hd ⊢;intro act dst pos after gd next Q ha hn q;refine hd act dst pos after gd next Q ha (fun v' w' hG=>?_) (fun w' hG=>hG.elim);obtain ⟨g1,g2,g',cap',g3,g4⟩:=hG;have hf:Fr (fun k=>k=g) w w':=g2.weaken (fun b hb=>by simpa [cV] using hb.symm);subst g3;have hgg:=g1.blk (k:=g') rfl;refine hn _ w' ⟨g',cap',rfl,⟨Ab,?_⟩,?_,hgg.2,hf⟩
   . obtain ⟨k1,k2|⟨g2',f,cur,k3,k4,k5⟩⟩:=g1
     . simp at k2
     . simp only [bZ,bK,Addr.mk.injEq,and_true,true_and] at k3;obtain ⟨rfl,rfl⟩:=k3;exact ⟨k1,bF ⟨g',cap',cur,rfl,bJ _,k5⟩⟩
   . rcases g4 with h|h
     . simp only [cV,bK] at h;exact bC h.symm
     . exact bF h
end
def Nc {α:Type} {f:α->lV} {sz:Nat} (E : ∀x,(f x).length=sz) {w:wD} {b:Nat} : ∀(l:List α) (o:Nat),(∀(i:Nat) (x:α),l[i]? = some x->Row w ⟨b,o+i*sz,none⟩ (f x))->Row w ⟨b,o,none⟩ (l.flatMap f)
 | [],o,_=>fun i v F=>by simp at F
 | x::r,o,h=>by
  rw [List.flatMap_cons];refine WI (by simpa using h 0 x rfl) ?_;rw [E x];refine Nc E r (o+sz) (fun i y L=>?_);have:=h (i+1) y L;rw [show o+sz+i*sz=o+(i+1)*sz by rw [Nat.add_mul];omega];exact this
def Nf {α:Type} {f:α->lV} {sz:Nat} (N : ∀x,(f x).length=sz) {w:wD} {b:Nat} : ∀(l:List α) (o:Nat),Row w ⟨b,o,none⟩ (l.flatMap f) -> ∀(i:Nat) (x:α),l[i]? = some x->Row w ⟨b,o+i*sz,none⟩ (f x)
 | [],_,_,i,x,E=>by simp at E
 | y::r,o,h,i,x,E=>by
  rw [List.flatMap_cons] at h;cases i with
  | zero=>
   simp only [List.getElem?_cons_zero,bK] at E;subst E;intro j v F;have L:j<(f y).length:=by
    rcases bQ j (f y).length with M|M
    . exact M
    . rw [bS M] at F;cases F
   have:=h j v (by rw [dD L];exact F);simpa using this
  | succ i=>
   simp only [List.getElem?_cons_succ] at E;have O:Row w ⟨b,o+sz,none⟩ (r.flatMap f):=by
    have:=h.sub sz (r.flatMap f).length;rw [List.drop_left' (N y),bH] at this;exact this
   have:=Nf N r (o+sz) O i x E;rw [show o+(i+1)*sz=o+sz+i*sz by rw [Nat.add_mul];omega];exact this
def Hs {α:Type} {f:α->lV} {sz:Nat} (h : ∀x,(f x).length=sz) : ∀l:List α,(l.flatMap f).length=l.length*sz
 | []=>by simp
 | x::r=>by rw [List.flatMap_cons,aU,h x,Hs h r,aV,Nat.add_mul];omega
def KC {α:Type} {f:α->lV} (h : ∀x,(f x).all eL=true) : ∀l:List α,(l.flatMap f).all eL=true
 | []=>rfl
 | x::r=>by rw [List.flatMap_cons,List.all_append,h x,KC h r];rfl
def Ng {P:Program} {n:Nat} {l:Sl} {S:wD->Prop} {tab:Tab} {t t' ty sz e:Nat} {x:Operand} {a:oA} {m c:Nat} (T:TabOk P tab) (h:AD tab t=some (.slice e,sz)) (E:ev l x=some (.slice a m c)):BA P n l S (.binOp .eql t x (.const (.slice none 0 0)) t') ty (.bool a.isNone):=by
 unfold BA;intro f w F pos after g L _;have M:P.underlying t=some (.slice e):=(T _ _ _ h).under;have N:(eqGuard .eql t x (.const (.slice none 0 0)) (.slice a m c) (.slice none 0 0)).run P w = .ok () w:=by unfold eqGuard;simp
 have O:(Op.equal t (.slice a m c) (.slice none 0 0)).run P w = .ok a.isNone w:=by
  show (Op.equalIn (9999+1) t (.slice a m c) (.slice none 0 0)).run P w=_;unfold Op.equalIn;cases a<;>simp [AK M,bG]
 have U:f.eval (.const (.slice none 0 0)) = .slice none 0 0:=rfl;simp [execOp,L.ev E,U,N,O,binOp]
def LH {P:Program} {n:Nat} {l:Sl} {S:wD->Prop} {tab:Tab} {t t' ty sz e:Nat} {x:Operand} {m c:Nat} (T:TabOk P tab) (f:AD tab t=some (.slice e,sz)) (h:ev l x=some (.slice none m c)):BA P n l S (.binOp .eql t x (.const (.slice none 0 0)) t') ty (.bool true):=Ng T f h
def LJ {P:Program} {n:Nat} {l:Sl} {S:wD->Prop} {tab:Tab} {t t' ty sz e:Nat} {x:Operand} {p:Addr} {m c:Nat} (T:TabOk P tab) (f:AD tab t=some (.slice e,sz)) (h:ev l x=some (.slice (some p) m c)):BA P n l S (.binOp .eql t x (.const (.slice none 0 0)) t') ty (.bool false):=Ng T f h
end Bk
namespace Go.Proofs
open Go.Shelf
def Tryz.lays170_ren:Go.Shelf.Ren:=⟨fun|170=>34|n=>n,fun|70=>66|3=>3|0=>0|72=>69|37=>67|5=>5|n=>n,fun|n=>n⟩
def Tryz.lays170:Go.Proofs.Lays.n170 prog Tryz.lays170_ren:={
 mixed:=by kernel_rfl
 f170:=func34.trans (congrArg some (by kernel_rfl))
 t0:=underlying0
 a0:=isAgg0
 z0:=sizeOf0
 v0:=zeroValue0
 t3:=underlying3
 a3:=isAgg3
 z3:=sizeOf3
 v3:=zeroValue3
 t37:=underlying67
 a37:=isAgg67
 z37:=sizeOf67
 v37:=zeroValue67
 t70:=underlying66
 a70:=isAgg66
 z70:=sizeOf66
 v70:=zeroValue66
 t72:=underlying69
 a72:=isAgg69
 z72:=sizeOf69
 v72:=zeroValue69 }
def Tryz.lays156_ren:Go.Shelf.Ren:=⟨fun|156=>63|165=>105|166=>31|169=>35|240=>60|241=>149|276=>103|277=>199|n=>n,fun|31=>117|9=>9|3=>3|4=>4|0=>0|20=>20|72=>69|76=>73|70=>66|37=>67|75=>72|127=>128|164=>170|5=>5|80=>78|n=>n,fun|n=>n⟩
def Tryz.lays156:Go.Proofs.Lays.n156 prog Tryz.lays156_ren:={
 mixed:=by kernel_rfl
 f156:=func63.trans (congrArg some (by kernel_rfl))
 f165:=func105.trans (congrArg some (by kernel_rfl))
 f166:=func31.trans (congrArg some (by kernel_rfl))
 f169:=func35.trans (congrArg some (by kernel_rfl))
 f240:=func60.trans (congrArg some (by kernel_rfl))
 f241:=func149.trans (congrArg some (by kernel_rfl))
 f276:=func103.trans (congrArg some (by kernel_rfl))
 f277:=func199.trans (congrArg some (by kernel_rfl))
 t0:=underlying0
 a0:=isAgg0
 z0:=sizeOf0
 v0:=zeroValue0
 t3:=underlying3
 a3:=isAgg3
 z3:=sizeOf3
 v3:=zeroValue3
 t4:=underlying4
 a4:=isAgg4
 z4:=sizeOf4
 v4:=zeroValue4
 t9:=underlying9
 a9:=isAgg9
 z9:=sizeOf9
 v9:=zeroValue9
 t20:=underlying20
 a20:=isAgg20
 z20:=sizeOf20
 v20:=zeroValue20
 t31:=underlying117
 a31:=isAgg117
 z31:=sizeOf117
 v31:=zeroValue117
 t37:=underlying67
 a37:=isAgg67
 z37:=sizeOf67
 v37:=zeroValue67
 t70:=underlying66
 a70:=isAgg66
 z70:=sizeOf66
 v70:=zeroValue66
 t72:=underlying69
 a72:=isAgg69
 z72:=sizeOf69
 v72:=zeroValue69
 t75:=underlying72
 a75:=isAgg72
 z75:=sizeOf72
 v75:=zeroValue72
 t76:=underlying73
 a76:=isAgg73
 z76:=sizeOf73
 v76:=zeroValue73
 t127:=underlying128
 a127:=isAgg128
 z127:=sizeOf128
 v127:=zeroValue128
 t164:=underlying170
 a164:=isAgg170
 z164:=sizeOf170
 v164:=zeroValue170 }
def Tryz.Builder_Extra_156:Builder.Extra prog Tryz.lays156_ren:={
 sizeBuilder:=by kernel_rfl
 liesBuilder:=by kernel_rfl
 t5:=underlying5
 a5:=isAgg5
 z5:=sizeOf5
 v5:=zeroValue5
 infoByte:=by kernel_rfl
 cellsByte:=by kernel_rfl
 sizeByte:=by kernel_rfl
 neB5:=by decide }
open Go.RowKit in
def Tryz.strings_Join_none (a:Option Addr) (c:Nat) (sep:ByteArray) (w:World) :
 Calls prog 63 #[.slice a 0 c,.string sep] w fun e w'=>e = .returned (.string ⟨#[]⟩)/\w'=w:=Any.strings_Join_none Tryz.lays156 Tryz.Builder_Extra_156 a c sep w
open Go.RowKit in
def Tryz.strings_Join (bk o c:Nat) (xs:List ByteArray) (sep:ByteArray) (w:World) (hcells : ∀(j:Nat) x,xs[j]? = some x->w.cell? ⟨bk,o+j,none⟩=some (.string x)) (hbk:bk<w.heap.size) (hN:xs.length<=140737488355328) (hcap:xs.length<=c) (hlen:(Lib.join (xs.map (·.data.toList)) sep.data.toList).length<=140737488355328) :
 Calls prog 63 #[.slice (some ⟨bk,o,none⟩) xs.length c,.string sep] w fun e w'=>e = .returned (.string ⟨(Lib.join (xs.map (·.data.toList)) sep.data.toList).toArray⟩)/\Below w.heap.size w w':=Any.strings_Join Tryz.lays156 Tryz.Builder_Extra_156 bk o c xs sep w hcells hbk hN hcap hlen
def Tryz.lays137_ren:Go.Shelf.Ren:=⟨fun|137=>112|217=>150|266=>200|n=>n,fun|9=>9|5=>5|3=>3|n=>n,fun|n=>n⟩
def Tryz.lays137:Go.Proofs.Lays.n137 prog Tryz.lays137_ren:={
 mixed:=by kernel_rfl
 f137:=func112.trans (congrArg some (by kernel_rfl))
 f217:=func150.trans (congrArg some (by kernel_rfl))
 f266:=func200.trans (congrArg some (by kernel_rfl))
 t3:=underlying3
 a3:=isAgg3
 z3:=sizeOf3
 v3:=zeroValue3
 t5:=underlying5
 a5:=isAgg5
 z5:=sizeOf5
 v5:=zeroValue5
 t9:=underlying9
 a9:=isAgg9
 z9:=sizeOf9
 v9:=zeroValue9 }
open Go.RowKit in
def Tryz.strings_IndexByte (s:ByteArray) (c:Int) (w:World) :
 Calls prog 112 #[.string s,.int .u8 c] w fun e w'=>e = .returned (.int .i64 (dA s.data.toList c.toNat.toUInt8))/\w'=w:=Any.strings_IndexByte Tryz.lays137 s c w
open Go.RowKit in
def Tryz.Builder_Len_f (B b:Nat) (bs:List Value) (w:World) (h:Lib.IsBuilderF 69 5 B b bs w) :
 Calls prog 34 #[.pointer (some ⟨b,0,none⟩)] w fun e w'=>e = .returned (.int .i64 bs.length)/\w'=w:=Any.Builder_Len_f Tryz.lays170 B b bs w h
def Tryz.laysM171_ren:Go.Shelf.Ren:=⟨fun|171=>62|243=>104|246=>148|283=>195|284=>196|285=>197|286=>198|129=>233|317=>232|318=>234|319=>235|320=>236|337=>251|338=>252|n=>n,fun|3=>3|9=>9|2=>2|4=>4|171=>239|0=>0|53=>240|37=>67|5=>5|173=>243|212=>261|51=>246|20=>20|213=>262|46=>214|232=>294|233=>295|n=>n,fun|17=>2|18=>5|19=>6|n=>n⟩
def Tryz.laysM171:Go.Proofs.LaysM.n171 prog Tryz.laysM171_ren:={
 mixed:=by kernel_rfl
 f129:=func233.trans (congrArg some (by kernel_rfl))
 f171:=func62.trans (congrArg some (by kernel_rfl))
 f243:=func104.trans (congrArg some (by kernel_rfl))
 f246:=func148.trans (congrArg some (by kernel_rfl))
 f283:=func195.trans (congrArg some (by kernel_rfl))
 f284:=func196.trans (congrArg some (by kernel_rfl))
 f285:=func197.trans (congrArg some (by kernel_rfl))
 f286:=func198.trans (congrArg some (by kernel_rfl))
 f317:=func232.trans (congrArg some (by kernel_rfl))
 f318:=func234.trans (congrArg some (by kernel_rfl))
 f319:=func235.trans (congrArg some (by kernel_rfl))
 f320:=func236.trans (congrArg some (by kernel_rfl))
 f337:=func251.trans (congrArg some (by kernel_rfl))
 f338:=func252.trans (congrArg some (by kernel_rfl))
 t0:=underlying0
 a0:=isAgg0
 z0:=sizeOf0
 v0:=zeroValue0
 t2:=underlying2
 a2:=isAgg2
 z2:=sizeOf2
 v2:=zeroValue2
 t3:=underlying3
 a3:=isAgg3
 z3:=sizeOf3
 v3:=zeroValue3
 t4:=underlying4
 a4:=isAgg4
 z4:=sizeOf4
 v4:=zeroValue4
 t5:=underlying5
 a5:=isAgg5
 z5:=sizeOf5
 v5:=zeroValue5
 t9:=underlying9
 a9:=isAgg9
 z9:=sizeOf9
 v9:=zeroValue9
 t20:=underlying20
 a20:=isAgg20
 z20:=sizeOf20
 v20:=zeroValue20
 t37:=underlying67
 a37:=isAgg67
 z37:=sizeOf67
 v37:=zeroValue67
 t46:=underlying214
 a46:=isAgg214
 z46:=sizeOf214
 v46:=zeroValue214
 t51:=underlying246
 a51:=isAgg246
 z51:=sizeOf246
 v51:=zeroValue246
 t53:=underlying240
 a53:=isAgg240
 z53:=sizeOf240
 v53:=zeroValue240
 t171:=underlying239
 a171:=isAgg239
 z171:=sizeOf239
 v171:=zeroValue239
 t173:=underlying243
 a173:=isAgg243
 z173:=sizeOf243
 v173:=zeroValue243
 t212:=underlying261
 a212:=isAgg261
 z212:=sizeOf261
 v212:=zeroValue261
 t213:=underlying262
 a213:=isAgg262
 z213:=sizeOf262
 t232:=underlying294
 a232:=isAgg294
 z232:=sizeOf294
 v232:=zeroValue294
 t233:=underlying295
 a233:=isAgg295
 z233:=sizeOf295
 v233:=zeroValue295
 g17:=by kernel_rfl
 g18:=by kernel_rfl
 g19:=by kernel_rfl
 i0:=by kernel_rfl
 i2:=by kernel_rfl
 i3:=by kernel_rfl
 i4:=by kernel_rfl
 i5:=by kernel_rfl
 i9:=by kernel_rfl
 i20:=by kernel_rfl
 i37:=by kernel_rfl
 i46:=by kernel_rfl
 i51:=by kernel_rfl
 i53:=by kernel_rfl
 i171:=by kernel_rfl
 i173:=by kernel_rfl
 i212:=by kernel_rfl
 i232:=by kernel_rfl
 i233:=by kernel_rfl
 m17:=by kernel_rfl
 m18:=by kernel_rfl
 m19:=by kernel_rfl }
open Go.RowKit Go.Sort Go.Lib in
def Tryz.strconv_Itoa (n:Int) (h0 : -9223372036854775808<=n) (h1:n<=9223372036854775807) (w:World) (htab:Lib.TabIs prog w "internal/strconv.uint64pow10" .u64 Lib.pow10Tab) :
 Calls prog 62 #[.int .i64 n] w fun e w'=>e = .returned (.string ⟨(Lib.itoa n).toArray⟩) /\ ∃k os,w'=grow (w.drewN k) os:=Any.strconv_Itoa Tryz.laysM171 n h0 h1 w htab
def Tryz.laysC172_ren:Go.Shelf.Ren:=⟨fun|172=>156|244=>207|245=>208|247=>241|279=>242|280=>243|281=>244|282=>245|287=>254|316=>255|171=>62|205=>256|321=>272|322=>273|243=>104|246=>148|283=>195|284=>196|285=>197|286=>198|129=>233|317=>232|318=>234|319=>235|320=>236|337=>251|338=>252|n=>n,fun|9=>9|3=>3|75=>72|76=>73|4=>4|5=>5|167=>268|37=>67|0=>0|85=>269|2=>2|168=>271|53=>240|175=>279|46=>214|210=>283|127=>128|145=>302|143=>300|21=>21|171=>239|173=>243|212=>261|51=>246|20=>20|213=>262|232=>294|233=>295|80=>78|n=>n,fun|15=>3|16=>4|17=>2|18=>5|19=>6|n=>n⟩
def Tryz.laysC172:Go.Proofs.LaysC.n172 prog Tryz.laysC172_ren:={
 mixed:=by kernel_rfl
 f129:=func233.trans (congrArg some (by kernel_rfl))
 f171:=func62.trans (congrArg some (by kernel_rfl))
 f172:=func156.trans (congrArg some (by kernel_rfl))
 f205:=func256.trans (congrArg some (by kernel_rfl))
 f243:=func104.trans (congrArg some (by kernel_rfl))
 f244:=func207.trans (congrArg some (by kernel_rfl))
 f245:=func208.trans (congrArg some (by kernel_rfl))
 f246:=func148.trans (congrArg some (by kernel_rfl))
 f247:=func241.trans (congrArg some (by kernel_rfl))
 f279:=func242.trans (congrArg some (by kernel_rfl))
 f280:=func243.trans (congrArg some (by kernel_rfl))
 f281:=func244.trans (congrArg some (by kernel_rfl))
 f282:=func245.trans (congrArg some (by kernel_rfl))
 f283:=func195.trans (congrArg some (by kernel_rfl))
 f284:=func196.trans (congrArg some (by kernel_rfl))
 f285:=func197.trans (congrArg some (by kernel_rfl))
 f286:=func198.trans (congrArg some (by kernel_rfl))
 f287:=func254.trans (congrArg some (by kernel_rfl))
 f316:=func255.trans (congrArg some (by kernel_rfl))
 f317:=func232.trans (congrArg some (by kernel_rfl))
 f318:=func234.trans (congrArg some (by kernel_rfl))
 f319:=func235.trans (congrArg some (by kernel_rfl))
 f320:=func236.trans (congrArg some (by kernel_rfl))
 f321:=func272.trans (congrArg some (by kernel_rfl))
 f322:=func273.trans (congrArg some (by kernel_rfl))
 f337:=func251.trans (congrArg some (by kernel_rfl))
 f338:=func252.trans (congrArg some (by kernel_rfl))
 t0:=underlying0
 a0:=isAgg0
 z0:=sizeOf0
 v0:=zeroValue0
 t2:=underlying2
 a2:=isAgg2
 z2:=sizeOf2
 v2:=zeroValue2
 t3:=underlying3
 a3:=isAgg3
 z3:=sizeOf3
 v3:=zeroValue3
 t4:=underlying4
 a4:=isAgg4
 z4:=sizeOf4
 v4:=zeroValue4
 t5:=underlying5
 a5:=isAgg5
 z5:=sizeOf5
 v5:=zeroValue5
 t9:=underlying9
 a9:=isAgg9
 z9:=sizeOf9
 v9:=zeroValue9
 t20:=underlying20
 a20:=isAgg20
 z20:=sizeOf20
 v20:=zeroValue20
 t21:=underlying21
 a21:=isAgg21
 z21:=sizeOf21
 v21:=zeroValue21
 t37:=underlying67
 a37:=isAgg67
 z37:=sizeOf67
 v37:=zeroValue67
 t46:=underlying214
 a46:=isAgg214
 z46:=sizeOf214
 v46:=zeroValue214
 t51:=underlying246
 a51:=isAgg246
 z51:=sizeOf246
 v51:=zeroValue246
 t53:=underlying240
 a53:=isAgg240
 z53:=sizeOf240
 v53:=zeroValue240
 t75:=underlying72
 a75:=isAgg72
 z75:=sizeOf72
 v75:=zeroValue72
 t76:=underlying73
 a76:=isAgg73
 z76:=sizeOf73
 v76:=zeroValue73
 t85:=underlying269
 a85:=isAgg269
 z85:=sizeOf269
 v85:=zeroValue269
 t127:=underlying128
 a127:=isAgg128
 z127:=sizeOf128
 v127:=zeroValue128
 t143:=underlying300
 a143:=isAgg300
 z143:=sizeOf300
 v143:=zeroValue300
 t145:=underlying302
 a145:=isAgg302
 z145:=sizeOf302
 v145:=zeroValue302
 t167:=underlying268
 a167:=isAgg268
 z167:=sizeOf268
 v167:=zeroValue268
 t168:=underlying271
 a168:=isAgg271
 z168:=sizeOf271
 v168:=zeroValue271
 t171:=underlying239
 a171:=isAgg239
 z171:=sizeOf239
 v171:=zeroValue239
 t173:=underlying243
 a173:=isAgg243
 z173:=sizeOf243
 v173:=zeroValue243
 t175:=underlying279
 a175:=isAgg279
 z175:=sizeOf279
 v175:=zeroValue279
 t210:=underlying283
 a210:=isAgg283
 z210:=sizeOf283
 v210:=zeroValue283
 t212:=underlying261
 a212:=isAgg261
 z212:=sizeOf261
 v212:=zeroValue261
 t213:=underlying262
 a213:=isAgg262
 z213:=sizeOf262
 t232:=underlying294
 a232:=isAgg294
 z232:=sizeOf294
 v232:=zeroValue294
 t233:=underlying295
 a233:=isAgg295
 z233:=sizeOf295
 v233:=zeroValue295
 g15:=by kernel_rfl
 g16:=by kernel_rfl
 g17:=by kernel_rfl
 g18:=by kernel_rfl
 g19:=by kernel_rfl
 t80:=underlying78
 a80:=isAgg78
 z80:=sizeOf78
 v80:=zeroValue78
 i0:=by kernel_rfl
 i2:=by kernel_rfl
 i3:=by kernel_rfl
 i4:=by kernel_rfl
 i5:=by kernel_rfl
 i9:=by kernel_rfl
 i20:=by kernel_rfl
 i21:=by kernel_rfl
 i37:=by kernel_rfl
 i46:=by kernel_rfl
 i51:=by kernel_rfl
 i53:=by kernel_rfl
 i75:=by kernel_rfl
 i76:=by kernel_rfl
 i80:=by kernel_rfl
 i85:=by kernel_rfl
 i127:=by kernel_rfl
 i143:=by kernel_rfl
 i145:=by kernel_rfl
 i167:=by kernel_rfl
 i168:=by kernel_rfl
 i171:=by kernel_rfl
 i173:=by kernel_rfl
 i175:=by kernel_rfl
 i210:=by kernel_rfl
 i212:=by kernel_rfl
 i232:=by kernel_rfl
 i233:=by kernel_rfl
 m15:=by kernel_rfl
 m16:=by kernel_rfl
 m17:=by kernel_rfl
 m18:=by kernel_rfl
 m19:=by kernel_rfl
 c0:=by kernel_rfl
 c2:=by kernel_rfl
 c3:=by kernel_rfl
 c4:=by kernel_rfl
 c5:=by kernel_rfl
 c9:=by kernel_rfl
 c20:=by kernel_rfl
 c21:=by kernel_rfl
 c37:=by kernel_rfl
 c46:=by kernel_rfl
 c51:=by kernel_rfl
 c53:=by kernel_rfl
 c75:=by kernel_rfl
 c76:=by kernel_rfl
 c80:=by kernel_rfl
 c85:=by kernel_rfl
 c127:=by kernel_rfl
 c143:=by kernel_rfl
 c145:=by kernel_rfl
 c167:=by kernel_rfl
 c168:=by kernel_rfl
 c171:=by kernel_rfl
 c173:=by kernel_rfl
 c175:=by kernel_rfl
 c210:=by kernel_rfl
 c212:=by kernel_rfl
 c213:=by kernel_rfl
 c232:=by kernel_rfl
 c233:=by kernel_rfl }
open Go.RowKit in
def Tryz.strconv_Atoi_ok (s:ByteArray) (hmax:s.size<=9223372036854775806) (v:Int) (h:Lib.atoiAll s.data.toList = .ok v) (w:World) :
 Calls prog 156 #[.string s] w fun e w'=>e = .returned (.tuple #[.int .i64 v,.nilIface])/\(w'=w \/ ∃t,w'=Lib.bytesWorld w 5 t):=Any.strconv_Atoi_ok Tryz.laysC172 s hmax v h w
open Go.RowKit in
def Tryz.strconv_Atoi_range (s:ByteArray) (hlim:s.size<=281474976710656) (h:Lib.atoiAll s.data.toList = .range) (ev:Value) (w:World) (hv:w.cell? ⟨4,0,none⟩=some ev) (hev:ev = .nilIface \/ ∃te pe,ev = .iface te pe) :
 Calls prog 156 #[.string s] w fun e w'=> ∃N,e = .returned (.tuple #[.int .i64 (Lib.atoiSat s.data.toList),.iface 271 (.pointer (some ⟨N,0,none⟩))])/\w.heap.size<=N/\w'.heap[N]? = some (.cells #[.string ⟨#[65,116,111,105]⟩,.string s,ev] 283 (0,0))/\Below w.heap.size w w':=Any.strconv_Atoi_range Tryz.laysC172 s hlim h ev w hv hev
def Tryz.lays145_ren:Go.Shelf.Ren:=⟨fun|145=>69|220=>109|219=>106|217=>150|225=>151|224=>152|267=>153|266=>200|314=>201|n=>n,fun|9=>9|4=>4|59=>82|3=>3|5=>5|46=>214|146=>247|51=>246|n=>n,fun|1=>0|n=>n⟩
def Tryz.lays145:Go.Proofs.Lays.n145 prog Tryz.lays145_ren:={
 mixed:=by kernel_rfl
 f145:=func69.trans (congrArg some (by kernel_rfl))
 f217:=func150.trans (congrArg some (by kernel_rfl))
 f219:=func106.trans (congrArg some (by kernel_rfl))
 f220:=func109.trans (congrArg some (by kernel_rfl))
 f224:=func152.trans (congrArg some (by kernel_rfl))
 f225:=func151.trans (congrArg some (by kernel_rfl))
 f266:=func200.trans (congrArg some (by kernel_rfl))
 f267:=func153.trans (congrArg some (by kernel_rfl))
 f314:=func201.trans (congrArg some (by kernel_rfl))
 t3:=underlying3
 a3:=isAgg3
 z3:=sizeOf3
 v3:=zeroValue3
 t4:=underlying4
 a4:=isAgg4
 z4:=sizeOf4
 v4:=zeroValue4
 t5:=underlying5
 a5:=isAgg5
 z5:=sizeOf5
 v5:=zeroValue5
 t9:=underlying9
 a9:=isAgg9
 z9:=sizeOf9
 v9:=zeroValue9
 t46:=underlying214
 a46:=isAgg214
 z46:=sizeOf214
 v46:=zeroValue214
 t51:=underlying246
 a51:=isAgg246
 z51:=sizeOf246
 v51:=zeroValue246
 t59:=underlying82
 a59:=isAgg82
 z59:=sizeOf82
 v59:=zeroValue82
 t146:=underlying247
 a146:=isAgg247
 z146:=sizeOf247
 v146:=zeroValue247
 g1:=by kernel_rfl }
open Go.RowKit Go.Lib in
def Tryz.strings_Cut (s sep:ByteArray) (m:Int) (w:World) (hs:s.size<4294967281) (hm:w.cell? ⟨0,0,none⟩=some (.int .i64 m)) :
 Calls prog 69 #[.string s,.string sep] w fun e w'=>e = .returned (.tuple #[.string ⟨(Lib.cut s.data.toList sep.data.toList).1.toArray⟩,.string ⟨(Lib.cut s.data.toList sep.data.toList).2.1.toArray⟩,.bool (Lib.cut s.data.toList sep.data.toList).2.2]) /\ ∃n,w'=w.drewN n:=Any.strings_Cut Tryz.lays145 s sep m w hs hm
def Tryz.lays138_ren:Go.Shelf.Ren:=⟨fun|138=>33|195=>64|218=>65|143=>66|219=>106|217=>150|225=>151|224=>152|267=>153|266=>200|314=>201|n=>n,fun|9=>9|3=>3|4=>4|5=>5|0=>0|46=>214|146=>247|51=>246|n=>n,fun|1=>0|n=>n⟩
def Tryz.lays138:Go.Proofs.Lays.n138 prog Tryz.lays138_ren:={
 mixed:=by kernel_rfl
 f138:=func33.trans (congrArg some (by kernel_rfl))
 f143:=func66.trans (congrArg some (by kernel_rfl))
 f195:=func64.trans (congrArg some (by kernel_rfl))
 f217:=func150.trans (congrArg some (by kernel_rfl))
 f218:=func65.trans (congrArg some (by kernel_rfl))
 f219:=func106.trans (congrArg some (by kernel_rfl))
 f224:=func152.trans (congrArg some (by kernel_rfl))
 f225:=func151.trans (congrArg some (by kernel_rfl))
 f266:=func200.trans (congrArg some (by kernel_rfl))
 f267:=func153.trans (congrArg some (by kernel_rfl))
 f314:=func201.trans (congrArg some (by kernel_rfl))
 t0:=underlying0
 a0:=isAgg0
 z0:=sizeOf0
 v0:=zeroValue0
 t3:=underlying3
 a3:=isAgg3
 z3:=sizeOf3
 v3:=zeroValue3
 t4:=underlying4
 a4:=isAgg4
 z4:=sizeOf4
 v4:=zeroValue4
 t5:=underlying5
 a5:=isAgg5
 z5:=sizeOf5
 v5:=zeroValue5
 t9:=underlying9
 a9:=isAgg9
 z9:=sizeOf9
 v9:=zeroValue9
 t46:=underlying214
 a46:=isAgg214
 z46:=sizeOf214
 v46:=zeroValue214
 t51:=underlying246
 a51:=isAgg246
 z51:=sizeOf246
 v51:=zeroValue246
 t146:=underlying247
 a146:=isAgg247
 z146:=sizeOf247
 v146:=zeroValue247
 g1:=by kernel_rfl }
open Go.RowKit Go.Lib in
def Tryz.strings_Count_one (s:ByteArray) (c:UInt8) (w:World) :
 Calls prog 33 #[.string s,.string ⟨#[c]⟩] w fun e w'=>e = .returned (.int .i64 (Lib.countByte s.data.toList c))/\w'=w:=Any.strings_Count_one Tryz.lays138 s c w
def Tryz.lays99_ren:Go.Shelf.Ren:=⟨fun|99=>127|206=>176|n=>n,fun|9=>9|4=>4|3=>3|n=>n,fun|n=>n⟩
def Tryz.lays99:Go.Proofs.Lays.n99 prog Tryz.lays99_ren:={
 mixed:=by kernel_rfl
 f99:=func127.trans (congrArg some (by kernel_rfl))
 f206:=func176.trans (congrArg some (by kernel_rfl))
 t3:=underlying3
 a3:=isAgg3
 z3:=sizeOf3
 v3:=zeroValue3
 t4:=underlying4
 a4:=isAgg4
 z4:=sizeOf4
 v4:=zeroValue4
 t9:=underlying9
 a9:=isAgg9
 z9:=sizeOf9
 v9:=zeroValue9 }
open Go.RowKit Go.Lib in
def Tryz.strings_HasPrefix (s p:ByteArray) (w:World) :
 Calls prog 127 #[.string s,.string p] w fun e w'=>e = .returned (.bool (Lib.hasPrefix s.data.toList p.data.toList))/\w'=w:=Any.strings_HasPrefix Tryz.lays99 s p w
def Tryz.lays146_ren:Go.Shelf.Ren:=⟨fun|146=>110|221=>155|268=>206|138=>33|143=>66|195=>64|197=>240|218=>65|219=>106|260=>253|217=>150|225=>151|224=>152|267=>153|266=>200|314=>201|n=>n,fun|9=>9|31=>117|3=>3|4=>4|0=>0|105=>266|21=>21|5=>5|46=>214|119=>296|139=>299|138=>298|146=>247|51=>246|n=>n,fun|1=>0|3=>7|4=>8|n=>n⟩
def Tryz.lays146:Go.Proofs.Lays.n146 prog Tryz.lays146_ren:={
 mixed:=by kernel_rfl
 f138:=func33.trans (congrArg some (by kernel_rfl))
 f143:=func66.trans (congrArg some (by kernel_rfl))
 f146:=func110.trans (congrArg some (by kernel_rfl))
 f195:=func64.trans (congrArg some (by kernel_rfl))
 f197:=func240.trans (congrArg some (by kernel_rfl))
 f217:=func150.trans (congrArg some (by kernel_rfl))
 f218:=func65.trans (congrArg some (by kernel_rfl))
 f219:=func106.trans (congrArg some (by kernel_rfl))
 f221:=func155.trans (congrArg some (by kernel_rfl))
 f224:=func152.trans (congrArg some (by kernel_rfl))
 f225:=func151.trans (congrArg some (by kernel_rfl))
 f260:=func253.trans (congrArg some (by kernel_rfl))
 f266:=func200.trans (congrArg some (by kernel_rfl))
 f267:=func153.trans (congrArg some (by kernel_rfl))
 f268:=func206.trans (congrArg some (by kernel_rfl))
 f314:=func201.trans (congrArg some (by kernel_rfl))
 t0:=underlying0
 a0:=isAgg0
 z0:=sizeOf0
 v0:=zeroValue0
 t3:=underlying3
 a3:=isAgg3
 z3:=sizeOf3
 v3:=zeroValue3
 t4:=underlying4
 a4:=isAgg4
 z4:=sizeOf4
 v4:=zeroValue4
 t5:=underlying5
 a5:=isAgg5
 z5:=sizeOf5
 v5:=zeroValue5
 t9:=underlying9
 a9:=isAgg9
 z9:=sizeOf9
 v9:=zeroValue9
 t21:=underlying21
 a21:=isAgg21
 z21:=sizeOf21
 v21:=zeroValue21
 t31:=underlying117
 a31:=isAgg117
 z31:=sizeOf117
 v31:=zeroValue117
 t46:=underlying214
 a46:=isAgg214
 z46:=sizeOf214
 v46:=zeroValue214
 t51:=underlying246
 a51:=isAgg246
 z51:=sizeOf246
 v51:=zeroValue246
 t105:=underlying266
 a105:=isAgg266
 z105:=sizeOf266
 v105:=zeroValue266
 t119:=underlying296
 a119:=isAgg296
 z119:=sizeOf296
 t138:=underlying298
 a138:=isAgg298
 z138:=sizeOf298
 v138:=zeroValue298
 t139:=underlying299
 a139:=isAgg299
 z139:=sizeOf299
 v139:=zeroValue299
 t146:=underlying247
 a146:=isAgg247
 z146:=sizeOf247
 v146:=zeroValue247
 g1:=by kernel_rfl
 g3:=by kernel_rfl
 g4:=by kernel_rfl }
open Go.RowKit Go.Lib in
def Tryz.strings_Split (s sep:ByteArray) (m:Int) (w:World) (hs:s.size<4294967281) (hm:w.cell? ⟨0,0,none⟩=some (.int .i64 m)) (h1:1<=sep.size) :
 Calls prog 110 #[.string s,.string sep] w fun e w'=>
  e = .returned (.slice (some ⟨w.heap.size,0,none⟩) (Lib.countB s sep+1) (Lib.countB s sep+1))/\w'=w.alloc (.cells ((Lib.splitB sep 0 (Lib.countB s sep) s).map Value.string).toArray 9):=Any.strings_Split Tryz.lays146 (by kernel_rfl) s sep m w hs hm h1
end Go.Proofs
namespace Bk
open Go Go.RowKit Go.Proofs
def Li {k:IntKind} {a b:Int} (h:a=b):Ending.returned (.int k a) = .returned (.int k b):=by rw [h]
def CS {a b:lB} (h:a=b):Ending.returned (str a) = .returned (str b):=by rw [h]
def AI {a b:Bool} (h:a=b):Ending.returned (.bool a) = .returned (.bool b):=by rw [h]
def DF (k:Int) (w:wD) (h0:0<=k) (h1:k<=255):Calls prog 231 #[.int .u8 k] w fun e w'=>e = .returned (.int .i64 (B3 k))/\w=w':=by
 go_enter func231,ntmps231
 go_wp2_with fail
 all_goals go_ret
 all_goals (refine ⟨Li ?_,rfl⟩;(try simp only [beq_iff_eq,beq_eq_false_iff_ne,ne_eq,bne_iff_ne,decide_eq_true_eq,decide_eq_false_iff_not] at *);first|(subst k;rfl)|(unfold B3;(repeat' split)<;>omega))
structure Syms (w:wD):Prop where
 sym : ∀i,i<43->w.cell? ⟨1,i,none⟩=some (str (symbols.getD i []))
def Syms.ext {w w':wD} (h:Syms w) (x:Ext w w'):Syms w':=⟨fun i f=>x.keep (h.sym i f)⟩
instance {w w':wD}:LfE w w' (Syms w) (Syms w'):=⟨fun x h=>Bk.Syms.ext h x⟩
def Syms.fr {S:nP} {w w':wD} (h:Syms w) (x:Fr S w w') (f : ∀k,S k->1<k):Syms w':=⟨fun i E=>x.keep (fun e=>by have:=f _ e;omega) (h.sym i E)⟩
instance {S:nP} {w w':wD}:LfF S w w' (Syms w) (∀k,S k->1<k) (Syms w'):=⟨fun x s h=>Bk.Syms.fr h x s⟩
def LK (k:Int) (h:43<=k):BQ k=[]:=by
 unfold BQ;rw [dC,bS (show 43<=k.toNat by omega)];rfl
def O9 (k:Int) (h : ¬(6<=k/\k<=23) /\ ¬(40<=k/\k<=42)) (E:0<=k):BQ k=[]:=by
 by_cases f:43<=k
 . exact LK k f
 . have key : ∀i:Fin 43,¬(6<=i.val/\i.val<=23) /\ ¬(40<=i.val/\i.val<=42)->symbols.getD i.val []=[]:=by decide
   exact key ⟨k.toNat,Ab⟩ (by simp only;omega)
def Ht (k:Int) (w:wD) (h0:0<=k) (h1:k<=255) (ht:Syms w):Calls prog 160 #[.int .u8 k] w fun e w'=>e = .returned (str (BQ k))/\w=w':=by
 by_cases hk:k<43
 . have g:=ht.sym k.toNat (by omega)
   have G:Hid (symbols.getD k.toNat []=BQ k):=bA rfl;clear ht
   go_enter func160,ntmps160
   go_wp2_with fail
   go_ret
   rw [<-G.out]
   exact ⟨by simp [go_sem],rfl⟩
 . have hn:=LK k (by omega)
   have HN:=bA hn;clear hn ht
   go_enter func160,ntmps160
   go_wp2_with fail
   go_ret
   rw [HN.out]
   exact ⟨rfl,rfl⟩
def Pb (c:UInt8) (w:wD):Calls prog 78 #[.int .u8 c.toNat] w fun e w'=>e = .returned (.bool (Cz c))/\w=w':=by
 go_enter func78,ntmps78
 go_wp2_with fail
 all_goals go_ret
 all_goals (refine ⟨AI ?_,rfl⟩;unfold Cz;rw [Bool.eq_iff_iff];simp;try omega)
def N5 (c:UInt8) (w:wD):Calls prog 81 #[.int .u8 c.toNat] w fun e w'=>e = .returned (.bool (Cw c))/\w=w':=by
 go_enter func81,ntmps81
 go_wp2_with fail
 all_goals go_ret
 all_goals (refine ⟨AI ?_,rfl⟩;unfold Cw;rw [Bool.eq_iff_iff];simp;try omega)
def R4 (c:UInt8) (w:wD):Calls prog 82 #[.int .u8 c.toNat] w fun e w'=>e = .returned (.bool (Hr c))/\w=w':=by
 go_enter func82,ntmps82
 go_wp2_with fail
 all_goals go_ret
 all_goals (refine ⟨AI ?_,rfl⟩;unfold Hr;rw [Bool.eq_iff_iff];simp;try omega)
def WJ (c:UInt8) (w:wD):Calls prog 83 #[.int .u8 c.toNat] w fun e w'=>e = .returned (.bool (O5 c))/\w=w':=by
 go_enter func83,ntmps83
 go_wp2_with fail
 all_goals go_ret
 all_goals (refine ⟨AI ?_,rfl⟩;unfold O5;rw [Bool.eq_iff_iff];simp;try omega)
def S5 (c:UInt8) (w:wD):Calls prog 80 #[.int .u8 c.toNat] w fun e w'=>e = .returned (.bool (Cs c))/\w=w':=by
 go_enter func80,ntmps80
 cases hl:Cz c
 all_goals have HL:=bA hl;clear hl
 all_goals go_wp2_with (first|(go_at_call 78;refine (Pb c _).mono ?_;rintro e w' ⟨rfl,rfl⟩;rw [HL.out])|(go_at_call 81;refine (N5 c _).mono ?_;rintro e w' ⟨rfl,rfl⟩))
 all_goals go_ret
 all_goals (refine ⟨AI ?_,rfl⟩;unfold Cs;rw [HL.out];simp)
def N6 (f:FuncId) (p:UInt8->Bool) (hp : ∀(c:UInt8) (w:wD),Calls prog f #[.int .u8 c.toNat] w fun e w'=>e = .returned (.bool (p c))/\w=w')
 (he : ∀args w,(callFunc f args).run prog w = .ok (.enter f args) w) (s:lB) (w:wD) (hs:s.length<=9223372036854775807) :
 Calls prog 79 #[str s,.func (.func f) #[] #[]] w fun e w'=>e = .returned (.int .i64 (GX p s))/\w=w':=by
 have HP:=bA hp;clear hp
 go_enter func79,ntmps79
 go_wp2_with fail
 go_loop [8] (fun i=> ∃j:Nat,j<=s.length/\i = .int .i64 j/\Hid (GX p s=j+GX p (s.drop j))) (fun i=>s.length-(intOf i).toNat)
 case atStart=>exact ⟨0,bI _,rfl,bA (by simp)⟩
 case round=>
  obtain ⟨j,hj,rfl,HJ⟩:=hrel
  by_cases hlt:j<s.length
  . go_wp2_with fail
    refine (HP.out s[j] _).mono ?_;rintro e w' ⟨rfl,rfl⟩;have hd:=cW hlt
    have hsp:GX p (s.drop j)=if p s[j] then 1+GX p (s.drop (j+1)) else 0:=by
     rw [hd];unfold GX;rw [List.takeWhile_cons];split<;>simp;omega
    have HSP:=bA hsp;clear hsp hd
    cases hb:p s[j]
    . have HB:=bA hb;clear hb
      go_wp2_with fail
      go_ret
      refine ⟨Li ?_,rfl⟩
      rw [HJ.out,HSP.out,HB.out];simp
    . have HB:=bA hb;clear hb
      go_wp2_with fail
      go_round
      case rel=>exact ⟨j+1,by omega,by go_num,bA (by rw [HJ.out,HSP.out,HB.out];simp;omega)⟩
      case measure=>simp [intOf];omega
  . go_wp2_with fail
    go_ret
    refine ⟨Li ?_,rfl⟩
    rw [HJ.out,List.drop_eq_nil_of_le (by omega)];simp [GX];omega
def UI (s:lB) (n:Int) (f:n.toNat=min 2 s.length):(⟨s.toArray⟩:ByteArray).extract 0 n.toNat=⟨(s.take 2).toArray⟩:=by
 apply ByteArray.ext;rw [f];simp only [ByteArray.data_extract];apply Array.ext';simp only [List.extract_toArray,List.extract_eq_take_drop,Nat.sub_zero,List.drop_zero];rcases Nat.le_total 2 s.length with h|h
 . rw [Nat.min_eq_left h]
 . rw [Nat.min_eq_right h,List.take_of_length_le h,bH]
def Js : ∀(l:lB) (c:UInt8),-1<=dA l c
 | [],c=>by simp [dA]
 | b::l,c=>by
  have:=Js l c;unfold dA;split
  . omega
  . split<;>omega
def FK : ∀(l:lB) (c:UInt8),(0<=dA l c)↔l.contains c=true
 | [],c=>by simp [dA]
 | b::l,c=>by
  have E:=FK l c;have F:=Js l c;unfold dA;rw [List.contains_cons];by_cases f:b=c
  . simp [f]
  . have h : ¬c=b:=fun e=>f e.symm
    simp only [beq_iff_eq,f,h,if_false,Bool.or_eq_true,false_or,<-E];split<;>omega
def Yy (c:UInt8) (r:lB) (w:wD) (hs:(c::r).length<=9223372036854775807) :
 Calls prog 84 #[str (c::r)] w fun e w'=>e = .returned (.int .i64 (Iu (c::r)))/\w=w':=by
 simp only [aV] at hs;have hx:=UI (c::r) (min 2 ((r.length:Int)+1)) (by simp only [aV];omega)
 have hsl:Iu (c::r)=if List.isPrefixOf [60,61,62] (c::r) then 3 else if pairs.contains ((c::r).take 2) then 2 else if singles.contains c then 1 else 0:=rfl
 have HSL:=bA hsl;clear hsl
 generalize (c::r).take 2=t at *
 cases h3:List.isPrefixOf [60,61,62] (c::r)
 . have H3:=bA h3;clear h3
   cases hp:pairs.contains t
   . have HP:=bA hp
     simp only [pairs,List.contains_cons,List.contains_nil,Bool.or_eq_false_iff,Bool.or_false] at hp;obtain ⟨p0,p1,p2,p3,p4,p5,p6,p7,p8,p9⟩:=hp
     go_enter func84,ntmps84
     go_wp2_with (go_at_call 127;refine (Tryz.strings_HasPrefix _ _ _).mono ?_;rintro e w' ⟨rfl,rfl⟩;rw [show Lib.hasPrefix (⟨(c::r).toArray⟩:ByteArray).data.toList (⟨#[60,61,62]⟩:ByteArray).data.toList=false from H3.out])
     refine (Tryz.strings_IndexByte _ _ _).mono ?_;rintro e w2 ⟨rfl,rfl⟩
     have e0:(((c.toNat:Nat):Int)).toNat.toUInt8=c:=by simp
     have e1 : ∀h,(((((⟨(c::r).toArray⟩:ByteArray)[0]'h).toNat:Nat):Int)).toNat.toUInt8=c:=fun _=>e0
     rw [e1];have hi:=FK singles c;rw [show dA (⟨#[43,45,42,47,37,38,124,94,33,61,60,62,40,41,123,125,91,93,59,44]⟩:ByteArray).data.toList c=dA singles c from rfl]
     generalize dA singles c=ix at *
     cases hc:singles.contains c
     . have hlt:ix<0:=by rw [hc] at hi;simp at hi;omega
       have HC:=bA hc;clear hc hi
       simp only
       go_wp2_with fail
       go_ret
       rw [HSL.out,H3.out,HP.out,HC.out];exact ⟨rfl,rfl⟩
     . have hge:0<=ix:=hi.2 hc
       have HC:=bA hc;clear hc hi
       simp only
       go_wp2_with fail
       go_ret
       rw [HSL.out,H3.out,HP.out,HC.out];exact ⟨rfl,rfl⟩
   . go_enter func84,ntmps84
     go_wp2_with (go_at_call 127;refine (Tryz.strings_HasPrefix _ _ _).mono ?_;rintro e w' ⟨rfl,rfl⟩;rw [show Lib.hasPrefix (⟨(c::r).toArray⟩:ByteArray).data.toList (⟨#[60,61,62]⟩:ByteArray).data.toList=false from H3.out])
     all_goals first|(go_ret;rw [HSL.out,H3.out,hp];exact ⟨rfl,rfl⟩)|(exfalso;simp_all [pairs];done)
 . have H3:=bA h3;clear h3
   go_enter func84,ntmps84
   go_wp2_with (go_at_call 127;refine (Tryz.strings_HasPrefix _ _ _).mono ?_;rintro e w' ⟨rfl,rfl⟩;rw [show Lib.hasPrefix (⟨(c::r).toArray⟩:ByteArray).data.toList (⟨#[60,61,62]⟩:ByteArray).data.toList=true from H3.out])
   go_ret
   rw [HSL.out,H3.out];exact ⟨rfl,rfl⟩
def CL:List lB->Nat->List MapEntry
 | [],_=>[]
 | k::r,i=>{ key:=str k,val:=.bool true,born:=i }::CL r (i+1)
def EH (ks:List lB):Obj:=.map (CL ks 0).toArray ks.length
def LL (f:List lB) (k:lB) : ∀i,CL (f++[k]) i=CL f i++[{ key:=str k,val:=.bool true,born:=i+f.length }]:=by
 induction f with
 | nil=>intro i;simp [CL]
 | cons x r h=>intro i;simp [CL,h,Nat.add_assoc,Nat.add_comm 1]
def Yz (b:ByteArray) (x:lB):(b==(⟨x.toArray⟩:ByteArray))=(b.data.toList==x):=by
 show (b.data==x.toArray)=_;rw [Bool.eq_iff_iff];simp;constructor
 . intro h;rw [h]
 . intro h;rw [<-h]
def I1 (b:ByteArray) (f:List lB) : ∀i j,(f.contains b.data.toList=false->Instr.findNow .string (.string b) (CL f i) j=some none) /\
 (f.contains b.data.toList=true -> ∃n,Instr.findNow .string (.string b) (CL f i) j=some (some (n,.bool true))):=by
 induction f with
 | nil=>intro i j;simp [CL,Instr.findNow]
 | cons x r E=>
  intro i j;simp only [CL,Instr.findNow,Instr.sameNow,Yz,List.contains_cons];cases h:b.data.toList==x
  . simpa using E (i+1) (j+1)
  . simp
def UJ (h:Array Obj) (a b:Obj):(h.push a).setIfInBounds h.size b=h.push b:=by
 apply Array.ext';simp
def LM:prog.underlying 146=some (.map 9 4):=by kernel_rfl
def EI:prog.underlying 9=some .string:=by kernel_rfl
def QV (w:wD) (f:List lB) (b:ByteArray) (h:f.contains b.data.toList=false) :
 (Instr.mapUpdate 146 (.map (some w.heap.size)) (.string b) (.bool true)).run prog (w.alloc (EH f)) = .ok () (w.alloc (EH (f++[b.data.toList]))):=by
 have E:(w.alloc (EH f)).heap[w.heap.size]? = some (.map (CL f 0).toArray f.length):=by show (w.heap.push (EH f))[w.heap.size]? = _;simp [EH]
 have F:Instr.findNow .string (.string b) (CL f 0) 0=some none:=(I1 b f 0 0).1 h;have L:(Instr.checkKey false 10000 9 (.string b)).run prog (w.alloc (EH f)) = .ok () (w.alloc (EH f)):=MapKept.run_checkKey (k:=.string b) EI (by simp [MapKept.IsKey]) false 9999;simp [Instr.mapUpdate,AK LM,MapKept.run_getObj_map E,L,MapKept.run_findKey EI F,MapKept.run_setObj_map _ E,bG];show ({ w with heap:=(w.heap.push (EH f)).setIfInBounds w.heap.size _ }:wD)={ w with heap:=w.heap.push _ };rw [UJ];unfold EH;rw [LL];simp
def Pd (w:wD) (f:List lB) (b:ByteArray) :
 (Instr.lookup 146 (.map (some w.heap.size)) (.string b) false).run prog (w.alloc (EH f)) = .ok (.bool (f.contains b.data.toList)) (w.alloc (EH f)):=by
 have E:(w.alloc (EH f)).heap[w.heap.size]? = some (.map (CL f 0).toArray f.length):=by show (w.heap.push (EH f))[w.heap.size]? = _;simp [EH]
 have F : ∀q,(Instr.checkKey q 10000 9 (.string b)).run prog (w.alloc (EH f)) = .ok () (w.alloc (EH f)):=fun q=>MapKept.run_checkKey (k:=.string b) EI (by simp [MapKept.IsKey]) q 9999
 have L:(zeroValue 4).run prog (w.alloc (EH f)) = .ok (.bool false) (w.alloc (EH f)):=by kernel_rfl
 cases hk:f.contains b.data.toList
 . have h:=(I1 b f 0 0).1 hk;simp [Instr.lookup,AK LM,MapKept.run_getObj_map E,F,MapKept.run_findKey EI h,L,bG]
 . obtain ⟨n,h⟩:=(I1 b f 0 0).2 hk;simp [Instr.lookup,AK LM,MapKept.run_getObj_map E,F,MapKept.run_findKey EI h,bG]
def Pe (w:wD):(Instr.makeMap 146 none).run prog w = .ok (.map (some w.heap.size)) (w.alloc (EH [])):=run_makeMap _ w
def Ph (s:lB) (h:E6 s=true):2<=s.length/\s.length<=7:=by
 have key : ∀k∈keywords,2<=k.length/\k.length<=7:=by decide
 exact key s (by simpa [E6] using h)
def S6 (s:lB) (w:wD) (hs:s.length<=9223372036854775807) :
 Calls prog 47 #[str s] w fun e w'=>e = .returned (.bool (E6 s))/\Ext w w':=by
 by_cases h2:s.length<2\/7<s.length
 . have hk:E6 s=false:=by
    cases h:E6 s
    . rfl
    . have:=Ph s h;omega
   have HK:=bA hk;clear hk
   by_cases h3:s.length<2
   . have d1:decide ((s.length:Int)<2)=true:=by simp;omega
     clear h2
     go_enter func47,ntmps47
     go_wp2_with fail
     go_ret
     rw [HK.out];exact ⟨rfl,dI _⟩
   . have d1:decide ((s.length:Int)<2)=false:=by simp;omega
     have d2:decide ((7:Int)<s.length)=true:=by simp;omega
     clear h2
     go_enter func47,ntmps47
     go_wp2_with fail
     go_ret
     rw [HK.out];exact ⟨rfl,dI _⟩
 . have d1:decide ((s.length:Int)<2)=false:=by simp;omega
   have d2:decide ((7:Int)<s.length)=false:=by simp;omega
   have r1:=Pe;have r2:=QV w;have r3:=Pd w
   go_enter func47,ntmps47
   go_wp2_with fail
   go_ret
   exact ⟨AI (by simp [E6,keywords]),(by refine dJ ?_ _;exact dI _)⟩
def UK : ∀args w,(callFunc 81 args).run prog w = .ok (.enter 81 args) w:=enters_of func81 Bl rfl
def UL : ∀args w,(callFunc 82 args).run prog w = .ok (.enter 82 args) w:=enters_of func82 Bl rfl
def S7 : ∀args w,(callFunc 80 args).run prog w = .ok (.enter 80 args) w:=enters_of func80 Bl rfl
def S8 : ∀args w,(callFunc 83 args).run prog w = .ok (.enter 83 args) w:=enters_of func83 Bl rfl
def R5 (c:UInt8) (r:lB) (w:wD) (hs:(c::r).length<=9223372036854775807) :
 Calls prog 46 #[str (c::r)] w fun e w'=>e = .returned (.tuple #[.int .u8 (AO (c::r)).1,.int .i64 (AO (c::r)).2])/\w=w':=by
 have hf:AO (c::r)=if Cz c then (1,GX Cs (c::r)) else if Cw c then (2,GX Cw (c::r)) else if Hr c then (4,GX Hr (c::r)) else if c=35 then (5,GX O5 (c::r)) else (3,Iu (c::r)):=rfl
 have HF:=bA hf;clear hf
 have HS:=bA hs;simp only [aV] at hs
 go_enter func46,ntmps46
 go_wp2_with fail
 refine (Pb c _).mono ?_;rintro e w1 ⟨rfl,rfl⟩
 cases hl:Cz c
 . have HL:=bA hl;clear hl
   simp only
   go_wp2_with fail
   refine (N5 c _).mono ?_;rintro e w1 ⟨rfl,rfl⟩
   cases hd:Cw c
   . have HD:=bA hd;clear hd
     simp only
     go_wp2_with fail
     refine (R4 c _).mono ?_;rintro e w1 ⟨rfl,rfl⟩
     cases hb:Hr c
     . have HB:=bA hb;clear hb
       simp only
       by_cases h35:c=35
       . have H35:=bA h35
         have e35:(({ data:=(c::r).toArray }:ByteArray)[0]'(by simp [ByteArray.size])).toNat=35:=by show c.toNat=35;rw [h35];rfl
         clear h35
         go_wp2_with fail
         refine (N6 83 O5 WJ S8 _ _ HS.out).mono ?_;rintro e w1 ⟨rfl,rfl⟩;simp only
         go_wp2_with fail
         go_ret2
         rw [HF.out,HL.out,HD.out,HB.out,AU H35.out];exact ⟨rfl,rfl⟩
       . have H35:=bA h35
         have e35:((({ data:=(c::r).toArray }:ByteArray)[0]'(by simp [ByteArray.size])).toNat:Int)≠35:=by
          show (c.toNat:Int)≠35
          intro h;apply h35;apply UInt8.toNat_inj.1;show c.toNat=35;omega
         clear h35
         go_wp2_with fail
         refine (Yy c r _ HS.out).mono ?_;rintro e w1 ⟨rfl,rfl⟩;simp only
         go_wp2_with fail
         go_ret2
         rw [HF.out,HL.out,HD.out,HB.out,AE H35.out];exact ⟨rfl,rfl⟩
     . have HB:=bA hb;clear hb
       simp only
       go_wp2_with fail
       refine (N6 82 Hr R4 UL _ _ HS.out).mono ?_;rintro e w1 ⟨rfl,rfl⟩;simp only
       go_wp2_with fail
       go_ret2
       rw [HF.out,HL.out,HD.out,HB.out];exact ⟨rfl,rfl⟩
   . have HD:=bA hd;clear hd
     simp only
     go_wp2_with fail
     refine (N6 81 Cw N5 UK _ _ HS.out).mono ?_;rintro e w1 ⟨rfl,rfl⟩;simp only
     go_wp2_with fail
     go_ret2
     rw [HF.out,HL.out,HD.out];exact ⟨rfl,rfl⟩
 . have HL:=bA hl;clear hl
   simp only
   go_wp2_with fail
   refine (N6 80 Cs S5 S7 _ _ HS.out).mono ?_;rintro e w1 ⟨rfl,rfl⟩;simp only
   go_wp2_with fail
   go_ret2
   rw [HF.out,HL.out];exact ⟨rfl,rfl⟩
def G0 (s:lB) (w:wD) (hs:s.length<=9223372036854775807) :
 Calls prog 24 #[str s] w fun e w'=>e = .returned (.bool (A9 s))/\Ext w w':=by
 cases s with
 | nil=>
  go_enter func24,ntmps24
  go_wp2_with fail
  go_ret
  exact ⟨rfl,dI _⟩
 | cons c r=>
  have hn:A9 (c::r)=(decide ((c::r).length<=16)&&((AO (c::r)).1==1)&&((AO (c::r)).2==(c::r).length) && !E6 (c::r)):=by simp [A9]
  have HN:=bA hn;clear hn
  have HS:=bA hs;simp only [aV] at hs
  by_cases h16:16<(c::r).length
  . simp only [aV] at h16
    have d1:decide ((16:Int)<(r.length:Int)+1)=true:=by simp;omega
    have H16:=bA h16;clear h16
    go_enter func24,ntmps24
    go_wp2_with fail
    go_ret
    rw [HN.out]
    exact ⟨AI (by have:=H16.out;simp;omega),dI _⟩
  . simp only [aV] at h16
    have d1:decide ((16:Int)<(r.length:Int)+1)=false:=by simp;omega
    go_enter func24,ntmps24
    go_wp2_with fail
    refine (R5 c r _ HS.out).mono ?_;rintro e w1 ⟨rfl,rfl⟩
    generalize AO (c::r)=ft at *
    obtain ⟨k,n⟩:=ft
    by_cases hk:k=1
    . by_cases hl:n=(c::r).length
      . subst hk hl
        simp only [aV]
        go_wp2_with fail
        refine (S6 _ _ HS.out).mono ?_;rintro e w2 ⟨rfl,hx⟩;simp only
        go_wp2_with fail
        go_ret
        rw [HN.out]
        exact ⟨AI (by simp;omega),hx⟩
      . subst hk
        have dl:((n:Int)==(r.length:Int)+1)=false:=by simp only [aV] at hl;rw [beq_eq_false_iff_ne];omega
        have HL:=bA hl;clear hl
        simp only
        go_wp2_with fail
        go_ret
        rw [HN.out]
        exact ⟨AI (by have:=HL.out;simp at this ⊢;simp [this]),dI _⟩
    . have dk:((k:Int)==1)=false:=by rw [beq_eq_false_iff_ne];omega
      have HK:=bA hk;clear hk
      simp only
      go_wp2_with fail
      go_ret
      rw [HN.out]
      exact ⟨AI (by have:=HK.out;simp [this]),dI _⟩
def G1 (k n:Int) (s:lB) (a:oA) (l c:Nat) (w:wD) :
 Calls prog 177 #[.agg #[.int .u8 k,.int .i64 n,str s,.slice a l c]] w fun e w'=>e = .returned (.bool (plain n s))/\Ext w w':=by
 go_enter func177,ntmps177
 go_wp2_with fail
 all_goals go_ret
 all_goals exact ⟨AI (by unfold plain;simp [*]),(by repeat (first|exact dI _|assumption|refine dJ ?_ _|refine dX ?_|refine dK ?_ ‹_›))⟩
def Iw (k n:Int) (s:lB) (a:oA) (l c:Nat) (w:wD) (hs:s.length<=9223372036854775807) :
 Calls prog 225 #[.agg #[.int .u8 k,.int .i64 n,str s,.slice a l c]] w fun e w'=>e = .returned (.bool (named n s))/\Ext w w':=by
 by_cases h0:n=0
 . subst h0
   go_enter func225,ntmps225
   go_wp2_with (go_at_call 24;refine (G0 _ _ hs).mono ?_;rintro e w2 ⟨rfl,hx⟩)
   go_ret
   exact ⟨AI (by simp [named]),(by refine dK ?_ ‹_›;refine dJ ?_ _;exact dI _)⟩
 . have d0:(n==0)=false:=by simp [h0]
   go_enter func225,ntmps225
   go_wp2_with fail
   go_ret
   exact ⟨AI (by simp [named,h0]),(by refine dJ ?_ _;exact dI _)⟩
def Fs (S:nP) (f:FuncId) (p:Nd->Bool) (t:Nd):Prop:=
 ∀(a:oA) (c:Nat) (w:wD),t.sits S w a->Calls prog f #[t.val a c] w fun e w'=>e = .returned (.bool (p t))/\Ext w w'
def G2 (f:FuncId):Prop:= ∀args w,(callFunc f args).run prog w = .ok (.enter f args) w
def R6 (f:FuncId) (p:Nd->Bool) (he:G2 f) (l:List Nd) (a:oA) (c:Nat) (S:nP) (w:wD) (hl:l.length<=9223372036854775807) (hs:rowSits S w l a) (ht : ∀t∈l,Fs S f p t) :
 Calls prog 178 #[.slice a l.length c,.func (.func f) #[] #[]] w fun e w'=>e = .returned (.bool (l.all p))/\Ext w w':=by
 have HT:=bA ht;clear ht
 unfold G2 at he
 go_enter func178,ntmps178
 go_wp2_with fail
 go_loopw [9] (fun i wr=> ∃j:Nat,j<=l.length/\i = .int .i64 j/\Hid (l.all p=(l.drop j).all p)/\Ext w wr) (fun i _=>l.length-(intOf i).toNat)
 case atStart=>exact ⟨0,bI _,rfl,bA rfl,dI _⟩
 case round=>
  obtain ⟨j,hj,rfl,HJ,hx⟩:=hrel
  by_cases hlt:j<l.length
  . have hg:l[j]? = some l[j]:=aY hlt
    have hmem:l[j]∈l:=bD hlt;have hdrop:=cW hlt
    generalize l[j]=t at *
    obtain ⟨b,o,a',c',rfl,hSb,g0,g1,g2,g3,hsk⟩:=DM (hs.ext hx) hg
    have HG:=bA hg;clear hg
    have hall:l.all p=(p t&&(l.drop (j+1)).all p):=by rw [HJ.out,hdrop,List.all_cons]
    have HA:=bA hall;clear hdrop hall
    go_wp2_with fail
    refine (HT.out t hmem a' c' _ (hsk.ext ((dI _).alloc _))).mono ?_;rintro e w1 ⟨rfl,hx1⟩
    cases hp:p t
    . have HP:=bA hp;clear hp
      simp only
      go_wp2_with fail
      go_ret
      rw [HA.out,HP.out]
      exact ⟨rfl,(by refine dK ?_ ‹_›;refine dJ ?_ _;assumption)⟩
    . have HP:=bA hp;clear hp
      simp only
      go_wp2_with fail
      go_roundw
      case rel=>exact ⟨j+1,by omega,by go_num,bA (by rw [HA.out,HP.out];simp),(by refine dK ?_ ‹_›;refine dJ ?_ _;assumption)⟩
      case measure=>simp [intOf];omega
  . go_wp2_with fail
    go_ret
    rw [HJ.out,List.drop_eq_nil_of_le (by omega)]
    exact ⟨rfl,hx⟩
def Av:List Nd->List (FuncId×(Nd->Bool))->Bool
 | [],[]=>true
 | t::r,f::fs=>f.2 t&&Av r fs
 | _,_=>false
def LN : ∀(l:List Nd) (E:List (FuncId×(Nd->Bool))),l.length≠E.length->Av l E=false
 | [],[],h=>absurd rfl h
 | [],_::_,_=>rfl
 | _::_,[],_=>rfl
 | t::r,f::E,h=>by simp only [Av];rw [LN r E (by simpa using h)];simp
def Ge (k n:Int) (s:lB) (l:List Nd) (a:oA) (c:Nat) (fs:List (FuncId×(Nd->Bool))) (tb tc:Nat) (S:nP) (w:wD)
 (hl:l.length<=9223372036854775807) (hfl:fs.length<=100) (hs:rowSits S w l a)
 (htb : ∀i f,fs[i]? = some f->w.cell? ⟨tb,i,none⟩=some (.func (.func f.1) #[] #[])) (he : ∀f∈fs,G2 f.1) (ht : ∀f∈fs,∀t∈l,Fs S f.1 f.2 t) :
 Calls prog 222 #[.agg #[.int .u8 k,.int .i64 n,str s,.slice a l.length c],.slice (some ⟨tb,0,none⟩) fs.length tc] w fun e w'=>e = .returned (.bool (Av l fs))/\Ext w w':=by
 have HT:=bA ht;clear ht
 have HE:=bA he;clear he
 have HB:=bA htb;clear htb
 by_cases hlen:l.length=fs.length
 . have dn:((l.length:Int) != (fs.length:Int))=false:=by rw [hlen];simp
   have HL:=bA hlen
   have hlen1:l.length<=fs.length:=by omega
   have hlen2:fs.length<=l.length:=by omega
   clear hlen
   go_enter func222,ntmps222
   go_wp2_with fail
   go_loopw [15] (fun i wr=> ∃j:Nat,j<=fs.length/\i = .int .i64 j/\Hid (Av l fs=Av (l.drop j) (fs.drop j))/\Ext (w.alloc (.cells #[.int .u8 k,.int .i64 n,str s,.slice a l.length c] 32)) wr) (fun i _=>fs.length-(intOf i).toNat)
   case atStart=>exact ⟨0,bI _,rfl,bA rfl,dI _⟩
   case round=>
    obtain ⟨j,hj,rfl,HJ,hx⟩:=hrel;have hcs:=hx.cells
    by_cases hlt:j<fs.length
    . have hlt':j<l.length:=by omega
      have hg:l[j]? = some l[j]:=aY hlt';have hmem:l[j]∈l:=bD hlt';have hdrop:=cW hlt';have hgf:fs[j]? = some fs[j]:=aY hlt;have hmemf:fs[j]∈fs:=bD hlt;have hdropf:=cW hlt
      generalize l[j]=t at *
      generalize fs[j]=f at *
      have hxx:Ext w wr:=dK ((dI _).alloc _) hx;obtain ⟨b,o,a',c',rfl,hSb,g0,g1,g2,g3,hsk⟩:=DM (hs.ext hxx) hg
      have HG:=bA hg;clear hg
      have ht0:=hxx.keep (HB.out j f hgf)
      have HGF:=bA hgf;clear hgf
      have hall:Av l fs=(f.2 t&&Av (l.drop (j+1)) (fs.drop (j+1))):=by rw [HJ.out,hdrop,hdropf];rfl
      have HA:=bA hall;clear hdrop hall hdropf
      have hen:=HE.out f hmemf
      unfold G2 at hen
      go_wp2_with fail
      refine (HT.out f hmemf t hmem a' c' _ hsk).mono ?_;rintro e w1 ⟨rfl,hx1⟩
      cases hp:f.2 t
      . have HP:=bA hp;clear hp
        simp only
        go_wp2_with fail
        go_ret
        rw [HA.out,HP.out]
        exact ⟨rfl,(by refine dK ?_ ‹_›;assumption)⟩
      . have HP:=bA hp;clear hp
        simp only
        go_wp2_with fail
        go_roundw
        case rel=>exact ⟨j+1,by omega,by go_num,bA (by rw [HA.out,HP.out];simp),(by refine dK ?_ ‹_›;assumption)⟩
        case measure=>simp [intOf];omega
    . go_wp2_with fail
      go_ret
      rw [HJ.out,List.drop_eq_nil_of_le (by omega),List.drop_eq_nil_of_le (by omega)]
      exact ⟨rfl,(by refine dK ?_ ‹_›;refine dJ ?_ _;exact dI _)⟩
 . have dn:((l.length:Int) != (fs.length:Int))=true:=by rw [bne_iff_ne];omega
   have hk:=LN l fs hlen
   have HK:=bA hk;clear hk hlen
   go_enter func222,ntmps222
   go_wp2_with fail
   go_ret
   rw [HK.out]
   exact ⟨rfl,(by refine dJ ?_ _;exact dI _)⟩
def UM {α:Type} {Q:Nat->α->Prop} {x:α} (h:Q 0 x) : ∀i f,[x][i]? = some f->Q i f:=by
 intro i f E;rcases i with _|i
 . simp at E;exact E▸h
 . simp at E
def YA {α:Type} {Q:Nat->α->Prop} {x y:α} (h:Q 0 x) (h1:Q 1 y) : ∀i f,[x,y][i]? = some f->Q i f:=by
 intro i f E;rcases i with _|_|i
 . simp at E;exact E▸h
 . simp at E;exact E▸h1
 . simp at E
def Z0 {α:Type} {Q:Nat->α->Prop} {x y z:α} (h:Q 0 x) (h1:Q 1 y) (F:Q 2 z) : ∀i f,[x,y,z][i]? = some f->Q i f:=by
 intro i f E;rcases i with _|_|_|i
 . simp at E;exact E▸h
 . simp at E;exact E▸h1
 . simp at E;exact E▸F
 . simp at E
def Z1 {α:Type} {Q:Nat->α->Prop} {x y z u:α} (h:Q 0 x) (h1:Q 1 y) (F:Q 2 z) (L:Q 3 u) : ∀i f,[x,y,z,u][i]? = some f->Q i f:=by
 intro i f E;rcases i with _|_|_|_|i
 . simp at E;exact E▸h
 . simp at E;exact E▸h1
 . simp at E;exact E▸F
 . simp at E;exact E▸L
 . simp at E
def MM {α:Type} {Q:α->Prop} {x:α} (h:Q x) : ∀f∈[x],Q f:=by intro f E;simp at E;exact E▸h
def S9 {α:Type} {Q:α->Prop} {x y:α} (h:Q x) (h1:Q y) : ∀f∈[x,y],Q f:=by
 intro f E;simp at E;rcases E with rfl|rfl<;>assumption
def Zo {α:Type} {Q:α->Prop} {x y z:α} (h:Q x) (h1:Q y) (F:Q z) : ∀f∈[x,y,z],Q f:=by
 intro f E;simp at E;rcases E with rfl|rfl|rfl<;>assumption
def Zp {α:Type} {Q:α->Prop} {x y z u:α} (h:Q x) (h1:Q y) (F:Q z) (L:Q u) : ∀f∈[x,y,z,u],Q f:=by
 intro f E;simp at E;rcases E with rfl|rfl|rfl|rfl<;>assumption
def D0:G2 224:=enters_of func224 Bl rfl
def Pj (n:Int) (s:lB) (l:List Nd):(Nd.mk 1 n s l).isExpr=(decide (0<=n)&&s.isEmpty&&l.isEmpty):=by rw [Nd.isExpr.eq_def];simp
def Pk (k n:Int) (s:lB) (l:List Nd) (h:k=2\/k=4\/k=5):(Nd.mk k n s l).isExpr=(named n s&&l.isEmpty):=by
 rcases h with rfl|rfl|rfl<;>rw [Nd.isExpr.eq_def]<;>simp
def Pm (f:FuncId) (n:Int) (s:lB) (l:List Nd):(Nd.mk 3 n s l).isExpr=(named n s&&Av l [(f,Nd.isExpr)]):=by
 rcases l with _|⟨x,_|⟨y,l⟩⟩<;>rw [Nd.isExpr.eq_def]<;>simp [Av]
def Ta (f:FuncId) (k n:Int) (s:lB) (l:List Nd) (h:k=6\/k=7):(Nd.mk k n s l).isExpr=(plain n s&&Av l [(f,Nd.isExpr)]):=by
 rcases l with _|⟨x,_|⟨y,l⟩⟩<;>rcases h with rfl|rfl<;>rw [Nd.isExpr.eq_def]<;>simp [Av]
def QX (f:FuncId) (k n:Int) (s:lB) (l:List Nd) (h:8<=k) (E:k<=23):(Nd.mk k n s l).isExpr=(plain n s&&Av l [(f,Nd.isExpr),(f,Nd.isExpr)]):=by
 have F : ¬k=1:=by omega
 have L : ¬(k=2\/k=4\/k=5):=by omega
 have M : ¬k=3:=by omega
 have N : ¬(k=6\/k=7):=by omega
 rcases l with _|⟨x,_|⟨y,_|⟨z,l⟩⟩⟩<;>rw [Nd.isExpr.eq_def]<;>simp [Av,F,L,M,N,h,E]
def Po (k n:Int) (s:lB) (l:List Nd) (h:k<1\/23<k):(Nd.mk k n s l).isExpr=false:=by
 have f : ¬k=1:=by omega
 have E : ¬(k=2\/k=4\/k=5):=by omega
 have F : ¬k=3:=by omega
 have L : ¬(k=6\/k=7):=by omega
 have M : ¬(8<=k/\k<=23):=by omega
 rw [Nd.isExpr.eq_def];simp [f,E,F,L,M]
def UN (S:nP) (N:Nat) : ∀t:Nd,t.size<N->t.wf->Fs S 224 Nd.isExpr t:=by
 induction N with
 | zero=>intro t h;omega
 | succ N ih=>
  rintro ⟨k,n,s,l⟩ hN hwf a c w hs;simp only [Nd.wf,dL,dY,dM,Nd.num,Nd.name,dN,Nd.val] at *;obtain ⟨hk0,hk1,hn0,hn1,hsl,hll,hrw⟩:=hwf
  have hkid : ∀t∈l,Fs S 224 Nd.isExpr t:=fun t ht=>ih t (by have:=Dz ht;omega) (BJ hrw t ht)
  have HKID:=bA hkid;clear hkid ih hrw
  have HSL:=bA hsl;clear hsl
  by_cases c1:k=1
  . subst c1
    have hr:=Pj n s l
    have HR:=bA hr;clear hr
    go_enter func224,ntmps224
    go_wp2_with fail
    all_goals go_ret
    all_goals rw [HR.out]
    all_goals exact ⟨AI (by rw [Bool.eq_iff_iff];first|(simp [*];done)|(simp [*];intros;omega)),(by repeat (first|exact dI _|assumption|refine dJ ?_ _|refine dX ?_|refine dK ?_ ‹_›))⟩
  by_cases c2:k=2\/k=4\/k=5
  . have hr:=Pk k n s l c2
    have HR:=bA hr;clear hr
    cases hnm:named n s
    all_goals have HNM:=bA hnm;clear hnm
    all_goals rcases c2 with rfl|rfl|rfl
    all_goals go_enter func224,ntmps224
    all_goals go_wp2_with (go_at_call 225;refine (Iw _ _ _ _ _ _ _ HSL.out).mono ?_;rintro e w1 ⟨rfl,hx1⟩;have hc1:=hx1.cells;rw [HNM.out])
    all_goals go_ret
    all_goals rw [HR.out,HNM.out]
    all_goals exact ⟨AI (by first|rfl|(rw [Bool.eq_iff_iff];simp)),(by repeat (first|exact dI _|assumption|refine dJ ?_ _|refine dX ?_|refine dK ?_ ‹_›))⟩
  by_cases c3:k=3
  . subst c3
    have hr:=Pm 224 n s l
    have HR:=bA hr;clear hr
    cases hnm:named n s
    all_goals have HNM:=bA hnm;clear hnm
    all_goals go_enter func224,ntmps224
    all_goals go_wp2_with (first|(go_at_call 225;refine (Iw _ _ _ _ _ _ _ HSL.out).mono ?_;rintro e w1 ⟨rfl,hx1⟩;have hc1:=hx1.cells;rw [HNM.out])|(go_at_call 222;refine (Ge _ _ _ l a c [(224,Nd.isExpr)] _ _ S _ hll (by decide) (hs.ext (by refine dJ ?_ _;refine dK ?_ ‹_›;refine dJ ?_ _;exact dI _)) (UM (by go_simp)) (MM D0) (MM HKID.out)).mono ?_;rintro e w2 ⟨rfl,hx2⟩))
    all_goals go_ret
    all_goals rw [HR.out,HNM.out]
    all_goals exact ⟨AI (by simp),(by repeat (first|exact dI _|assumption|refine dJ ?_ _|refine dX ?_|refine dK ?_ ‹_›))⟩
  by_cases c4:k=6\/k=7
  . have hr:=Ta 224 k n s l c4
    have HR:=bA hr;clear hr
    cases hnm:plain n s
    all_goals have HNM:=bA hnm;clear hnm
    all_goals rcases c4 with rfl|rfl
    all_goals go_enter func224,ntmps224
    all_goals go_wp2_with (first|(go_at_call 177;refine (G1 _ _ _ _ _ _ _).mono ?_;rintro e w1 ⟨rfl,hx1⟩;have hc1:=hx1.cells;rw [HNM.out])|(go_at_call 222;refine (Ge _ _ _ l a c [(224,Nd.isExpr)] _ _ S _ hll (by decide) (hs.ext (by repeat (first|exact dI _|assumption|refine dJ ?_ _|refine dX ?_|refine dK ?_ ‹_›))) (UM (by go_simp)) (MM D0) (MM HKID.out)).mono ?_;rintro e w2 ⟨rfl,hx2⟩))
    all_goals go_ret
    all_goals rw [HR.out,HNM.out]
    all_goals exact ⟨AI (by simp),(by repeat (first|exact dI _|assumption|refine dJ ?_ _|refine dX ?_|refine dK ?_ ‹_›))⟩
  by_cases c5:8<=k/\k<=23
  . obtain ⟨c5a,c5b⟩:=c5
    have d1:(k==1)=false:=by rw [beq_eq_false_iff_ne];omega
    have d2:(k==2)=false:=by rw [beq_eq_false_iff_ne];omega
    have d3:(k==3)=false:=by rw [beq_eq_false_iff_ne];omega
    have d4:(k==4)=false:=by rw [beq_eq_false_iff_ne];omega
    have d5:(k==5)=false:=by rw [beq_eq_false_iff_ne];omega
    have d6:(k==6)=false:=by rw [beq_eq_false_iff_ne];omega
    have d7:(k==7)=false:=by rw [beq_eq_false_iff_ne];omega
    clear c1 c2 c3 c4;have hr:=QX 224 k n s l c5a c5b
    have HR:=bA hr;clear hr
    cases hnm:plain n s
    all_goals have HNM:=bA hnm;clear hnm
    all_goals go_enter func224,ntmps224
    all_goals go_wp2_with (first|(go_at_call 177;refine (G1 _ _ _ _ _ _ _).mono ?_;rintro e w1 ⟨rfl,hx1⟩;have hc1:=hx1.cells;rw [HNM.out])|(go_at_call 222;refine (Ge _ _ _ l a c [(224,Nd.isExpr),(224,Nd.isExpr)] _ _ S _ hll (by decide) (hs.ext (by refine dJ ?_ _;refine dK ?_ ‹_›;refine dJ ?_ _;exact dI _)) (YA (by go_simp) (by go_simp)) (S9 D0 D0) (S9 HKID.out HKID.out)).mono ?_;rintro e w2 ⟨rfl,hx2⟩))
    all_goals go_ret
    all_goals rw [HR.out,HNM.out]
    all_goals exact ⟨AI (by simp),(by repeat (first|exact dI _|assumption|refine dJ ?_ _|refine dX ?_|refine dK ?_ ‹_›))⟩
  . have hr:=Po k n s l (by omega)
    have HR:=bA hr;clear hr
    have d1:(k==1)=false:=by rw [beq_eq_false_iff_ne];omega
    have d2:(k==2)=false:=by rw [beq_eq_false_iff_ne];omega
    have d3:(k==3)=false:=by rw [beq_eq_false_iff_ne];omega
    have d4:(k==4)=false:=by rw [beq_eq_false_iff_ne];omega
    have d5:(k==5)=false:=by rw [beq_eq_false_iff_ne];omega
    have d6:(k==6)=false:=by rw [beq_eq_false_iff_ne];omega
    have d7:(k==7)=false:=by rw [beq_eq_false_iff_ne];omega
    clear c1 c2 c3 c4
    go_enter func224,ntmps224
    go_wp2_with fail
    all_goals go_ret
    all_goals rw [HR.out]
    all_goals exact ⟨AI (by first|rfl|(simp;omega)),(by repeat (first|exact dI _|assumption|refine dJ ?_ _|refine dX ?_|refine dK ?_ ‹_›))⟩
def FL:G2 223:=enters_of func223 Bl rfl
def UO:G2 226:=enters_of func226 Bl rfl
def Tb:G2 179:=enters_of func179 Bl rfl
def G3:G2 129:=enters_of func129 Bl rfl
def Gt (S:nP) (t:Nd) (h:t.wf):Fs S 224 Nd.isExpr t:=UN S (t.size+1) t Ab h
def Ix (S:nP) (t:Nd) (h:t.wf):Fs S 223 Nd.isPlace t:=by
 have HE:=bA (Gt S t h);intro a c w hs;obtain ⟨k,n,s,l⟩:=t;have hr:(Nd.mk k n s l).isPlace=((k==2||k==3)&&(Nd.mk k n s l).isExpr):=rfl
 have HR:=bA hr;clear hr
 have HSI:=bA hs;clear hs h
 simp only [dM,Nd.num,Nd.name,dN,Nd.val]
 by_cases h2:k=2\/k=3
 . rcases h2 with rfl|rfl
   all_goals go_enter func223,ntmps223
   all_goals go_wp2_with (go_at_call 224;refine (HE.out a c _ (HSI.out.ext (by repeat (first|exact dI _|assumption|refine dJ ?_ _|refine dX ?_|refine dK ?_ ‹_›)))).mono ?_;rintro e w1 ⟨rfl,hx1⟩)
   all_goals go_ret
   all_goals rw [HR.out]
   all_goals exact ⟨AI (by simp),(by repeat (first|exact dI _|assumption|refine dJ ?_ _|refine dX ?_|refine dK ?_ ‹_›))⟩
 . have d2:(k==2)=false:=by rw [beq_eq_false_iff_ne];omega
   have d3:(k==3)=false:=by rw [beq_eq_false_iff_ne];omega
   clear h2
   go_enter func223,ntmps223
   go_wp2_with fail
   go_ret
   rw [HR.out]
   exact ⟨AI (by simp [d2,d3]),(by refine dJ ?_ _;exact dI _)⟩
def WK (S:nP) (t:Nd) (h:t.wf):Fs S 226 Nd.isVar t:=by
 have HE:=bA (Gt S t h);intro a c w hs;obtain ⟨k,n,s,l⟩:=t;have hr:(Nd.mk k n s l).isVar=(k==2&&(Nd.mk k n s l).isExpr):=rfl
 have HR:=bA hr;clear hr
 have HSI:=bA hs;clear hs h
 simp only [dM,Nd.num,Nd.name,dN,Nd.val]
 by_cases h2:k=2
 . subst h2
   go_enter func226,ntmps226
   go_wp2_with (go_at_call 224;refine (HE.out a c _ (HSI.out.ext (by refine dJ ?_ _;exact dI _))).mono ?_;rintro e w1 ⟨rfl,hx1⟩)
   go_ret
   rw [HR.out]
   exact ⟨AI (by simp),(by refine dK ?_ ‹_›;refine dJ ?_ _;exact dI _)⟩
 . have d2:(k==2)=false:=by rw [beq_eq_false_iff_ne];omega
   clear h2
   go_enter func226,ntmps226
   go_wp2_with fail
   go_ret
   rw [HR.out]
   exact ⟨AI (by simp [d2]),(by refine dJ ?_ _;exact dI _)⟩
def D1 {k:Int} (f:k=40\/k=41\/k=42\/k=56) (n:Int) (s:lB) (l:List Nd):(Nd.mk k n s l).isStmt=(plain n s&&Av l [(223,Nd.isPlace),(224,Nd.isExpr)]):=by
 rcases f with rfl|rfl|rfl|rfl<;>rcases l with _|⟨x,_|⟨y,_|⟨z,_|⟨u,_|⟨v,l⟩⟩⟩⟩⟩<;>rw [Nd.isStmt.eq_def]<;>simp [Av,Bool.and_assoc]
def Tc {k:Int} (hk:k=40\/k=41\/k=42\/k=56) (n:Int) (s:lB) (l:List Nd) (a:oA) (c:Nat) (S:nP) (w:wD)
 (hs:rowSits S w l a) (hsl:s.length<=9223372036854775807) (hll:l.length<=9223372036854775807) (hrw:A3 l) :
 Calls prog 179 #[.agg #[.int .u8 k,.int .i64 n,str s,.slice a l.length c]] w fun e w'=>e = .returned (.bool (Nd.mk k n s l).isStmt)/\Ext w w':=by
 have HEX:=bA fun t (ht:t∈l)=>Gt S t (BJ hrw t ht)
 have HPL:=bA fun t (ht:t∈l)=>Ix S t (BJ hrw t ht)
 have HSL:=bA hsl;clear hsl hrw
 have hr:=D1 hk n s l
 have HR:=bA hr;clear hr
 cases hnm:plain n s
 all_goals have HNM:=bA hnm;clear hnm
 all_goals rcases hk with rfl|rfl|rfl|rfl
 all_goals go_enter func179,ntmps179
 all_goals go_wp2_with (first|(go_at_call 177;refine (G1 _ _ _ _ _ _ _).mono ?_;rintro e w1 ⟨rfl,hx1⟩;have hc1:=hx1.cells;rw [HNM.out])|(go_at_call 222;refine (Ge _ _ _ l a c [(223,Nd.isPlace),(224,Nd.isExpr)] _ _ S _ hll (by decide) (hs.ext (by repeat (first|exact dI _|assumption|refine dJ ?_ _|refine dX ?_|refine dK ?_ ‹_›))) (YA (by go_simp) (by go_simp)) (S9 FL D0) (S9 HPL.out HEX.out)).mono ?_;rintro e w2 ⟨rfl,hx2⟩))
 all_goals go_ret
 all_goals rw [HR.out,HNM.out]
 all_goals exact ⟨AI (by simp),(by repeat (first|exact dI _|assumption|refine dJ ?_ _|refine dX ?_|refine dK ?_ ‹_›))⟩
def Ka {k:Int} (f:k=43) (n:Int) (s:lB) (l:List Nd):(Nd.mk k n s l).isStmt=(plain n s&&Av l [(223,Nd.isPlace),(223,Nd.isPlace)]):=by
 rcases f with rfl<;>rcases l with _|⟨x,_|⟨y,_|⟨z,_|⟨u,_|⟨v,l⟩⟩⟩⟩⟩<;>rw [Nd.isStmt.eq_def]<;>simp [Av,Bool.and_assoc]
def Td {k:Int} (hk:k=43) (n:Int) (s:lB) (l:List Nd) (a:oA) (c:Nat) (S:nP) (w:wD)
 (hs:rowSits S w l a) (hsl:s.length<=9223372036854775807) (hll:l.length<=9223372036854775807) (hrw:A3 l) :
 Calls prog 179 #[.agg #[.int .u8 k,.int .i64 n,str s,.slice a l.length c]] w fun e w'=>e = .returned (.bool (Nd.mk k n s l).isStmt)/\Ext w w':=by
 have HPL:=bA fun t (ht:t∈l)=>Ix S t (BJ hrw t ht)
 have HSL:=bA hsl;clear hsl hrw
 have hr:=Ka hk n s l
 have HR:=bA hr;clear hr
 cases hnm:plain n s
 all_goals have HNM:=bA hnm;clear hnm
 all_goals rcases hk with rfl
 all_goals go_enter func179,ntmps179
 all_goals go_wp2_with (first|(go_at_call 177;refine (G1 _ _ _ _ _ _ _).mono ?_;rintro e w1 ⟨rfl,hx1⟩;have hc1:=hx1.cells;rw [HNM.out])|(go_at_call 222;refine (Ge _ _ _ l a c [(223,Nd.isPlace),(223,Nd.isPlace)] _ _ S _ hll (by decide) (hs.ext (by refine dJ ?_ _;refine dK ?_ ‹_›;refine dJ ?_ _;exact dI _)) (YA (by go_simp) (by go_simp)) (S9 FL FL) (S9 HPL.out HPL.out)).mono ?_;rintro e w2 ⟨rfl,hx2⟩))
 all_goals go_ret
 all_goals rw [HR.out,HNM.out]
 all_goals exact ⟨AI (by simp),(by repeat (first|exact dI _|assumption|refine dJ ?_ _|refine dX ?_|refine dK ?_ ‹_›))⟩
def Gu {k:Int} (f:k=44\/k=45) (n:Int) (s:lB) (l:List Nd):(Nd.mk k n s l).isStmt=(named n s&&Av l [(223,Nd.isPlace)]):=by
 rcases f with rfl|rfl<;>rcases l with _|⟨x,_|⟨y,_|⟨z,_|⟨u,_|⟨v,l⟩⟩⟩⟩⟩<;>rw [Nd.isStmt.eq_def]<;>simp [Av,Bool.and_assoc]
def Te {k:Int} (hk:k=44\/k=45) (n:Int) (s:lB) (l:List Nd) (a:oA) (c:Nat) (S:nP) (w:wD)
 (hs:rowSits S w l a) (hsl:s.length<=9223372036854775807) (hll:l.length<=9223372036854775807) (hrw:A3 l) :
 Calls prog 179 #[.agg #[.int .u8 k,.int .i64 n,str s,.slice a l.length c]] w fun e w'=>e = .returned (.bool (Nd.mk k n s l).isStmt)/\Ext w w':=by
 have HPL:=bA fun t (ht:t∈l)=>Ix S t (BJ hrw t ht)
 have HSL:=bA hsl;clear hsl hrw
 have hr:=Gu hk n s l
 have HR:=bA hr;clear hr
 cases hnm:named n s
 all_goals have HNM:=bA hnm;clear hnm
 all_goals rcases hk with rfl|rfl
 all_goals go_enter func179,ntmps179
 all_goals go_wp2_with (first|(go_at_call 225;refine (Iw _ _ _ _ _ _ _ HSL.out).mono ?_;rintro e w1 ⟨rfl,hx1⟩;have hc1:=hx1.cells;rw [HNM.out])|(go_at_call 222;refine (Ge _ _ _ l a c [(223,Nd.isPlace)] _ _ S _ hll (by decide) (hs.ext (by repeat (first|exact dI _|assumption|refine dJ ?_ _|refine dX ?_|refine dK ?_ ‹_›))) (UM (by go_simp)) (MM FL) (MM HPL.out)).mono ?_;rintro e w2 ⟨rfl,hx2⟩))
 all_goals go_ret
 all_goals rw [HR.out,HNM.out]
 all_goals exact ⟨AI (by simp),(by repeat (first|exact dI _|assumption|refine dJ ?_ _|refine dX ?_|refine dK ?_ ‹_›))⟩
def D2 {k:Int} (f:k=46\/k=47\/k=48\/k=49) (n:Int) (s:lB) (l:List Nd):(Nd.mk k n s l).isStmt=(plain n s&&Av l [(223,Nd.isPlace)]):=by
 rcases f with rfl|rfl|rfl|rfl<;>rcases l with _|⟨x,_|⟨y,_|⟨z,_|⟨u,_|⟨v,l⟩⟩⟩⟩⟩<;>rw [Nd.isStmt.eq_def]<;>simp [Av,Bool.and_assoc]
def Tf {k:Int} (hk:k=46\/k=47\/k=48\/k=49) (n:Int) (s:lB) (l:List Nd) (a:oA) (c:Nat) (S:nP) (w:wD)
 (hs:rowSits S w l a) (hsl:s.length<=9223372036854775807) (hll:l.length<=9223372036854775807) (hrw:A3 l) :
 Calls prog 179 #[.agg #[.int .u8 k,.int .i64 n,str s,.slice a l.length c]] w fun e w'=>e = .returned (.bool (Nd.mk k n s l).isStmt)/\Ext w w':=by
 have HPL:=bA fun t (ht:t∈l)=>Ix S t (BJ hrw t ht)
 have HSL:=bA hsl;clear hsl hrw
 have hr:=D2 hk n s l
 have HR:=bA hr;clear hr
 cases hnm:plain n s
 all_goals have HNM:=bA hnm;clear hnm
 all_goals rcases hk with rfl|rfl|rfl|rfl
 all_goals go_enter func179,ntmps179
 all_goals go_wp2_with (first|(go_at_call 177;refine (G1 _ _ _ _ _ _ _).mono ?_;rintro e w1 ⟨rfl,hx1⟩;have hc1:=hx1.cells;rw [HNM.out])|(go_at_call 222;refine (Ge _ _ _ l a c [(223,Nd.isPlace)] _ _ S _ hll (by decide) (hs.ext (by repeat (first|exact dI _|assumption|refine dJ ?_ _|refine dX ?_|refine dK ?_ ‹_›))) (UM (by go_simp)) (MM FL) (MM HPL.out)).mono ?_;rintro e w2 ⟨rfl,hx2⟩))
 all_goals go_ret
 all_goals rw [HR.out,HNM.out]
 all_goals exact ⟨AI (by simp),(by repeat (first|exact dI _|assumption|refine dJ ?_ _|refine dX ?_|refine dK ?_ ‹_›))⟩
def Gv {k:Int} (f:k=52\/k=53) (n:Int) (s:lB) (l:List Nd):(Nd.mk k n s l).isStmt=(plain n s&&Av l [(224,Nd.isExpr),(129,Nd.isBlock),(129,Nd.isBlock),(224,Nd.isExpr)]):=by
 rcases f with rfl|rfl<;>rcases l with _|⟨x,_|⟨y,_|⟨z,_|⟨u,_|⟨v,l⟩⟩⟩⟩⟩<;>rw [Nd.isStmt.eq_def]<;>simp [Av,Bool.and_assoc]
def Tg {k:Int} (hk:k=52\/k=53) (n:Int) (s:lB) (l:List Nd) (a:oA) (c:Nat) (S:nP) (w:wD)
 (hs:rowSits S w l a) (hsl:s.length<=9223372036854775807) (hll:l.length<=9223372036854775807) (hrw:A3 l) (hb : ∀t∈l,Fs S 129 Nd.isBlock t) :
 Calls prog 179 #[.agg #[.int .u8 k,.int .i64 n,str s,.slice a l.length c]] w fun e w'=>e = .returned (.bool (Nd.mk k n s l).isStmt)/\Ext w w':=by
 have HBL:=bA hb;clear hb
 have HEX:=bA fun t (ht:t∈l)=>Gt S t (BJ hrw t ht)
 have HSL:=bA hsl;clear hsl hrw
 have hr:=Gv hk n s l
 have HR:=bA hr;clear hr
 cases hnm:plain n s
 all_goals have HNM:=bA hnm;clear hnm
 all_goals rcases hk with rfl|rfl
 all_goals go_enter func179,ntmps179
 all_goals go_wp2_with (first|(go_at_call 177;refine (G1 _ _ _ _ _ _ _).mono ?_;rintro e w1 ⟨rfl,hx1⟩;have hc1:=hx1.cells;rw [HNM.out])|(go_at_call 222;refine (Ge _ _ _ l a c [(224,Nd.isExpr),(129,Nd.isBlock),(129,Nd.isBlock),(224,Nd.isExpr)] _ _ S _ hll (by decide) (hs.ext (by repeat (first|exact dI _|assumption|refine dJ ?_ _|refine dX ?_|refine dK ?_ ‹_›))) (Z1 (by go_simp) (by go_simp) (by go_simp) (by go_simp)) (Zp D0 G3 G3 D0) (Zp HEX.out HBL.out HBL.out HEX.out)).mono ?_;rintro e w2 ⟨rfl,hx2⟩))
 all_goals go_ret
 all_goals rw [HR.out,HNM.out]
 all_goals exact ⟨AI (by simp),(by repeat (first|exact dI _|assumption|refine dJ ?_ _|refine dX ?_|refine dK ?_ ‹_›))⟩
def Kb {k:Int} (f:k=54) (n:Int) (s:lB) (l:List Nd):(Nd.mk k n s l).isStmt=(named n s&&Av l [(224,Nd.isExpr),(129,Nd.isBlock),(224,Nd.isExpr)]):=by
 rcases f with rfl<;>rcases l with _|⟨x,_|⟨y,_|⟨z,_|⟨u,_|⟨v,l⟩⟩⟩⟩⟩<;>rw [Nd.isStmt.eq_def]<;>simp [Av,Bool.and_assoc]
def Th {k:Int} (hk:k=54) (n:Int) (s:lB) (l:List Nd) (a:oA) (c:Nat) (S:nP) (w:wD)
 (hs:rowSits S w l a) (hsl:s.length<=9223372036854775807) (hll:l.length<=9223372036854775807) (hrw:A3 l) (hb : ∀t∈l,Fs S 129 Nd.isBlock t) :
 Calls prog 179 #[.agg #[.int .u8 k,.int .i64 n,str s,.slice a l.length c]] w fun e w'=>e = .returned (.bool (Nd.mk k n s l).isStmt)/\Ext w w':=by
 have HBL:=bA hb;clear hb
 have HEX:=bA fun t (ht:t∈l)=>Gt S t (BJ hrw t ht)
 have HSL:=bA hsl;clear hsl hrw
 have hr:=Kb hk n s l
 have HR:=bA hr;clear hr
 cases hnm:named n s
 all_goals have HNM:=bA hnm;clear hnm
 all_goals rcases hk with rfl
 all_goals go_enter func179,ntmps179
 all_goals go_wp2_with (first|(go_at_call 225;refine (Iw _ _ _ _ _ _ _ HSL.out).mono ?_;rintro e w1 ⟨rfl,hx1⟩;have hc1:=hx1.cells;rw [HNM.out])|(go_at_call 222;refine (Ge _ _ _ l a c [(224,Nd.isExpr),(129,Nd.isBlock),(224,Nd.isExpr)] _ _ S _ hll (by decide) (hs.ext (by refine dJ ?_ _;refine dK ?_ ‹_›;refine dJ ?_ _;exact dI _)) (Z0 (by go_simp) (by go_simp) (by go_simp)) (Zo D0 G3 D0) (Zo HEX.out HBL.out HEX.out)).mono ?_;rintro e w2 ⟨rfl,hx2⟩))
 all_goals go_ret
 all_goals rw [HR.out,HNM.out]
 all_goals exact ⟨AI (by simp),(by repeat (first|exact dI _|assumption|refine dJ ?_ _|refine dX ?_|refine dK ?_ ‹_›))⟩
def Kc {k:Int} (f:k=55) (n:Int) (s:lB) (l:List Nd):(Nd.mk k n s l).isStmt=(named n s&&Av l [(129,Nd.isBlock)]):=by
 rcases f with rfl<;>rcases l with _|⟨x,_|⟨y,_|⟨z,_|⟨u,_|⟨v,l⟩⟩⟩⟩⟩<;>rw [Nd.isStmt.eq_def]<;>simp [Av,Bool.and_assoc]
def Ti {k:Int} (hk:k=55) (n:Int) (s:lB) (l:List Nd) (a:oA) (c:Nat) (S:nP) (w:wD)
 (hs:rowSits S w l a) (hsl:s.length<=9223372036854775807) (hll:l.length<=9223372036854775807) (hrw:A3 l) (hb : ∀t∈l,Fs S 129 Nd.isBlock t) :
 Calls prog 179 #[.agg #[.int .u8 k,.int .i64 n,str s,.slice a l.length c]] w fun e w'=>e = .returned (.bool (Nd.mk k n s l).isStmt)/\Ext w w':=by
 have HBL:=bA hb;clear hb
 have HSL:=bA hsl;clear hsl hrw
 have hr:=Kc hk n s l
 have HR:=bA hr;clear hr
 cases hnm:named n s
 all_goals have HNM:=bA hnm;clear hnm
 all_goals rcases hk with rfl
 all_goals go_enter func179,ntmps179
 all_goals go_wp2_with (first|(go_at_call 225;refine (Iw _ _ _ _ _ _ _ HSL.out).mono ?_;rintro e w1 ⟨rfl,hx1⟩;have hc1:=hx1.cells;rw [HNM.out])|(go_at_call 222;refine (Ge _ _ _ l a c [(129,Nd.isBlock)] _ _ S _ hll (by decide) (hs.ext (by refine dJ ?_ _;refine dK ?_ ‹_›;refine dJ ?_ _;exact dI _)) (UM (by go_simp)) (MM G3) (MM HBL.out)).mono ?_;rintro e w2 ⟨rfl,hx2⟩))
 all_goals go_ret
 all_goals rw [HR.out,HNM.out]
 all_goals exact ⟨AI (by simp),(by repeat (first|exact dI _|assumption|refine dJ ?_ _|refine dX ?_|refine dK ?_ ‹_›))⟩
def Gw {k:Int} (f:k=50\/k=51) (n:Int) (s:lB) (l:List Nd):(Nd.mk k n s l).isStmt=(named n s&&decide (l.length<=8)&&l.all Nd.isVar):=by
 rcases f with rfl|rfl<;>rw [Nd.isStmt.eq_def]<;>simp
def Tj {k:Int} (hk:k=50\/k=51) (n:Int) (s:lB) (l:List Nd) (a:oA) (c:Nat) (S:nP) (w:wD)
 (hs:rowSits S w l a) (hsl:s.length<=9223372036854775807) (hll:l.length<=9223372036854775807) (hrw:A3 l) :
 Calls prog 179 #[.agg #[.int .u8 k,.int .i64 n,str s,.slice a l.length c]] w fun e w'=>e = .returned (.bool (Nd.mk k n s l).isStmt)/\Ext w w':=by
 have HVA:=bA fun t (ht:t∈l)=>WK S t (BJ hrw t ht)
 have HSL:=bA hsl;clear hsl hrw
 have hr:=Gw hk n s l
 have HR:=bA hr;clear hr
 cases hnm:named n s
 all_goals have HNM:=bA hnm;clear hnm
 all_goals by_cases h8:l.length<=8
 all_goals have d8:decide ((l.length:Int)<=8)=decide (l.length<=8):=by simp only [decide_eq_decide];omega
 all_goals first|rw [decide_eq_true h8] at d8|rw [decide_eq_false h8] at d8
 all_goals have H8:=bA h8;clear h8
 all_goals rcases hk with rfl|rfl
 all_goals go_enter func179,ntmps179
 all_goals go_wp2_with (first|(go_at_call 225;refine (Iw _ _ _ _ _ _ _ HSL.out).mono ?_;rintro e w1 ⟨rfl,hx1⟩;have hc1:=hx1.cells;rw [HNM.out])|(go_at_call 178;refine (R6 226 Nd.isVar UO l a c S _ hll (hs.ext (by repeat (first|exact dI _|assumption|refine dJ ?_ _|refine dX ?_|refine dK ?_ ‹_›))) HVA.out).mono ?_;rintro e w2 ⟨rfl,hx2⟩))
 all_goals go_ret
 all_goals rw [HR.out,HNM.out]
 all_goals exact ⟨AI (by simp [H8.out]),(by repeat (first|exact dI _|assumption|refine dJ ?_ _|refine dX ?_|refine dK ?_ ‹_›))⟩
def KD (k n:Int) (s:lB) (l:List Nd) (h:k<40\/56<k):(Nd.mk k n s l).isStmt=false:=by
 rw [Nd.isStmt.eq_def];simp only [];rw [AE Ab,AE Ab,AE Ab,AE Ab,AE Ab,AE Ab,AE Ab,AE Ab]
def Pp (k n:Int) (s:lB) (l:List Nd) (a:oA) (c:Nat) (w:wD) (h:k<40\/56<k) :
 Calls prog 179 #[.agg #[.int .u8 k,.int .i64 n,str s,.slice a l.length c]] w fun e w'=>e = .returned (.bool (Nd.mk k n s l).isStmt)/\Ext w w':=by
 have hr:=KD k n s l h
 have HR:=bA hr;clear hr
 have d40:(k==40)=false:=by rw [beq_eq_false_iff_ne];omega
 have d41:(k==41)=false:=by rw [beq_eq_false_iff_ne];omega
 have d42:(k==42)=false:=by rw [beq_eq_false_iff_ne];omega
 have d43:(k==43)=false:=by rw [beq_eq_false_iff_ne];omega
 have d44:(k==44)=false:=by rw [beq_eq_false_iff_ne];omega
 have d45:(k==45)=false:=by rw [beq_eq_false_iff_ne];omega
 have d46:(k==46)=false:=by rw [beq_eq_false_iff_ne];omega
 have d47:(k==47)=false:=by rw [beq_eq_false_iff_ne];omega
 have d48:(k==48)=false:=by rw [beq_eq_false_iff_ne];omega
 have d49:(k==49)=false:=by rw [beq_eq_false_iff_ne];omega
 have d50:(k==50)=false:=by rw [beq_eq_false_iff_ne];omega
 have d51:(k==51)=false:=by rw [beq_eq_false_iff_ne];omega
 have d52:(k==52)=false:=by rw [beq_eq_false_iff_ne];omega
 have d53:(k==53)=false:=by rw [beq_eq_false_iff_ne];omega
 have d54:(k==54)=false:=by rw [beq_eq_false_iff_ne];omega
 have d55:(k==55)=false:=by rw [beq_eq_false_iff_ne];omega
 have d56:(k==56)=false:=by rw [beq_eq_false_iff_ne];omega
 clear h
 go_enter func179,ntmps179
 go_wp2_with fail
 go_ret
 rw [HR.out]
 exact ⟨rfl,(by refine dJ ?_ _;exact dI _)⟩
def QY (k n:Int) (s:lB) (l:List Nd) (a:oA) (c:Nat) (S:nP) (w:wD)
 (L:rowSits S w l a) (f:s.length<=9223372036854775807) (E:l.length<=9223372036854775807) (F:A3 l) (M : ∀t∈l,Fs S 129 Nd.isBlock t) :
 Calls prog 179 #[.agg #[.int .u8 k,.int .i64 n,str s,.slice a l.length c]] w fun e w'=>e = .returned (.bool (Nd.mk k n s l).isStmt)/\Ext w w':=by
 by_cases h:k<40\/56<k
 . exact Pp k n s l a c w h
 by_cases N:k=40\/k=41\/k=42\/k=56
 . exact Tc N n s l a c S w L f E F
 by_cases O:k=43
 . exact Td O n s l a c S w L f E F
 by_cases U:k=44\/k=45
 . exact Te U n s l a c S w L f E F
 by_cases V:k=46\/k=47\/k=48\/k=49
 . exact Tf V n s l a c S w L f E F
 by_cases X:k=52\/k=53
 . exact Tg X n s l a c S w L f E F M
 by_cases Y:k=54
 . exact Th Y n s l a c S w L f E F M
 by_cases Z:k=55
 . exact Ti Z n s l a c S w L f E F M
 by_cases aa:k=50\/k=51
 . exact Tj aa n s l a c S w L f E F
 omega
def Pq (k n:Int) (s:lB) (l:List Nd) (a:oA) (c:Nat) (S:nP) (w:wD)
 (hs:rowSits S w l a) (hll:l.length<=9223372036854775807) (ht : ∀t∈l,Fs S 179 Nd.isStmt t) :
 Calls prog 129 #[.agg #[.int .u8 k,.int .i64 n,str s,.slice a l.length c]] w fun e w'=>e = .returned (.bool (Nd.mk k n s l).isBlock)/\Ext w w':=by
 have hall : ∀r:List Nd,DY r=r.all Nd.isStmt:=by
  intro r
  induction r with
  | nil=>rfl
  | cons x r ih=>simp [DY,ih]
 have hr:(Nd.mk k n s l).isBlock=(k==57&&plain n s&&l.all Nd.isStmt):=by rw [Nd.isBlock,hall]
 have HR:=bA hr;clear hr hall
 have HT:=bA ht;clear ht
 by_cases h57:k=57
 . subst h57
   cases hnm:plain n s
   all_goals have HNM:=bA hnm;clear hnm
   all_goals go_enter func129,ntmps129
   all_goals go_wp2_with (first|(go_at_call 177;refine (G1 _ _ _ _ _ _ _).mono ?_;rintro e w1 ⟨rfl,hx1⟩;have hc1:=hx1.cells;rw [HNM.out])|(go_at_call 178;refine (R6 179 Nd.isStmt Tb l a c S _ hll (hs.ext (by refine dK ?_ ‹_›;refine dJ ?_ _;exact dI _)) HT.out).mono ?_;rintro e w2 ⟨rfl,hx2⟩))
   all_goals go_ret
   all_goals rw [HR.out,HNM.out]
   all_goals exact ⟨AI (by simp),(by repeat (first|exact dI _|assumption|refine dJ ?_ _|refine dX ?_|refine dK ?_ ‹_›))⟩
 . have d57:(k==57)=false:=by rw [beq_eq_false_iff_ne];omega
   clear h57
   go_enter func129,ntmps129
   go_wp2_with fail
   go_ret
   rw [HR.out]
   exact ⟨AI (by simp [d57]),(by refine dJ ?_ _;exact dI _)⟩
def MN (S:nP) (N:Nat):(∀t:Nd,t.size<N->t.wf->Fs S 179 Nd.isStmt t)/\(∀t:Nd,t.size<N->t.wf->Fs S 129 Nd.isBlock t):=by
 induction N with
 | zero=>exact ⟨fun t h=>absurd h (Nat.not_lt_zero _),fun t h=>absurd h (Nat.not_lt_zero _)⟩
 | succ N L=>
  refine ⟨?_,?_⟩
  . rintro ⟨k,n,s,l⟩ M f a c w F;simp only [Nd.wf,dL,dY] at *;exact QY k n s l a c S w F f.2.2.2.2.1 f.2.2.2.2.2.1 f.2.2.2.2.2.2 (fun t E=>L.2 t (by have:=Dz E;omega) (BJ f.2.2.2.2.2.2 t E))
  . rintro ⟨k,n,s,l⟩ M f a c w F;simp only [Nd.wf,dL,dY] at *;exact Pq k n s l a c S w F f.2.2.2.2.2.1 (fun t E=>L.1 t (by have:=Dz E;omega) (BJ f.2.2.2.2.2.2 t E))
def Tk (S:nP) (t:Nd) (h:t.wf):Fs S 129 Nd.isBlock t:=(MN S (t.size+1)).2 t Ab h
attribute [local irreducible] Go.Calls
mutual
def CY {S:nP} {w:wD} : ∀(l:List Nd) (a:oA),rowSits S w l a->rowSits (· < w.heap.size) w l a
 | [],_,_=>by simp [rowSits]
 | t::r,a,h=>by
  simp only [rowSits] at h ⊢;obtain ⟨b,o,a',c,rfl,hb,h0,h1,h2,h3,hs,hr⟩:=h;exact ⟨b,o,a',c,rfl,Cb h0,h0,h1,h2,h3,Hu t a' hs,CY r _ hr⟩
def Hu {S:nP} {w:wD} : ∀(t:Nd) (a:oA),t.sits S w a->t.sits (· < w.heap.size) w a
 | .mk _ _ _ l,a,h=>by
  simp only [dY] at h ⊢;exact CY l a h
end
def Df : ∀ {l:List Nd} {x:Nd},x∈l->x.size<=Am l
 | [],x,f=>by cases f
 | t::r,x,f=>by
  simp only [Am];rcases bR.1 f with rfl|f
  . omega
  . have:=Df f;omega
def Dm (l:List Nd):l.length<=Am l:=by
 induction l with
 | nil=>simp [Am]
 | cons x r f=>
  have:1<=x.size:=by cases x;simp only [dL];omega
  simp only [Am,aV];omega
abbrev ints (xs:List Int):lV:=xs.map (.int .i64 ·)
def IntsAt (w:wD) (xs:List Int) (a:oA):Prop:=Rows (fun _=>True) w (ints xs) a
def IntsAt.get {w:wD} {xs:List Int} {a:oA} (h:IntsAt w xs a) (f:xs≠[]) : ∃b o,a=some ⟨b,o,none⟩/\Row w ⟨b,o,none⟩ (ints xs):=by
 rcases h with h|⟨b,o,h1,-,E⟩
 . exact absurd (List.map_eq_nil_iff.1 h) f
 . exact ⟨b,o,h1,E⟩
def Z2 {S:nP} {w:wD} {x:Nd} {a:oA} (h:rowSits S w [x] a) : ∃b o xa xc,a=some ⟨b,o,none⟩/\S b/\Row w ⟨b,o+0*4,none⟩ (x.cells xa xc)/\x.sits S w xa:=by
 obtain ⟨b,o,e,f,E⟩:=Ba h Bd;obtain ⟨xa,xc,r,s⟩:=E 0 x rfl;exact ⟨b,o,xa,xc,e,f,r,s⟩
def OwnI (w:wD) (B:Nat) (v:Value) (xs:List Int):Prop:=Own w B 3 1 v xs.length (ints xs)
def OwnI.open {w:wD} {B:Nat} {v:Value} {xs:List Int} (h:OwnI w B v xs):(v = .slice none 0 0/\xs=[]) \/ ∃g cap F,v = .slice (some ⟨g,0,none⟩) xs.length cap/\B<=g/\TB w g (ints xs++F) 3/\xs.length+F.length=cap/\cap<=maxLen:=by
 obtain ⟨-,⟨h1,f⟩|⟨g,cap,E,h1,f,L,O,M,U,N⟩⟩:=h
 . exact bC ⟨h1,List.length_eq_zero_iff.1 f⟩
 . refine bF ⟨g,cap,E.toList.drop xs.length,h1,f,?_,?_,M⟩
   . unfold TB;rw [L,<-N,Nat.mul_one,cL]
   . simp only [List.length_drop,Array.length_toList];omega
def OwnI.shape {w:wD} {B:Nat} {v:Value} {xs:List Int} (h:OwnI w B v xs) : ∃a c,v = .slice a xs.length c:=by
 rcases h.open with ⟨h1,f⟩|⟨g,cap,E,h1,-⟩
 . exact ⟨none,0,by rw [h1,f];rfl⟩
 . exact ⟨_,_,h1⟩
def OwnI.lt {w:wD} {B:Nat} {v:Value} {xs:List Int} (h:OwnI w B v xs) {k:Nat} (f:v.ownBlock=some k):B<=k/\k<w.heap.size:=Own.blk h f
def Tl (w:wD) (q:Nat):Ext w (w.drewN q):=by
 induction q with
 | zero=>exact dI w
 | succ q f=>exact f.drew
def UP (xs:List Int) (w:wD):Ending->wD->Prop:=fun e w'=> ∃a c,e = .returned (.slice a xs.length c)/\OwnI w' w.heap.size (.slice a xs.length c) xs/\(∀k,(cP a xs.length c).ownBlock=some k->w.heap.size<=k/\k<w'.heap.size)/\Ext w w'
def UQ (xs:List Int) (X:xs.length<=1000000) (a:oA) (c:Nat) (w:wD) (h:IntsAt w xs a):Calls prog 88 #[.slice a xs.length c] w (UP xs w):=by
 have key : ∀(v:Value) (w':wD),w'.ownsRow w.heap.size 3 1 v xs.length (ints xs)->Ext w w'->UP xs w (.returned v) w':=fun v w' h1 f=>by
  have h1:OwnI w' w.heap.size v xs:=h1;obtain ⟨L,M,rfl⟩:=h1.shape;exact ⟨L,M,rfl,h1,fun k N=>h1.lt N,f⟩
 cases a with
 | none=>
  obtain rfl:xs=[]:=by
   rcases h with h|⟨b,o,h,-⟩
   . simpa [ints] using h
   . cases h
  have E:=Any.slices_Clone_int_nil Tryz.lays2n15 0 c w;refine Calls.mono E ?_;rintro e w' ⟨rfl,rfl⟩;exact key _ _ Own.nil (dI _)
 | some p=>
  by_cases F:xs=[]
  . subst F;have E:=Any.slices_Clone_int_zero Tryz.lays2n15 p c w;refine Calls.mono E ?_;rintro e w' ⟨v,rfl,h1,-,f⟩;exact key _ _ h1 f
  . obtain ⟨b,o,O,U⟩:=h.get F;cases O;have E:=Any.slices_Clone_int Tryz.lays2n15 b o xs.length c xs w (bJ _) Ab (fun j V=>by
     have:=U.at (i:=j) (v:=.int .i64 (xs.getD j 0)) (by simp [ints,List.getElem?_map,aY V,dC]);exact this)
    refine Calls.mono E ?_;rintro e w' ⟨v,rfl,h1,-,f⟩;rw [bH] at h1;exact key _ _ h1 f
structure SV where
 cells:List (List Int)
 tin:List Int
 tout:List Int
def XZ (S:nP) (w:wD) (b o:Nat) (xs:List Int):Prop:= ∃a c,Row w ⟨b,o,none⟩ [.slice a xs.length c]/\Rows S w (ints xs) a
def ICs (S:nP) (w:wD) (l:List (List Int)) (a:oA):Prop:=Arr S 1 (XZ S) w l a
section
variable {S S' T:nP} {w w':wD} {l:List (List Int)} {xs:List Int} {a ta oa:oA} {s:SV}
def ICs.ext (h:ICs S w l a) (x:Ext w w'):ICs S w' l a:=h.mono aFh (fun _ _ _ _ _ ⟨a,c,h1,h2⟩=>⟨a,c,h1.ext x,h2.ext x⟩)
instance  : LfE w w' (ICs S w l a) (ICs S w' l a):=⟨fun x h=>Bk.ICs.ext h x⟩
def ICs.fr (h:ICs S w l a) (x:Fr T w w') (f : ∀b,S b -> ¬T b):ICs S w' l a:=h.mono aFh (fun b _ _ _ E ⟨a,c,h1,h2⟩=>⟨a,c,h1.fr x (f b E),h2.fr x f⟩)
instance  : LfF T w w' (ICs S w l a) (∀b,S b -> ¬T b) (ICs S w' l a):=⟨fun x s h=>Bk.ICs.fr h x s⟩
def ICs.wide (h:ICs S w l a) (f : ∀b,S b->S' b):ICs S' w l a:=h.mono f (fun _ _ _ _ _ ⟨a,c,h1,h2⟩=>⟨a,c,h1,h2.wide f⟩)
def ICs.get (h:ICs S w l a) (f:l≠[]) : ∃b o,a=some ⟨b,o,none⟩/\S b /\ ∀i x,l[i]? = some x->XZ S w b (o+i*1) x:=by
 rcases h with h|⟨b,o,h1,E,F⟩
 . exact absurd h f
 . exact ⟨b,o,h1,E,fun i v L=>F i v L⟩
end
def K7 (v:VD):Prop:=((v.kind=1\/v.kind=3)/\v.len=0)\/(v.kind=2/\1<=v.len/\v.len<=16)
def EJ (l:List VD):Prop:=l.length<=32 /\ ∀v∈l,K7 v
def D9 (v:VD):Int:=if v.kind=1 then 1 else v.len
def R7 (l:List VD) (hl:l.length<=1000000) (S:nP) (a:oA) (c:Nat) (w:wD) (E:VDs S w l a) :
 Calls prog 141 #[.slice a l.length c] w fun e w'=> ∃q,e = .returned (.bool q)/\(q=true↔EJ l)/\Ext w w':=by
 have X:=dI w;refine Af func141 ntmps141 rfl rfl ?_;by_cases N:l.length<=32
 . refine cS (C1 Pa (cT (Aj (cS (C1 Mv (C1 Pz (C1 V5 (cT (C9 (As (Ai ?_)))))))))));refine Aj (cS (C1 Mv (C1 Pz (C1 Mv (cT ?_)))));refine Ar ?_;refine AJ (ι:=Nat) (fun j=>[(2,.bool false),(8,.slice a l.length c),(9,.int .i64 l.length),(10,.int .i64 j)])
    (fun j w'=>j<=l.length/\(∀v∈l.take j,K7 v)/\VDs S w' l a/\Ext w w') (fun j=>l.length-j) 0 sB ⟨bI _,Bd,E,X⟩ ?_
   clear E X;rintro j w1 ⟨hj,F,E,X⟩;by_cases M:j<l.length
   . obtain ⟨kb,ko,rfl,kS,hk⟩:=Arr.get E Ab;have rx:=hk j _ (aY M);have f : ¬K7 l[j] -> ¬EJ l:=fun h h2=>h (h2.2 _ (bD M))
     have L:K7 l[j] -> ∀v∈l.take (j+1),K7 v:=fun h v hv=>by
      rw [bE M,List.mem_append,dG] at hv;rcases hv with hv|rfl
      . exact F v hv
      . exact h
     clear hk F;generalize l[j]=x at *;obtain ⟨xn,xk,xl⟩:=x;replace rx:Row w1 ⟨kb,ko+j*3,none⟩ [str xn,.int .u8 xk,.int .i64 xl]:=rx;simp only [K7] at f L
     focus
      refine eK ?_;refine xA [_,_,_] ?_;intro ae af ab;refine eI [_,_,_] ab ?_;intro ag ah ac ai aj;revert X E rx;refine eE ac ?_;intro X E rx;refine eK ?_;refine AH rfl (fun ad=>?_) (fun ad=>?_);refine eK ?_;refine Jd rfl (fun O=>?_) (fun O=>?_);refine eK ?_;refine xR ?_;rotate_left;refine As (Ae (Ae (Ai (Ad (C1 V7 (C1 Mv (Ah ?_)))))));rotate_left;refine eK ?_;refine AH rfl (fun U=>?_) (fun U=>?_);refine eK ?_;refine Jd rfl (fun V=>?_) (fun V=>?_);refine eK ?_;refine xR ?_;rotate_left;refine As (Ae (Ae (Ai (Ad (C1 V7 (C1 Mv (Ah ?_)))))));rotate_left;refine eK ?_;refine AH rfl (fun Y=>?_) (fun Y=>?_);refine eK ?_;refine Cm rfl rfl rfl (fun Z=>?_) (fun Z=>?_);refine eK ?_;refine xR ?_;rotate_left;refine eK ?_;refine AH rfl (fun aa=>?_) (fun aa=>?_);refine eK ?_;refine xR ?_;rotate_left;refine As (Ae (Ae (Ai (Ad (C1 V7 (C1 Mv (Ah ?_)))))));rotate_left;refine eK ?_;refine xR ?_;rotate_left
     . exact ⟨false,rfl,⟨fun h=>(by cases h),fun h=>absurd h (f Ab)⟩,X⟩
     . exact Aw (j+1) sB ⟨Ab,L Ab,E,X⟩ Ab
     . exact ⟨false,rfl,⟨fun h=>(by cases h),fun h=>absurd h (f Ab)⟩,X⟩
     . exact Aw (j+1) sB ⟨Ab,L Ab,E,X⟩ Ab
     . exact ⟨false,rfl,⟨fun h=>(by cases h),fun h=>absurd h (f Ab)⟩,X⟩
     . exact ⟨false,rfl,⟨fun h=>(by cases h),fun h=>absurd h (f Ab)⟩,X⟩
     . exact Aw (j+1) sB ⟨Ab,L Ab,E,X⟩ Ab
     . exact ⟨false,rfl,⟨fun h=>(by cases h),fun h=>absurd h (f Ab)⟩,X⟩
   . obtain rfl:j=l.length:=by omega
     rw [bH] at F;refine eK ?_;refine xR ?_;exact ⟨true,rfl,⟨fun _=>⟨N,F⟩,fun _=>rfl⟩,X⟩
 . refine eK ?_;refine xR ?_;exact ⟨false,rfl,⟨fun h=>(by cases h),fun h=>absurd h.1 N⟩,X⟩
def WL (v:VD) (w:wD):Calls prog 142 #[v.val] w fun e w'=>e = .returned (.int .i64 (D9 v))/\Ext w w':=by
 have X:=dI w;obtain ⟨L,E,M⟩:=v;unfold D9;by_cases F:E=1
 . subst F;refine Af func142 ntmps142 rfl rfl ?_;refine cS (F1 [_,_,_] rfl rfl rfl ?_);intro b1 w2 f;have N:=f.blk;dsimp only at N;have O:=f.ext;have p6:=f.pos;have z7:=f.size;have X:=X.ext O;refine eK ?_;refine xR ?_;exact ⟨rfl,X⟩
 . change Calls prog _ #[.agg #[str L,.int .u8 E,.int .i64 M]] w _;simp only [AE F];refine Af func142 ntmps142 rfl rfl ?_;refine cS (eB [_,_,_] ?_);intro U V Y h Z aa;have X:=X.ext h;refine eK ?_;refine xR ?_;exact ⟨rfl,X⟩
structure BoxV where
 v:Int
 l:Int
 i:Int
 deriving DecidableEq
def BoxV.ok (b:BoxV):Prop:=(0<=b.v/\b.v<=1000)/\(0<=b.l/\b.l<=1000)/\0<=b.i/\b.i<=1000
instance (b:BoxV):Decidable b.ok:=by unfold BoxV.ok;infer_instance
instance (v:VD):Decidable (K7 v):=by unfold K7;infer_instance
instance (l:List VD):Decidable (EJ l):=by unfold EJ;infer_instance
def K8 (b:BoxV) (v:VD):Int×Int:=if v.kind=3 then (0,b.l) else (D9 v,D9 v)
def FM (vs:List VD) (b:BoxV):List (Int×Int):=vs.map (K8 b)++[(0,b.i)]
def F5 (x y:Int):Int:=if 1099511627776/y<x then 1099511627777 else x*y
def LO (least y:Int):Nat->Int×Int
 | 0=>(0,1)
 | n+1=>(if least<=n then min ((LO least y n).1+(LO least y n).2) 1099511627777 else (LO least y n).1,F5 (LO least y n).2 y)
def LP (p:Int×Int) (y:Int):Int:=(LO p.1 y (p.2+1).toNat).1
def D3 (l:List (Int×Int)) (y:Int):Int:=l.foldl (fun s p=>F5 s (LP p y)) 1
def FN (vs:List VD) (b:BoxV):Int×Int:=
 if b.ok/\EJ vs then (if 1099511627776<D3 (FM vs b) (2*b.v+1) then (0,5) else (D3 (FM vs b) (2*b.v+1),0)) else (0,1)
def N7 {x y:Int} (f:1<=x) (E:x<=1099511627777) (F:1<=y):1<=F5 x y/\F5 x y<=1099511627777:=by
 unfold F5;split
 . omega
 . rename_i h;have h1:x<=1099511627776/y:=by omega
   have L:x*y<=1099511627776/y*y:=Int.mul_le_mul_of_nonneg_right h1 Ab;have M:=Int.ediv_mul_le 1099511627776 (b:=y) Ab;have N:1*1<=x*y:=Int.mul_le_mul f F Ab Ab;omega
def N8 (f y:Int) (E:1<=y) : ∀n,1<=(LO f y n).2/\(LO f y n).2<=1099511627777
 | 0=>by simp [LO]
 | n+1=>by
  have h:=N8 f y E n;simp only [LO];exact N7 h.1 h.2 E
def N9 (f y:Int) (E:1<=y) : ∀n:Nat,0<=(LO f y n).1/\(LO f y n).1<=1099511627777/\(f<(n:Int)->1<=(LO f y n).1\/f<0/\n=0)
 | 0=>by simp [LO]
 | n+1=>by
  have h:=N9 f y E n;have F:=N8 f y E n;simp only [LO];split
  . refine ⟨Ab,Ab,fun _=>bC Ab⟩
  . exact ⟨h.1,h.2.1,fun L=>by omega⟩
def UR {p:Int×Int} {y:Int} (f:1<=y) (E:0<=p.1) (F:p.1<=p.2):1<=LP p y/\LP p y<=1099511627777:=by
 have h:=N9 p.1 y f (p.2+1).toNat;unfold LP;refine ⟨?_,h.2.1⟩;rcases h.2.2 Ab with h|h
 . exact h
 . omega
def Nh : ∀(l:List (Int×Int)) (s y:Int),1<=y->(∀p∈l,0<=p.1/\p.1<=p.2)->1<=s->s<=1099511627777->1<=l.foldl (fun s p=>F5 s (LP p y)) s/\l.foldl (fun s p=>F5 s (LP p y)) s<=1099511627777
 | [],s,y,_,_,h1,f=>⟨h1,f⟩
 | p::l,s,y,E,F,h1,f=>by
  have L:=F p Bd;have h:=N7 h1 f (UR E L.1 L.2).1;exact Nh l _ y E (fun q M=>F q (by simp [M])) h.1 h.2
def YB {b:BoxV} (f:b.ok) {v:VD} (h:K7 v):0<=(K8 b v).1/\(K8 b v).1<=(K8 b v).2/\(K8 b v).2<=1000:=by
 unfold K8;obtain ⟨-,E,-⟩:=f;split
 . simp only;omega
 . rename_i F;unfold D9;unfold K7 at h;split<;>omega
def WM {vs:List VD} {b:BoxV} (E:b.ok) (L:EJ vs) : ∀p∈FM vs b,0<=p.1/\p.1<=p.2/\p.2<=1000:=by
 intro p f;unfold FM at f;rw [List.mem_append,List.mem_map,dG] at f;rcases f with ⟨v,h,rfl⟩|rfl
 . exact YB E (L.2 v h)
 . obtain ⟨-,-,F⟩:=E;exact ⟨Bd,F.1,F.2⟩
def Tm (vs:List VD) (b:BoxV):(FM vs b).length=vs.length+1:=by simp [FM]
def KE : ∀(us p q r:lV),us.length=q.length->Bi (p++q++r) p.length us=p++us++r
 | [],p,[],r,_=>by simp [Bi]
 | u::us,p,v::q,r,h=>by
  simp only [aV,Nat.add_right_cancel_iff] at h;have e:(p++v::q++r).set p.length u=(p++[u])++q++r:=by
   rw [cF,List.cons_append,List.set_append_right _ _ (bJ _),Nat.sub_self,aZ];simp
  rw [Bi,e];have:=KE us (p++[u]) q r h;rw [aU,aV,aX,Nat.zero_add] at this;rw [this];simp
def G4 {f:List lV} {n j:Nat} (h : ∀cs∈f,cs.length=n) (F:j<f.length):f.flatten=(f.take j).flatten++f[j]++(f.drop (j+1)).flatten/\(f.take j).flatten.length=j*n:=by
 constructor
 . have h1:=(cL j f).symm;rw [cW F] at h1;refine (congrArg List.flatten h1).trans ?_;rw [List.flatten_append,cI,cF]
 . rw [FJ (fun cs E=>h cs (List.mem_of_mem_take E)),cH];congr 1;omega
def QZ {f:List lV} {n j:Nat} {us:lV} (h : ∀cs∈f,cs.length=n) (E:j<f.length) (L:us.length=n):Bi f.flatten (j*n) us=(f.set j us).flatten:=by
 obtain ⟨h1,F⟩:=G4 h E;have M:f[j].length=n:=h _ (bD E);rw [h1,<-F,KE us _ _ _ Ab];have e:f.set j us=f.take j++us::f.drop (j+1):=by rw [List.set_eq_take_append_cons_drop,AU E]
 rw [e,List.flatten_append,cI,cF]
structure ArrS {α:Type} (sh:Shape α) (C D:Nat) (w:wD) (g:Nat) (xs:List α):Prop where
 ex : ∃css:List lV,Blk w g css.flatten/\css.length=xs.length /\ ∀(i:Nat) (x:α) (cs:lV),xs[i]? = some x->css[i]? = some cs->sh.rep w (fun b=>C<=b/\b<D) x cs
section
variable {α:Type} {sh:Shape α} {C D g:Nat} {w w':wD} {xs:List α}
def ArrS.lt (h:ArrS sh C D w g xs):g<w.heap.size:=by
 obtain ⟨f,h1,-⟩:=h.ex;exact h1.lt
def ArrS.fr {T:nP} (h:ArrS sh C D w g xs) (x:Fr T w w') (F : ∀k,T k->(k<C\/D<=k)/\k≠g):ArrS sh C D w' g xs:=by
 obtain ⟨f,h1,L,M⟩:=h.ex;exact ⟨f,h1.fr x (fun E=>(F g E).2 rfl),L,fun i y cs N O=>sh.mono (M i y cs N O) aFh (fun b o u V U=>x.keep (fun E=>by have:=(F b E).1;omega) U)⟩
instance {T:nP}:LfF T w w' (ArrS sh C D w g xs) (∀k,T k->(k<C\/D<=k)/\k≠g) (ArrS sh C D w' g xs):=⟨fun x s h=>Bk.ArrS.fr h x s⟩
def ArrS.ext (h:ArrS sh C D w g xs) (x:Ext w w'):ArrS sh C D w' g xs:=by
 obtain ⟨f,h1,E,F⟩:=h.ex;exact ⟨f,h1.ext x,E,fun i y cs L M=>sh.mono (F i y cs L M) aFh (fun b o u O N=>x.keep N)⟩
instance  : LfE w w' (ArrS sh C D w g xs) (ArrS sh C D w' g xs):=⟨fun x h=>Bk.ArrS.ext h x⟩
def ArrS.wide (h:ArrS sh C D w g xs) {E:Nat} (O:D<=E):ArrS sh C E w g xs:=by
 obtain ⟨f,h1,F,L⟩:=h.ex;exact ⟨f,h1,F,fun i y cs M N=>sh.mono (L i y cs M N) (fun _ h=>⟨h.1,Ab⟩) (fun _ _ _ _ h=>h)⟩
def ArrS.lens (h:ArrS sh C D w g xs) {f:List lV} (M:f.length=xs.length) (F : ∀(i:Nat) (x:α) (cs:lV),xs[i]? = some x->f[i]? = some cs->sh.rep w (fun b=>C<=b/\b<D) x cs) : ∀cs∈f,cs.length=sh.sz:=fun cs E=>by
 obtain ⟨k,L,rfl⟩:=List.mem_iff_getElem.1 E;exact sh.len (F k xs[k] f[k] (aY Ab) (aY L))
def ArrS.row (h:ArrS sh C D w g xs) {j:Nat} {x:α} (F:xs[j]? = some x) : ∃cs,Row w ⟨g,0+j*sh.sz,none⟩ cs/\sh.rep w (fun b=>C<=b/\b<D) x cs:=by
 obtain ⟨f,h1,O,N⟩:=h.ex;have U:j<xs.length:=by
  rcases bQ j xs.length with h|h
  . exact h
  . rw [bS h] at F;cases F
 have V:f[j]? = some f[j]:=aY Ab;obtain ⟨X,Y⟩:=G4 (h.lens O N) (show j<f.length by omega);refine ⟨f[j],fun i v L=>?_,N j x _ F V⟩;have M:i<f[j].length:=by
  rcases bQ i f[j].length with h|h
  . exact h
  . rw [bS h] at L;cases L
 have E:f.flatten[j*sh.sz+i]? = some v:=by
  rw [X,cF,List.getElem?_append_right Ab,Y,Nat.add_sub_cancel_left,dD M];exact L
 have:=h1.cell E;have e:(⟨g,0+j*sh.sz,none⟩:Addr).add i=⟨g,j*sh.sz+i,none⟩:=by unfold cU;by_cases Z:i=0<;>simp [Z]
 rw [e];exact this
def ArrS.made {n:Nat} {z:α} {f:lV} (E:Blk w g (cB n f).flatten) (F : ∀w S,sh.rep w S z f):ArrS sh C D w g (cB n z):=by
 refine ⟨cB n f,E,Bd,fun i x cs L M=>?_⟩;have h1:=List.mem_of_getElem? L;have h:=List.mem_of_getElem? M;rw [List.mem_replicate] at h1 h;rw [h1.2,h.2];exact F _ _
def WN {j:Nat} {x:α} {us:lV} {N:wD} {f:List lV} (V:f.length=xs.length) (O : ∀(i:Nat) (x:α) (cs:lV),xs[i]? = some x->f[i]? = some cs->sh.rep w (fun b=>C<=b/\b<D) x cs) (X:j<xs.length) (hg:g<C\/D<=g) (U:sh.rep w (fun b=>C<=b/\b<D) x us) (L:Put w N g (Bi f.flatten (j*sh.sz) us)):ArrS sh C D N g (xs.set j x):=by
 have Y : ∀cs∈f,cs.length=sh.sz:=fun cs M=>by
  obtain ⟨k,Z,rfl⟩:=List.mem_iff_getElem.1 M;exact sh.len (O k xs[k] f[k] (aY Ab) (aY Z))
 rw [QZ Y Ab (sh.len U)] at L;refine ⟨f.set j us,L.blk,by simp [V],fun i y cs E F=>?_⟩;have key:sh.rep w (fun b=>C<=b/\b<D) y cs:=by
  by_cases h:i=j
  . subst h;rw [List.getElem?_set_self X] at E;rw [List.getElem?_set_self Ab] at F;rw [<-bO E,<-bO F];exact U
  . rw [List.getElem?_set_ne (fun e=>h e.symm)] at E F;exact O i y cs E F
 exact sh.mono key aFh (fun b o u hb hu=>L.fr.keep (fun e=>by omega) hu)
end
section
variable {P:Program} {n:Nat} {l:Sl} {w:wD} {tab:Tab} {zt:Ey} {ty:TypeId} {α:Type} {sh:Shape α}
def Oa (K:wD->Prop):Option Value->wD->Prop
 | none,w=>K w
 | some _,_=>False
def Ni {h:lV} {k:Nat} (f:h.length=k) : ∀N:Nat,(List.range (N*k)).map (fun i=>h.toArray[i%k]!)=(cB N h).flatten
 | 0=>by simp
 | N+1=>by
  rw [Nat.add_mul,Nat.one_mul,List.range_add,List.map_append,Ni f N,List.replicate_succ',List.flatten_append];congr 1;simp only [cI,List.flatten_nil,List.append_nil,List.map_map];apply List.ext_getElem
  . simp [f]
  . intro i h1 E;simp only [List.length_map,List.length_range] at h1;simp only [List.getElem_map,List.getElem_range,Function.comp];have:(N*k+i)%k=i:=by rw [Nat.mul_comm,Nat.mul_add_mod,Nat.mod_eq_of_lt h1]
    rw [this];simp [E]
def Gx {K X:wD->Prop} (h : ∀(_:Unit) f,K f->X f) : ∀v f,Oa K v f->X f:=fun v f E=>by
 cases v with
 | none=>exact h () f E
 | some v=>exact E.elim
def Kd {t e sz1 sz C D:Nat} {sE:Sk} {zs:lV} {x y:Operand} {N:Nat} {z:α} (T:TabOk P tab) (Z:Cy P zt) (ht:AD tab t=some (.slice e,sz1)) (hE:AD tab e=some (sE,sz)) (hz:CT zt e=some zs) (hzl:zs.length=sz)
 (hby:Do P e=true) (hx:ev l x=some (.int .i64 (N:Int))) (hy:ev l y=some (.int .i64 (N:Int))) (hN:N<=100000000000) (hz0 : ∀w S,sh.rep w S z zs) :
 Cr P n l (.makeSlice t x y) ty w (LF fun o w'=> ∃g,o = .slice (some ⟨g,0,none⟩) N N/\ArrS sh C D w' g (cB N z)/\g=w.heap.size/\w'.heap.size=g+1/\Ext w w'):=by
 unfold Cr;intro a dst pos after gd next Q ha hn _;obtain ⟨i,v0,z1,z2,z3⟩:=Fd Z hz;obtain ⟨i',hi',hs'⟩:=(T _ _ _ hE).info;rw [z1] at hi';obtain rfl:=bO hi';have hbb:i.bytes<=1000:=by
  unfold Do at hby;rw [z1] at hby;exact cE hby
 have hu:=(T _ _ _ ht).under;have b:(i.bytes:Int)*(N:Int)<=281474976710656:=by
  have:i.bytes*N<=1000*100000000000:=Nat.mul_le_mul hbb hN;have h2:((i.bytes*N:Nat):Int)<=281474976710656:=by omega
  rwa [Int.natCast_mul] at h2
 have hr:=run_make (P:=P) w t e i v0 hu z1 z2 .i64 .i64 N N Ab (Int.le_refl _) b Ab;simp only [Int.toNat_natCast] at hr;have e2:(execOp a.eval ⟨dst,.makeSlice t x y,ty,pos,after,gd⟩).run P w = .ok (.value (.slice (some ⟨w.heap.size,0,none⟩) N N)) (w.alloc (.cells (madeCells v0.cells (N*i.size)) e)):=by
  simp only [execOp,ha.ev hx,ha.ev hy,bL,hr,Result.andThen_ok,bW]
 have ecell:madeCells v0.cells (N*i.size)=(cB N zs).flatten.toArray:=by
  rw [z3];have hsz:zs.length=i.size:=by omega
  apply Array.ext';simp only [madeCells,Array.toList_map,Array.toList_range,List.size_toArray];rw [hsz];exact Ni hsz N
 unfold Oper.wp;rw [e2,ecell];have hnew:=ET w (cB N zs).flatten e;exact hn _ _ ⟨w.heap.size,rfl,.made hnew.blk hz0,rfl,hnew.size,hnew.ext⟩
def CZ {x y:Operand} {t sz C D g j:Nat} {s:Sk} {v:Value} {us:lV} {xs:List α} {z:α} (T:TabOk P tab) (ht:AD tab t=some (s,sz)) (hx:ev l x=some (.pointer (some ⟨g,0+j*sh.sz,none⟩))) (hy:ev l y=some v) (hv:v.cells=us.toArray) (hl:us.length=sz) (h1:us.all eL=true)
 (hA:ArrS sh C D w g xs) (hj:j<xs.length) (hg:g<C\/D<=g) (hr:sh.rep w (fun b=>C<=b/\b<D) z us) :
 Cr P n l (.store t x y) ty w (Oa fun w'=>ArrS sh C D w' g (xs.set j z)/\Fr (· = g) w w'/\w'.heap.size=w.heap.size):=by
 obtain ⟨css,c1,c2,c3⟩:=hA.ex;have hfl:=FJ (hA.lens c2 c3);have hus:=sh.len hr;have hjs:j*sh.sz+sh.sz<=css.flatten.length:=by
  rw [hfl,c2,<-Nat.succ_mul];exact Nat.mul_le_mul_right _ hj
 have hd:=GO (P:=P) (n:=n) (l:=l) (ty:=ty) T ht hx hy hv hl h1 c1 (by rw [Nat.ble_eq];omega);unfold Cr at hd ⊢;intro a dst pos after gd next Q ha hn c;refine hd a dst pos after gd next Q ha (fun v' w' h=>h.elim) (fun w' hP=>c w' ?_);have hP':Put w w' g (Bi css.flatten (j*sh.sz) us):=by rw [show j*sh.sz=0+j*sh.sz by omega];exact hP
 exact ⟨WN c2 c3 hj hg hr hP',hP'.fr,hP'.size⟩
def Hv {x y:Operand} {t sz C D g j:Nat} {s:Sk} {v:Value} {us:lV} {xs:List α} {z:α} (T:TabOk P tab) (f:AD tab t=some (s,sz)) (h:ev l x=some (.pointer (some ⟨g,0+j*sh.sz,none⟩))) (E:ev l y=some v) (F:v.cells=us.toArray) (L:us.length=sz) (h1:us.all eL=true)
 (M:ArrS sh C D w g xs) (N:j<xs.length) (O:g<C) (U:D<=w.heap.size) (V:sh.rep w (fun b=>C<=b) z us) :
 Cr P n l (.store t x y) ty w (Oa fun w'=>ArrS sh C w.heap.size w' g (xs.set j z)/\Fr (· = g) w w'/\w'.heap.size=w.heap.size):=
 CZ T f h E F L h1 (M.wide U) N (bC O) (sh.lt V)
end
section
variable {P:Program} {n:Nat} {l:Sl} {w:wD} {tab:Tab} {zt:Ey} {ty:TypeId}
end
def Fu {P:Program} {n:Nat} {l:Sl} {w:wD} {Q:Exit->Act->wD->Prop} {x y:Code} {ι:Type} (L:ι->Sl) (I:ι->wD->Prop) (h:CW P n x (Exit.then (fun a w=> ∃i,Env n (L i) a/\I i w) Q) l w) (k : ∀i w,I i w->CW P n y Q (L i) w):CW P n (.seq x y) Q l w:=
 Ym _ h (fun a w ⟨i,he,hi⟩=>by have:=k i w hi;unfold CW at this;exact this a he)
def BL {n:Nat} {l:Sl} {w:wD} {Q:Exit->Act->wD->Prop} {ι:Type} {L:ι->Sl} {I:ι->wD->Prop} (i:ι) (f:Up (L i) l) (h:I i w):QW n (Exit.then (fun a w=> ∃i,Env n (L i) a/\I i w) Q) .normal l w:=
 SP fun _ E=>⟨i,E.sub f,h⟩
mutual
def LQ {S:nP} {w:wD} : ∀(l:List Nd) (a:oA),rowSits S w l a->rowSits (· < w.heap.size) w l a
 | [],_,_=>by simp [rowSits]
 | t::r,a,h=>by
  simp only [rowSits] at h ⊢;obtain ⟨b,o,a',c,rfl,hb,h0,h1,h2,h3,hs,hr⟩:=h;exact ⟨b,o,a',c,rfl,Cb h0,h0,h1,h2,h3,Lj t a' hs,LQ r _ hr⟩
def Lj {S:nP} {w:wD} : ∀(t:Nd) (a:oA),t.sits S w a->t.sits (· < w.heap.size) w a
 | .mk _ _ _ l,a,h=>by
  simp only [dY] at h ⊢;exact LQ l a h
end
mutual
def KF {S:nP} {w:wD} : ∀(l:List Nd) (a:oA),rowSits S w l a->rowSits (fun b=>S b/\b<w.heap.size) w l a
 | [],_,_=>by simp [rowSits]
 | t::r,a,h=>by
  simp only [rowSits] at h ⊢;obtain ⟨b,o,a',c,rfl,hb,h0,h1,h2,h3,hs,hr⟩:=h;exact ⟨b,o,a',c,rfl,⟨hb,Cb h0⟩,h0,h1,h2,h3,Pr t a' hs,KF r _ hr⟩
def Pr {S:nP} {w:wD} : ∀(t:Nd) (a:oA),t.sits S w a->t.sits (fun b=>S b/\b<w.heap.size) w a
 | .mk _ _ _ l,a,h=>by
  simp only [dY] at h ⊢;exact KF l a h
end
def Hw (k:Int) (w:wD) (M:0<=k) (h1:k<=255):Calls prog 140 #[.int .u8 k] w fun e w'=>e = .returned (.int .u8 (EG k))/\w=w':=by
 refine Af func140 ntmps140 rfl rfl ?_
 focus
  refine eK ?_;refine AH rfl (fun h=>?_) (fun h=>?_);refine eK ?_;refine xR ?_;rotate_left;refine eK ?_;refine AH rfl (fun c2=>?_) (fun c2=>?_);refine eK ?_;refine xR ?_;rotate_left;refine eK ?_;refine AH rfl (fun c3=>?_) (fun c3=>?_);refine eK ?_;refine xR ?_;rotate_left;refine eK ?_;refine AH rfl (fun c4=>?_) (fun c4=>?_);refine eK ?_;refine xR ?_;rotate_left;refine eK ?_;refine AH rfl (fun c5=>?_) (fun c5=>?_);refine eK ?_;refine xR ?_;rotate_left;refine eK ?_;refine AH rfl (fun E=>?_) (fun E=>?_);refine eK ?_;refine xR ?_;rotate_left;refine eK ?_;refine AH rfl (fun F=>?_) (fun F=>?_);refine eK ?_;refine xR ?_;rotate_left;refine eK ?_;refine AH rfl (fun L=>?_) (fun L=>?_);refine eK ?_;refine xR ?_;rotate_left;refine eK ?_;refine AH rfl (fun c9=>?_) (fun c9=>?_);refine eK ?_;refine xR ?_;rotate_left;refine eK ?_;refine AH rfl (fun f=>?_) (fun f=>?_);refine eK ?_;refine xR ?_;rotate_left;refine eK ?_;refine xR ?_;rotate_left
 all_goals (refine ⟨congrArg (fun x=>Ending.returned (.int .u8 x)) ?_,rfl⟩;unfold EG;(repeat' split)<;>omega)
def CopyR (u:Nd) (w:wD):Ending->wD->Prop:=fun e w'=> ∃a c,e = .returned (u.val a c)/\u.sits (fun b=>w.heap.size<=b/\b<w'.heap.size) w' a/\Ext w w'
def CopyR.ret {u:Nd} {w:wD} {e:Ending} {w':wD} (h:CopyR u w e w') : ∃v,e = .returned v:=by
 obtain ⟨_,_,h,-⟩:=h;exact ⟨_,h⟩
def CopyC (u:Nd) (w:wD):Ending->wD->Prop:=fun e w'=> ∃a c,e = .returned (u.val a c)/\u.sits (fun b=>w.heap.size<=b/\b<w'.heap.size) w' a/\Ext w w'/\u.kids.length<=c
def CopyC.ret {u:Nd} {w:wD} {e:Ending} {w':wD} (h:CopyC u w e w') : ∃v,e = .returned v:=by
 obtain ⟨_,_,h,-⟩:=h;exact ⟨_,h⟩
def CopyC.copy {u:Nd} {w:wD} {e:Ending} {w':wD} (h:CopyC u w e w'):CopyR u w e w':=by
 obtain ⟨a,c,h1,f,E,-⟩:=h;exact ⟨a,c,h1,f,E⟩
def R8 {w:wD} {b e sz n c:Nat} {a:oA} {cs:lV} (h:Own w b e sz (.slice a n c) n cs):n<=c:=by
 rcases h.2 with ⟨f,-⟩|⟨M,E,F,f,-,-,L,-⟩
 . simp only [bZ] at f;omega
 . simp only [bZ] at f;obtain ⟨-,-,rfl⟩:=f;exact L
def EV {S:nP} {w:wD} {k n:Int} {s:lB} {l:List Nd} {a:oA} (h:(Nd.mk k n s l).sits S w a):rowSits S w l a:=h
def WO (N:Nat) : ∀(t:Nd) (S:nP) (a:oA) (c:Nat) (w:wD),t.size<N->t.size<=1000000->t.sits S w a->Calls prog 52 #[t.val a c] w (CopyC t w):=by
 induction N with
 | zero=>intro t S a c w h;omega
 | succ N ih=>
  rintro ⟨k,n,s,l⟩ S a c w hN hM F;have aq:=Dm l;simp only [dL] at hN hM;have hC : ∀x∈l,∀(S:nP) (a:oA) (c:Nat) (w:wD),x.sits S w a->Calls prog 52 #[x.val a c] w (CopyC x w):=fun x hx S a c w h=>by
   have:=Df hx;exact ih x S a c w Ab Ab h
  clear ih;have HC:=bA hC;clear hC;have F:=CY _ _ (EV F);have X:=dI w;refine Af func52 ntmps52 rfl rfl ?_;refine cS (eB [_,_,_,_] ?_);intro b1 w2 h4 x5 p6 z7;revert F X;refine eE x5 ?_;intro F X;refine eA [_,_,_,_] ?_;intro b8 w9 ac ak a6 a7;revert h4 F X;refine eE ak ?_;intro h4 F X;refine cN (C1 Pa (cT (Aj (cS (C1 Pf (C1 (Pl h4) (C1 Pz (C1 Mv (cT (Ar ?_))))))))));have a8:b8+1=w9.heap.size:=by omega
  refine AJ (ι:=Nat×List Nd×oA×Nat) (fun x=>[(1,.pointer (some ⟨b1,0,none⟩)),(2,.pointer (some ⟨b8,0,none⟩)),(3,.slice x.2.2.1 x.2.1.length x.2.2.2),(7,.slice a l.length c),(8,.int .i64 l.length),(9,.int .i64 x.1)])
   (fun x w'=>OwnL ndShape w' (b8+1) 32 (.slice x.2.2.1 x.2.1.length x.2.2.2) x.2.1/\x.1<=l.length/\x.2.1=l.take x.1/\rowSits (· < w.heap.size) w' l a/\Blk w' b1 [.int .u8 k,.int .i64 n,str s,.slice a l.length c]/\Blk w' b8 [.int .u8 0,.int .i64 0,str [],.slice none 0 0]/\Ext w w'/\b8+1<=w'.heap.size)
   (fun x=>l.length-x.1) (0,[],none,0) sB ⟨OwnL.nil,bI _,rfl,F,h4,ac,X,Ab⟩ ?_
  clear F h4 ac X;rintro ⟨j,xs,ra,rc⟩ w1 ⟨f,hj,O,F,L,E,X,hg⟩;simp only at f hj O F L E X hg;have al : ∀g,(cP ra xs.length rc).ownBlock=some g->g<w1.heap.size:=fun g h=>f.lt h
  have a9:xs.length<=l.length:=by rw [O,cH];omega
  refine CW.sub (m:=[(1,.pointer (some ⟨b1,0,none⟩)),(2,.pointer (some ⟨b8,0,none⟩)),(3,.slice ra xs.length rc),(7,.slice a l.length c),(8,.int .i64 l.length),(9,.int .i64 j)]) ?_ sB;by_cases U:j<l.length
  . obtain ⟨kb,ko,rfl,kS,Z⟩:=Ba F (by intro e;subst e;simp at U);obtain ⟨xa,xc,rx,sx⟩:=Z j l[j] (aY U);have hz:=Df (bD U);have HX:=bA (HC.out l[j] (bD U));have ab:xs++[l[j]]=l.take (j+1):=by rw [O,bE U]
    clear Z HC O;generalize l[j]=x at *;refine eK ?_;refine xA [_,_,_,_] ?_;intro ba bb am;refine eI [_,_,_,_] am ?_;intro bc V an bd be;revert f E X F L rx sx;refine eE an ?_;intro f E X F L rx sx;refine eK ?_;refine eQ rfl (HX.out _ _ _ _ Ag) ?_;rintro _ ar ⟨bf,⟨au,⟨⟨⟩,⟨Y,⟨ad,av⟩⟩⟩⟩⟩;revert V f E X F L rx sx;refine eY ad ?_;intro aw V f E X F L rx sx;refine Au (xS [_,_,_,_]) rfl ?_ aFh;rintro _ ax ⟨ay,rfl,M,az⟩;have ae:=M.blk;have af:=M.ext;have a0:=M.pos;have a1:=M.size;revert Y V f E X F L rx sx;refine eE af ?_;intro Y V f E X F L rx sx;refine BN (sh:=ndShape) (z:=x) Ac CM rfl rfl rfl rfl Bl rfl rfl rfl f (Blk.row Ag) ⟨_,_,rfl,Nd.sits.wide Ag (fun b h=>⟨Ab,fun e=>by have:=al _ e;omega⟩)⟩ Ab Ab rfl ?_;rintro a2 ag a3 a4 aa;have a5:=aa.size;clear ae Y V f;revert E X F L rx sx;refine eF aa ?_;intro E X F L rx sx;refine C1 Pa (Ah (Ae (Ai (Ad (C1 V7 (C1 Mv (Ah ?_)))))));refine Aw (j+1,xs++[x],some ⟨_,0,none⟩,_) sB ⟨Ag,by simp only;omega,ab,F,L,E,X,Ab⟩ Ab
  . obtain rfl:j=l.length:=by omega
    rw [bH] at O;subst O;refine eK ?_;refine eV [_] [_,_,_,_] L ?_;intro bg ah ao bh;revert f E X F;refine eF ao ?_;intro f E X F;refine eK ?_;refine eS [_,_,_,_] E ?_;intro bi ai ap bj;revert ah f X F;refine eF ap ?_;intro ah f X F;refine eK ?_;refine xC ai ?_;have aj:=R8 f.ex.choose_spec.1;exact ⟨ra,rc,rfl,Pr (Nd.mk k n s xs) ra (Jp (f.sits (S:=fun b=>w.heap.size<=b) (fun b h=>by omega))),X,aj⟩
def R9 (t:Nd) (f:t.size<=1000000) (S:nP) (a:oA) (c:Nat) (w:wD) (h:t.sits S w a):Calls prog 52 #[t.val a c] w (CopyC t w):=WO (t.size+1) t S a c w Ab f h
def Ob (t:Nd) (f:t.size<=1000000) (S:nP) (a:oA) (c:Nat) (w:wD) (E:t.sits S w a):Calls prog 52 #[t.val a c] w (CopyR t w):=Calls.mono (R9 t f S a c w E) (fun _ _ h=>h.copy)
def Ps (xs ys:List Nd) (i:Nat):Prop:=ys.length=xs.length /\ ∀k,k<xs.length->ys[k]? = if k<i\/xs.length-i<=k then xs[xs.length-1-k]? else xs[k]?
def WP (xs:List Nd):Ps xs xs 0:=⟨rfl,fun k f=>by rw [AE Ab]⟩
def Tn {xs ys:List Nd} {i:Nat} (h:Ps xs ys i) (E:xs.length<=2*i+1):ys=xs.reverse:=by
 apply List.ext_getElem?;intro k;by_cases f:k<xs.length
 . rw [h.2 k f,List.getElem?_reverse f];split
   . rfl
   . have:xs.length-1-k=k:=by omega
     rw [this]
 . rw [bS (by rw [h.1];omega),bS (by rw [List.length_reverse];omega)]
def Q0 {xs ys:List Nd} {i:Nat} (h:Ps xs ys i) (N:2*i+1<xs.length) {x y:Nd} (f:ys[i]? = some x) (E:ys[xs.length-1-i]? = some y):Ps xs ((ys.set i y).set (xs.length-1-i) x) (i+1):=by
 refine ⟨by simp [h.1],fun k M=>?_⟩;have O:=h.1;rw [h.2 i Ab,AE Ab] at f;rw [h.2 (xs.length-1-i) Ab,AE Ab] at E;by_cases h1:k=xs.length-1-i
 . subst h1;rw [List.getElem?_set_self (by simp [h.1];omega),AU Ab,show xs.length-1-(xs.length-1-i)=i by omega,f]
 . rw [List.getElem?_set_ne (fun e=>h1 e.symm)];by_cases F:k=i
   . subst F;rw [List.getElem?_set_self Ab,AU Ab,E]
   . rw [List.getElem?_set_ne (fun e=>F e.symm),h.2 k M];by_cases L:k<i\/xs.length-i<=k
     . rw [AU L,AU Ab]
     . rw [AE L,AE Ab]
def To (C D g cap:Nat) (xs:List Nd) (w:wD) (hA:ArrS ndShape C D w g xs) (hg:g<C\/D<=g) (hl:xs.length<=1000000):Calls prog 139 #[.slice (some ⟨g,0,none⟩) xs.length cap] w fun e w'=>e = .returned (.tuple #[])/\ArrS ndShape C D w' g xs.reverse/\Fr (· = g) w w':=by
 have X:=Fr.refl (· = g) w
 by_cases hn:xs.length=0
 . have e0:xs=[]:=List.eq_nil_of_length_eq_zero hn;subst e0;refine Af func139 ntmps139 rfl rfl ?_
   refine eK ?_;refine C1 (Cv rfl rfl (bT _ (by omega))) (C1 Pa (C1 Pa (cT (Ar ?_))))
   refine AJ (ι:=Unit) (fun _=>[(2,.int .i64 0),(3,.int .i64 (-1))]) (fun _ w'=>ArrS ndShape C D w' g []/\Fr (· = g) w w') (fun _=>0) () sB ⟨hA,X⟩ ?_;rintro _ w1 ⟨hA,X⟩
   refine Aj (cS (C1 Mv (C1 Mv (C1 V3 (cT (Hj (CB (AG (AG (A8 (Bn rfl ?_)))))))))))
   exact ⟨rfl,hA,X⟩
 refine Af func139 ntmps139 rfl rfl ?_
 refine eK ?_;refine C1 (Cv rfl rfl (bT _ (by omega))) (C1 Pa (C1 Pa (cT (Ar ?_))))
 obtain ⟨m0,hm0⟩ : ∃m:Nat,((xs.length:Int)-1)=(m:Int):=⟨xs.length-1,by omega⟩;rw [hm0];refine AJ (ι:=Nat×Nat×List Nd) (fun x=>[(0,.slice (some ⟨g,0,none⟩) xs.length cap),(2,.int .i64 x.1),(3,.int .i64 x.2.1)]) (fun x w'=>ArrS ndShape C D w' g x.2.2/\Ps xs x.2.2 x.1/\x.1+x.2.1+1=xs.length/\Fr (· = g) w w') (fun x=>x.2.1) (0,m0,xs) sB ⟨hA,WP xs,by simp only;omega,X⟩ ?_;clear hA X hm0;rintro ⟨i,m,ys⟩ w1 ⟨hA,hR,hm,X⟩;simp only at hA hR hm;refine CW.sub (m:=[(0,.slice (some ⟨g,0,none⟩) xs.length cap),(2,.int .i64 i),(3,.int .i64 m)]) ?_ sB;have hyl:=hR.1
 by_cases hlt:i<m
 . obtain ⟨x,hx⟩ : ∃x,ys[i]? = some x:=⟨_,aY (by omega)⟩;obtain ⟨y,hy⟩ : ∃y,ys[m]? = some y:=⟨_,aY (by omega)⟩;obtain ⟨_,r1,xa,xc,rfl,sx⟩:=hA.row hx;obtain ⟨_,r2,ya,yc,rfl,sy⟩:=hA.row hy;have hR2:=Q0 hR (by omega) hx (show ys[xs.length-1-i]? = some y by rw [show xs.length-1-i=m by omega];exact hy);rw [show xs.length-1-i=m by omega] at hR2;clear hR hx hy;replace r1:Row w1 ⟨g,0+i*4,none⟩ _:=r1;replace r2:Row w1 ⟨g,0+m*4,none⟩ _:=r2
   refine eK ?_;refine Ji (fun wz=>Ext w1 wz) (fun wz=>Fr (fun x=>x=g) w1 wz) [2,3,13,14,15] [2,3] 13 14 (.free 2 (.free 3 (.pure 0 (.pure 1 (.pure 4 (.pure 5 (.pure 6 (.pure 7 (.pure 8 (.pure 9 (.pure 10 (.pure 11 (.pure 12 (.put 13 (.tail 14))))))))))))))) (fun _ h=>eJ h) mixed (by kernel_rfl) (Al (Aa (Aa (Al An)))) ?_;intro wc1 xc2 _;have qsc3:(fun wz=>Ext w1 wz) wc1:=xc2;simp only at qsc3;have qtc4:(fun wz=>Fr (fun x=>x=g) w1 wz) wc1:=eJ xc2;simp only at qtc4;have d_hA:=hA;have d_sx:=sx;have d_sy:=sy;have d_r1:=r1;have d_r2:=r2;revert hA X sx sy r1 r2;refine eY xc2 ?_;intro zc5 hA X sx sy r1 r2;refine DO ‹_› rfl (BM rfl) rfl (DO ‹_› rfl (BM rfl) rfl (AQ ‹_› rfl (BM rfl) rfl (AQ ‹_› rfl (BM rfl) rfl (AQ ‹_› rfl (BM rfl) rfl (AQ ‹_› rfl (BM rfl) rfl (AQ ‹_› rfl (Ay Ac rfl rfl rfl rfl (by omega) (by omega)) rfl (AQ ‹_› rfl (A6 Ac rfl rfl rfl (fun wz hz=>(dZ d_r2 hz)) rfl) rfl (AQ ‹_› rfl (BM rfl) rfl (AQ ‹_› rfl (BM rfl) rfl (AQ ‹_› rfl (Ay Ac rfl rfl rfl rfl (by omega) (by omega)) rfl (AQ ‹_› rfl (A6 Ac rfl rfl rfl (fun wz hz=>(dZ d_r1 hz)) rfl) rfl ?_)))))))))))
   refine AQ ‹_› rfl (Ay Ac rfl rfl rfl rfl (by omega) (by omega)) rfl (Jk rfl (CZ (sh:=ndShape) (j:=i) (z:=y) (us:=[_,_,_,_]) Ac rfl rfl rfl rfl rfl rfl hA (by omega) hg ⟨_,_,rfl,by assumption⟩) (Gx ?_));rintro _ wc9 ⟨hc6,⟨fc7,hc8⟩⟩;have zc10:=fc7.size;replace qtc4:=qtc4.fr fc7 (by omega);clear hA;revert X sx sy;refine eF fc7 ?_;intro X sx sy;refine ⟨by assumption,?_⟩;refine Jj rfl (C1 Pi (DA (CZ (sh:=ndShape) (j:=m) (z:=x) (us:=[_,_,_,_]) Ac rfl rfl rfl rfl rfl rfl ‹_› (by rw [List.length_set];omega) hg ⟨_,_,rfl,by assumption⟩) (Gx ?_)));rintro _ wc14 ⟨hc11,⟨fc12,hc13⟩⟩;have zc15:=fc12.size;revert X sx sy;refine eF fc12 ?_;intro X sx sy;refine eK ?_;refine C1 (Cv rfl rfl (bT _ (by omega))) (C1 Pa (C1 Pa (Ah ?_)))
   refine Aw (i+1,m-1,(ys.set i y).set m x) (by (refine Ak rfl ?_;refine Ak rfl ?_;refine AW rfl (by go_num) ?_;exact AY)) ⟨by assumption,hR2,by simp only;omega,X⟩ (by simp only;omega)
 . have e:=Tn hR (by omega);subst e
   refine Aj (cS (C1 Mv (C1 Mv (C1 V3 (cT (C9 (CB (AG (AG (A8 (Bn rfl ?_)))))))))))
   exact ⟨rfl,hA,X⟩
def Dv (q:Bool) (k:Int) (x:Nd):Nd:=if k=57\/x.kind=57 then x.inv q else x
def Q1 (q:Bool) (l:List Nd):Co q l=l.map (Dv q 57):=by
 induction l with
 | nil=>rfl
 | cons t r f=>simp only [Co,List.map_cons,f,Dv,true_or,if_true]
def Pu (q:Bool) {k:Int} (f:k≠57) (l:List Nd):DL q l=l.map (Dv q k):=by
 induction l with
 | nil=>rfl
 | cons t r h=>simp only [DL,List.map_cons,h,Dv,f,false_or]
def Gf (f:Nd->Nd) (l:List Nd) (j:Nat):List Nd:=(l.take j).map f++cB (l.length-j) BI
def Q2 (f:Nd->Nd) (l:List Nd) (j:Nat) (h:j<=l.length):(Gf f l j).length=l.length:=by
 simp only [Gf,aU,List.length_map,cH,List.length_replicate];omega
def Q4 (f:Nd->Nd) (l:List Nd) (j:Nat) (h:j<l.length):(Gf f l j).set j (f l[j])=Gf f l (j+1):=by
 unfold Gf;have h1:((l.take j).map f).length=j:=by simp;omega
 rw [List.set_append_right _ _ Ab,h1,Nat.sub_self,show l.length-j=(l.length-(j+1))+1 by omega,List.replicate_succ,aZ,bE h,List.map_append,cF];rfl
def Q5 (f:Nd->Nd) (l:List Nd):Gf f l l.length=l.map f:=by simp [Gf]
def Q6 {k n:Int} {s:lB} {l:List Nd} (h:(Nd.mk k n s l).isStmt=true\/(Nd.mk k n s l).isBlock=true):(∀x∈l,k=57\/x.kind=57->x.isStmt=true\/x.isBlock=true)/\(k=52\/k=53\/k=54->l≠[])/\40<=k/\k<=57:=by
 rcases h with h|h
 . have N:=M8 h;simp only [dM] at N;have f : ∀x:Nd,x.isExpr=true -> ¬x.kind=57:=fun x f=>by have:=J3 f;omega
   have key : ∀x∈l,x.isBlock=true\/x.isExpr=true:=by
    cases Ds h with
    | call _ _ _ O=>intro x f;exact bF (IZ (cX.1 O x f))
    | upd _ h1 F=>intro x f;simp only [bR,bX,or_false] at f;rcases f with rfl|rfl<;>first|exact bF (Bq Ag)|exact bF Ag
    | swap h1 F=>intro x f;simp only [bR,bX,or_false] at f;rcases f with rfl|rfl<;>exact bF (Bq Ag)
    | stack _ _ h1=>intro x f;simp only [bR,bX,or_false] at f;rw [f];exact bF (Bq h1)
    | tape _ h1=>intro x f;simp only [bR,bX,or_false] at f;rw [f];exact bF (Bq h1)
    | branch _ h1 F U Z=>intro x f;simp only [bR,bX,or_false] at f;rcases f with rfl|rfl|rfl|rfl<;>first|exact bF Ag|exact bC Ag
    | local_ _ h1 F U=>intro x f;simp only [bR,bX,or_false] at f;rcases f with rfl|rfl|rfl<;>first|exact bF Ag|exact bC Ag
    | lstack _ h1=>intro x f;simp only [bR,bX,or_false] at f;rw [f];exact bC h1
   refine ⟨fun x L E=>?_,fun E=>?_,Ab,Ab⟩
   . rcases E with rfl|E
     . omega
     . rcases key x L with V|X
       . exact bF V
       . exact absurd E (f x X)
   . rintro rfl;cases Ds h with
     | call Y=>omega
 . obtain ⟨e,M⟩:=EU h;simp only [dN,Nd.mk.injEq,and_true] at e M;obtain ⟨rfl,-,-⟩:=e;exact ⟨fun x f _=>bC (rowStmt_iff.1 M x f),fun E=>by omega,Ab,Ab⟩
def Pv (q:Bool) {k n:Int} {s:lB} {l:List Nd} (hk : ¬k=57):(Nd.mk k n s l).inv q=if k=52\/k=53\/k=54 then .mk k n s (Gr (l.map (Dv q k))) else .mk (if k=50\/k=51 then (if q then k else EG k) else EG k) n s (l.map (Dv q k)):=by
 conv=>lhs;unfold Nd.inv
 rw [AE hk,Pu q hk];by_cases h1:k=52\/k=53\/k=54
 . rw [AU h1,AU h1]
 . rw [AE h1,AE h1];by_cases h2:k=50\/k=51
   . rw [AU h2,AU h2]
   . rw [AE h2,AE h2]
def PA (w:wD) (S:nP):ndShape.rep w S BI [.int .u8 0,.int .i64 0,.string ⟨#[]⟩,.slice none 0 0]:=⟨none,0,rfl,CX⟩
def ArrS.sits {C D g:Nat} {w:wD} {xs:List Nd} (h:ArrS ndShape C D w g xs) {S:nP} (E:S g) (F : ∀b,C<=b->b<D->S b):rowSits S w xs (some ⟨g,0,none⟩):=
 El E xs 0 (fun i x L=>by
  obtain ⟨cs,M,a,c,rfl,N⟩:=h.row L;exact ⟨a,c,M,Nd.sits.wide N (fun b f=>F b f.1 f.2)⟩)
def D4 {C g:Nat} {w w':wD} {k n:Int} {s:lB} {xs:List Nd} {m:Nat} (E:xs.length=m) (h:ArrS ndShape C w'.heap.size w' g xs) (h1:w.heap.size<=g) (L:w.heap.size<=C) (X:Ext w w'):CopyR (.mk k n s xs) w (.returned (.agg #[.int .u8 k,.int .i64 n,str s,.slice (some ⟨g,0,none⟩) m m])) w':=by
 subst E;exact ⟨some ⟨g,0,none⟩,xs.length,rfl,Jp (h.sits ⟨h1,h.lt⟩ (fun b F f=>⟨Ab,f⟩)),X⟩
def US (q:Bool) (N:Nat) : ∀(t:Nd) (S:nP) (a:oA) (c:Nat) (w:wD),t.size<N->t.size<=1000000->(t.isStmt=true\/t.isBlock=true)->t.sits S w a->Calls prog 96 #[t.val a c,.bool q] w (CopyR (t.inv q) w):=by
 induction N with
 | zero=>intro t S a c w h;omega
 | succ N ih=>
  rintro ⟨k,n,s,l⟩ S a c w hN hM hv hs;have hlen:=Dm l;simp only [dL] at hN hM;obtain ⟨v1,v2,v3,v4⟩:=Q6 hv;clear hv
  have hC : ∀x∈l,(k=57\/x.kind=57) -> ∀(S:nP) (a:oA) (c:Nat) (w:wD),x.sits S w a->Calls prog 96 #[x.val a c,.bool q] w (CopyR (x.inv q) w):=fun x hx hk S a c w h=>by
   have:=Df hx
   exact ih x S a c w (by omega) (by omega) (v1 x hx hk) h
  clear ih v1;have HC:=bA hC;clear hC;replace hs:=CY _ _ (EV hs);have X:=dI w;refine Af func96 ntmps96 rfl rfl ?_
  refine cS (eB [_,_,_,_] ?_);intro b1 w2 h4 x5 p6 z7;revert hs X;refine eE x5 ?_;intro hs X;refine eA [_,_,_,_] ?_;intro b8 w9 h12 x13 p14 z15;revert h4 hs X;refine eE x13 ?_;intro h4 hs X;refine cT ?_
  refine Fu (ι:=Nat×Nat) (fun x=>[(1,.bool q),(2,.pointer (some ⟨b1,0,none⟩)),(4,.pointer (some ⟨b8,0,none⟩)),(5,.pointer (some ⟨x.1,0,none⟩))])
   (fun x w'=>ArrS ndShape (b1+4) (b1+4) w' x.2 (cB l.length BI)/\Blk w' x.1 [.int .u8 k,.int .i64 n,str s,.slice (some ⟨x.2,0,none⟩) l.length l.length]/\b8<x.1/\b8<x.2/\x.1≠x.2/\x.1<b1+4/\x.2<b1+4/\Blk w' b1 [.int .u8 k,.int .i64 n,str s,.slice a l.length c]/\Blk w' b8 [.int .u8 0,.int .i64 0,str [],.slice none 0 0]/\rowSits (· < w.heap.size) w' l a/\Ext w w'/\w'.heap.size=b1+4) ?_ ?_
  . focus
     refine AC (fun wz=>Ext w9 wz) 12 (.pure 0 (.pure 1 (.pure 2 (.pure 3 (.pure 4 (.pure 5 (.pure 6 (.pure 7 (.pure 8 (.fork 9 (.pure 10 (.fork 11 .tail .none)) (.fork 11 (.fork 9 (.pure 10 .tail) .none) .none))))))))))) mixed (by kernel_rfl) (Aa An) ?_;intro wa1 xa2 _;have qsa3:(fun wz=>Ext w9 wz) wa1:=xa2;simp only at qsa3;have d_h12:=h12;have d_h4:=h4;have d_hs:=hs;revert h12 h4 hs X;refine eY xa2 ?_;intro za4 h12 h4 hs X;refine ⟨qsa3,?_⟩;refine eT ?_;refine A1 rfl (Kd (sh:=ndShape) (C:=b1+4) (D:=b1+4) (N:=l.length) (z:=BI) Ac CM rfl rfl rfl rfl (by kernel_rfl) rfl rfl (by omega) PA) rfl ?_ (fun _ h=>h) ?kra5;rintro _ wa11 ⟨ga6,⟨rfl,⟨ha7,⟨ha8,⟨ha9,xa10⟩⟩⟩⟩⟩;revert qsa3 h12 h4 hs X;refine eY xa10 ?_;intro za12 qsa3 h12 h4 hs X;refine ⟨qsa3,?_⟩;refine Tq rfl (Dp [_,_,_,_] Ac CM rfl rfl rfl rfl) ?_;refine A1 rfl (C4 CM rfl) rfl ?_ (fun _ h=>h) A7;rintro _ wa15 ⟨ba14,rfl,na16⟩;have ha17:=na16.blk;dsimp only at ha17;have xa18:=na16.ext;have pa19:=na16.pos;have za20:=na16.size;revert ha7 qsa3 h12 h4 hs X;refine eE xa18 ?_;intro ha7 qsa3 h12 h4 hs X;refine ⟨qsa3,?_⟩;refine AF rfl (eS [_,_,_,_] ha17 ?_);intro wa21 ha25 fa23 za24;revert ha7 h12 h4 hs X;refine eF fa23 ?_;intro ha7 h12 h4 hs X
     refine Ah ?_;rotate_left;refine A1 rfl (C4 CM rfl) rfl ?_ (fun _ h=>h) A7;rintro _ wa28 ⟨ba27,rfl,na29⟩;have ha30:=na29.blk;dsimp only at ha30;have xa31:=na29.ext;have pa32:=na29.pos;have za33:=na29.size;revert qsa3 h12 h4 hs X;refine eE xa31 ?_;intro qsa3 h12 h4 hs X;refine ⟨qsa3,?_⟩;refine A1 rfl (Kd (sh:=ndShape) (C:=b1+4) (D:=b1+4) (N:=l.length) (z:=BI) Ac CM rfl rfl rfl rfl (by kernel_rfl) rfl rfl (by omega) PA) rfl ?_ (fun _ h=>h) A7;rintro _ wa40 ⟨ga35,⟨rfl,⟨ha36,⟨ha37,⟨ha38,xa39⟩⟩⟩⟩⟩;revert ha30 qsa3 h12 h4 hs X;refine eY xa39 ?_;intro za41 ha30 qsa3 h12 h4 hs X;refine ⟨qsa3,?_⟩;refine Tq rfl (Dp [_,_,_,_] Ac CM rfl rfl rfl rfl) ?_;refine AF rfl (eS [_,_,_,_] ha30 ?_);intro wa42 ha46 fa44 za45;revert ha36 h12 h4 hs X;refine eF fa44 ?_;intro ha36 h12 h4 hs X;refine Ah ?_;rotate_left
    . have hq:wa1.heap.size=w9.heap.size:=congrArg Array.size ‹_›
      exact BL (ba14,ga6) sB ⟨ha7,ha25,by simp only;omega,by simp only;omega,by simp only;omega,by simp only;omega,by simp only;omega,h4,h12,hs,X,by omega⟩
    . have hq:wa1.heap.size=w9.heap.size:=congrArg Array.size ‹_›
      exact BL (ba27,ga35) sB ⟨ha36,ha46,by simp only;omega,by simp only;omega,by simp only;omega,by simp only;omega,by simp only;omega,h4,h12,hs,X,by omega⟩
  . clear h4 h12 hs X;rintro ⟨bm,g⟩ w1 ⟨hA,hbm,o1,o2,o3,o4,o5,hb1,hb8,hs,X,hz⟩;simp only at hA hbm o1 o2 o3 o4 o5;refine CW.sub (m:=[(1,.bool q),(2,.pointer (some ⟨b1,0,none⟩)),(4,.pointer (some ⟨b8,0,none⟩)),(5,.pointer (some ⟨bm,0,none⟩))]) ?_ sB
    have e0:cB l.length BI=Gf (Dv q k) l 0:=by simp [Gf]
    rw [e0] at hA;refine Fu (ι:=Unit) (fun _=>[(1,.bool q),(2,.pointer (some ⟨b1,0,none⟩)),(4,.pointer (some ⟨b8,0,none⟩)),(5,.pointer (some ⟨bm,0,none⟩))])
     (fun _ w'=>ArrS ndShape (b1+4) w'.heap.size w' g (l.map (Dv q k))/\Blk w' bm [.int .u8 k,.int .i64 n,str s,.slice (some ⟨g,0,none⟩) l.length l.length]/\Blk w' b1 [.int .u8 k,.int .i64 n,str s,.slice a l.length c]/\Blk w' b8 [.int .u8 0,.int .i64 0,str [],.slice none 0 0]/\Ext w w'/\b1+4<=w'.heap.size) ?_ ?_
    . refine cS (C1 Pf (C1 (Pl hb1) (C1 Pz (C1 Mv (cT ?_)))))
      refine Ar ?_;refine AJ (ι:=Nat) (fun j=>[(1,.bool q),(2,.pointer (some ⟨b1,0,none⟩)),(4,.pointer (some ⟨b8,0,none⟩)),(5,.pointer (some ⟨bm,0,none⟩)),(21,.slice a l.length c),(22,.int .i64 l.length),(23,.int .i64 j)])
       (fun j w'=>j<=l.length/\ArrS ndShape (b1+4) w'.heap.size w' g (Gf (Dv q k) l j)/\Blk w' bm [.int .u8 k,.int .i64 n,str s,.slice (some ⟨g,0,none⟩) l.length l.length]/\Blk w' b1 [.int .u8 k,.int .i64 n,str s,.slice a l.length c]/\Blk w' b8 [.int .u8 0,.int .i64 0,str [],.slice none 0 0]/\rowSits (· < w.heap.size) w' l a/\Ext w w'/\b1+4<=w'.heap.size)
       (fun j=>l.length-j) 0 sB ⟨bI _,hA.wide (by omega),hbm,hb1,hb8,hs,X,by omega⟩ ?_
      clear hA hbm hb1 hb8 hs X hz e0;rintro j w2 ⟨hj,hA,hbm,hb1,hb8,hs,X,hz⟩
      by_cases hlt:j<l.length
      . obtain ⟨kb,ko,rfl,kS,hkid⟩:=Ba hs (by intro e;subst e;simp at hlt);obtain ⟨xa,xc,rx,sx⟩:=hkid j l[j] (aY hlt);have HX:=bA (HC.out l[j] (bD hlt));have hxz:=Df (bD hlt);have hnext:=Q4 (Dv q k) l j hlt;have hdl:=Q2 (Dv q k) l j hj;clear hkid HC
        by_cases hk:k=57\/(l[j]).kind=57
        . have HX2:=bA (HX.out hk)
          have hfx:Dv q k l[j]=(l[j]).inv q:=by unfold Dv;rw [AU hk]
          rw [hfx] at hnext;clear HX hfx
          generalize l[j]=x at *
          focus
           refine eK ?_;refine eA [_,_,_,_] ?_;intro bc1 wc2 hc5 xc6 pc7 zc8;revert hA hbm hb8 X hb1 hs rx sx;refine eE xc6 ?_;intro hA hbm hb8 X hb1 hs rx sx;refine C1 Pa (eS [_,_,_,_] hc5 ?_);intro wc9 hc13 fc11 zc12;revert hA hbm hb8 X hb1 hs rx sx;refine eF fc11 ?_;intro hA hbm hb8 X hb1 hs rx sx;refine eK ?_;refine Cm rfl rfl rfl (fun cc14=>?_) (fun cc14=>?_);refine eK ?_;refine AC (fun wz=>Ext wc9 wz) 6 (.pure 0 (.pure 1 (.pure 2 (.pure 3 (.pure 4 (.fork 5 .tail .none)))))) mixed (by kernel_rfl) (Al (Aa (Aa (Al (Aa An))))) ?_;intro wc15 xc16 _;have qsc17:(fun wz=>Ext wc9 wz) wc15:=xc16;simp only at qsc17;have d_hc13:=hc13;have d_hA:=hA;have d_hbm:=hbm;have d_hb8:=hb8;have d_hb1:=hb1;have d_hs:=hs;have d_rx:=rx;have d_sx:=sx;revert hc13 hA hbm hb8 X hb1 hs rx sx;refine eY xc16 ?_;intro zc18 hc13 hA hbm hb8 X hb1 hs rx sx;refine ⟨qsc17,?_⟩;refine eT ?_;refine Tq rfl (Cc [_,_,_,_] Ac rfl rfl rfl (fun wz hz=>(dV d_hc13 hz)) rfl rfl) (Tq rfl Mv ?_);refine A1 rfl (Bb (by kernel_rfl) rfl (HX2.out _ _ _ _ ‹_›) (fun _ _ h=>h.ret)) rfl ?_ (fun _ h=>h) A7;rintro _ wc24 ⟨ac20,⟨cc21,⟨⟨⟩,⟨hc22,xc23⟩⟩⟩⟩;revert qsc17 hc13 hA hbm hb8 X hb1 hs rx sx;refine eY xc23 ?_;intro zc25 qsc17 hc13 hA hbm hb8 X hb1 hs rx sx
           refine ⟨qsc17,?_⟩;refine AF rfl (C1 Pi (DA (Hv (sh:=ndShape) (j:=j) (z:=x.inv q) (us:=[_,_,_,_]) Ac rfl rfl rfl rfl rfl rfl ‹_› (by omega) (by omega) (by omega) ⟨_,_,rfl,Nd.sits.wide ‹_› (fun b h=>by omega)⟩) (Gx ?_)));rintro _ wc29 ⟨hc26,⟨fc27,hc28⟩⟩;revert hc22 hc13;refine eZ fc27 ?_;intro zc30 hc22 hc13;clear hA;revert hbm hb8 X hb1 hs rx sx;refine eF fc27 ?_;intro hbm hb8 X hb1 hs rx sx;refine Ah (Ae (Ai (Ad (C1 V7 (C1 Mv (Ah ?_))))));rotate_left;refine eK ?_;refine AC (fun wz=>Ext wc9 wz) 6 (.pure 0 (.pure 1 (.pure 2 (.pure 3 (.pure 4 (.fork 5 .tail .none)))))) mixed (by kernel_rfl) (Al (Aa (Aa (Al (Aa An))))) ?_;intro wc31 xc32 _;have qsc33:(fun wz=>Ext wc9 wz) wc31:=xc32;simp only at qsc33;have d_hc13:=hc13;have d_hA:=hA;have d_hbm:=hbm;have d_hb8:=hb8;have d_hb1:=hb1;have d_hs:=hs;have d_rx:=rx;have d_sx:=sx;revert hc13 hA hbm hb8 X hb1 hs rx sx;refine eY xc32 ?_;intro zc34 hc13 hA hbm hb8 X hb1 hs rx sx;refine ⟨qsc33,?_⟩;refine eT ?_;refine Tq rfl (Cc [_,_,_,_] Ac rfl rfl rfl (fun wz hz=>(dV d_hc13 hz)) rfl rfl) (Tq rfl Mv ?_);refine A1 rfl (Bb (by kernel_rfl) rfl (HX2.out _ _ _ _ ‹_›) (fun _ _ h=>h.ret)) rfl ?_ (fun _ h=>h) A7
           rintro _ wc40 ⟨ac36,⟨cc37,⟨⟨⟩,⟨hc38,xc39⟩⟩⟩⟩;revert qsc33 hc13 hA hbm hb8 X hb1 hs rx sx;refine eY xc39 ?_;intro zc41 qsc33 hc13 hA hbm hb8 X hb1 hs rx sx;refine ⟨qsc33,?_⟩;refine AF rfl (C1 Pi (DA (Hv (sh:=ndShape) (j:=j) (z:=x.inv q) (us:=[_,_,_,_]) Ac rfl rfl rfl rfl rfl rfl ‹_› (by omega) (by omega) (by omega) ⟨_,_,rfl,Nd.sits.wide ‹_› (fun b h=>by omega)⟩) (Gx ?_)));rintro _ wc45 ⟨hc42,⟨fc43,hc44⟩⟩;revert hc38 hc13;refine eZ fc43 ?_;intro zc46 hc38 hc13;clear hA;revert hbm hb8 X hb1 hs rx sx;refine eF fc43 ?_;intro hbm hb8 X hb1 hs rx sx;refine Ah (Ae (Ai (Ad (C1 V7 (C1 Mv (Ah ?_))))));rotate_left
          all_goals exact Aw (j+1) (by (repeat (first|exact AY|refine Ak rfl ?_|refine AW rfl (by go_num) ?_))) ⟨by omega,by rw [<-hnext];exact ArrS.wide ‹_› (by omega),hbm,hb1,hb8,hs,X,by omega⟩ (by omega)
        . have hfx:Dv q k l[j]=l[j]:=by unfold Dv;rw [AE hk]
          rw [hfx] at hnext;clear HX hfx
          generalize l[j]=x at *
          have hk1 : ¬k=57:=fun e=>hk (bC e)
          have hk2 : ¬x.kind=57:=fun e=>hk (bF e)
          have HX2:=bA (Ob x (by omega))
          refine eK ?_;refine eA [_,_,_,_] ?_;intro bd1 wd2 hd5 xd6 pd7 zd8;revert hA hbm hb8 X hb1 hs rx sx;refine eE xd6 ?_;intro hA hbm hb8 X hb1 hs rx sx;refine C1 Pa (eS [_,_,_,_] hd5 ?_);intro wd9 hd13 fd11 zd12;revert hA hbm hb8 X hb1 hs rx sx;refine eF fd11 ?_;intro hA hbm hb8 X hb1 hs rx sx;refine eK ?_;refine AC (fun wz=>Ext wd9 wz) 5 (.pure 0 (.pure 1 (.pure 2 (.pure 3 (.fork 4 .tail .none))))) mixed (by kernel_rfl) (Al (Aa (Aa (Al (Aa An))))) ?_;intro wd14 xd15 _;have qsd16:(fun wz=>Ext wd9 wz) wd14:=xd15;simp only at qsd16;have d_hd13:=hd13;have d_hA:=hA;have d_hbm:=hbm;have d_hb8:=hb8;have d_hb1:=hb1;have d_hs:=hs;have d_rx:=rx;have d_sx:=sx;revert hd13 hA hbm hb8 X hb1 hs rx sx;refine eY xd15 ?_;intro zd17 hd13 hA hbm hb8 X hb1 hs rx sx;refine ⟨qsd16,?_⟩;refine eT ?_;refine Tq rfl (Cc [_,_,_,_] Ac rfl rfl rfl (fun wz hz=>(dV d_hd13 hz)) rfl rfl) ?_;refine A1 rfl (Bb (by kernel_rfl) rfl (HX2.out _ _ _ _ ‹_›) (fun _ _ h=>h.ret)) rfl ?_ (fun _ h=>h) A7;rintro _ wd23 ⟨ad19,⟨cd20,⟨⟨⟩,⟨hd21,xd22⟩⟩⟩⟩;revert qsd16 hd13 hA hbm hb8 X hb1 hs rx sx;refine eY xd22 ?_;intro zd24 qsd16 hd13 hA hbm hb8 X hb1 hs rx sx;refine ⟨qsd16,?_⟩;refine AF rfl (C1 Pi (DA (Hv (sh:=ndShape) (j:=j) (z:=x) (us:=[_,_,_,_]) Ac rfl rfl rfl rfl rfl rfl ‹_› (by omega) (by omega) (by omega) ⟨_,_,rfl,Nd.sits.wide ‹_› (fun b h=>by omega)⟩) (Gx ?_)))
          rintro _ wd28 ⟨hd25,⟨fd26,hd27⟩⟩;revert hd21 hd13;refine eZ fd26 ?_;intro zd29 hd21 hd13;clear hA;revert hbm hb8 X hb1 hs rx sx;refine eF fd26 ?_;intro hbm hb8 X hb1 hs rx sx;refine Ah (Ae (Ai (Ad (C1 V7 (C1 Mv (Ah ?_))))))
          all_goals exact Aw (j+1) sB ⟨by omega,by rw [<-hnext];exact ArrS.wide ‹_› (by omega),hbm,hb1,hb8,hs,X,by omega⟩ (by omega)
      . obtain rfl:j=l.length:=by omega
        rw [Q5] at hA
        refine cS (C1 V3 (cT (Aj (C9 (CB (AG (AG (A8 ?_))))))))
        exact BL () sB ⟨hA,hbm,hb1,hb8,X,hz⟩
    . clear hA hbm hb1 hb8 hs X hz e0 HC;rintro _ w3 ⟨hA,hbm,hb1,hb8,X,hz⟩
      have hxl:(l.map (Dv q k)).length=l.length:=by simp
      by_cases k57:k=57
      . subst k57
        have ht:(Nd.mk 57 n s l).inv q = .mk 57 n s (Co q l).reverse:=by
         conv=>lhs;unfold Nd.inv
         rw [AU rfl]
        rw [ht,Q1]
        generalize l.map (Dv q 57)=xs at *
        rw [<-hxl] at hbm
        refine eK ?_;refine C1 (Cv rfl rfl (bT _ (by omega))) ?_;refine eK ?_;refine cC rfl (To (b1+4) _ _ _ _ _ ‹_› (bC (by omega)) (by omega)) ?_;rintro _ wf3 ⟨⟨⟩,⟨hf1,ff2⟩⟩;revert hb8 X hb1 hbm;refine eZ ff2 ?_;intro zf4 hb8 X hb1 hbm;clear hA ff2;refine eK ?_;refine eS [_,_,_,_] hb8 ?_;intro wf5 hf9 ff7 zf8;revert hf1 X hb1 hbm;refine eF ff7 ?_;intro hf1 X hb1 hbm;refine eK ?_;refine E5 rfl Ac rfl rfl rfl hf9 rfl ?_
        exact D4 (by simp) (hf1.wide (by omega)) (by omega) (by omega) X
      rw [Pv q k57]
      by_cases k5:k=52\/k=53\/k=54
      . rw [AU k5];have hne:=v2 k5
        generalize l.map (Dv q k)=xs at *
        have hpos:0<xs.length:=by rw [hxl];exact List.length_pos_iff.2 hne
        obtain ⟨x,hx⟩ : ∃x,xs[0]? = some x:=⟨_,aY hpos⟩;obtain ⟨y,hy⟩ : ∃y,xs[xs.length-1]? = some y:=⟨_,aY (by omega)⟩;obtain ⟨_,r1,xa,xc,rfl,sx⟩:=hA.row hx;obtain ⟨_,r2,ya,yc,rfl,sy⟩:=hA.row hy
        have em:((xs.length:Int)-1).toNat=xs.length-1:=by omega
        have hsw:Gr xs=(xs.set 0 y).set ((xs.length:Int)-1).toNat x:=by
         unfold Gr
         rw [em,dC,dC,hx,hy]
         rfl
        rw [hsw]
        have hsl:((xs.set 0 y).set ((xs.length:Int)-1).toNat x).length=xs.length:=by simp
        replace r1:Row w3 ⟨g,0+0*4,none⟩ (x.cells xa xc):=r1
        replace r2:Row w3 ⟨g,0+((xs.length:Int)-1).toNat*4,none⟩ (y.cells ya yc):=by rw [em];exact r2
        rw [<-hxl] at hbm
        clear hx hy hsw
        rcases k5 with rfl|rfl|rfl
        . focus
           refine eK ?_;refine C1 (Cv rfl rfl (bT _ (by omega))) ?_;refine eK ?_;refine Ji (fun wz=>Ext w3 wz) (fun wz=>Fr (fun x=>x=g) w3 wz) [2,3,4,15,16,17] [2,3,4] 15 16 (.free 2 (.free 3 (.free 4 (.pure 0 (.pure 1 (.pure 5 (.pure 6 (.pure 7 (.pure 8 (.pure 9 (.pure 10 (.pure 11 (.pure 12 (.pure 13 (.pure 14 (.put 15 (.tail 16))))))))))))))))) (fun _ h=>eJ h) mixed (by kernel_rfl) (Al (Aa An)) ?_;intro wg1 xg2 _;have qsg3:(fun wz=>Ext w3 wz) wg1:=xg2;simp only at qsg3;have qtg4:(fun wz=>Fr (fun x=>x=g) w3 wz) wg1:=eJ xg2;simp only at qtg4;have d_hb8:=hb8;have d_hA:=hA;have d_sx:=sx;have d_sy:=sy;have d_r1:=r1;have d_r2:=r2;have d_hb1:=hb1;have d_hbm:=hbm;revert hb8 X hA sx sy r1 r2 hb1 hbm;refine eY xg2 ?_;intro zg5 hb8 X hA sx sy r1 r2 hb1 hbm;refine DO ‹_› rfl (AS Ac rfl rfl rfl) rfl (DO ‹_› rfl (Ax Ac rfl rfl rfl (fun wz hz=>dP (Blk.fr d_hbm hz (by omega)) rfl)) rfl (DO ‹_› rfl (BM rfl) rfl (AQ ‹_› rfl (AS Ac rfl rfl rfl) rfl (AQ ‹_› rfl (Ax Ac rfl rfl rfl (fun wz hz=>dP (dV d_hbm hz) rfl)) rfl (AQ ‹_› rfl (AS Ac rfl rfl rfl) rfl (AQ ‹_› rfl (Ax Ac rfl rfl rfl (fun wz hz=>dP (dV d_hbm hz) rfl)) rfl (AQ ‹_› rfl (BM rfl) rfl (AQ ‹_› rfl (Ay Ac rfl rfl rfl rfl (by omega) (by omega)) rfl (AQ ‹_› rfl (A6 Ac rfl rfl rfl (fun wz hz=>(dZ d_r2 hz)) rfl) rfl (AQ ‹_› rfl (AS Ac rfl rfl rfl) rfl (AQ ‹_› rfl (Ax Ac rfl rfl rfl (fun wz hz=>dP (dV d_hbm hz) rfl)) rfl ?_)))))))))))
           refine AQ ‹_› rfl (Ay Ac rfl rfl rfl rfl (by omega) (by omega)) rfl (AQ ‹_› rfl (Br [_,_,_,_] Ac rfl rfl rfl (fun wz hz=>(dZ d_r1 hz)) rfl rfl) rfl (AQ ‹_› rfl (Ay Ac rfl rfl rfl rfl (by omega) (by omega)) rfl (Jk rfl (CZ (sh:=ndShape) (j:=0) (z:=y) (us:=[_,_,_,_]) Ac rfl rfl rfl rfl rfl rfl ‹_› (by omega) (bC (by omega)) ⟨_,_,rfl,by assumption⟩) (Gx ?_))));rintro _ wg9 ⟨hg6,⟨fg7,hg8⟩⟩;revert qtg4 hb8 X;refine eZ fg7 ?_;intro zg10 qtg4 hb8 X;clear hA;revert sx sy;refine eF fg7 ?_;intro sx sy;revert hb1 hbm;refine eF fg7 ?_;intro hb1 hbm;refine ⟨by assumption,?_⟩;refine Jj rfl (C1 Pi (DA (CZ (sh:=ndShape) (j:=((xs.length:Int)-1).toNat) (z:=x) (us:=[_,_,_,_]) Ac rfl rfl rfl rfl rfl rfl ‹_› (by rw [List.length_set];omega) (bC (by omega)) ⟨_,_,rfl,by assumption⟩) (Gx ?_)));rintro _ wg14 ⟨hg11,⟨fg12,hg13⟩⟩;have zg15:=fg12.size;revert hb8 X sx sy hb1 hbm;refine eF fg12 ?_;intro hb8 X sx sy hb1 hbm;refine eK ?_;refine eS [_,_,_,_] hb8 ?_;intro wg16 hg20 fg18 zg19;revert hg11 X sx sy hb1 hbm;refine eF fg18 ?_;intro hg11 X sx sy hb1 hbm;refine eK ?_;refine E5 rfl Ac rfl rfl rfl hg20 rfl ?_
           rotate_left
          exact D4 hsl (ArrS.wide ‹_› (by omega)) (by omega) (by omega) X
        . focus
           refine eK ?_;refine C1 (Cv rfl rfl (bT _ (by omega))) ?_;refine eK ?_;refine Ji (fun wz=>Ext w3 wz) (fun wz=>Fr (fun x=>x=g) w3 wz) [2,3,4,15,16,17] [2,3,4] 15 16 (.free 2 (.free 3 (.free 4 (.pure 0 (.pure 1 (.pure 5 (.pure 6 (.pure 7 (.pure 8 (.pure 9 (.pure 10 (.pure 11 (.pure 12 (.pure 13 (.pure 14 (.put 15 (.tail 16))))))))))))))))) (fun _ h=>eJ h) mixed (by kernel_rfl) (Al (Aa An)) ?_;intro wh1 xh2 _;have qsh3:(fun wz=>Ext w3 wz) wh1:=xh2;simp only at qsh3;have qth4:(fun wz=>Fr (fun x=>x=g) w3 wz) wh1:=eJ xh2;simp only at qth4;have d_hb8:=hb8;have d_hA:=hA;have d_sx:=sx;have d_sy:=sy;have d_r1:=r1;have d_r2:=r2;have d_hb1:=hb1;have d_hbm:=hbm;revert hb8 X hA sx sy r1 r2 hb1 hbm;refine eY xh2 ?_;intro zh5 hb8 X hA sx sy r1 r2 hb1 hbm;refine DO ‹_› rfl (AS Ac rfl rfl rfl) rfl (DO ‹_› rfl (Ax Ac rfl rfl rfl (fun wz hz=>dP (Blk.fr d_hbm hz (by omega)) rfl)) rfl (DO ‹_› rfl (BM rfl) rfl (AQ ‹_› rfl (AS Ac rfl rfl rfl) rfl (AQ ‹_› rfl (Ax Ac rfl rfl rfl (fun wz hz=>dP (dV d_hbm hz) rfl)) rfl (AQ ‹_› rfl (AS Ac rfl rfl rfl) rfl (AQ ‹_› rfl (Ax Ac rfl rfl rfl (fun wz hz=>dP (dV d_hbm hz) rfl)) rfl (AQ ‹_› rfl (BM rfl) rfl (AQ ‹_› rfl (Ay Ac rfl rfl rfl rfl (by omega) (by omega)) rfl (AQ ‹_› rfl (A6 Ac rfl rfl rfl (fun wz hz=>(dZ d_r2 hz)) rfl) rfl (AQ ‹_› rfl (AS Ac rfl rfl rfl) rfl (AQ ‹_› rfl (Ax Ac rfl rfl rfl (fun wz hz=>dP (dV d_hbm hz) rfl)) rfl ?_)))))))))))
           refine AQ ‹_› rfl (Ay Ac rfl rfl rfl rfl (by omega) (by omega)) rfl (AQ ‹_› rfl (Br [_,_,_,_] Ac rfl rfl rfl (fun wz hz=>(dZ d_r1 hz)) rfl rfl) rfl (AQ ‹_› rfl (Ay Ac rfl rfl rfl rfl (by omega) (by omega)) rfl (Jk rfl (CZ (sh:=ndShape) (j:=0) (z:=y) (us:=[_,_,_,_]) Ac rfl rfl rfl rfl rfl rfl ‹_› (by omega) (bC (by omega)) ⟨_,_,rfl,by assumption⟩) (Gx ?_))));rintro _ wh9 ⟨hh6,⟨fh7,hh8⟩⟩;revert qth4 hb8 X;refine eZ fh7 ?_;intro zh10 qth4 hb8 X;clear hA;revert sx sy;refine eF fh7 ?_;intro sx sy;revert hb1 hbm;refine eF fh7 ?_;intro hb1 hbm;refine ⟨by assumption,?_⟩;refine Jj rfl (C1 Pi (DA (CZ (sh:=ndShape) (j:=((xs.length:Int)-1).toNat) (z:=x) (us:=[_,_,_,_]) Ac rfl rfl rfl rfl rfl rfl ‹_› (by rw [List.length_set];omega) (bC (by omega)) ⟨_,_,rfl,by assumption⟩) (Gx ?_)));rintro _ wh14 ⟨hh11,⟨fh12,hh13⟩⟩;have zh15:=fh12.size;revert hb8 X sx sy hb1 hbm;refine eF fh12 ?_;intro hb8 X sx sy hb1 hbm;refine eK ?_;refine eS [_,_,_,_] hb8 ?_;intro wh16 hh20 fh18 zh19;revert hh11 X sx sy hb1 hbm;refine eF fh18 ?_;intro hh11 X sx sy hb1 hbm;refine eK ?_;refine E5 rfl Ac rfl rfl rfl hh20 rfl ?_
           rotate_left
          exact D4 hsl (ArrS.wide ‹_› (by omega)) (by omega) (by omega) X
        . focus
           refine eK ?_;refine C1 (Cv rfl rfl (bT _ (by omega))) ?_;refine eK ?_;refine Ji (fun wz=>Ext w3 wz) (fun wz=>Fr (fun x=>x=g) w3 wz) [2,3,4,15,16,17] [2,3,4] 15 16 (.free 2 (.free 3 (.free 4 (.pure 0 (.pure 1 (.pure 5 (.pure 6 (.pure 7 (.pure 8 (.pure 9 (.pure 10 (.pure 11 (.pure 12 (.pure 13 (.pure 14 (.put 15 (.tail 16))))))))))))))))) (fun _ h=>eJ h) mixed (by kernel_rfl) (Al (Aa An)) ?_;intro wi1 xi2 _;have qsi3:(fun wz=>Ext w3 wz) wi1:=xi2;simp only at qsi3;have qti4:(fun wz=>Fr (fun x=>x=g) w3 wz) wi1:=eJ xi2;simp only at qti4;have d_hb8:=hb8;have d_hA:=hA;have d_sx:=sx;have d_sy:=sy;have d_r1:=r1;have d_r2:=r2;have d_hb1:=hb1;have d_hbm:=hbm;revert hb8 X hA sx sy r1 r2 hb1 hbm;refine eY xi2 ?_;intro zi5 hb8 X hA sx sy r1 r2 hb1 hbm;refine DO ‹_› rfl (AS Ac rfl rfl rfl) rfl (DO ‹_› rfl (Ax Ac rfl rfl rfl (fun wz hz=>dP (Blk.fr d_hbm hz (by omega)) rfl)) rfl (DO ‹_› rfl (BM rfl) rfl (AQ ‹_› rfl (AS Ac rfl rfl rfl) rfl (AQ ‹_› rfl (Ax Ac rfl rfl rfl (fun wz hz=>dP (dV d_hbm hz) rfl)) rfl (AQ ‹_› rfl (AS Ac rfl rfl rfl) rfl (AQ ‹_› rfl (Ax Ac rfl rfl rfl (fun wz hz=>dP (dV d_hbm hz) rfl)) rfl (AQ ‹_› rfl (BM rfl) rfl (AQ ‹_› rfl (Ay Ac rfl rfl rfl rfl (by omega) (by omega)) rfl (AQ ‹_› rfl (A6 Ac rfl rfl rfl (fun wz hz=>(dZ d_r2 hz)) rfl) rfl (AQ ‹_› rfl (AS Ac rfl rfl rfl) rfl (AQ ‹_› rfl (Ax Ac rfl rfl rfl (fun wz hz=>dP (dV d_hbm hz) rfl)) rfl ?_)))))))))))
           refine AQ ‹_› rfl (Ay Ac rfl rfl rfl rfl (by omega) (by omega)) rfl (AQ ‹_› rfl (Br [_,_,_,_] Ac rfl rfl rfl (fun wz hz=>(dZ d_r1 hz)) rfl rfl) rfl (AQ ‹_› rfl (Ay Ac rfl rfl rfl rfl (by omega) (by omega)) rfl (Jk rfl (CZ (sh:=ndShape) (j:=0) (z:=y) (us:=[_,_,_,_]) Ac rfl rfl rfl rfl rfl rfl ‹_› (by omega) (bC (by omega)) ⟨_,_,rfl,by assumption⟩) (Gx ?_))));rintro _ wi9 ⟨hi6,⟨fi7,hi8⟩⟩;revert qti4 hb8 X;refine eZ fi7 ?_;intro zi10 qti4 hb8 X;clear hA;revert sx sy;refine eF fi7 ?_;intro sx sy;revert hb1 hbm;refine eF fi7 ?_;intro hb1 hbm;refine ⟨by assumption,?_⟩;refine Jj rfl (C1 Pi (DA (CZ (sh:=ndShape) (j:=((xs.length:Int)-1).toNat) (z:=x) (us:=[_,_,_,_]) Ac rfl rfl rfl rfl rfl rfl ‹_› (by rw [List.length_set];omega) (bC (by omega)) ⟨_,_,rfl,by assumption⟩) (Gx ?_)));rintro _ wi14 ⟨hi11,⟨fi12,hi13⟩⟩;have zi15:=fi12.size;revert hb8 X sx sy hb1 hbm;refine eF fi12 ?_;intro hb8 X sx sy hb1 hbm;refine eK ?_;refine eS [_,_,_,_] hb8 ?_;intro wi16 hi20 fi18 zi19;revert hi11 X sx sy hb1 hbm;refine eF fi18 ?_;intro hi11 X sx sy hb1 hbm;refine eK ?_;refine E5 rfl Ac rfl rfl rfl hi20 rfl ?_
           rotate_left
          exact D4 hsl (ArrS.wide ‹_› (by omega)) (by omega) (by omega) X
      . rw [AE k5]
        generalize l.map (Dv q k)=xs at *
        have k52 : ¬k=52:=fun e=>k5 (bC e)
        have k53 : ¬k=53:=fun e=>k5 (bF (bC e))
        have k54 : ¬k=54:=fun e=>k5 (bF (bF e))
        by_cases k6:k=50\/k=51
        . rw [AU k6]
          cases q
          . simp only [dH,if_false]
            rcases k6 with rfl|rfl
            . refine eK ?_;refine C1 (Cv rfl rfl (bT _ (by omega))) ?_;refine eK ?_;refine cC rfl (Hw _ _ (by omega) (by omega)) ?_;rintro _ wj1 ⟨⟨⟩,rfl⟩;refine C1 Pg (eV [_] [_,_,_,_] hbm ?_);intro wj2 hj6 fj4 zj5;clear hbm;revert hb8 X hA hb1;refine eF fj4 ?_;intro hb8 X hA hb1;refine eK ?_;refine eS [_,_,_,_] hb8 ?_;intro wj7 hj11 fj9 zj10;revert hj6 X hA hb1;refine eF fj9 ?_;intro hj6 X hA hb1;refine eK ?_;refine E5 rfl Ac rfl rfl rfl hj11 rfl ?_
              exact D4 hxl (ArrS.wide ‹_› (by omega)) (by omega) (by omega) X
            . refine eK ?_;refine C1 (Cv rfl rfl (bT _ (by omega))) ?_;refine eK ?_;refine cC rfl (Hw _ _ (by omega) (by omega)) ?_;rintro _ wk1 ⟨⟨⟩,rfl⟩;refine C1 Pg (eV [_] [_,_,_,_] hbm ?_);intro wk2 hk6 fk4 zk5;clear hbm;revert hb8 X hA hb1;refine eF fk4 ?_;intro hb8 X hA hb1;refine eK ?_;refine eS [_,_,_,_] hb8 ?_;intro wk7 hk11 fk9 zk10;revert hk6 X hA hb1;refine eF fk9 ?_;intro hk6 X hA hb1;refine eK ?_;refine E5 rfl Ac rfl rfl rfl hk11 rfl ?_
              exact D4 hxl (ArrS.wide ‹_› (by omega)) (by omega) (by omega) X
          . simp only [if_true]
            rcases k6 with rfl|rfl
            . refine eK ?_;refine C1 (Cv rfl rfl (bT _ (by omega))) ?_;refine eK ?_;refine eS [_,_,_,_] hb8 ?_;intro wl1 hl5 fl3 zl4;revert X hA hbm hb1;refine eF fl3 ?_;intro X hA hbm hb1;refine eK ?_;refine E5 rfl Ac rfl rfl rfl hl5 rfl ?_
              exact D4 hxl (ArrS.wide ‹_› (by omega)) (by omega) (by omega) X
            . refine eK ?_;refine C1 (Cv rfl rfl (bT _ (by omega))) ?_;refine eK ?_;refine eS [_,_,_,_] hb8 ?_;intro wm1 hm5 fm3 zm4;revert X hA hbm hb1;refine eF fm3 ?_;intro X hA hbm hb1;refine eK ?_;refine E5 rfl Ac rfl rfl rfl hm5 rfl ?_
              exact D4 hxl (ArrS.wide ‹_› (by omega)) (by omega) (by omega) X
        . rw [AE k6]
          have k50 : ¬k=50:=fun e=>k6 (bC e)
          have k51 : ¬k=51:=fun e=>k6 (bF e)
          refine eK ?_;refine C1 (Cv rfl rfl (bT _ (by omega))) ?_;refine eK ?_;refine cC rfl (Hw _ _ (by omega) (by omega)) ?_;rintro _ wn1 ⟨⟨⟩,rfl⟩;refine C1 Pg (eV [_] [_,_,_,_] hbm ?_);intro wn2 hn6 fn4 zn5;clear hbm;revert hb1 hb8 X hA;refine eF fn4 ?_;intro hb1 hb8 X hA;refine eK ?_;refine eS [_,_,_,_] hb8 ?_;intro wn7 hn11 fn9 zn10;revert hn6 hb1 X hA;refine eF fn9 ?_;intro hn6 hb1 X hA;refine eK ?_;refine E5 rfl Ac rfl rfl rfl hn11 rfl ?_
          exact D4 hxl (ArrS.wide ‹_› (by omega)) (by omega) (by omega) X
end Bk
