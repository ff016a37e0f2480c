/- Texts that the proofs of ExerciseCut need. No condition. (Part 2 of 8.) -/
import Derived.Test.YtjkgmpljepnmiaaGreatDoorPEcCut1
set_option linter.unusedSimpArgs false
set_option linter.unusedVariables false
set_option linter.defProp false
set_option maxRecDepth 100000
set_option maxHeartbeats 4000000
open Go.Proofs.Tryz
open List renaming length_append->j9,length_cons->kf,getElem?_eq_getElem->kg,length_nil->ki,getElem_cons_succ->km,getElem_mem->kq,set_cons_zero->kx,take_succ_eq_append_getElem->ky,append_assoc->kA,cons_append->kD,take_length->kE,mem_cons->kF,not_mem_nil->kI,getElem?_eq_none->kO,length_take->kU,replicate->kV,take_append_drop->lf,flatten_cons->lg,drop_eq_getElem_cons->lh,nil_append->lk,append_nil->ll,take_succ_cons->lo,isEmpty_iff->lq,map_cons->lr,mem_cons_of_mem->lx,all_eq_true->lG,getElem?_append_right->lH,getElem?_append_left->lI,mem_singleton->lM
open Bool renaming and_eq_true->ke,false_eq_true->lj
open Go.Lib renaming hid->kh,indexByte->li
open Or renaming inl->kj,inr->kp
open Go.Result renaming andThen->kn,andThen_ok->lw
open Nat renaming le_refl->kv,zero_le->kC,blt->kH,lt_or_ge->kK,le_trans->kW,le_of_ble_eq_true->kY,eq_of_beq_eq_true->ln,ble->lD,beq->lE
open Option.some renaming injEq->kz,inj->kG
open Go.Sem renaming run_bind->kB,run_pure->kJ
open Go renaming Calls->kL
open Go.IntWalk renaming i64_in->kN
open Go.Region renaming ready->kP,binds->lF
open List.cons renaming injEq->kQ
open Go.Value.slice renaming injEq->kT
open Prod.mk renaming injEq->kX
open Go.DataW renaming trod->kZ
open Array renaming getElem?_eq_none->ld
open Go.Value renaming slice->lm,ownBlock->lp
open Go.Addr renaming add->lA
open Go.Oper renaming wp->lJ
open Bk.Ext renaming refl->lN,alloc->lO,trans->lQ,drew->mh
open Bk.Nd renaming size->lR,kind->lZ,kids->l9,name->md,sits->me,num->mj,val->ml,sits_mono->mw
open Bk.Blk renaming cell->lX,ext->l7
open Bk.Row renaming ext->mf
open Bk.Fr renaming of_ext->mi
open Bk.Value renaming one->mm
namespace Bk
open Go Go.RowKit Go.Proofs
attribute [local irreducible] Go.Calls
def O5 (x:Int):Int:=IntKind.i64.wrap x
def RA (op:BinOp) (x y:Int):Int:=match op with
 | .and=>O5 (BitVec.ofInt 64 x &&& BitVec.ofInt 64 y).toNat
 | .or=>O5 (BitVec.ofInt 64 x ||| BitVec.ofInt 64 y).toNat
 | _=>O5 (BitVec.ofInt 64 x ^^^ BitVec.ofInt 64 y).toNat
section
variable {P:Program} {n:Nat} {l:Sl} {S:wD->Prop} {ty:TypeId} {x y:Operand} {t t':Nat} {a b:Int}
def Z4 (h:ev l x=some (.int .i64 a)) (E:ev l y=some (.int .i64 b)):BA P n l S (.binOp .and t x y t') ty (.int .i64 (RA .and a b)):=by
 unfold BA;intro d w F pos after g f _;simp only [execOp,f.ev h,f.ev E,kB,BC,kn,binOp,Op.intBits];rfl
def fF (h:ev l x=some (.int .i64 a)) (E:ev l y=some (.int .i64 b)):BA P n l S (.binOp .or t x y t') ty (.int .i64 (RA .or a b)):=by
 unfold BA;intro d w F pos after g f _;simp only [execOp,f.ev h,f.ev E,kB,BC,kn,binOp,Op.intBits];rfl
def Z5 (h:ev l x=some (.int .i64 a)) (E:ev l y=some (.int .i64 b)):BA P n l S (.binOp .xor t x y t') ty (.int .i64 (RA .xor a b)):=by
 unfold BA;intro d w F pos after g f _;simp only [execOp,f.ev h,f.ev E,kB,BC,kn,binOp,Op.intBits];rfl
def XV (f:ev l x=some (.int .i64 a)) (h:ev l y=some (.int .i64 b)):BA P n l S (.binOp .add t x y t') ty (.int .i64 (O5 (a+b))):=Ql f h rfl
def XW (f:ev l x=some (.int .i64 a)) (h:ev l y=some (.int .i64 b)):BA P n l S (.binOp .sub t x y t') ty (.int .i64 (O5 (a-b))):=CM f h rfl
def XX (f:ev l x=some (.int .i64 a)) (h:ev l y=some (.int .i64 b)):BA P n l S (.binOp .mul t x y t') ty (.int .i64 (O5 (a*b))):=Eo f h rfl
def XY (f:ev l x=some (.int .i64 a)) (h:ev l y=some (.int .i64 b)) (E:b≠0):BA P n l S (.binOp .quo t x y t') ty (.int .i64 (O5 (a.tdiv b))):=Qv f h E rfl
def XZ (f:ev l x=some (.int .i64 a)) (h:ev l y=some (.int .i64 b)) (E:b≠0):BA P n l S (.binOp .rem t x y t') ty (.int .i64 (a.tmod b)):=Qw f h E rfl
def RB (f:ev l x=some (.int .i64 a)):BA P n l S (.unOp .neg t x) ty (.int .i64 (O5 (0-a))):=by
 unfold BA;intro d w h pos after g E _;simp [execOp,E.ev f,Op.unary,Op.intArith,O5]
end
def XL (b:Bool):Int:=if b then 1 else 0
def X0 (k x y:Int):Int×Int:=if y=0 then (0,11) else if k=11 then (O5 (x.tdiv y),0) else (x.tmod y,0)
def Ik (k x y:Int):Int×Int:=
 if k=8 then (O5 (x+y),0) else if k=9 then (O5 (x-y),0) else if k=10 then (O5 (x*y),0) else if k=11\/k=12 then X0 k x y
 else if k=13 then (RA .and x y,0) else if k=14 then (RA .or x y,0) else if k=15 then (RA .xor x y,0)
 else if k=16 then (XL (decide (x=y)),0) else if k=17 then (XL (decide (x≠y)),0) else if k=18 then (XL (decide (x<y)),0)
 else if k=19 then (XL (decide (x<=y)),0) else if k=20 then (XL (decide (y<x)),0) else if k=21 then (XL (decide (y<=x)),0)
 else if k=22 then (XL (decide (x≠0/\y≠0)),0) else if k=23 then (XL (decide (x≠0\/y≠0)),0) else (0,7)
def Il (k x:Int):Int×Int:=if k=6 then (O5 (0-x),0) else if k=7 then (XL (decide (x=0)),0) else (0,7)
def DI (b:Bool) (w:wD):Calls prog 282 #[.bool b] w fun e w'=>e = .returned (.int .i64 (XL b))/\w=w':=by
 cases b
 . refine Ae func282 ntmps282 rfl rfl ?_;refine eK ?_;refine xR ?_;exact ⟨rfl,rfl⟩
 . refine Ae func282 ntmps282 rfl rfl ?_;refine eK ?_;refine xR ?_;exact ⟨rfl,rfl⟩
def RC (k x y:Int) (w:wD):Calls prog 283 #[.int .u8 k,.int .i64 x,.int .i64 y] w fun e w'=>e = .returned (.tuple #[.int .i64 (X0 k x y).1,.int .i64 (X0 k x y).2])/\w=w':=by
 refine Ae func283 ntmps283 rfl rfl ?_
 focus
  refine eK ?_;refine AF rfl (fun f=>?_) (fun f=>?_);refine eK ?_;refine xT ?_;rotate_left;refine eK ?_;refine AF rfl (fun c2=>?_) (fun c2=>?_);refine eK ?_;refine C1 (XY rfl rfl Af) ?_;refine eK ?_;refine xT ?_;rotate_left;refine eK ?_;refine C1 (XZ rfl rfl Af) ?_;refine eK ?_;refine xT ?_;rotate_left
 all_goals (refine ⟨?_,rfl⟩;unfold X0;simp [*])
def U2 (k x:Int) (w:wD):Calls prog 279 #[.int .u8 k,.int .i64 x] w fun e w'=>e = .returned (.tuple #[.int .i64 (Il k x).1,.int .i64 (Il k x).2])/\w=w':=by
 refine Ae func279 ntmps279 rfl rfl ?_
 focus
  refine eK ?_;refine AF rfl (fun f=>?_) (fun f=>?_);refine eK ?_;refine C1 (RB rfl) ?_;refine eK ?_;refine xT ?_;rotate_left;refine eK ?_;refine AF rfl (fun c2=>?_) (fun c2=>?_);refine eK ?_;refine cC rfl (DI _ _) ?_;rintro _ h ⟨⟨⟩,rfl⟩;refine eK ?_;refine xT ?_;rotate_left;refine eK ?_;refine xT ?_;rotate_left
 all_goals (refine ⟨?_,rfl⟩;unfold Il;simp [*])
set_option maxHeartbeats 8000000 in
def Z6 (k x y:Int) (w:wD):Calls prog 280 #[.int .u8 k,.int .i64 x,.int .i64 y] w fun e w'=>e = .returned (.tuple #[.int .i64 (Ik k x y).1,.int .i64 (Ik k x y).2])/\w=w':=by
 refine Ae func280 ntmps280 rfl rfl ?_
 focus
  refine eK ?_;refine AF rfl (fun X=>?_) (fun X=>?_);refine eK ?_;refine C1 (XV rfl rfl) ?_;refine eK ?_;refine xT ?_;rotate_left;refine eK ?_;refine AF rfl (fun c2=>?_) (fun c2=>?_);refine eK ?_;refine C1 (XW rfl rfl) ?_;refine eK ?_;refine xT ?_;rotate_left;refine eK ?_;refine AF rfl (fun c3=>?_) (fun c3=>?_);refine eK ?_;refine C1 (XX rfl rfl) ?_;refine eK ?_;refine xT ?_;rotate_left;refine eK ?_;refine AF rfl (fun c4=>?_) (fun c4=>?_);refine eK ?_;refine cC rfl (RC _ _ _ _) ?_;rintro _ w5 ⟨⟨⟩,rfl⟩;refine eK ?_;refine xT ?_;rotate_left;refine eK ?_;refine AF rfl (fun Y=>?_) (fun Y=>?_);refine eK ?_;refine cC rfl (RC _ _ _ _) ?_;rintro _ w7 ⟨⟨⟩,rfl⟩;refine eK ?_;refine xT ?_;rotate_left;refine eK ?_;refine AF rfl (fun Z=>?_) (fun Z=>?_);refine eK ?_;refine C1 (Z4 rfl rfl) ?_;refine eK ?_;refine xT ?_;rotate_left;refine eK ?_;refine AF rfl (fun c9=>?_) (fun c9=>?_);refine eK ?_;refine C1 (fF rfl rfl) ?_;refine eK ?_;refine xT ?_;rotate_left;refine eK ?_;refine AF rfl (fun f=>?_) (fun f=>?_);refine eK ?_;refine C1 (Z5 rfl rfl) ?_;refine eK ?_;refine xT ?_;rotate_left;refine eK ?_;refine AF rfl (fun h=>?_) (fun h=>?_);refine eK ?_;refine cC rfl (DI _ _) ?_;rintro _ aa ⟨⟨⟩,rfl⟩;refine eK ?_;refine xT ?_;rotate_left;refine eK ?_;refine AF rfl (fun E=>?_) (fun E=>?_);refine eK ?_;refine cC rfl (DI _ _) ?_;rintro _ ab ⟨⟨⟩,rfl⟩;refine eK ?_;refine xT ?_;rotate_left;refine eK ?_;refine AF rfl (fun F=>?_) (fun F=>?_);refine eK ?_;refine cC rfl (DI _ _) ?_;rintro _ ac ⟨⟨⟩,rfl⟩;refine eK ?_;refine xT ?_;rotate_left;refine eK ?_;refine AF rfl (fun L=>?_) (fun L=>?_);refine eK ?_;refine cC rfl (DI _ _) ?_;rintro _ ad ⟨⟨⟩,rfl⟩;refine eK ?_;refine xT ?_;rotate_left;refine eK ?_;refine AF rfl (fun M=>?_) (fun M=>?_);refine eK ?_;refine cC rfl (DI _ _) ?_;rintro _ ae ⟨⟨⟩,rfl⟩;refine eK ?_;refine xT ?_;rotate_left;refine eK ?_;refine AF rfl (fun c21=>?_) (fun c21=>?_);refine eK ?_;refine cC rfl (DI _ _) ?_;rintro _ af ⟨⟨⟩,rfl⟩;refine eK ?_;refine xT ?_;rotate_left;refine eK ?_;refine AF rfl (fun N=>?_) (fun N=>?_);refine eK ?_;refine DG rfl rfl rfl (fun O=>?_) (fun O=>?_);refine eK ?_;refine cC rfl (DI _ _) ?_;rintro _ ag ⟨⟨⟩,rfl⟩;refine eK ?_;refine xT ?_;rotate_left;refine eK ?_;refine cC rfl (DI _ _) ?_;rintro _ ah ⟨⟨⟩,rfl⟩;refine eK ?_;refine xT ?_;rotate_left;refine eK ?_;refine AF rfl (fun U=>?_) (fun U=>?_)
  refine eK ?_;refine DG rfl rfl rfl (fun V=>?_) (fun V=>?_);refine eK ?_;refine cC rfl (DI _ _) ?_;rintro _ ai ⟨⟨⟩,rfl⟩;refine eK ?_;refine xT ?_;rotate_left;refine eK ?_;refine cC rfl (DI _ _) ?_;rintro _ aj ⟨⟨⟩,rfl⟩;refine eK ?_;refine xT ?_;rotate_left;refine eK ?_;refine xT ?_;rotate_left
 all_goals (refine ⟨?_,rfl⟩;unfold Ik;simp [*])
structure VD where
 name:lB
 kind:Int
 len:Int
structure PD where
 name:lB
 params:List VD
 body:Nd
structure PG where
 vars:List VD
 procs:List PD
 main:Nd
def GX (l:List VD) (s:lB):Option VD:=l.reverse.find? (fun v=>decide (v.name=s))
def F2 (l:List VD) (s:lB):Int:=if (GX l s).isSome then 22 else 0
def RD (l:List VD) (s:lB) (k:Int):Int:=match GX l s with
 | none=>6
 | some v=>if v.kind=k then 0 else 7
def Gr (ps:List PD) (s:lB):Option Nat:=ps.findIdx? (fun p=>decide (p.name=s))
def X6 (ps:List PD) (s:lB) (m:Nat):Int:=match Gr ps s with
 | none=>6
 | some i=>if m=((ps[i]?.map fun p=>p.params.length).getD 0) then 0 else 7
def DT (ps:List PD) (v:List VD) (k:Int) (s:lB) (m:Nat):Int:=
 if k=2 then RD v s 1 else if k=3 then RD v s 2 else if k=4\/k=5\/k=44\/k=45 then RD v s 3
 else if k=54\/k=55 then F2 v s else if k=50\/k=51 then X6 ps s m else 0
def RE (ps:List PD) (v:List VD) (s:lB) (m i:Nat) (x:lB):Int:=match GX v x with
 | none=>6
 | some d=>match (Gr ps s).bind (ps[·]?) with
  | none=>0
  | some p=>if m≠p.params.length then 0 else match p.params[i]? with
   | none=>0
   | some q=>if d.kind≠q.kind\/d.len≠q.len then 7 else 0
def D6 (k:Int) (s:lB) (i:Nat) (v:List VD):List VD:=
 if k=54/\i=1 then v++[⟨s,1,0⟩] else if k=55/\i=0 then v++[⟨s,3,0⟩] else v
def TA (e:Int):Nat:=if e=0 then 0 else 1
def GY (ps:List PD) (v:List VD) (s:lB) (m:Nat):Nat->List Nd->Nat
 | _,[]=>0
 | i,t::r=>TA (RE ps v s m i t.name)+GY ps v s m (i+1) r
mutual
def Nd.flt (ps:List PD) (v:List VD):Nd->Nat
 | .mk k _ s l=>TA (DT ps v k s l.length)+if k=50\/k=51 then GY ps v s l.length 0 l else Fd ps v k s 0 l
def Fd (ps:List PD) (v:List VD) (k:Int) (s:lB):Nat->List Nd->Nat
 | _,[]=>0
 | i,t::r=>t.flt ps (D6 k s i v)+Fd ps v k s (i+1) r
end
def C0:List VD->List VD->Nat
 | _,[]=>0
 | acc,v::r=>TA (F2 acc v.name)+C0 (acc++[v]) r
def Fe (ps:List PD):Nat->List PD->Nat
 | _,[]=>0
 | i,p::r=>(if (Gr ps p.name).getD i<i then 1 else 0)+C0 [] p.params+p.body.flt ps p.params+Fe ps (i+1) r
def PG.flt (g:PG):Nat:=C0 [] g.vars+Fe g.procs 0 g.procs+g.main.flt g.procs g.vars
def CG (c:UInt8):Bool:=decide (97<=c.toNat)&&decide (c.toNat<=122)
def B5 (c:UInt8):Bool:=decide (48<=c.toNat)&&decide (c.toNat<=57)
def Dn (c:UInt8):Bool:=decide (c.toNat=32)||decide (c.toNat=9)||decide (c.toNat=13)||decide (c.toNat=10)
def FK (c:UInt8):Bool:=CG c||B5 c
def M2 (c:UInt8):Bool:= !decide (c.toNat=10)
def Es (p:UInt8->Bool) (s:lB):Nat:=(s.takeWhile p).length
def keywords:List lB:=[[105,110,116],[97,114,114,97,121],[115,116,97,99,107],[112,114,111,99],[109,97,105,110],[112,117,115,104],[112,111,112],[114,101,97,100],[117,110,114,101,97,100],[119,114,105,116,101],[117,110,119,114,105,116,101],[99,97,108,108],[117,110,99,97,108,108],[105,102],[101,108,115,101],[102,105],[102,114,111,109],[108,111,111,112],[117,110,116,105,108],[108,111,99,97,108],[100,101,108,111,99,97,108],[116,111,112],[115,105,122,101]]
def F8 (s:lB):Bool:=keywords.contains s
def pairs:List lB:=[[58,61],[43,61],[45,61],[94,61],[61,61],[33,61],[60,61],[62,61],[38,38],[124,124]]
def singles:lB:=[43,45,42,47,37,38,124,94,33,61,60,62,40,41,123,125,91,93,59,44]
def FL (s:lB):Nat:=
 if List.isPrefixOf [60,61,62] s then 3 else if pairs.contains (s.take 2) then 2 else if (s.head?.map (singles.contains ·)).getD false then 1 else 0
def Ar:lB->Nat×Nat
 | []=>(3,0)
 | c::r=>if CG c then (1,Es FK (c::r)) else if B5 c then (2,Es B5 (c::r)) else if Dn c then (4,Es Dn (c::r)) else if c=35 then (5,Es M2 (c::r)) else (3,FL (c::r))
def AS (s:lB):Bool:= !s.isEmpty&&decide (s.length<=16)&&((Ar s).1==1)&&((Ar s).2==s.length) && !F8 s
def Bv (k:Int):Int:=
 if k=23 then 1 else if k=22 then 2 else if k=14 then 3 else if k=15 then 4 else if k=13 then 5
 else if 16<=k/\k<=21 then 6 else if k=8\/k=9 then 7 else if 10<=k/\k<=12 then 8 else if k=6\/k=7 then 9 else 0
def symbols:List lB:=[[],[],[],[],[],[],[45],[33],[43],[45],[42],[47],[37],[38],[124],[94],[61,61],[33,61],[60],[60,61],[62],[62,61],[38,38],[124,124],[],[],[],[],[],[],[],[],[],[],[],[],[],[],[],[],[43,61],[45,61],[94,61]]
def Cl (k:Int):lB:=symbols.getD k.toNat []
def CD (k:Int):Bool:=decide (8<=k)&&decide (k<=23)
def named (n:Int) (s:lB):Bool:=n==0&&AS s
def plain (n:Int) (s:lB):Bool:=n==0&&s.isEmpty
def Nd.isExpr:Nd->Bool
 | .mk k n s l=>
  if k=1 then decide (0<=n)&&s.isEmpty&&l.isEmpty
  else if k=2\/k=4\/k=5 then named n s&&l.isEmpty
  else if k=3 then named n s&&match l with|[x]=>x.isExpr|_=>false
  else if k=6\/k=7 then plain n s&&match l with|[x]=>x.isExpr|_=>false
  else if 8<=k/\k<=23 then plain n s&&match l with|[x,y]=>x.isExpr&&y.isExpr|_=>false
  else false
def Nd.isPlace (t:Nd):Bool:=(t.kind==2||t.kind==3)&&t.isExpr
def Nd.isVar (t:Nd):Bool:=t.kind==2&&t.isExpr
mutual
def Nd.isStmt:Nd->Bool
 | .mk k n s l=>
  if k=40\/k=41\/k=42\/k=56 then plain n s&&match l with|[x,y]=>x.isPlace&&y.isExpr|_=>false
  else if k=43 then plain n s&&match l with|[x,y]=>x.isPlace&&y.isPlace|_=>false
  else if k=44\/k=45 then named n s&&match l with|[x]=>x.isPlace|_=>false
  else if 46<=k/\k<=49 then plain n s&&match l with|[x]=>x.isPlace|_=>false
  else if k=50\/k=51 then named n s&&decide (l.length<=8)&&l.all Nd.isVar
  else if k=52\/k=53 then plain n s&&match l with|[x,y,z,u]=>x.isExpr&&y.isBlock&&z.isBlock&&u.isExpr|_=>false
  else if k=54 then named n s&&match l with|[x,y,z]=>x.isExpr&&y.isBlock&&z.isExpr|_=>false
  else if k=55 then named n s&&match l with|[x]=>x.isBlock|_=>false
  else false
def Nd.isBlock:Nd->Bool
 | .mk k n s l=>k==57&&plain n s&&DU l
def DU:List Nd->Bool
 | []=>true
 | t::r=>t.isStmt&&DU r
end
def ER (a k:Int):Bool:=CD a&&decide (Bv a<Bv k)
def Fw (a k:Int):Bool:=CD a&&decide (Bv a<=Bv k)
def wrap (s:lB) (b:Bool):lB:=if b then [40]++s++[41] else s
def Nd.text:Nd->lB
 | .mk k n s l=>
  if k=1 then Lib.itoa n else if k=2 then s
  else if k=3 then match l with|[x]=>s++[91]++x.text++[93]|_=>[]
  else if k=4 then [116,111,112,40]++s++[41] else if k=5 then [115,105,122,101,40]++s++[41]
  else if k=6\/k=7 then match l with|[x]=>Cl k++wrap x.text (CD x.kind)|_=>[]
  else match l with
   | [x,y]=>wrap x.text (ER x.kind k)++[32]++Cl k++[32]++wrap y.text (Fw y.kind k)
   | _=>[]
inductive StmtSh:Nd->Prop where
 | upd {k:Int} {x y:Nd}:(k=40\/k=41\/k=42\/k=56)->x.isPlace=true->y.isExpr=true->StmtSh (.mk k 0 [] [x,y])
 | swap {x y:Nd}:x.isPlace=true->y.isPlace=true->StmtSh (.mk 43 0 [] [x,y])
 | stack {k:Int} {s:lB} {x:Nd}:(k=44\/k=45)->AS s=true->x.isPlace=true->StmtSh (.mk k 0 s [x])
 | tape {k:Int} {x:Nd}:(k=46\/k=47\/k=48\/k=49)->x.isPlace=true->StmtSh (.mk k 0 [] [x])
 | call {k:Int} {s:lB} {l:List Nd}:(k=50\/k=51)->AS s=true->l.length<=8->l.all Nd.isVar=true->StmtSh (.mk k 0 s l)
 | branch {k:Int} {x y z u:Nd}:(k=52\/k=53)->x.isExpr=true->y.isBlock=true->z.isBlock=true->u.isExpr=true->StmtSh (.mk k 0 [] [x,y,z,u])
 | local_ {s:lB} {x y z:Nd}:AS s=true->x.isExpr=true->y.isBlock=true->z.isExpr=true->StmtSh (.mk 54 0 s [x,y,z])
 | lstack {s:lB} {x:Nd}:AS s=true->x.isBlock=true->StmtSh (.mk 55 0 s [x])
def DV {t:Nd} (h:t.isStmt=true):StmtSh t:=by
 obtain ⟨k,n,s,l⟩:=t;unfold Nd.isStmt at h;by_cases F:k=40\/k=41\/k=42\/k=56
 . rw [AH F] at h;simp only [ke,plain,beq_iff_eq,lq] at h;obtain ⟨⟨rfl,rfl⟩,f⟩:=h;split at f
   . simp only [ke] at f;exact .upd F f.1 f.2
   . cases f
 rw [At F] at h;by_cases c2:k=43
 . rw [AH c2] at h;simp only [ke,plain,beq_iff_eq,lq] at h;obtain ⟨⟨rfl,rfl⟩,f⟩:=h;subst c2;split at f
   . simp only [ke] at f;exact .swap f.1 f.2
   . cases f
 rw [At c2] at h;by_cases c3:k=44\/k=45
 . rw [AH c3] at h;simp only [ke,named,beq_iff_eq] at h;obtain ⟨⟨rfl,E⟩,f⟩:=h;split at f
   . exact .stack c3 E f
   . cases f
 rw [At c3] at h;by_cases c4:46<=k/\k<=49
 . rw [AH c4] at h;simp only [ke,plain,beq_iff_eq,lq] at h;obtain ⟨⟨rfl,rfl⟩,f⟩:=h;split at f
   . exact .tape Aa f
   . cases f
 rw [At c4] at h;by_cases c5:k=50\/k=51
 . rw [AH c5] at h;simp only [ke,named,beq_iff_eq,decide_eq_true_eq] at h;obtain ⟨⟨⟨rfl,E⟩,h1⟩,f⟩:=h;exact .call c5 E h1 f
 rw [At c5] at h;by_cases L:k=52\/k=53
 . rw [AH L] at h;simp only [ke,plain,beq_iff_eq,lq] at h;obtain ⟨⟨rfl,rfl⟩,f⟩:=h;split at f
   . simp only [ke] at f;exact .branch L f.1.1.1 f.1.1.2 f.1.2 f.2
   . cases f
 rw [At L] at h;by_cases M:k=54
 . rw [AH M] at h;simp only [ke,named,beq_iff_eq] at h;obtain ⟨⟨rfl,E⟩,f⟩:=h;subst M;split at f
   . simp only [ke] at f;exact .local_ E f.1.1 f.1.2 f.2
   . cases f
 rw [At M] at h;by_cases N:k=55
 . rw [AH N] at h;simp only [ke,named,beq_iff_eq] at h;obtain ⟨⟨rfl,E⟩,f⟩:=h;subst N;split at f
   . exact .lstack E f
   . cases f
 rw [At N] at h;cases h
def ES {t:Nd} (h:StmtSh t):t.isStmt=true:=by
 cases h with
 | upd E f F=>unfold Nd.isStmt;rw [AH E];simp [plain,f,F]
 | swap f F=>unfold Nd.isStmt;simp [plain,f,F]
 | stack E L f=>rcases E with rfl|rfl<;>(unfold Nd.isStmt;simp [named,L,f])
 | tape E f=>rcases E with rfl|rfl|rfl|rfl<;>(unfold Nd.isStmt;simp [plain,f])
 | call E L N O=>rcases E with rfl|rfl<;>(unfold Nd.isStmt;simp only [named,L,O];simp [N])
 | branch E f F M U=>rcases E with rfl|rfl<;>(unfold Nd.isStmt;simp [plain,f,F,M,U])
 | local_ L f F M=>unfold Nd.isStmt;simp [named,L,f,F,M]
 | lstack L f=>unfold Nd.isStmt;simp [named,L,f]
def Lm {t:Nd} (h:t.isExpr=true):1<=t.kind/\t.kind<=23:=by
 obtain ⟨k,n,s,l⟩:=t;unfold Nd.isExpr at h;simp only [lZ];by_cases f:k=1
 . omega
 rw [At f] at h;by_cases c2:k=2\/k=4\/k=5
 . omega
 rw [At c2] at h;by_cases c3:k=3
 . omega
 rw [At c3] at h;by_cases c4:k=6\/k=7
 . omega
 rw [At c4] at h;by_cases c5:8<=k/\k<=23
 . omega
 rw [At c5] at h;cases h
def Bw {t:Nd} (h:t.isPlace=true):t.isExpr=true:=by
 simp only [Nd.isPlace,ke] at h;exact h.2
def JZ {t:Nd} (h:t.isVar=true):t.isExpr=true:=by
 simp only [Nd.isVar,ke] at h;exact h.2
def O6 {t:Nd} (h:t.isStmt=true):40<=t.kind/\t.kind<=56:=by
 cases DV h<;>simp only [lZ]<;>omega
def Fx {t:Nd} (h:t.isBlock=true):t = .mk 57 0 [] t.kids/\DU t.kids=true:=by
 obtain ⟨k,n,s,l⟩:=t;unfold Nd.isBlock at h;simp only [ke,plain,beq_iff_eq,lq] at h;obtain ⟨⟨rfl,rfl,rfl⟩,f⟩:=h;exact ⟨rfl,f⟩
def rowStmt_iff : ∀ {l:List Nd},DU l=true ↔ ∀x∈l,x.isStmt=true
 | []=>by simp [DU]
 | t::r=>by simp [DU,rowStmt_iff (l:=r)]
structure Tok where
 kind:Int
 text:lB
 pos:Int
def Tok.zero:Tok:=⟨0,[],0⟩
structure PS where
 at_:Nat
 off:Int
 err:Int
section
variable (ts:List Tok) (n:Int)
def Aq (σ:PS):Tok:=if σ.err≠0\/σ.at_=ts.length then Tok.zero else ts.getD σ.at_ Tok.zero
def BE (σ:PS) (off e:Int):PS:=if σ.err=0 then ⟨σ.at_,off,e⟩ else σ
def Dl (σ:PS):PS:=if σ.at_<ts.length then BE σ (ts.getD σ.at_ Tok.zero).pos 3 else BE σ n 4
def Ap (σ:PS):PS:=⟨σ.at_+1,σ.off,σ.err⟩
def B1 (σ:PS) (t:lB):Bool:=decide ((Aq ts σ).text=t)
def Et (σ:PS) (t:lB):PS:=if B1 ts σ t then Ap σ else σ
def Az (σ:PS) (t:lB):PS:=if B1 ts σ t then Ap σ else Dl ts n σ
def A2 (σ:PS):lB×PS:=if AS (Aq ts σ).text then ((Aq ts σ).text,Ap σ) else ([],Dl ts n σ)
def A7 (s:lB):Nat:=s.foldl (fun a c=>a*10+(c.toNat-48)) 0
def BP (least most:Int) (σ:PS):Int×PS:=
 if (Aq ts σ).kind=2 then
  if (A7 (Aq ts σ).text:Int)<=9223372036854775807/\least<=(A7 (Aq ts σ).text:Int)/\(A7 (Aq ts σ).text:Int)<=most then ((A7 (Aq ts σ).text:Int),Ap σ)
  else (0,BE (Ap σ) (Aq ts σ).pos 2)
 else (0,Dl ts n σ)
def Ff (t:lB):Option Int:=[8,9,10,11,12,13,14,15,16,17,18,19,20,21,22,23].find? (fun k=>decide (Cl k=t))
mutual
def Bu:Nat->Int->PS->Nd×PS
 | 0,_,σ=>(.mk 0 0 [] [],σ)
 | k+1,lv,σ=>BQ k lv (Ba k σ).1 (Ba k σ).2
def BQ:Nat->Int->Nd->PS->Nd×PS
 | 0,_,x,σ=>(x,σ)
 | k+1,lv,x,σ=>match Ff (Aq ts σ).text with
  | none=>(x,σ)
  | some op=>if Bv op<lv then (x,σ) else
   BQ k lv (.mk op 0 [] [x,(Bu k (Bv op+1) (Ap σ)).1]) (Bu k (Bv op+1) (Ap σ)).2
def Ba:Nat->PS->Nd×PS
 | 0,σ=>(.mk 0 0 [] [],σ)
 | k+1,σ=>
  if B1 ts σ [45] then (.mk 6 0 [] [(Ba k (Ap σ)).1],(Ba k (Ap σ)).2)
  else if B1 ts σ [33] then (.mk 7 0 [] [(Ba k (Ap σ)).1],(Ba k (Ap σ)).2)
  else Be k σ
def Be:Nat->PS->Nd×PS
 | 0,σ=>(.mk 0 0 [] [],σ)
 | k+1,σ=>
  if (Aq ts σ).kind=2 then (.mk 1 (BP ts n 0 9223372036854775807 σ).1 [] [],(BP ts n 0 9223372036854775807 σ).2)
  else if B1 ts σ [116,111,112] then (.mk 4 0 (A2 ts n (Az ts n (Ap σ) [40])).1 [],Az ts n (A2 ts n (Az ts n (Ap σ) [40])).2 [41])
  else if B1 ts σ [115,105,122,101] then (.mk 5 0 (A2 ts n (Az ts n (Ap σ) [40])).1 [],Az ts n (A2 ts n (Az ts n (Ap σ) [40])).2 [41])
  else if B1 ts σ [40] then ((Bu k 1 (Ap σ)).1,Az ts n (Bu k 1 (Ap σ)).2 [41])
  else Bz k σ
def Bz:Nat->PS->Nd×PS
 | 0,σ=>(.mk 0 0 [] [],σ)
 | k+1,σ=>
  if B1 ts (A2 ts n σ).2 [91] then (.mk 3 0 (A2 ts n σ).1 [(Bu k 1 (Ap (A2 ts n σ).2)).1],Az ts n (Bu k 1 (Ap (A2 ts n σ).2)).2 [93])
  else (.mk 2 0 (A2 ts n σ).1 [],(A2 ts n σ).2)
end
def DN (σ:PS):Nd×PS:=(.mk 2 0 (A2 ts n σ).1 [],(A2 ts n σ).2)
def CK:Nat->List Nd->PS->List Nd×PS
 | 0,acc,σ=>(acc,σ)
 | k+1,acc,σ=>
  if B1 ts σ [44] then
   CK k (acc++[(DN ts n (if acc.length=8/\AS (Aq ts (Ap σ)).text=true then BE (Ap σ) (Aq ts (Ap σ)).pos 5 else Ap σ)).1])
    (DN ts n (if acc.length=8/\AS (Aq ts (Ap σ)).text=true then BE (Ap σ) (Aq ts (Ap σ)).pos 5 else Ap σ)).2
  else (acc,σ)
def Ft (k:Nat) (kind:Int) (σ:PS):Nd×PS:=
 let m:=A2 ts n (Ap σ)
 let σ1:=Az ts n m.2 [40]
 if B1 ts σ1 [41] then (.mk kind 0 m.1 [],Ap σ1)
 else
  let a:=DN ts n σ1
  let r:=CK ts n k [a.1] a.2
  (.mk kind 0 m.1 r.1,Az ts n r.2 [41])
def CA (t:lB):Int:=if t=[43,61] then 40 else if t=[45,61] then 41 else if t=[94,61] then 42 else if t=[58,61] then 56 else 0
def Di (k:Nat) (σ:PS):Nd×PS:=
 let p:=Bz ts n k σ
 if B1 ts p.2 [60,61,62] then (.mk 43 0 [] [p.1,(Bz ts n k (Ap p.2)).1],(Bz ts n k (Ap p.2)).2)
 else if CA (Aq ts p.2).text=0 then (.mk 0 0 [] [],Dl ts n p.2)
 else (.mk (CA (Aq ts p.2).text) 0 [] [p.1,(Bu ts n k 1 (Ap p.2)).1],(Bu ts n k 1 (Ap p.2)).2)
def Fy (k:Nat) (kind:Int) (σ:PS):Nd×PS:=
 let p:=Bz ts n k (Ap σ)
 let m:=A2 ts n (Az ts n p.2 [44])
 (.mk kind 0 m.1 [p.1],m.2)
def Gs (k:Nat) (kind:Int) (σ:PS):Nd×PS:=(.mk kind 0 [] [(Bz ts n k (Ap σ)).1],(Bz ts n k (Ap σ)).2)
mutual
def Bm:Nat->PS->Nd×PS
 | 0,σ=>(.mk 0 0 [] [],σ)
 | k+1,σ=>
  if (Aq ts σ).text=[112,117,115,104] then Fy ts n k 44 σ else if (Aq ts σ).text=[112,111,112] then Fy ts n k 45 σ
  else if (Aq ts σ).text=[114,101,97,100] then Gs ts n k 46 σ else if (Aq ts σ).text=[117,110,114,101,97,100] then Gs ts n k 47 σ else if (Aq ts σ).text=[119,114,105,116,101] then Gs ts n k 48 σ else if (Aq ts σ).text=[117,110,119,114,105,116,101] then Gs ts n k 49 σ
  else if (Aq ts σ).text=[99,97,108,108] then Ft ts n k 50 σ else if (Aq ts σ).text=[117,110,99,97,108,108] then Ft ts n k 51 σ
  else if (Aq ts σ).text=[105,102] then BM k 52 [101,108,115,101] [102,105] σ else if (Aq ts σ).text=[102,114,111,109] then BM k 53 [108,111,111,112] [117,110,116,105,108] σ
  else if (Aq ts σ).text=[108,111,99,97,108] then Dy k σ else Di ts n k σ
def BM:Nat->Int->lB->lB->PS->Nd×PS
 | 0,_,_,_,σ=>(.mk 0 0 [] [],σ)
 | k+1,kind,mid,last,σ=>
  let a:=Bu ts n k 1 (Ap σ)
  let x:=Co k a.2
  let y:=Co k (Az ts n x.2 mid)
  let e:=Bu ts n k 1 (Az ts n y.2 last)
  (.mk kind 0 [] [a.1,x.1,y.1,e.1],e.2)
def Dy:Nat->PS->Nd×PS
 | 0,σ=>(.mk 0 0 [] [],σ)
 | k+1,σ=>
  if B1 ts (Ap σ) [115,116,97,99,107] then
   let m:=A2 ts n (Ap (Ap σ))
   let x:=Co k m.2
   (.mk 55 0 m.1 [x.1],x.2)
  else
   let m:=A2 ts n (Ap σ)
   let a:=Bu ts n k 1 (Az ts n m.2 [61])
   let x:=Co k a.2
   let e:=Bu ts n k 1 (Az ts n x.2 [100,101,108,111,99,97,108])
   (.mk 54 0 m.1 [a.1,x.1,e.1],e.2)
def Co:Nat->PS->Nd×PS
 | 0,σ=>(.mk 57 0 [] [],σ)
 | k+1,σ=>let r:=Cz k [] (Az ts n σ [123]);(.mk 57 0 [] r.1,r.2)
def Cz:Nat->List Nd->PS->List Nd×PS
 | 0,acc,σ=>(acc,σ)
 | k+1,acc,σ=>
  if σ.err≠0 then (acc,σ)
  else if B1 ts σ [125] then (acc,Ap σ)
  else Cz k (acc++[(Bm k σ).1]) (Az ts n (Bm k σ).2 [59])
end
def Bp (σ:PS):VD×PS:=
 if B1 ts σ [105,110,116] then (⟨(A2 ts n (Ap σ)).1,1,0⟩,(A2 ts n (Ap σ)).2)
 else if B1 ts σ [115,116,97,99,107] then (⟨(A2 ts n (Ap σ)).1,3,0⟩,(A2 ts n (Ap σ)).2)
 else if B1 ts σ [97,114,114,97,121] then
  let m:=A2 ts n (Ap σ)
  let r:=BP ts n 1 16 (Az ts n m.2 [91])
  (⟨m.1,2,r.1⟩,Az ts n r.2 [93])
 else (⟨[],0,0⟩,Dl ts n σ)
def Cb (σ:PS):Bool:=B1 ts σ [105,110,116]||B1 ts σ [97,114,114,97,121]||B1 ts σ [115,116,97,99,107]
def Bi:Nat->List VD->PS->List VD×PS
 | 0,acc,σ=>(acc,σ)
 | k+1,acc,σ=>
  if B1 ts σ [44] then
   let σ1:=if acc.length=8/\Cb ts (Ap σ)=true then BE (Ap σ) (Aq ts (Ap σ)).pos 5 else Ap σ
   Bi k (acc++[(Bp ts n σ1).1]) (Bp ts n σ1).2
  else (acc,σ)
end
mutual
def Nd.depth:Nd->Int
 | .mk _ _ _ l=>AT l+1
def AT:List Nd->Int
 | []=>0
 | t::r=>max t.depth (AT r)
end
section
variable (ts:List Tok) (n:Int)
def D7 (x:Nd) (off:Int) (σ:PS):PS:=if σ.err≠0 then σ else if 80<x.depth then BE σ off 19 else if 2000<x.size then BE σ off 5 else σ
def EZ (k:Nat) (σ:PS):Nd×PS:=((Co ts n k σ).1,D7 (Co ts n k σ).1 (Aq ts σ).pos (Co ts n k σ).2)
def Dk (k:Nat) (σ:PS):PD×PS:=
 let m:=A2 ts n (Az ts n σ [112,114,111,99])
 let σ1:=Az ts n m.2 [40]
 let q:=if B1 ts σ1 [41] then ([],Ap σ1) else
  let d:=Bp ts n σ1
  let r:=Bi ts n k [d.1] d.2
  (r.1,Az ts n r.2 [41])
 let b:=EZ ts n k q.2
 (⟨m.1,q.1,b.1⟩,b.2)
def Do:Nat->List VD->PS->List VD×PS
 | 0,acc,σ=>(acc,σ)
 | k+1,acc,σ=>
  if Cb ts σ then
   let σ1:=if acc.length=32 then BE σ (Aq ts σ).pos 5 else σ
   Do k (acc++[(Bp ts n σ1).1]) (Bp ts n σ1).2
  else (acc,σ)
def B0:Nat->List PD->PS->List PD×PS
 | 0,acc,σ=>(acc,σ)
 | k+1,acc,σ=>
  if B1 ts σ [112,114,111,99] then
   let σ1:=if acc.length=64 then BE σ (Aq ts σ).pos 5 else σ
   B0 k (acc++[(Dk ts n k σ1).1]) (Dk ts n k σ1).2
  else (acc,σ)
def BH (k:Nat) (σ:PS):PG×PS:=
 let v:=Do ts n k [] σ
 let p:=B0 ts n k [] v.2
 let b:=EZ ts n k (Az ts n p.2 [109,97,105,110])
 (⟨v.1,p.1,b.1⟩,b.2)
def DE (σ:PS):PS:=if σ.at_<ts.length then Dl ts n σ else σ
def QA:Nat->List Nd->PS->List Nd×PS
 | 0,acc,σ=>(acc,σ)
 | k+1,acc,σ=>if σ.err=0/\σ.at_<ts.length then QA k (acc++[(Bm ts n k σ).1]) (Az ts n (Bm ts n k σ).2 [59]) else (acc,σ)
end
def CX:Nat->lB->Nat->List Tok->List Tok×Option Nat
 | 0,_,_,acc=>(acc,none)
 | k+1,s,p,acc=>if p<s.length then
  if (Ar (s.drop p)).2=0 then ([],some p)
  else CX k s (p+(Ar (s.drop p)).2) (acc++[⟨((Ar (s.drop p)).1:Nat),(s.drop p).take (Ar (s.drop p)).2,(p:Int)⟩])
  else (acc,none)
def G7 (s:lB):List Tok×Int×Int:=
 if 65536<s.length then ([],0,5) else match CX (s.length+1) s 0 [] with
  | (l,none)=>(l,0,0)
  | (_,some p)=>([],(p:Int),3)
def D8 (l:List Tok):List Tok:=l.filter fun t=>decide (t.kind≠4)&&decide (t.kind≠5)
def Cp (s:lB):List Tok×PS:=(D8 (G7 s).1,⟨0,(G7 s).2.1,(G7 s).2.2⟩)
def Gt (s:lB):Nat:=4*s.length+20
def BR:Nd:=.mk 0 0 [] []
def A8 (s:lB):PG×Int×Int:=
 let ts:=(Cp s).1
 let r:=BH ts s.length (Gt s) (Cp s).2
 let σ:=DE ts s.length r.2
 if σ.err≠0 then (⟨[],[],BR⟩,σ.off,σ.err) else (r.1,0,0)
def Fg (k:Int):Int:=
 if k=40 then 41 else if k=41 then 40 else if k=44 then 45 else if k=45 then 44 else if k=46 then 47 else if k=47 then 46
 else if k=48 then 49 else if k=49 then 48 else if k=50 then 51 else if k=51 then 50 else k
def Hn (l:List Nd):List Nd:=(l.set 0 (l.getD (l.length-1) (.mk 0 0 [] []))).set (l.length-1) (l.getD 0 (.mk 0 0 [] []))
mutual
def Nd.inv (q:Bool):Nd->Nd
 | .mk k n s l=>
  if k=57 then .mk k n s (CH q l).reverse
  else if k=52\/k=53\/k=54 then .mk k n s (Hn (Eb q l))
  else if k=50\/k=51 then .mk (if q then k else Fg k) n s (Eb q l)
  else .mk (Fg k) n s (Eb q l)
def CH (q:Bool):List Nd->List Nd
 | []=>[]
 | t::r=>t.inv q::CH q r
def Eb (q:Bool):List Nd->List Nd
 | []=>[]
 | t::r=>(if t.kind=57 then t.inv q else t)::Eb q r
end
def M3 (q:Bool) : ∀l:List Nd,(CH q l).length=l.length
 | []=>rfl
 | t::r=>by simp only [CH,kf,M3 q r]
def M4 (q:Bool) : ∀l m:List Nd,CH q (l++m)=CH q l++CH q m
 | [],m=>rfl
 | t::r,m=>by simp only [CH,kD,M4 q r m]
def M5 (q:Bool) : ∀l:List Nd,CH q l.reverse=(CH q l).reverse
 | []=>rfl
 | t::r=>by simp only [CH,List.reverse_cons,M4,M5 q r]
def D3 (q:Bool) {t:Nd} (h:t.isExpr=true):(if t.kind=57 then t.inv q else t)=t:=by
 have:=Lm h;rw [At Aa]
def Im (q:Bool) {t:Nd} (h:t.isBlock=true):(if t.kind=57 then t.inv q else t)=t.inv q:=by
 obtain ⟨e,-⟩:=Fx h;rw [e];rfl
def O7 (q:Bool) : ∀l:List Nd,l.all Nd.isVar=true->Eb q l=l
 | [],_=>rfl
 | t::r,h=>by
  simp only [List.all_cons,ke] at h;simp only [Eb,D3 q (JZ h.1),O7 q r h.2]
def fG (x y z:Nd):Hn [x,y,z]=[z,y,x]:=rfl
def fH (x y z u:Nd):Hn [x,y,z,u]=[u,y,z,x]:=rfl
section
variable (q:Bool)
def U3 {k:Int} {x y:Nd} (hk:k=40\/k=41\/k=42\/k=56) (hx:x.isExpr=true) (hy:y.isExpr=true):(Nd.mk k 0 [] [x,y]).inv q = .mk (Fg k) 0 [] [x,y]:=by
 conv=>lhs;unfold Nd.inv
 rw [At Aa,At Aa,At Aa];simp only [Eb,D3 q hx,D3 q hy]
def RF {x y:Nd} (hx:x.isExpr=true) (hy:y.isExpr=true):(Nd.mk 43 0 [] [x,y]).inv q = .mk 43 0 [] [x,y]:=by
 conv=>lhs;unfold Nd.inv
 rw [At Aa,At Aa,At Aa];simp only [Eb,D3 q hx,D3 q hy];rfl
def MJ {k:Int} {s:lB} {x:Nd} (hk:44<=k/\k<=49) (hx:x.isExpr=true):(Nd.mk k 0 s [x]).inv q = .mk (Fg k) 0 s [x]:=by
 conv=>lhs;unfold Nd.inv
 rw [At Aa,At Aa,At Aa];simp only [Eb,D3 q hx]
def RG {k:Int} {s:lB} {l:List Nd} (hk:k=50\/k=51) (hl:l.all Nd.isVar=true):(Nd.mk k 0 s l).inv q = .mk (if q then k else Fg k) 0 s l:=by
 conv=>lhs;unfold Nd.inv
 rw [At Aa,At Aa,AH hk,O7 q l hl]
def M6 {k:Int} {x y z u:Nd} (hk:k=52\/k=53) (hx:x.isExpr=true) (hy:y.isBlock=true) (hz:z.isBlock=true) (hu:u.isExpr=true):(Nd.mk k 0 [] [x,y,z,u]).inv q = .mk k 0 [] [u,y.inv q,z.inv q,x]:=by
 conv=>lhs;unfold Nd.inv
 rw [At Aa,AH Aa];simp only [Eb,D3 q hx,D3 q hu,Im q hy,Im q hz,fH]
def O8 {s:lB} {x y z:Nd} (hx:x.isExpr=true) (hy:y.isBlock=true) (hz:z.isExpr=true):(Nd.mk 54 0 s [x,y,z]).inv q = .mk 54 0 s [z,y.inv q,x]:=by
 conv=>lhs;unfold Nd.inv
 rw [At Aa,AH Aa];simp only [Eb,D3 q hx,D3 q hz,Im q hy,fG]
def M7 {s:lB} {x:Nd} (hx:x.isBlock=true):(Nd.mk 55 0 s [x]).inv q = .mk 55 0 s [x.inv q]:=by
 conv=>lhs;unfold Nd.inv
 rw [At Aa,At Aa,At Aa];simp only [Eb,Im q hx];rfl
def Gf (l:List Nd):(Nd.mk 57 0 [] l).inv q = .mk 57 0 [] (CH q l).reverse:=by
 conv=>lhs;unfold Nd.inv
 rw [AH rfl]
end
def Jv {k:Int}:Fg (Fg k)=k:=by
 unfold Fg;by_cases h1:k=40;· subst h1;rfl
 by_cases h:k=41;· subst h;rfl
 by_cases E:k=44;· subst E;rfl
 by_cases F:k=45;· subst F;rfl
 by_cases L:k=46;· subst L;rfl
 by_cases M:k=47;· subst M;rfl
 by_cases N:k=48;· subst N;rfl
 by_cases O:k=49;· subst O;rfl
 by_cases U:k=50;· subst U;rfl
 by_cases f:k=51;· subst f;rfl
 simp only [h1,h,E,F,L,M,N,O,U,f,if_false]
def RH {k:Int} (h:k=40\/k=41\/k=42\/k=56):Fg k=40\/Fg k=41\/Fg k=42\/Fg k=56:=by rcases h with rfl|rfl|rfl|rfl<;>decide
def Wc {k:Int} (h:k=50\/k=51):Fg k=50\/Fg k=51:=by rcases h with rfl|rfl<;>decide
def M8 {k:Int} (h:k=44\/k=45):Fg k=44\/Fg k=45:=by rcases h with rfl|rfl<;>decide
def O9 {k:Int} (h:k=46\/k=47\/k=48\/k=49):Fg k=46\/Fg k=47\/Fg k=48\/Fg k=49:=by rcases h with rfl|rfl|rfl|rfl<;>decide
structure InvOk (q:Bool) (t:Nd):Prop where
 st:t.isStmt=true->(t.inv q).isStmt=true
 bl:t.isBlock=true->(t.inv q).isBlock=true
 back:(t.inv q).inv q=t
 size:(t.inv q).size=t.size
 depth:(t.inv q).depth=t.depth
 wf:t.wf->(t.inv q).wf
def LY : ∀l m:List Nd,Aj (l++m)=Aj l+Aj m
 | [],m=>by simp [Aj]
 | t::r,m=>by simp only [Aj,kD,LY r m];omega
def LZ : ∀l:List Nd,Aj l.reverse=Aj l
 | []=>rfl
 | t::r=>by simp only [List.reverse_cons,LY,LZ r,Aj];omega
def Io : ∀l:List Nd,0<=AT l
 | []=>by simp [AT]
 | t::r=>by have:=Io r;simp only [AT];omega
def Ky : ∀l m:List Nd,AT (l++m)=max (AT l) (AT m)
 | [],m=>by have:=Io m;simp only [AT,lk];omega
 | t::r,m=>by simp only [AT,kD,Ky r m];omega
def Kz : ∀l:List Nd,AT l.reverse=AT l
 | []=>rfl
 | t::r=>by have:=Io r;simp only [List.reverse_cons,Ky,Kz r,AT];omega
def rowWf_iff : ∀ {l:List Nd},Bc l ↔ ∀x∈l,x.wf
 | []=>by simp [Bc]
 | t::r=>by simp [Bc,rowWf_iff (l:=r)]
def KA : ∀ {l:List Nd} {x:Nd},x∈l->x.size<=Aj l
 | t::r,x,h=>by
  simp only [Aj];rcases kF.1 h with rfl|h
  . omega
  . have:=KA h;omega
def X8 (q:Bool) : ∀l:List Nd,(∀t∈l,InvOk q t)->(∀t∈l,t.isStmt=true)->(∀x∈CH q l,x.isStmt=true)/\CH q (CH q l)=l/\Aj (CH q l)=Aj l/\AT (CH q l)=AT l/\(Bc l->Bc (CH q l))
 | [],_,_=>⟨by simp [CH],rfl,rfl,rfl,fun h=>h⟩
 | t::r,h,L=>by
  have E:=h t A6;obtain ⟨M,i2,i3,i4,i5⟩:=X8 q r (fun x f=>h x (by simp [f])) (fun x f=>L x (by simp [f]));refine ⟨fun x f=>?_,?_,?_,?_,fun F=>?_⟩
  . simp only [CH,kF] at f;rcases f with rfl|f
    . exact E.st (L t A6)
    . exact M x f
  . simp only [CH,E.back,i2]
  . simp only [CH,Aj,E.size,i3]
  . simp only [CH,AT,E.depth,i4]
  . simp only [CH,Bc] at F ⊢;exact ⟨E.wf F.1,i5 F.2⟩
def J0 {k:Int} (f:0<=k) (h1:k<=255):0<=Fg k/\Fg k<=255:=by
 unfold Fg
 repeat' split
 all_goals omega
def fI (q:Bool) (N:Nat) : ∀t:Nd,t.size<N->t.isStmt=true\/t.isBlock=true->InvOk q t:=by
 induction N with
 | zero=>intro t h;omega
 | succ N ih=>
  intro t hN h;by_cases O:t.isStmt=true
  . have ac : ∀ {u:Nd},u.isStmt=true -> ¬u.isBlock=true:=fun {u} X hb=>by
     have h1:=O6 X;obtain ⟨e,-⟩:=Fx hb;rw [e] at h1;simp only [lZ] at h1;omega
    have mk : ∀u v:Nd,u.isStmt=true->u.inv q=v->v.isStmt=true->v.inv q=u->v.size=u.size->v.depth=u.depth->(u.wf->v.wf)->InvOk q u:=fun u v X e h1 h2 h3 h4 h5=>⟨fun _=>by rw [e];exact h1,fun hb=>absurd hb (ac X),by rw [e,h2],by rw [e,h3],by rw [e,h4],by rw [e];exact h5⟩
    cases DV O with
    | @upd k x y F f L=>
     have ex:=Bw f;refine mk _ _ O (U3 q F ex L) (ES (.upd (RH F) f L)) (by rw [U3 q (RH F) ex L,Jv]) rfl rfl (fun E=>?_);have:=J0 E.1 E.2.1;exact ⟨this.1,this.2,E.2.2⟩
    | @swap x y f L=>
     exact mk _ _ O (RF q (Bw f) (Bw L)) O (RF q (Bw f) (Bw L)) rfl rfl (fun E=>E)
    | @stack k s x F Y f=>
     have ex:=Bw f;refine mk _ _ O (MJ q Aa ex) (ES (.stack (M8 F) Y f)) (by rw [MJ q (by have:=M8 F;omega) ex,Jv]) rfl rfl (fun E=>?_);have:=J0 E.1 E.2.1;exact ⟨this.1,this.2,E.2.2⟩
    | @tape k x F f=>
     have ex:=Bw f;refine mk _ _ O (MJ q Aa ex) (ES (.tape (O9 F) f)) (by rw [MJ q (by have:=O9 F;omega) ex,Jv]) rfl rfl (fun E=>?_);have:=J0 E.1 E.2.1;exact ⟨this.1,this.2,E.2.2⟩
    | @call k s l F Y hl ha=>
     have aa:(if q then k else Fg k)=50\/(if q then k else Fg k)=51:=by
      cases q
      . exact Wc F
      . exact F
     refine mk _ _ O (RG q F ha) (ES (.call aa Y hl ha)) ?_ rfl rfl (fun E=>?_)
     . rw [RG q aa ha];cases q
       . simp only [lj,if_false,Jv]
       . simp
     . exact ⟨Aa,Aa,E.2.2⟩
    | @branch k x y z u F f L V X=>
     simp only [lR,Aj] at hN;have M:=ih y Aa (kp L);have iz:=ih z Aa (kp V);refine mk _ _ O (M6 q F f L V X) (ES (.branch F X (M.bl L) (iz.bl V) f)) (by rw [M6 q F X (M.bl L) (iz.bl V) f,M.back,iz.back]) ?_ ?_ (fun E=>?_)
     . simp only [lR,Aj,M.size,iz.size];omega
     . simp only [Nd.depth,AT,M.depth,iz.depth];omega
     . obtain ⟨Z,w2,w3,w4,w5,w6,U⟩:=E;exact ⟨Z,w2,w3,w4,w5,w6,U.2.2.2.1,M.wf U.2.1,iz.wf U.2.2.1,U.1,trivial⟩
    | @local_ s x y z Y f L V=>
     simp only [lR,Aj] at hN;have M:=ih y Aa (kp L);refine mk _ _ O (O8 q f L V) (ES (.local_ Y V (M.bl L) f)) (by rw [O8 q V (M.bl L) f,M.back]) ?_ ?_ (fun E=>?_)
     . simp only [lR,Aj,M.size];omega
     . simp only [Nd.depth,AT,M.depth];omega
     . obtain ⟨Z,w2,w3,w4,w5,w6,U⟩:=E;exact ⟨Z,w2,w3,w4,w5,w6,U.2.2.1,M.wf U.2.1,U.1,trivial⟩
    | @lstack s x Y f=>
     simp only [lR,Aj] at hN;have ix:=ih x Aa (kp f);refine mk _ _ O (M7 q f) (ES (.lstack Y (ix.bl f))) (by rw [M7 q (ix.bl f),ix.back]) ?_ ?_ (fun E=>?_)
     . simp only [lR,Aj,ix.size]
     . simp only [Nd.depth,AT,ix.depth]
     . obtain ⟨Z,w2,w3,w4,w5,w6,U⟩:=E;exact ⟨Z,w2,w3,w4,w5,w6,ix.wf U.1,trivial⟩
  . have hb:t.isBlock=true:=h.resolve_left O;obtain ⟨e,hr⟩:=Fx hb;obtain ⟨k,n,s,l⟩:=t;simp only [l9,Nd.mk.injEq,and_true] at e;obtain ⟨rfl,rfl,rfl⟩:=e;simp only [l9] at hr;simp only [lR] at hN;have ab:=rowStmt_iff.1 hr;obtain ⟨i1,i2,i3,i4,i5⟩:=X8 q l (fun t ht=>ih t (by have:=KA ht;omega) (kj (ab t ht))) ab;refine ⟨fun h=>absurd h O,fun _=>?_,?_,?_,?_,fun E=>?_⟩
    . rw [Gf];unfold Nd.isBlock;rw [rowStmt_iff.2 (fun x f=>i1 x (List.mem_reverse.1 f))];rfl
    . rw [Gf,Gf,M5,List.reverse_reverse,i2]
    . rw [Gf];simp only [lR,LZ,i3]
    . rw [Gf];simp only [Nd.depth,Kz,i4]
    . rw [Gf];obtain ⟨Z,w2,w3,w4,w5,w6,U⟩:=E;exact ⟨Z,w2,w3,w4,w5,by rw [List.length_reverse,M3];exact w6,rowWf_iff.2 (fun x f=>rowWf_iff.1 (i5 U) x (List.mem_reverse.1 f))⟩
structure Shape (α:Type) where
 sz:Nat
 rep:wD->(nP)->α->lV->Prop
 len : ∀ {w S x cs},rep w S x cs->cs.length=sz
 one : ∀ {w S x cs},rep w S x cs->cs.all mm=true
 mono : ∀ {w w':wD} {S S' x cs},rep w S x cs->(∀b,S b->S' b)->(∀b o v,S b->w.cell? ⟨b,o,none⟩=some v->w'.cell? ⟨b,o,none⟩=some v)->rep w' S' x cs
 lt : ∀ {w S x cs},rep w S x cs->rep w (fun b=>S b/\b<w.heap.size) x cs
structure OwnL {α:Type} (sh:Shape α) (w:wD) (B:Nat) (e:TypeId) (v:Value) (xs:List α):Prop where
 ex : ∃css:List lV,Own w B e sh.sz v xs.length css.flatten/\css.length=xs.length /\ ∀(i:Nat) (x:α) (cs:lV),xs[i]? = some x->css[i]? = some cs->sh.rep w (fun b=>B<=b/\v.ownBlock≠some b) x cs
def OwnL.nil {α:Type} {sh:Shape α} {w:wD} {B e:Nat}:OwnL sh w B e (.slice none 0 0) []:=⟨⟨[],Own.nil,rfl,A6⟩⟩
def Own.ge {w:wD} {b e sz n:Nat} {v:Value} {cs:lV} (h:Own w b e sz v n cs) {k:Nat} (f:v.ownBlock=some k):b<=k:=(h.blk f).1
def OwnL.ge {α:Type} {sh:Shape α} {w:wD} {B e:Nat} {v:Value} {xs:List α} (h:OwnL sh w B e v xs) {k:Nat} (f:v.ownBlock=some k):B<=k:=by
 obtain ⟨E,h1,-⟩:=h.ex;exact h1.ge f
def OwnL.ext {α:Type} {sh:Shape α} {w w':wD} {B e:Nat} {v:Value} {xs:List α} (h:OwnL sh w B e v xs) (x:Ext w w'):OwnL sh w' B e v xs:=by
 obtain ⟨f,h1,E,F⟩:=h.ex;exact ⟨f,h1.ext x,E,fun i y cs L M=>sh.mono (F i y cs L M) aFh (fun b o u _ N=>x.keep N)⟩
instance {α:Type} {sh:Shape α} {w w':wD} {B e:Nat} {v:Value} {xs:List α}:LfE w w' (OwnL sh w B e v xs) (OwnL sh w' B e v xs):=⟨fun x h=>Bk.OwnL.ext h x⟩
def OwnL.fr {α:Type} {sh:Shape α} {S:nP} {w w':wD} {B e:Nat} {v:Value} {xs:List α} (h:OwnL sh w B e v xs) (x:Fr S w w') (F : ∀k,S k->k<B):OwnL sh w' B e v xs:=by
 obtain ⟨f,h1,L,M⟩:=h.ex;exact ⟨f,h1.fr x (fun k N E=>by have:=h1.ge N;have:=F k E;omega),L,fun i y cs O U=>sh.mono (M i y cs O U) aFh (fun b o u X V=>x.keep (fun E=>by have:=F b E;omega) V)⟩
instance {α:Type} {sh:Shape α} {S:nP} {w w':wD} {B e:Nat} {v:Value} {xs:List α}:LfF S w w' (OwnL sh w B e v xs) (∀k,S k->k<B) (OwnL sh w' B e v xs):=⟨fun x s h=>Bk.OwnL.fr h x s⟩
def Gu {α:Type} {f:List (List α)} {n:Nat} (h : ∀cs∈f,cs.length=n):f.flatten.length=f.length*n:=by
 induction f with
 | nil=>simp
 | cons c r E=>
  simp only [lg,j9,kf,E (fun x F=>h x (lx _ F)),h c List.mem_cons_self,Nat.add_mul];omega
def iJ {α:Type} (sh:Shape α) (w:wD) (B:Nat) (e:TypeId) (xs:List α):Option Value->wD->Prop
 | some v',w'=> ∃g cap,v' = .slice (some ⟨g,0,none⟩) xs.length cap/\OwnL sh w' B e v' xs/\Fr (B <= ·) w w'
 | none,_=>False
section
variable {P:Program} {n:Nat} {l:Sl} {w:wD} {tab:Tab} {zt:E9} {ty:TypeId} {α:Type} {sh:Shape α}
def KB {x y:Operand} {t e sz1 B cap:Nat} {sE:Sk} {zs:lV} {v:Value} {xs:List α} {cs:lV} {z:α} {p:Addr} (T:TabOk P tab) (Z:CU P zt) (ht:AC tab t=some (.slice e,sz1)) (hE:AC tab e=some (sE,sh.sz)) (hz:Dj zt e=some zs) (hzl:zs.length=sh.sz)
 (hby:DQ P e=true) (hsz:kH 0 sh.sz=true) (hx:ev l x=some v) (hy:ev l y=some (.slice (some p) 1 cap)) (hown:OwnL sh w B e v xs) (hr:Row w p cs) (hrep:sh.rep w (fun b=>B<=b/\v.ownBlock≠some b) z cs) (hlen:xs.length<=10000000000) (hB:B<=w.heap.size) :
 Ce P n l (.call ⟨.builtin .append,#[x,y],#[t,t]⟩) ty w (iJ sh w B e (xs++[z])):=by
 obtain ⟨css,h1,h2,h3⟩:=hown.ex;have hd:=EW (P:=P) (n:=n) (l:=l) (ty:=ty) T Z ht hE hz hzl hby hsz hx hy h1 hr (by rw [sh.len hrep];simp) (sh.one hrep) Aa Aa hB;unfold Ce at hd ⊢;intro a dst pos after g next Q ha hn c;refine hd a dst pos after g next Q ha (fun v' w' hG=>?_) (fun w' hG=>hG.elim);obtain ⟨g1,g2,g,cap',g3,g4⟩:=hG;have hgB:B<=g:=g1.ge (k:=g) (by rw [g3];rfl);refine hn v' w' ⟨g,cap',by rw [g3];simp,⟨css++[cs],?_,by simp [h2],fun i y ds hy hc=>?_⟩,g2.weaken (fun b hb=>h1.ge hb)⟩
 . have e1:(css++[cs]).flatten=css.flatten++cs:=by simp
   have e2:(xs++[z]).length=xs.length+1:=by simp
   rw [e1,e2];exact g1
 . have key:sh.rep w (fun b=>B<=b/\v.ownBlock≠some b) y ds:=by
    by_cases hi:i<xs.length
    . rw [lI hi] at hy;rw [lI Aa] at hc;exact h3 i y ds hy hc
    . have hil:i<(xs++[z]).length:=by
       rcases kK i (xs++[z]).length with h|h
       . exact h
       . rw [kO h] at hy;cases hy
      simp only [j9,kf,ki] at hil;have hi':i=xs.length:=by omega
      subst hi';rw [lH (kv _)] at hy;rw [lH Aa] at hc;simp only [Nat.sub_self,List.getElem?_cons_zero,kz] at hy;rw [h2] at hc;simp only [Nat.sub_self,List.getElem?_cons_zero,kz] at hc;subst hy hc;exact hrep
   refine sh.mono (sh.lt key) (fun b hb=>⟨hb.1.1,fun e=>?_⟩) (fun b o u hb hu=>g2.keep hb.1.2 hu);rw [g3] at e;simp only [lp,kz] at e;subst e;rcases g4 with h|h
   . exact hb.1.2 h
   . omega
def BV {ops:Array Oper} {Q:Exit->Act->wD->Prop} {rest:List Oper} {d:Nat} {pos:String} {after:Array Edge} {x y:Operand} {t e N B cap:Nat} {sE:Sk} {X:lV} {v:Value} {xs:List α} {cs:lV} {z:α} {p:Addr} (T:TabOk P tab) (Z:CU P zt) (Y:AC tab t=some (.slice e,N)) (hE:AC tab e=some (sE,sh.sz)) (hz:Dj zt e=some X) (O:X.length=sh.sz)
 (U:DQ P e=true) (V:kH 0 sh.sz=true) (hx:ev l x=some v) (hy:ev l y=some (.slice (some p) 1 cap)) (E:OwnL sh w B e v xs) (hr:Row w p cs) (F:sh.rep w (fun b=>B<=b/\v.ownBlock≠some b) z cs) (L:xs.length<=10000000000) (hB:B<=w.heap.size) (hd:kH d n=true)
 (k : ∀g f M,OwnL sh M B e (.slice (some ⟨g,0,none⟩) (xs++[z]).length f) (xs++[z])->Fr (B <= ·) w M->LW P n ops Q rest ((d,.slice (some ⟨g,0,none⟩) (xs++[z]).length f)::l) M) :
 LW P n ops Q (⟨some d,.call ⟨.builtin .append,#[x,y],#[t,t]⟩,ty,pos,after,none⟩::rest) l w:=
 Au (KB T Z Y hE hz O U V hx hy E hr F L hB) hd (fun v M ⟨g,cap,h,ho,hf⟩=>by subst h;exact k g cap M ho hf) aFh
end
section
variable {P:Program} {n:Nat} {l:Sl} {S:wD->Prop} {w:wD} {tab:Tab} {zt:E9} {ty:TypeId} {ops:Array Oper} {Q:Exit->Act->wD->Prop} {rest:List Oper} {d:Nat} {pos:String} {after:Array Edge}
end
def OwnL.rows {α:Type} {sh:Shape α} {w:wD} {B e:Nat} {v:Value} {xs:List α} (h:OwnL sh w B e v xs) (hx:xs≠[]) : ∃g cap,v = .slice (some ⟨g,0,none⟩) xs.length cap/\B<=g /\ ∀(i:Nat) (x:α),xs[i]? = some x -> ∃cs,Row w ⟨g,i*sh.sz,none⟩ cs/\sh.rep w (fun b=>B<=b/\b≠g) x cs:=by
 obtain ⟨f,h1,h2,N⟩:=h.ex;rcases h1.row with ⟨rfl,hn,-⟩|⟨g,cap,rfl,hg,O,hr⟩
 . exact absurd (List.length_eq_zero_iff.1 hn) hx
 . refine ⟨g,cap,rfl,hg,fun i x M=>?_⟩;have aa:i<xs.length:=by
    rcases kK i xs.length with h|h
    . exact h
    . rw [kO h] at M;cases M
   have hc:f[i]? = some f[i]:=kg Aa;refine ⟨f[i],?_,sh.mono (N i x _ M hc) (fun b hb=>⟨hb.1,fun e=>hb.2 (by rw [O,e])⟩) (fun _ _ _ _ h=>h)⟩;intro j u U;have E : ∀cs∈f,cs.length=sh.sz:=fun cs F=>by
    obtain ⟨k,hk,rfl⟩:=List.mem_iff_getElem.1 F;exact sh.len (N k xs[k] f[k] (kg Aa) (kg hk))
   have V:j<sh.sz:=by
    rw [<-sh.len (N i x _ M hc)];rcases kK j f[i].length with h|h
    . exact h
    . rw [kO h] at U;cases U
   have L:f.flatten[i*sh.sz+j]? = some u:=by
    have X:f=f.take i++f[i]::f.drop (i+1):=by
     have h1:=(lf i f).symm;rwa [lh Aa] at h1
    have Y:f.flatten=(f.take i).flatten++(f[i]++(f.drop (i+1)).flatten):=by
     refine (congrArg List.flatten X).trans ?_;rw [List.flatten_append,lg]
    have Z:(f.take i).flatten.length=i*sh.sz:=by
     rw [Gu (fun cs F=>E cs (List.mem_of_mem_take F)),kU];congr 1;omega
    rw [Y,lH Aa,Z,Nat.add_sub_cancel_left,lI (by rw [E _ (kq _)];exact V)];exact U
   have:=hr.at (i:=i*sh.sz+j) L;have e:(⟨g,i*sh.sz,none⟩:Addr).add j=⟨g,0+(i*sh.sz+j),none⟩:=by unfold lA;by_cases h0:j=0<;>simp [h0]
   rw [e];exact this
def Ho {S:nP} {w:wD} (t:Nd) (a:oA) (h:t.sits S w a):t.sits (fun b=>S b/\b<w.heap.size) w a:=by
 have key : ∀N:Nat,(∀(l:List Nd) (a:oA),Aj l<N->rowSits S w l a->rowSits (fun b=>S b/\b<w.heap.size) w l a):=by
  intro N
  induction N with
  | zero=>intro l a h;omega
  | succ N f=>
   intro l a E h;cases l with
   | nil=>simp [rowSits]
   | cons x r=>
    simp only [rowSits] at h ⊢;obtain ⟨b,o,F,c,rfl,O,L,h1,U,V,M,X⟩:=h;have Y:=CQ L;simp only [Aj] at E;have Z:=Nd.size_pos x;obtain ⟨k,n,s,l⟩:=x;simp only [lR] at E;refine ⟨b,o,F,c,rfl,⟨O,Y⟩,L,h1,U,V,?_,f r _ Aa X⟩;simp only [me] at M ⊢;exact f l F Aa M
 obtain ⟨k,n,s,l⟩:=t;simp only [me] at h ⊢;exact key (Aj l+1) l a Aa h
def ndShape:Shape Nd where
 sz:=4
 rep:=fun w S t cs=> ∃a c,cs=t.cells a c/\t.sits S w a
 len:=fun ⟨_,_,h,_⟩=>by rw [h];rfl
 one:=fun ⟨_,_,h,_⟩=>by rw [h];rfl
 mono:=fun ⟨a,c,h,hs⟩ hS hc=>⟨a,c,h,mw hS hc _ a hs⟩
 lt:=fun ⟨a,c,h,hs⟩=>⟨a,c,h,Ho _ a hs⟩
def ET {S:nP} {w:wD} {g:Nat} (F:S g) : ∀(xs:List Nd) (o:Nat),(∀(i:Nat) (x:Nd),xs[i]? = some x -> ∃a c,Row w ⟨g,o+i*4,none⟩ (x.cells a c)/\x.sits S w a)->rowSits S w xs (some ⟨g,o,none⟩)
 | [],_,_=>by simp [rowSits]
 | x::r,o,h=>by
  simp only [rowSits];obtain ⟨a,c,f,E⟩:=h 0 x rfl;simp only [Nat.zero_mul,Nat.add_zero] at f;refine ⟨g,o,a,c,rfl,F,f.at0 rfl,f.at (i:=1) rfl,f.at (i:=2) rfl,f.at (i:=3) rfl,E,ET F r (o+4) (fun i y L=>?_)⟩;obtain ⟨a,c,f,E⟩:=h (i+1) y (by simpa using L);exact ⟨a,c,by rw [show o+4+i*4=o+(i+1)*4 from by omega];exact f,E⟩
def OwnL.sits {w:wD} {B e:Nat} {a:oA} {len cap:Nat} {xs:List Nd} {S:nP} (h:OwnL ndShape w B e (.slice a len cap) xs) (E : ∀b,B<=b->S b):rowSits S w xs a:=by
 by_cases F:xs=[]
 . subst F;simp [rowSits]
 . obtain ⟨g,L,M,N,f⟩:=h.rows F;simp only [kT] at M;obtain ⟨rfl,-,-⟩:=M;refine ET (E g N) xs 0 (fun i x O=>?_);obtain ⟨cs,U,a,c,rfl,V⟩:=f i x O;exact ⟨a,c,by simpa [ndShape] using U,mw (fun b X=>E b X.1) (fun _ _ _ _ h=>h) _ _ V⟩
def QB {w:wD} {b o:Nat} {v0 f v2 v3:Value} (E:w.cell? ⟨b,o,none⟩=some v0) (h1:w.cell? ⟨b,o+1,none⟩=some f) (F:w.cell? ⟨b,o+2,none⟩=some v2) (L:w.cell? ⟨b,o+3,none⟩=some v3):Row w ⟨b,o,none⟩ [v0,f,v2,v3]:=fun i v h=>by
 rcases i with _|_|_|_|i<;>simp at h<;>(subst h;simpa [lA])
def Bx {S:nP} {w:wD} {l:List Nd} {a:oA} (h:rowSits S w l a) (F:l≠[]) : ∃b o,a=some ⟨b,o,none⟩/\S b /\ ∀i t,l[i]? = some t -> ∃f c,Row w ⟨b,o+i*4,none⟩ (t.cells f c)/\t.sits S w f:=by
 cases l with
 | nil=>exact absurd rfl F
 | cons x r=>
  obtain ⟨b,o,f,c,rfl,L,-⟩:=Ed h (i:=0) (t:=x) rfl;refine ⟨b,o,rfl,L,fun i t M=>?_⟩;obtain ⟨X,Y,f,c,E,-,N,h1,O,U,V⟩:=Ed h M;simp only [kz,Addr.mk.injEq] at E;obtain ⟨rfl,rfl,-⟩:=E;exact ⟨f,c,QB N h1 O U,V⟩
def KC {S:nP} {w:wD} {k n:Int} {s:lB} {l:List Nd} {a:oA} (h:rowSits S w l a):(Nd.mk k n s l).sits S w a:=by simp only [me];exact h
def OwnL.lt {α:Type} {sh:Shape α} {w:wD} {B e:Nat} {v:Value} {xs:List α} (h:OwnL sh w B e v xs) {k:Nat} (f:v.ownBlock=some k):k<w.heap.size:=by
 obtain ⟨E,h1,-⟩:=h.ex;exact (h1.blk f).2
def Dp {S:nP} {w:wD} {k n:Int} {s:lB} {a:oA}:(Nd.mk k n s []).sits S w a:=by simp [me,rowSits]
def Nd.sits.wide {S S':nP} {w:wD} {t:Nd} {a:oA} (h:t.sits S w a) (f : ∀b,S b->S' b):t.sits S' w a:=mw f (fun _ _ _ _ h=>h) t a h
section
variable {S:nP} {w:wD} {k n:Int} {s:lB} {b:Nat} {x y z u:Nd} {xa ya za ua:oA} {xc yc zc uc:Nat}
def Blk.sub {vs:lV} (h:Blk w b vs) (i m:Nat):Row w ⟨b,i,none⟩ ((vs.drop i).take m):=by
 have:=h.row.sub i m;simpa using this
def Ln {E:nP} (h:Blk w b (x.cells xa xc)) (F:S b) (L:x.sits E w xa) (M : ∀b,E b->S b):(Nd.mk k n s [x]).sits S w (some ⟨b,0,none⟩):=by
 simp only [me];refine ET F _ 0 (fun i t f=>?_)
 match i,f with
 | 0,f=>simp at f;subst f;exact ⟨xa,xc,h.sub 0 4,Nd.sits.wide L M⟩
def Lo {E S2:nP} (h:Blk w b (x.cells xa xc++y.cells ya yc)) (F:S b) (L:x.sits E w xa) (M : ∀b,E b->S b) (N:y.sits S2 w ya) (O : ∀b,S2 b->S b):(Nd.mk k n s [x,y]).sits S w (some ⟨b,0,none⟩):=by
 simp only [me];refine ET F _ 0 (fun i t f=>?_)
 match i,f with
 | 0,f=>simp at f;subst f;exact ⟨xa,xc,h.sub 0 4,Nd.sits.wide L M⟩
 | 1,f=>simp at f;subst f;exact ⟨ya,yc,h.sub 4 4,Nd.sits.wide N O⟩
def fJ {E S2 F:nP} (h:Blk w b (x.cells xa xc++y.cells ya yc++z.cells za zc)) (L:S b) (M:x.sits E w xa) (N : ∀b,E b->S b) (O:y.sits S2 w ya) (U : ∀b,S2 b->S b) (V:z.sits F w za) (X : ∀b,F b->S b):(Nd.mk k n s [x,y,z]).sits S w (some ⟨b,0,none⟩):=by
 simp only [me];refine ET L _ 0 (fun i t f=>?_)
 match i,f with
 | 0,f=>simp at f;subst f;exact ⟨xa,xc,h.sub 0 4,Nd.sits.wide M N⟩
 | 1,f=>simp at f;subst f;exact ⟨ya,yc,h.sub 4 4,Nd.sits.wide O U⟩
 | 2,f=>simp at f;subst f;exact ⟨za,zc,h.sub 8 4,Nd.sits.wide V X⟩
def fK {E S2 F L:nP} (h:Blk w b (x.cells xa xc++y.cells ya yc++z.cells za zc++u.cells ua uc)) (M:S b) (N:x.sits E w xa) (O : ∀b,E b->S b) (U:y.sits S2 w ya) (V : ∀b,S2 b->S b) (X:z.sits F w za) (Y : ∀b,F b->S b) (Z:u.sits L w ua) (ku : ∀b,L b->S b):(Nd.mk k n s [x,y,z,u]).sits S w (some ⟨b,0,none⟩):=by
 simp only [me];refine ET M _ 0 (fun i t f=>?_)
 match i,f with
 | 0,f=>simp at f;subst f;exact ⟨xa,xc,h.sub 0 4,Nd.sits.wide N O⟩
 | 1,f=>simp at f;subst f;exact ⟨ya,yc,h.sub 4 4,Nd.sits.wide U V⟩
 | 2,f=>simp at f;subst f;exact ⟨za,zc,h.sub 8 4,Nd.sits.wide X Y⟩
 | 3,f=>simp at f;subst f;exact ⟨ua,uc,h.sub 12 4,Nd.sits.wide Z ku⟩
end
def Z7 {w:wD} {b o:Nat} {us vs:lV} (h1:Row w ⟨b,o,none⟩ us) (L:Row w ⟨b,o+us.length,none⟩ vs):Row w ⟨b,o,none⟩ (us++vs):=fun i v f=>by
 rcases kK i us.length with E|F
 . rw [lI E] at f;exact h1 i v f
 . rw [lH F] at f;have h:=L.at f;have e:(⟨b,o,none⟩:Addr).add i=⟨b,o+i,none⟩:=by unfold lA;by_cases M:i=0<;>simp [M]
   rw [e,show o+i=o+us.length+(i-us.length) by omega];exact h
def Lp {P:Program} (w:wD) (t ty e:TypeId) (i:TypeInfo) (f:P.underlying t=some (.slice e)) (h:P.info? e=some i) (g n cap c:Nat) (E:n<=cap) :
 (Builtin.append_ #[t,t] ty #[.slice (some ⟨g,0,none⟩) n cap,.slice none 0 c]).run P w = .ok (.slice (some ⟨g,0,none⟩) n cap) w:=by
 simp [Builtin.append_,AD f,Go.sizeOf,typeInfo,h,Builtin.lenOf,Builtin.firstCells,E,storeCells]
def IX (K:Value->wD->Prop):Option Value->wD->Prop
 | some v,w=>K v w
 | none,_=>False
section
variable {P:Program} {n:Nat} {l:Sl} {w:wD} {tab:Tab} {zt:E9} {ty:TypeId}
end
abbrev VD.cells (v:VD):lV:=[str v.name,.int .u8 v.kind,.int .i64 v.len]
abbrev VD.val (v:VD):Value:=.agg #[str v.name,.int .u8 v.kind,.int .i64 v.len]
def iM (w:wD) (b o:Nat) (v:VD):Prop:=Row w ⟨b,o,none⟩ v.cells
def VDs (S:nP) (w:wD) (l:List VD) (a:oA):Prop:=Arr S 3 iM w l a
abbrev PD.cells (p:PD) (pa:oA) (pc:Nat) (ba:oA) (bc:Nat):lV:=[str p.name,.slice pa p.params.length pc,.int .u8 p.body.kind,.int .i64 p.body.num,str p.body.name,.slice ba p.body.kids.length bc]
def iN (S:nP) (w:wD) (b o:Nat) (p:PD):Prop:= ∃pa pc ba bc,Row w ⟨b,o,none⟩ (p.cells pa pc ba bc)/\VDs S w p.params pa/\p.body.sits S w ba
def PDs (S:nP) (w:wD) (l:List PD) (a:oA):Prop:=Arr S 6 (iN S) w l a
def VDs.ext {S:nP} {w w':wD} {l:List VD} {a:oA} (h:VDs S w l a) (x:Ext w w'):VDs S w' l a:=h.mono aFh (fun _ _ _ _ _ h=>mf h x)
instance {S:nP} {w w':wD} {l:List VD} {a:oA}:LfE w w' (VDs S w l a) (VDs S w' l a):=⟨fun x h=>Bk.VDs.ext h x⟩
def PDs.ext {S:nP} {w w':wD} {l:List PD} {a:oA} (h:PDs S w l a) (x:Ext w w'):PDs S w' l a:=
 h.mono aFh (fun _ _ _ _ _ ⟨f,pc,ba,bc,h1,h2,h3⟩=>⟨f,pc,ba,bc,h1.ext x,h2.ext x,h3.ext x⟩)
instance {S:nP} {w w':wD} {l:List PD} {a:oA}:LfE w w' (PDs S w l a) (PDs S w' l a):=⟨fun x h=>Bk.PDs.ext h x⟩
abbrev PG.cells (g:PG) (va:oA) (vc:Nat) (pa:oA) (pc:Nat) (ma:oA) (mc:Nat):lV:=
 [.slice va g.vars.length vc,.slice pa g.procs.length pc,.int .u8 g.main.kind,.int .i64 g.main.num,str g.main.name,.slice ma g.main.kids.length mc]
structure PG.sits (S:nP) (w:wD) (g:PG) (va pa ma:oA):Prop where
 vars:VDs S w g.vars va
 procs:PDs S w g.procs pa
 main:g.main.sits S w ma
def PG.sits.ext {S:nP} {w w':wD} {g:PG} {f E F:oA} (h:g.sits S w f E F) (x:Ext w w'):g.sits S w' f E F:=⟨h.vars.ext x,h.procs.ext x,h.main.ext x⟩
instance {S:nP} {w w':wD} {g:PG} {f E F:oA}:LfE w w' (g.sits S w f E F) (g.sits S w' f E F):=⟨fun x h=>Bk.PG.sits.ext h x⟩
def VDs.fr {S T:nP} {w w':wD} {l:List VD} {a:oA} (h:VDs S w l a) (x:Fr T w w') (f : ∀b,S b -> ¬T b):VDs S w' l a:=h.mono aFh (fun b _ _ _ E h=>Row.fr h x (f b E))
instance {S T:nP} {w w':wD} {l:List VD} {a:oA}:LfF T w w' (VDs S w l a) (∀b,S b -> ¬T b) (VDs S w' l a):=⟨fun x s h=>Bk.VDs.fr h x s⟩
def PDs.fr {S T:nP} {w w':wD} {l:List PD} {a:oA} (h:PDs S w l a) (x:Fr T w w') (f : ∀b,S b -> ¬T b):PDs S w' l a:=
 h.mono aFh (fun b _ _ _ E ⟨F,pc,ba,bc,h1,h2,h3⟩=>⟨F,pc,ba,bc,h1.fr x (f b E),h2.fr x f,h3.fr x f⟩)
instance {S T:nP} {w w':wD} {l:List PD} {a:oA}:LfF T w w' (PDs S w l a) (∀b,S b -> ¬T b) (PDs S w' l a):=⟨fun x s h=>Bk.PDs.fr h x s⟩
def PG.sits.fr {S T:nP} {w w':wD} {g:PG} {f E F:oA} (h:g.sits S w f E F) (x:Fr T w w') (L : ∀b,S b -> ¬T b):g.sits S w' f E F:=⟨h.vars.fr x L,h.procs.fr x L,h.main.fr x L⟩
instance {S T:nP} {w w':wD} {g:PG} {f E F:oA}:LfF T w w' (g.sits S w f E F) (∀b,S b -> ¬T b) (g.sits S w' f E F):=⟨fun x s h=>Bk.PG.sits.fr h x s⟩
def VDs.wide {S S':nP} {w:wD} {l:List VD} {a:oA} (h:VDs S w l a) (f : ∀b,S b->S' b):VDs S' w l a:=h.mono f (fun _ _ _ _ _ h=>h)
def M9 {w w':wD} {b o:Nat} {vs:lV} (h:Row w ⟨b,o,none⟩ vs) (f : ∀o v,w.cell? ⟨b,o,none⟩=some v->w'.cell? ⟨b,o,none⟩=some v):Row w' ⟨b,o,none⟩ vs:=fun i v E=>by
 have:=h.at E;have e:(⟨b,o,none⟩:Addr).add i=⟨b,o+i,none⟩:=by unfold lA;by_cases F:i=0<;>simp [F]
 rw [e];exact f _ _ this
def VDs.move {S S':nP} {w w':wD} {l:List VD} {a:oA} (h:VDs S w l a) (f : ∀b,S b->S' b) (E : ∀b o v,S b->w.cell? ⟨b,o,none⟩=some v->w'.cell? ⟨b,o,none⟩=some v):VDs S' w' l a:=
 h.mono f (fun b o x _ F h=>M9 h (fun o v=>E b o v F))
def VDs.lt2 {S:nP} {w:wD} {l:List VD} {a:oA} (h:VDs S w l a):VDs (fun b=>S b/\b<w.heap.size) w l a:=by
 rcases h with h|⟨b,o,h1,E,f⟩
 . exact kj h
 . cases l with
   | nil=>exact kj rfl
   | cons v r=>exact kp ⟨b,o,h1,⟨E,CQ (Row.at0 (f 0 v rfl) rfl)⟩,f⟩
def FM:Shape VD where
 sz:=3
 rep:=fun _ _ v cs=>cs=v.cells
 len:=fun h=>by rw [h];rfl
 one:=fun h=>by rw [h];rfl
 mono:=fun h _ _=>h
 lt:=fun h=>h
def OwnL.vds {w:wD} {B e:Nat} {a:oA} {len cap:Nat} {xs:List VD} {S:nP} (h:OwnL FM w B e (.slice a len cap) xs) (M : ∀b,B<=b->S b):VDs S w xs a:=by
 by_cases E:xs=[]
 . exact kj E
 . obtain ⟨g,F,L,N,f⟩:=h.rows E;simp only [kT] at L;obtain ⟨rfl,-,-⟩:=L;refine kp ⟨g,0,rfl,M g N,fun i x O=>?_⟩;obtain ⟨cs,U,rfl⟩:=f i x O;simpa [FM,iM] using U
def TI:1<=maxLen:=by unfold maxLen;omega
def OwnL.lit {α:Type} {sh:Shape α} {w:wD} {B b e:Nat} {x:α} {cs:lV} (h:TB w b cs e) (N:B<=b) (L:sh.rep w (fun k=>B<=k/\k≠b) x cs):OwnL sh w B e (.slice (some ⟨b,0,none⟩) 1 1) [x]:=by
 have F:=sh.len L;refine ⟨[cs],⟨by simp [F],kp ⟨b,1,cs.toArray,rfl,N,h,kv _,TI,by simp [F],by simp [<-F]⟩⟩,rfl,fun i y O f E=>?_⟩
 match i,f,E with
 | 0,f,E=>
  simp at f E;subst f E;exact sh.mono L (fun k M=>⟨M.1,fun e=>M.2 (by simpa [lp] using e.symm)⟩) (fun _ _ _ _ h=>h)
def Rows (S:nP) (w:wD) (cs:lV) (a:oA):Prop:=cs=[] \/ ∃b o,a=some ⟨b,o,none⟩/\S b/\Row w ⟨b,o,none⟩ cs
section
variable {S S' T:nP} {w w':wD} {cs:lV} {a:oA}
def Rows.ext (h:Rows S w cs a) (x:Ext w w'):Rows S w' cs a:=h.imp id fun ⟨b,o,h1,h2,h3⟩=>⟨b,o,h1,h2,h3.ext x⟩
instance  : LfE w w' (Rows S w cs a) (Rows S w' cs a):=⟨fun x h=>Bk.Rows.ext h x⟩
def Rows.fr (h:Rows S w cs a) (x:Fr T w w') (f : ∀b,S b -> ¬T b):Rows S w' cs a:=h.imp id fun ⟨b,o,h1,h2,h3⟩=>⟨b,o,h1,h2,h3.fr x (f b h2)⟩
instance  : LfF T w w' (Rows S w cs a) (∀b,S b -> ¬T b) (Rows S w' cs a):=⟨fun x s h=>Bk.Rows.fr h x s⟩
def Rows.wide (h:Rows S w cs a) (f : ∀b,S b->S' b):Rows S' w cs a:=h.imp id fun ⟨b,o,h1,h2,h3⟩=>⟨b,o,h1,f b h2,h3⟩
def Rows.lt2 (h:Rows S w cs a):Rows (fun b=>S b/\b<w.heap.size) w cs a:=by
 rcases h with h|⟨b,o,h1,E,f⟩
 . exact kj h
 . cases cs with
   | nil=>exact kj rfl
   | cons v r=>exact kp ⟨b,o,h1,⟨E,CQ (Row.at0 f rfl)⟩,f⟩
def Rows.ltA (h:Rows S w cs a):Rows (· < w.heap.size) w cs a:=h.lt2.wide fun _ h=>h.2
def Rows.get (h:Rows S w cs a) (f:cs≠[]) : ∃b o,a=some ⟨b,o,none⟩/\S b/\Row w ⟨b,o,none⟩ cs:=h.resolve_left f
def Rows.move (h:Rows S w cs a) (f : ∀b,S b->S' b) (E : ∀b o v,S b->w.cell? ⟨b,o,none⟩=some v->w'.cell? ⟨b,o,none⟩=some v):Rows S' w' cs a:=
 h.imp id fun ⟨b,o,h1,h2,h3⟩=>⟨b,o,h1,f b h2,M9 h3 (fun o v=>E b o v h2)⟩
end
def OwnF (e sz B:Nat) (w:wD) (g cap n:Nat) (cs:lV):Prop:=B<=g/\Own w g e sz (.slice (some ⟨g,0,none⟩) n cap) n cs
def OwnF.lt {e sz B:Nat} {w:wD} {g cap n:Nat} {cs:lV} (h:OwnF e sz B w g cap n cs):g<w.heap.size:=(h.2.blk (k:=g) rfl).2
def OwnF.row {e sz B:Nat} {w:wD} {g cap n:Nat} {cs:lV} (h:OwnF e sz B w g cap n cs):Row w ⟨g,0,none⟩ cs:=by
 rcases h.2.row with ⟨f,-⟩|⟨L,E,f,-,-,F⟩
 . simp at f
 . simp only [kT,kz,Addr.mk.injEq,and_true] at f;obtain ⟨rfl,-⟩:=f;exact F
def OwnF.rows {e sz B:Nat} {w:wD} {g cap n:Nat} {cs:lV} {S:nP} (h:OwnF e sz B w g cap n cs) (f:S g):Rows S w cs (some ⟨g,0,none⟩):=kp ⟨g,0,rfl,f,h.row⟩
def OwnF.le {e sz B:Nat} {w:wD} {g cap n:Nat} {cs:lV} (h:OwnF e sz B w g cap n cs):n<=cap:=by
 rcases h.2.2 with ⟨f,-⟩|⟨M,E,F,f,-,-,L,-⟩
 . simp at f
 . simp only [kT] at f;obtain ⟨-,-,rfl⟩:=f;exact L
section
variable {P:Program} {n:Nat} {l:Sl} {w:wD} {tab:Tab} {zt:E9} {ty:TypeId}
def KD {t e sz1 sz B:Nat} {sE:Sk} (T:TabOk P tab) (ht:AC tab t=some (.slice e,sz1)) (hE:AC tab e=some (sE,sz)) (hB:B<=w.heap.size) :
 Ce P n l (.buildSlice t 0 #[]) ty w (IX fun o w'=> ∃g,o = .slice (some ⟨g,0,none⟩) 0 0/\OwnF e sz B w' g 0 0 []/\w.heap.size<=g/\g<w'.heap.size/\Ext w w'):=by
 unfold Ce;intro a dst pos after g next Q ha hn _;obtain ⟨i,hi,hs⟩:=(T _ _ _ hE).info;have hu:=(T _ _ _ ht).under;have e1:(Instr.buildSlice t 0 #[]).run P w = .ok (.slice (some ⟨w.heap.size,0,none⟩) 0 0) (w.alloc (.cells #[] e)):=by
  simp [Instr.buildSlice,AD hu,Go.sizeOf,typeInfo,hi,Instr.fill,newRow,show Array.range 0 = #[] from rfl]
 have e2:(execOp a.eval ⟨dst,.buildSlice t 0 #[],ty,pos,after,g⟩).run P w = .ok (.value (.slice (some ⟨w.heap.size,0,none⟩) 0 0)) (w.alloc (.cells #[] e)):=by
  simp [execOp,kB,e1,lw]
 unfold lJ;rw [e2];have hx:Ext w (w.alloc (.cells #[] e)):=(Fv w [] e).ext;refine hn _ _ ⟨w.heap.size,rfl,⟨hB,A6,kp ⟨w.heap.size,0,#[],rfl,kv _,?_,kv _,by unfold maxLen;omega,A6,A6⟩⟩,kv _,?_,hx⟩
 . rw [show (w.alloc (Obj.cells #[] e)).heap=w.heap.push (.cells #[] e) from rfl];simp
 . rw [show (w.alloc (Obj.cells #[] e)).heap=w.heap.push (.cells #[] e) from rfl];simp
def KE {x y:Operand} {t e sz1 sz B g cap c k m:Nat} {sE:Sk} {zs:lV} {a:oA} {cs ds:lV} {S:nP} (T:TabOk P tab) (Z:CU P zt) (ht:AC tab t=some (.slice e,sz1)) (hE:AC tab e=some (sE,sz)) (hz:Dj zt e=some zs) (hzl:zs.length=sz)
 (hby:DQ P e=true) (hsz:kH 0 sz=true) (hx:ev l x=some (.slice (some ⟨g,0,none⟩) k cap)) (hy:ev l y=some (.slice a m c)) (hown:OwnF e sz B w g cap k cs) (hs:Rows S w ds a) (hl:ds.length=m*sz) (hone:ds.all mm=true) (hkm:k+m<=100000000000) :
 Ce P n l (.call ⟨.builtin .append,#[x,y],#[t,t]⟩) ty w (IX fun o w'=> ∃g' cap',o = .slice (some ⟨g',0,none⟩) (k+m) cap'/\OwnF e sz B w' g' cap' (k+m) (cs++ds)/\(g'=g\/w.heap.size<=g')/\g'<w'.heap.size/\Fr (fun k=>k=g) w w'):=by
 have hlt:=hown.lt;have hncap:=hown.le;obtain ⟨h0,h1⟩:=hown;have hsz':0<sz:=by simpa using hsz
 by_cases hm:m=0
 . subst hm;have d:ds=[]:=by simpa using hl
   subst d;unfold Ce;intro act dst pos after gd next Q ha hn _;obtain ⟨i,hi,hsz⟩:=(T _ _ _ hE).info;have hun:=(T _ _ _ ht).under;have key : ∃w',(Builtin.append_ #[t,t] ty #[.slice (some ⟨g,0,none⟩) k cap,.slice a 0 c]).run P w = .ok (.slice (some ⟨g,0,none⟩) k cap) w'/\Own w' g e sz (.slice (some ⟨g,0,none⟩) k cap) k cs/\Fr (fun k=>k=g) w w':=by
    cases a with
    | none=>exact ⟨w,Lp w t ty e i hun hi g k cap c hncap,h1,.of_ext (lN w)⟩
    | some p=>
     obtain ⟨w',r1,r2,r3⟩:=run_append_fits (P:=P) w g t ty e i sz hun hi hsz g k cap cs h1 p 0 c [] A6 (fun j u hj=>by simp at hj) (fun u hu=>by cases hu) Aa;refine ⟨w',by simpa using r1,by simpa using r2,?_⟩;have:=Fr.of_grown r3;exact this.weaken (fun b hb=>by simpa using hb)
   obtain ⟨w',hrun,ho,hf⟩:=key;have e1:(execOp act.eval ⟨dst,.call ⟨.builtin .append,#[x,y],#[t,t]⟩,ty,pos,after,gd⟩).run P w = .ok (.value (.slice (some ⟨g,0,none⟩) k cap)) w':=by
    simp only [execOp,resolve,invoke,builtin,kB,kJ,lw,List.map_toArray,lr,List.map_nil,ha.ev hx,ha.ev hy,hrun]
   unfold lJ;rw [e1];have hsz':=hf.size;exact hn _ _ ⟨g,cap,A6,⟨h0,by simpa using ho⟩,kj rfl,Aa,hf⟩
 . have hdn:ds≠[]:=by
    rintro rfl;simp only [ki] at hl;have:=Nat.mul_pos (Nat.pos_of_ne_zero hm) hsz';omega
   obtain ⟨pb,po,rfl,-,d1⟩:=hs.get hdn;have hd:=EW (P:=P) (n:=n) (l:=l) (ty:=ty) T Z ht hE hz hzl hby hsz hx hy h1 d1 hl hone Aa Aa Aa;unfold Ce at hd ⊢;intro act dst pos after gd next Q ha hn q;refine hd act dst pos after gd next Q ha (fun v' w' hG=>?_) (fun w' hG=>hG.elim);obtain ⟨g1,g2,g',cap',g3,g4⟩:=hG;have hf:Fr (fun k=>k=g) w w':=g2.weaken (fun b hb=>by simpa [lp] using hb.symm);subst g3;have hgg:=g1.blk (k:=g') rfl;refine hn _ w' ⟨g',cap',rfl,⟨Aa,?_⟩,?_,hgg.2,hf⟩
   . obtain ⟨k1,k2|⟨g2',f,cur,k3,k4,k5⟩⟩:=g1
     . simp at k2
     . simp only [kT,kz,Addr.mk.injEq,and_true,true_and] at k3;obtain ⟨rfl,rfl⟩:=k3;exact ⟨k1,kp ⟨g',cap',cur,rfl,kv _,k5⟩⟩
   . rcases g4 with h|h
     . simp only [lp,kz] at h;exact kj h.symm
     . exact kp h
end
def Pb {α:Type} {f:α->lV} {sz:Nat} (E : ∀x,(f x).length=sz) {w:wD} {b:Nat} : ∀(l:List α) (o:Nat),(∀(i:Nat) (x:α),l[i]? = some x->Row w ⟨b,o+i*sz,none⟩ (f x))->Row w ⟨b,o,none⟩ (l.flatMap f)
 | [],o,_=>fun i v F=>by simp at F
 | x::r,o,h=>by
  rw [List.flatMap_cons];refine Z7 (by simpa using h 0 x rfl) ?_;rw [E x];refine Pb E r (o+sz) (fun i y L=>?_);have:=h (i+1) y L;rw [show o+sz+i*sz=o+(i+1)*sz by rw [Nat.add_mul];omega];exact this
def Pd {α:Type} {f:α->lV} {sz:Nat} (N : ∀x,(f x).length=sz) {w:wD} {b:Nat} : ∀(l:List α) (o:Nat),Row w ⟨b,o,none⟩ (l.flatMap f) -> ∀(i:Nat) (x:α),l[i]? = some x->Row w ⟨b,o+i*sz,none⟩ (f x)
 | [],_,_,i,x,E=>by simp at E
 | y::r,o,h,i,x,E=>by
  rw [List.flatMap_cons] at h;cases i with
  | zero=>
   simp only [List.getElem?_cons_zero,kz] at E;subst E;intro j v F;have L:j<(f y).length:=by
    rcases kK j (f y).length with M|M
    . exact M
    . rw [kO M] at F;cases F
   have:=h j v (by rw [lI L];exact F);simpa using this
  | succ i=>
   simp only [List.getElem?_cons_succ] at E;have O:Row w ⟨b,o+sz,none⟩ (r.flatMap f):=by
    have:=h.sub sz (r.flatMap f).length;rw [List.drop_left' (N y),kE] at this;exact this
   have:=Pd N r (o+sz) O i x E;rw [show o+(i+1)*sz=o+sz+i*sz by rw [Nat.add_mul];omega];exact this
def IY {α:Type} {f:α->lV} {sz:Nat} (h : ∀x,(f x).length=sz) : ∀l:List α,(l.flatMap f).length=l.length*sz
 | []=>by simp
 | x::r=>by rw [List.flatMap_cons,j9,h x,IY h r,kf,Nat.add_mul];omega
def L0 {α:Type} {f:α->lV} (h : ∀x,(f x).all mm=true) : ∀l:List α,(l.flatMap f).all mm=true
 | []=>rfl
 | x::r=>by rw [List.flatMap_cons,List.all_append,h x,L0 h r];rfl
def Pe {P:Program} {n:Nat} {l:Sl} {S:wD->Prop} {tab:Tab} {t t' ty sz e:Nat} {x:Operand} {a:oA} {m c:Nat} (T:TabOk P tab) (h:AC tab t=some (.slice e,sz)) (E:ev l x=some (.slice a m c)):BA P n l S (.binOp .eql t x (.const (.slice none 0 0)) t') ty (.bool a.isNone):=by
 unfold BA;intro f w F pos after g L _;have M:P.underlying t=some (.slice e):=(T _ _ _ h).under;have N:(eqGuard .eql t x (.const (.slice none 0 0)) (.slice a m c) (.slice none 0 0)).run P w = .ok () w:=by unfold eqGuard;simp
 have O:(Op.equal t (.slice a m c) (.slice none 0 0)).run P w = .ok a.isNone w:=by
  show (Op.equalIn (9999+1) t (.slice a m c) (.slice none 0 0)).run P w=_;unfold Op.equalIn;cases a<;>simp [AD M,kn]
 have U:f.eval (.const (.slice none 0 0)) = .slice none 0 0:=rfl;simp [execOp,L.ev E,U,N,O,binOp]
def Na {P:Program} {n:Nat} {l:Sl} {S:wD->Prop} {tab:Tab} {t t' ty sz e:Nat} {x:Operand} {m c:Nat} (T:TabOk P tab) (f:AC tab t=some (.slice e,sz)) (h:ev l x=some (.slice none m c)):BA P n l S (.binOp .eql t x (.const (.slice none 0 0)) t') ty (.bool true):=Pe T f h
def Nb {P:Program} {n:Nat} {l:Sl} {S:wD->Prop} {tab:Tab} {t t' ty sz e:Nat} {x:Operand} {p:Addr} {m c:Nat} (T:TabOk P tab) (f:AC tab t=some (.slice e,sz)) (h:ev l x=some (.slice (some p) m c)):BA P n l S (.binOp .eql t x (.const (.slice none 0 0)) t') ty (.bool false):=Pe T f h
end Bk
namespace Go.Proofs
open Go.Shelf
def Tryz.lays170_ren:Go.Shelf.Ren:=⟨fun|170=>34|n=>n,fun|70=>66|3=>3|0=>0|72=>69|37=>67|5=>5|n=>n,fun|n=>n⟩
def Tryz.lays170:Go.Proofs.Lays.n170 prog Tryz.lays170_ren:={
 mixed:=by kernel_rfl
 f170:=func34.trans (congrArg some (by kernel_rfl))
 t0:=underlying0
 a0:=isAgg0
 z0:=sizeOf0
 v0:=zeroValue0
 t3:=underlying3
 a3:=isAgg3
 z3:=sizeOf3
 v3:=zeroValue3
 t37:=underlying67
 a37:=isAgg67
 z37:=sizeOf67
 v37:=zeroValue67
 t70:=underlying66
 a70:=isAgg66
 z70:=sizeOf66
 v70:=zeroValue66
 t72:=underlying69
 a72:=isAgg69
 z72:=sizeOf69
 v72:=zeroValue69 }
def Tryz.lays156_ren:Go.Shelf.Ren:=⟨fun|156=>63|165=>105|166=>31|169=>35|240=>60|241=>149|276=>103|277=>199|n=>n,fun|31=>117|9=>9|3=>3|4=>4|0=>0|20=>20|72=>69|76=>73|70=>66|37=>67|75=>72|127=>128|164=>170|5=>5|80=>78|n=>n,fun|n=>n⟩
def Tryz.lays156:Go.Proofs.Lays.n156 prog Tryz.lays156_ren:={
 mixed:=by kernel_rfl
 f156:=func63.trans (congrArg some (by kernel_rfl))
 f165:=func105.trans (congrArg some (by kernel_rfl))
 f166:=func31.trans (congrArg some (by kernel_rfl))
 f169:=func35.trans (congrArg some (by kernel_rfl))
 f240:=func60.trans (congrArg some (by kernel_rfl))
 f241:=func149.trans (congrArg some (by kernel_rfl))
 f276:=func103.trans (congrArg some (by kernel_rfl))
 f277:=func199.trans (congrArg some (by kernel_rfl))
 t0:=underlying0
 a0:=isAgg0
 z0:=sizeOf0
 v0:=zeroValue0
 t3:=underlying3
 a3:=isAgg3
 z3:=sizeOf3
 v3:=zeroValue3
 t4:=underlying4
 a4:=isAgg4
 z4:=sizeOf4
 v4:=zeroValue4
 t9:=underlying9
 a9:=isAgg9
 z9:=sizeOf9
 v9:=zeroValue9
 t20:=underlying20
 a20:=isAgg20
 z20:=sizeOf20
 v20:=zeroValue20
 t31:=underlying117
 a31:=isAgg117
 z31:=sizeOf117
 v31:=zeroValue117
 t37:=underlying67
 a37:=isAgg67
 z37:=sizeOf67
 v37:=zeroValue67
 t70:=underlying66
 a70:=isAgg66
 z70:=sizeOf66
 v70:=zeroValue66
 t72:=underlying69
 a72:=isAgg69
 z72:=sizeOf69
 v72:=zeroValue69
 t75:=underlying72
 a75:=isAgg72
 z75:=sizeOf72
 v75:=zeroValue72
 t76:=underlying73
 a76:=isAgg73
 z76:=sizeOf73
 v76:=zeroValue73
 t127:=underlying128
 a127:=isAgg128
 z127:=sizeOf128
 v127:=zeroValue128
 t164:=underlying170
 a164:=isAgg170
 z164:=sizeOf170
 v164:=zeroValue170 }
def Tryz.Builder_Extra_156:Builder.Extra prog Tryz.lays156_ren:={
 sizeBuilder:=by kernel_rfl
 liesBuilder:=by kernel_rfl
 t5:=underlying5
 a5:=isAgg5
 z5:=sizeOf5
 v5:=zeroValue5
 infoByte:=by kernel_rfl
 cellsByte:=by kernel_rfl
 sizeByte:=by kernel_rfl
 neB5:=by decide }
open Go.RowKit in
def Tryz.strings_Join_none (a:Option Addr) (c:Nat) (sep:ByteArray) (w:World) :
 Calls prog 63 #[.slice a 0 c,.string sep] w fun e w'=>e = .returned (.string ⟨#[]⟩)/\w'=w:=Any.strings_Join_none Tryz.lays156 Tryz.Builder_Extra_156 a c sep w
open Go.RowKit in
def Tryz.strings_Join (bk o c:Nat) (xs:List ByteArray) (sep:ByteArray) (w:World) (hcells : ∀(j:Nat) x,xs[j]? = some x->w.cell? ⟨bk,o+j,none⟩=some (.string x)) (hbk:bk<w.heap.size) (hN:xs.length<=140737488355328) (hcap:xs.length<=c) (hlen:(Lib.join (xs.map (·.data.toList)) sep.data.toList).length<=140737488355328) :
 Calls prog 63 #[.slice (some ⟨bk,o,none⟩) xs.length c,.string sep] w fun e w'=>e = .returned (.string ⟨(Lib.join (xs.map (·.data.toList)) sep.data.toList).toArray⟩)/\Below w.heap.size w w':=Any.strings_Join Tryz.lays156 Tryz.Builder_Extra_156 bk o c xs sep w hcells hbk hN hcap hlen
def Tryz.lays137_ren:Go.Shelf.Ren:=⟨fun|137=>112|217=>150|266=>200|n=>n,fun|9=>9|5=>5|3=>3|n=>n,fun|n=>n⟩
def Tryz.lays137:Go.Proofs.Lays.n137 prog Tryz.lays137_ren:={
 mixed:=by kernel_rfl
 f137:=func112.trans (congrArg some (by kernel_rfl))
 f217:=func150.trans (congrArg some (by kernel_rfl))
 f266:=func200.trans (congrArg some (by kernel_rfl))
 t3:=underlying3
 a3:=isAgg3
 z3:=sizeOf3
 v3:=zeroValue3
 t5:=underlying5
 a5:=isAgg5
 z5:=sizeOf5
 v5:=zeroValue5
 t9:=underlying9
 a9:=isAgg9
 z9:=sizeOf9
 v9:=zeroValue9 }
open Go.RowKit in
def Tryz.strings_IndexByte (s:ByteArray) (c:Int) (w:World) :
 Calls prog 112 #[.string s,.int .u8 c] w fun e w'=>e = .returned (.int .i64 (li s.data.toList c.toNat.toUInt8))/\w'=w:=Any.strings_IndexByte Tryz.lays137 s c w
open Go.RowKit in
def Tryz.Builder_Len_f (B b:Nat) (bs:List Value) (w:World) (h:Lib.IsBuilderF 69 5 B b bs w) :
 Calls prog 34 #[.pointer (some ⟨b,0,none⟩)] w fun e w'=>e = .returned (.int .i64 bs.length)/\w'=w:=Any.Builder_Len_f Tryz.lays170 B b bs w h
def Tryz.laysM171_ren:Go.Shelf.Ren:=⟨fun|171=>62|243=>104|246=>148|283=>195|284=>196|285=>197|286=>198|129=>233|317=>232|318=>234|319=>235|320=>236|337=>251|338=>252|n=>n,fun|3=>3|9=>9|2=>2|4=>4|171=>239|0=>0|53=>240|37=>67|5=>5|173=>243|212=>261|51=>246|20=>20|213=>262|46=>214|232=>294|233=>295|n=>n,fun|17=>2|18=>5|19=>6|n=>n⟩
def Tryz.laysM171:Go.Proofs.LaysM.n171 prog Tryz.laysM171_ren:={
 mixed:=by kernel_rfl
 f129:=func233.trans (congrArg some (by kernel_rfl))
 f171:=func62.trans (congrArg some (by kernel_rfl))
 f243:=func104.trans (congrArg some (by kernel_rfl))
 f246:=func148.trans (congrArg some (by kernel_rfl))
 f283:=func195.trans (congrArg some (by kernel_rfl))
 f284:=func196.trans (congrArg some (by kernel_rfl))
 f285:=func197.trans (congrArg some (by kernel_rfl))
 f286:=func198.trans (congrArg some (by kernel_rfl))
 f317:=func232.trans (congrArg some (by kernel_rfl))
 f318:=func234.trans (congrArg some (by kernel_rfl))
 f319:=func235.trans (congrArg some (by kernel_rfl))
 f320:=func236.trans (congrArg some (by kernel_rfl))
 f337:=func251.trans (congrArg some (by kernel_rfl))
 f338:=func252.trans (congrArg some (by kernel_rfl))
 t0:=underlying0
 a0:=isAgg0
 z0:=sizeOf0
 v0:=zeroValue0
 t2:=underlying2
 a2:=isAgg2
 z2:=sizeOf2
 v2:=zeroValue2
 t3:=underlying3
 a3:=isAgg3
 z3:=sizeOf3
 v3:=zeroValue3
 t4:=underlying4
 a4:=isAgg4
 z4:=sizeOf4
 v4:=zeroValue4
 t5:=underlying5
 a5:=isAgg5
 z5:=sizeOf5
 v5:=zeroValue5
 t9:=underlying9
 a9:=isAgg9
 z9:=sizeOf9
 v9:=zeroValue9
 t20:=underlying20
 a20:=isAgg20
 z20:=sizeOf20
 v20:=zeroValue20
 t37:=underlying67
 a37:=isAgg67
 z37:=sizeOf67
 v37:=zeroValue67
 t46:=underlying214
 a46:=isAgg214
 z46:=sizeOf214
 v46:=zeroValue214
 t51:=underlying246
 a51:=isAgg246
 z51:=sizeOf246
 v51:=zeroValue246
 t53:=underlying240
 a53:=isAgg240
 z53:=sizeOf240
 v53:=zeroValue240
 t171:=underlying239
 a171:=isAgg239
 z171:=sizeOf239
 v171:=zeroValue239
 t173:=underlying243
 a173:=isAgg243
 z173:=sizeOf243
 v173:=zeroValue243
 t212:=underlying261
 a212:=isAgg261
 z212:=sizeOf261
 v212:=zeroValue261
 t213:=underlying262
 a213:=isAgg262
 z213:=sizeOf262
 t232:=underlying294
 a232:=isAgg294
 z232:=sizeOf294
 v232:=zeroValue294
 t233:=underlying295
 a233:=isAgg295
 z233:=sizeOf295
 v233:=zeroValue295
 g17:=by kernel_rfl
 g18:=by kernel_rfl
 g19:=by kernel_rfl
 i0:=by kernel_rfl
 i2:=by kernel_rfl
 i3:=by kernel_rfl
 i4:=by kernel_rfl
 i5:=by kernel_rfl
 i9:=by kernel_rfl
 i20:=by kernel_rfl
 i37:=by kernel_rfl
 i46:=by kernel_rfl
 i51:=by kernel_rfl
 i53:=by kernel_rfl
 i171:=by kernel_rfl
 i173:=by kernel_rfl
 i212:=by kernel_rfl
 i232:=by kernel_rfl
 i233:=by kernel_rfl
 m17:=by kernel_rfl
 m18:=by kernel_rfl
 m19:=by kernel_rfl }
open Go.RowKit Go.Sort Go.Lib in
def Tryz.strconv_Itoa (n:Int) (h0 : -9223372036854775808<=n) (h1:n<=9223372036854775807) (w:World) (htab:Lib.TabIs prog w "internal/strconv.uint64pow10" .u64 Lib.pow10Tab) :
 Calls prog 62 #[.int .i64 n] w fun e w'=>e = .returned (.string ⟨(Lib.itoa n).toArray⟩) /\ ∃k os,w'=grow (w.drewN k) os:=Any.strconv_Itoa Tryz.laysM171 n h0 h1 w htab
def Tryz.laysC172_ren:Go.Shelf.Ren:=⟨fun|172=>156|244=>207|245=>208|247=>241|279=>242|280=>243|281=>244|282=>245|287=>254|316=>255|171=>62|205=>256|321=>272|322=>273|243=>104|246=>148|283=>195|284=>196|285=>197|286=>198|129=>233|317=>232|318=>234|319=>235|320=>236|337=>251|338=>252|n=>n,fun|9=>9|3=>3|75=>72|76=>73|4=>4|5=>5|167=>268|37=>67|0=>0|85=>269|2=>2|168=>271|53=>240|175=>279|46=>214|210=>283|127=>128|145=>302|143=>300|21=>21|171=>239|173=>243|212=>261|51=>246|20=>20|213=>262|232=>294|233=>295|80=>78|n=>n,fun|15=>3|16=>4|17=>2|18=>5|19=>6|n=>n⟩
def Tryz.laysC172:Go.Proofs.LaysC.n172 prog Tryz.laysC172_ren:={
 mixed:=by kernel_rfl
 f129:=func233.trans (congrArg some (by kernel_rfl))
 f171:=func62.trans (congrArg some (by kernel_rfl))
 f172:=func156.trans (congrArg some (by kernel_rfl))
 f205:=func256.trans (congrArg some (by kernel_rfl))
 f243:=func104.trans (congrArg some (by kernel_rfl))
 f244:=func207.trans (congrArg some (by kernel_rfl))
 f245:=func208.trans (congrArg some (by kernel_rfl))
 f246:=func148.trans (congrArg some (by kernel_rfl))
 f247:=func241.trans (congrArg some (by kernel_rfl))
 f279:=func242.trans (congrArg some (by kernel_rfl))
 f280:=func243.trans (congrArg some (by kernel_rfl))
 f281:=func244.trans (congrArg some (by kernel_rfl))
 f282:=func245.trans (congrArg some (by kernel_rfl))
 f283:=func195.trans (congrArg some (by kernel_rfl))
 f284:=func196.trans (congrArg some (by kernel_rfl))
 f285:=func197.trans (congrArg some (by kernel_rfl))
 f286:=func198.trans (congrArg some (by kernel_rfl))
 f287:=func254.trans (congrArg some (by kernel_rfl))
 f316:=func255.trans (congrArg some (by kernel_rfl))
 f317:=func232.trans (congrArg some (by kernel_rfl))
 f318:=func234.trans (congrArg some (by kernel_rfl))
 f319:=func235.trans (congrArg some (by kernel_rfl))
 f320:=func236.trans (congrArg some (by kernel_rfl))
 f321:=func272.trans (congrArg some (by kernel_rfl))
 f322:=func273.trans (congrArg some (by kernel_rfl))
 f337:=func251.trans (congrArg some (by kernel_rfl))
 f338:=func252.trans (congrArg some (by kernel_rfl))
 t0:=underlying0
 a0:=isAgg0
 z0:=sizeOf0
 v0:=zeroValue0
 t2:=underlying2
 a2:=isAgg2
 z2:=sizeOf2
 v2:=zeroValue2
 t3:=underlying3
 a3:=isAgg3
 z3:=sizeOf3
 v3:=zeroValue3
 t4:=underlying4
 a4:=isAgg4
 z4:=sizeOf4
 v4:=zeroValue4
 t5:=underlying5
 a5:=isAgg5
 z5:=sizeOf5
 v5:=zeroValue5
 t9:=underlying9
 a9:=isAgg9
 z9:=sizeOf9
 v9:=zeroValue9
 t20:=underlying20
 a20:=isAgg20
 z20:=sizeOf20
 v20:=zeroValue20
 t21:=underlying21
 a21:=isAgg21
 z21:=sizeOf21
 v21:=zeroValue21
 t37:=underlying67
 a37:=isAgg67
 z37:=sizeOf67
 v37:=zeroValue67
 t46:=underlying214
 a46:=isAgg214
 z46:=sizeOf214
 v46:=zeroValue214
 t51:=underlying246
 a51:=isAgg246
 z51:=sizeOf246
 v51:=zeroValue246
 t53:=underlying240
 a53:=isAgg240
 z53:=sizeOf240
 v53:=zeroValue240
 t75:=underlying72
 a75:=isAgg72
 z75:=sizeOf72
 v75:=zeroValue72
 t76:=underlying73
 a76:=isAgg73
 z76:=sizeOf73
 v76:=zeroValue73
 t85:=underlying269
 a85:=isAgg269
 z85:=sizeOf269
 v85:=zeroValue269
 t127:=underlying128
 a127:=isAgg128
 z127:=sizeOf128
 v127:=zeroValue128
 t143:=underlying300
 a143:=isAgg300
 z143:=sizeOf300
 v143:=zeroValue300
 t145:=underlying302
 a145:=isAgg302
 z145:=sizeOf302
 v145:=zeroValue302
 t167:=underlying268
 a167:=isAgg268
 z167:=sizeOf268
 v167:=zeroValue268
 t168:=underlying271
 a168:=isAgg271
 z168:=sizeOf271
 v168:=zeroValue271
 t171:=underlying239
 a171:=isAgg239
 z171:=sizeOf239
 v171:=zeroValue239
 t173:=underlying243
 a173:=isAgg243
 z173:=sizeOf243
 v173:=zeroValue243
 t175:=underlying279
 a175:=isAgg279
 z175:=sizeOf279
 v175:=zeroValue279
 t210:=underlying283
 a210:=isAgg283
 z210:=sizeOf283
 v210:=zeroValue283
 t212:=underlying261
 a212:=isAgg261
 z212:=sizeOf261
 v212:=zeroValue261
 t213:=underlying262
 a213:=isAgg262
 z213:=sizeOf262
 t232:=underlying294
 a232:=isAgg294
 z232:=sizeOf294
 v232:=zeroValue294
 t233:=underlying295
 a233:=isAgg295
 z233:=sizeOf295
 v233:=zeroValue295
 g15:=by kernel_rfl
 g16:=by kernel_rfl
 g17:=by kernel_rfl
 g18:=by kernel_rfl
 g19:=by kernel_rfl
 t80:=underlying78
 a80:=isAgg78
 z80:=sizeOf78
 v80:=zeroValue78
 i0:=by kernel_rfl
 i2:=by kernel_rfl
 i3:=by kernel_rfl
 i4:=by kernel_rfl
 i5:=by kernel_rfl
 i9:=by kernel_rfl
 i20:=by kernel_rfl
 i21:=by kernel_rfl
 i37:=by kernel_rfl
 i46:=by kernel_rfl
 i51:=by kernel_rfl
 i53:=by kernel_rfl
 i75:=by kernel_rfl
 i76:=by kernel_rfl
 i80:=by kernel_rfl
 i85:=by kernel_rfl
 i127:=by kernel_rfl
 i143:=by kernel_rfl
 i145:=by kernel_rfl
 i167:=by kernel_rfl
 i168:=by kernel_rfl
 i171:=by kernel_rfl
 i173:=by kernel_rfl
 i175:=by kernel_rfl
 i210:=by kernel_rfl
 i212:=by kernel_rfl
 i232:=by kernel_rfl
 i233:=by kernel_rfl
 m15:=by kernel_rfl
 m16:=by kernel_rfl
 m17:=by kernel_rfl
 m18:=by kernel_rfl
 m19:=by kernel_rfl
 c0:=by kernel_rfl
 c2:=by kernel_rfl
 c3:=by kernel_rfl
 c4:=by kernel_rfl
 c5:=by kernel_rfl
 c9:=by kernel_rfl
 c20:=by kernel_rfl
 c21:=by kernel_rfl
 c37:=by kernel_rfl
 c46:=by kernel_rfl
 c51:=by kernel_rfl
 c53:=by kernel_rfl
 c75:=by kernel_rfl
 c76:=by kernel_rfl
 c80:=by kernel_rfl
 c85:=by kernel_rfl
 c127:=by kernel_rfl
 c143:=by kernel_rfl
 c145:=by kernel_rfl
 c167:=by kernel_rfl
 c168:=by kernel_rfl
 c171:=by kernel_rfl
 c173:=by kernel_rfl
 c175:=by kernel_rfl
 c210:=by kernel_rfl
 c212:=by kernel_rfl
 c213:=by kernel_rfl
 c232:=by kernel_rfl
 c233:=by kernel_rfl }
open Go.RowKit in
def Tryz.strconv_Atoi_ok (s:ByteArray) (hmax:s.size<=9223372036854775806) (v:Int) (h:Lib.atoiAll s.data.toList = .ok v) (w:World) :
 Calls prog 156 #[.string s] w fun e w'=>e = .returned (.tuple #[.int .i64 v,.nilIface])/\(w'=w \/ ∃t,w'=Lib.bytesWorld w 5 t):=Any.strconv_Atoi_ok Tryz.laysC172 s hmax v h w
open Go.RowKit in
def Tryz.strconv_Atoi_range (s:ByteArray) (hlim:s.size<=281474976710656) (h:Lib.atoiAll s.data.toList = .range) (ev:Value) (w:World) (hv:w.cell? ⟨4,0,none⟩=some ev) (hev:ev = .nilIface \/ ∃te pe,ev = .iface te pe) :
 Calls prog 156 #[.string s] w fun e w'=> ∃N,e = .returned (.tuple #[.int .i64 (Lib.atoiSat s.data.toList),.iface 271 (.pointer (some ⟨N,0,none⟩))])/\w.heap.size<=N/\w'.heap[N]? = some (.cells #[.string ⟨#[65,116,111,105]⟩,.string s,ev] 283 (0,0))/\Below w.heap.size w w':=Any.strconv_Atoi_range Tryz.laysC172 s hlim h ev w hv hev
def Tryz.lays145_ren:Go.Shelf.Ren:=⟨fun|145=>69|220=>109|219=>106|217=>150|225=>151|224=>152|267=>153|266=>200|314=>201|n=>n,fun|9=>9|4=>4|59=>82|3=>3|5=>5|46=>214|146=>247|51=>246|n=>n,fun|1=>0|n=>n⟩
def Tryz.lays145:Go.Proofs.Lays.n145 prog Tryz.lays145_ren:={
 mixed:=by kernel_rfl
 f145:=func69.trans (congrArg some (by kernel_rfl))
 f217:=func150.trans (congrArg some (by kernel_rfl))
 f219:=func106.trans (congrArg some (by kernel_rfl))
 f220:=func109.trans (congrArg some (by kernel_rfl))
 f224:=func152.trans (congrArg some (by kernel_rfl))
 f225:=func151.trans (congrArg some (by kernel_rfl))
 f266:=func200.trans (congrArg some (by kernel_rfl))
 f267:=func153.trans (congrArg some (by kernel_rfl))
 f314:=func201.trans (congrArg some (by kernel_rfl))
 t3:=underlying3
 a3:=isAgg3
 z3:=sizeOf3
 v3:=zeroValue3
 t4:=underlying4
 a4:=isAgg4
 z4:=sizeOf4
 v4:=zeroValue4
 t5:=underlying5
 a5:=isAgg5
 z5:=sizeOf5
 v5:=zeroValue5
 t9:=underlying9
 a9:=isAgg9
 z9:=sizeOf9
 v9:=zeroValue9
 t46:=underlying214
 a46:=isAgg214
 z46:=sizeOf214
 v46:=zeroValue214
 t51:=underlying246
 a51:=isAgg246
 z51:=sizeOf246
 v51:=zeroValue246
 t59:=underlying82
 a59:=isAgg82
 z59:=sizeOf82
 v59:=zeroValue82
 t146:=underlying247
 a146:=isAgg247
 z146:=sizeOf247
 v146:=zeroValue247
 g1:=by kernel_rfl }
open Go.RowKit Go.Lib in
def Tryz.strings_Cut (s sep:ByteArray) (m:Int) (w:World) (hs:s.size<4294967281) (hm:w.cell? ⟨0,0,none⟩=some (.int .i64 m)) :
 Calls prog 69 #[.string s,.string sep] w fun e w'=>e = .returned (.tuple #[.string ⟨(Lib.cut s.data.toList sep.data.toList).1.toArray⟩,.string ⟨(Lib.cut s.data.toList sep.data.toList).2.1.toArray⟩,.bool (Lib.cut s.data.toList sep.data.toList).2.2]) /\ ∃n,w'=w.drewN n:=Any.strings_Cut Tryz.lays145 s sep m w hs hm
def Tryz.lays138_ren:Go.Shelf.Ren:=⟨fun|138=>33|195=>64|218=>65|143=>66|219=>106|217=>150|225=>151|224=>152|267=>153|266=>200|314=>201|n=>n,fun|9=>9|3=>3|4=>4|5=>5|0=>0|46=>214|146=>247|51=>246|n=>n,fun|1=>0|n=>n⟩
def Tryz.lays138:Go.Proofs.Lays.n138 prog Tryz.lays138_ren:={
 mixed:=by kernel_rfl
 f138:=func33.trans (congrArg some (by kernel_rfl))
 f143:=func66.trans (congrArg some (by kernel_rfl))
 f195:=func64.trans (congrArg some (by kernel_rfl))
 f217:=func150.trans (congrArg some (by kernel_rfl))
 f218:=func65.trans (congrArg some (by kernel_rfl))
 f219:=func106.trans (congrArg some (by kernel_rfl))
 f224:=func152.trans (congrArg some (by kernel_rfl))
 f225:=func151.trans (congrArg some (by kernel_rfl))
 f266:=func200.trans (congrArg some (by kernel_rfl))
 f267:=func153.trans (congrArg some (by kernel_rfl))
 f314:=func201.trans (congrArg some (by kernel_rfl))
 t0:=underlying0
 a0:=isAgg0
 z0:=sizeOf0
 v0:=zeroValue0
 t3:=underlying3
 a3:=isAgg3
 z3:=sizeOf3
 v3:=zeroValue3
 t4:=underlying4
 a4:=isAgg4
 z4:=sizeOf4
 v4:=zeroValue4
 t5:=underlying5
 a5:=isAgg5
 z5:=sizeOf5
 v5:=zeroValue5
 t9:=underlying9
 a9:=isAgg9
 z9:=sizeOf9
 v9:=zeroValue9
 t46:=underlying214
 a46:=isAgg214
 z46:=sizeOf214
 v46:=zeroValue214
 t51:=underlying246
 a51:=isAgg246
 z51:=sizeOf246
 v51:=zeroValue246
 t146:=underlying247
 a146:=isAgg247
 z146:=sizeOf247
 v146:=zeroValue247
 g1:=by kernel_rfl }
open Go.RowKit Go.Lib in
def Tryz.strings_Count_one (s:ByteArray) (c:UInt8) (w:World) :
 Calls prog 33 #[.string s,.string ⟨#[c]⟩] w fun e w'=>e = .returned (.int .i64 (Lib.countByte s.data.toList c))/\w'=w:=Any.strings_Count_one Tryz.lays138 s c w
def Tryz.lays99_ren:Go.Shelf.Ren:=⟨fun|99=>127|206=>176|n=>n,fun|9=>9|4=>4|3=>3|n=>n,fun|n=>n⟩
def Tryz.lays99:Go.Proofs.Lays.n99 prog Tryz.lays99_ren:={
 mixed:=by kernel_rfl
 f99:=func127.trans (congrArg some (by kernel_rfl))
 f206:=func176.trans (congrArg some (by kernel_rfl))
 t3:=underlying3
 a3:=isAgg3
 z3:=sizeOf3
 v3:=zeroValue3
 t4:=underlying4
 a4:=isAgg4
 z4:=sizeOf4
 v4:=zeroValue4
 t9:=underlying9
 a9:=isAgg9
 z9:=sizeOf9
 v9:=zeroValue9 }
open Go.RowKit Go.Lib in
def Tryz.strings_HasPrefix (s p:ByteArray) (w:World) :
 Calls prog 127 #[.string s,.string p] w fun e w'=>e = .returned (.bool (Lib.hasPrefix s.data.toList p.data.toList))/\w'=w:=Any.strings_HasPrefix Tryz.lays99 s p w
def Tryz.lays146_ren:Go.Shelf.Ren:=⟨fun|146=>110|221=>155|268=>206|138=>33|143=>66|195=>64|197=>240|218=>65|219=>106|260=>253|217=>150|225=>151|224=>152|267=>153|266=>200|314=>201|n=>n,fun|9=>9|31=>117|3=>3|4=>4|0=>0|105=>266|21=>21|5=>5|46=>214|119=>296|139=>299|138=>298|146=>247|51=>246|n=>n,fun|1=>0|3=>7|4=>8|n=>n⟩
def Tryz.lays146:Go.Proofs.Lays.n146 prog Tryz.lays146_ren:={
 mixed:=by kernel_rfl
 f138:=func33.trans (congrArg some (by kernel_rfl))
 f143:=func66.trans (congrArg some (by kernel_rfl))
 f146:=func110.trans (congrArg some (by kernel_rfl))
 f195:=func64.trans (congrArg some (by kernel_rfl))
 f197:=func240.trans (congrArg some (by kernel_rfl))
 f217:=func150.trans (congrArg some (by kernel_rfl))
 f218:=func65.trans (congrArg some (by kernel_rfl))
 f219:=func106.trans (congrArg some (by kernel_rfl))
 f221:=func155.trans (congrArg some (by kernel_rfl))
 f224:=func152.trans (congrArg some (by kernel_rfl))
 f225:=func151.trans (congrArg some (by kernel_rfl))
 f260:=func253.trans (congrArg some (by kernel_rfl))
 f266:=func200.trans (congrArg some (by kernel_rfl))
 f267:=func153.trans (congrArg some (by kernel_rfl))
 f268:=func206.trans (congrArg some (by kernel_rfl))
 f314:=func201.trans (congrArg some (by kernel_rfl))
 t0:=underlying0
 a0:=isAgg0
 z0:=sizeOf0
 v0:=zeroValue0
 t3:=underlying3
 a3:=isAgg3
 z3:=sizeOf3
 v3:=zeroValue3
 t4:=underlying4
 a4:=isAgg4
 z4:=sizeOf4
 v4:=zeroValue4
 t5:=underlying5
 a5:=isAgg5
 z5:=sizeOf5
 v5:=zeroValue5
 t9:=underlying9
 a9:=isAgg9
 z9:=sizeOf9
 v9:=zeroValue9
 t21:=underlying21
 a21:=isAgg21
 z21:=sizeOf21
 v21:=zeroValue21
 t31:=underlying117
 a31:=isAgg117
 z31:=sizeOf117
 v31:=zeroValue117
 t46:=underlying214
 a46:=isAgg214
 z46:=sizeOf214
 v46:=zeroValue214
 t51:=underlying246
 a51:=isAgg246
 z51:=sizeOf246
 v51:=zeroValue246
 t105:=underlying266
 a105:=isAgg266
 z105:=sizeOf266
 v105:=zeroValue266
 t119:=underlying296
 a119:=isAgg296
 z119:=sizeOf296
 t138:=underlying298
 a138:=isAgg298
 z138:=sizeOf298
 v138:=zeroValue298
 t139:=underlying299
 a139:=isAgg299
 z139:=sizeOf299
 v139:=zeroValue299
 t146:=underlying247
 a146:=isAgg247
 z146:=sizeOf247
 v146:=zeroValue247
 g1:=by kernel_rfl
 g3:=by kernel_rfl
 g4:=by kernel_rfl }
open Go.RowKit Go.Lib in
def Tryz.strings_Split (s sep:ByteArray) (m:Int) (w:World) (hs:s.size<4294967281) (hm:w.cell? ⟨0,0,none⟩=some (.int .i64 m)) (h1:1<=sep.size) :
 Calls prog 110 #[.string s,.string sep] w fun e w'=>
  e = .returned (.slice (some ⟨w.heap.size,0,none⟩) (Lib.countB s sep+1) (Lib.countB s sep+1))/\w'=w.alloc (.cells ((Lib.splitB sep 0 (Lib.countB s sep) s).map Value.string).toArray 9):=Any.strings_Split Tryz.lays146 (by kernel_rfl) s sep m w hs hm h1
end Go.Proofs
namespace Bk
open Go Go.RowKit Go.Proofs
def QC {k:IntKind} {a b:Int} (h:a=b):Ending.returned (.int k a) = .returned (.int k b):=by rw [h]
def Z8 {a b:lB} (h:a=b):Ending.returned (str a) = .returned (str b):=by rw [h]
def AN {a b:Bool} (h:a=b):Ending.returned (.bool a) = .returned (.bool b):=by rw [h]
def D4 (k:Int) (w:wD) (h0:0<=k) (h1:k<=255):Calls prog 231 #[.int .u8 k] w fun e w'=>e = .returned (.int .i64 (Bv k))/\w=w':=by
 go_enter func231,ntmps231
 go_wp2_with fail
 all_goals go_ret
 all_goals (refine ⟨QC ?_,rfl⟩;(try simp only [beq_iff_eq,beq_eq_false_iff_ne,ne_eq,bne_iff_ne,decide_eq_true_eq,decide_eq_false_iff_not] at *);first|(subst k;rfl)|(unfold Bv;(repeat' split)<;>omega))
structure Syms (w:wD):Prop where
 sym : ∀i,i<43->w.cell? ⟨1,i,none⟩=some (str (symbols.getD i []))
def Syms.ext {w w':wD} (h:Syms w) (x:Ext w w'):Syms w':=⟨fun i f=>x.keep (h.sym i f)⟩
instance {w w':wD}:LfE w w' (Syms w) (Syms w'):=⟨fun x h=>Bk.Syms.ext h x⟩
def Syms.fr {S:nP} {w w':wD} (h:Syms w) (x:Fr S w w') (f : ∀k,S k->1<k):Syms w':=⟨fun i E=>x.keep (fun e=>by have:=f _ e;omega) (h.sym i E)⟩
instance {S:nP} {w w':wD}:LfF S w w' (Syms w) (∀k,S k->1<k) (Syms w'):=⟨fun x s h=>Bk.Syms.fr h x s⟩
def TJ (k:Int) (h:43<=k):Cl k=[]:=by
 unfold Cl;rw [List.getD_eq_getElem?_getD,kO (show 43<=k.toNat by omega)];rfl
def IZ (k:Int) (w:wD) (h0:0<=k) (h1:k<=255) (ht:Syms w):Calls prog 160 #[.int .u8 k] w fun e w'=>e = .returned (str (Cl k))/\w=w':=by
 by_cases hk:k<43
 . have g:=ht.sym k.toNat (by omega)
   have G:Hid (symbols.getD k.toNat []=Cl k):=kh rfl;clear ht
   go_enter func160,ntmps160
   go_wp2_with fail
   go_ret
   rw [<-G.out]
   exact ⟨by simp [go_sem],rfl⟩
 . have hn:=TJ k (by omega)
   have HN:=kh hn;clear hn ht
   go_enter func160,ntmps160
   go_wp2_with fail
   go_ret
   rw [HN.out]
   exact ⟨rfl,rfl⟩
def RI (c:UInt8) (w:wD):Calls prog 78 #[.int .u8 c.toNat] w fun e w'=>e = .returned (.bool (CG c))/\w=w':=by
 go_enter func78,ntmps78
 go_wp2_with fail
 all_goals go_ret
 all_goals (refine ⟨AN ?_,rfl⟩;unfold CG;rw [Bool.eq_iff_iff];simp;try omega)
def QD (c:UInt8) (w:wD):Calls prog 81 #[.int .u8 c.toNat] w fun e w'=>e = .returned (.bool (B5 c))/\w=w':=by
 go_enter func81,ntmps81
 go_wp2_with fail
 all_goals go_ret
 all_goals (refine ⟨AN ?_,rfl⟩;unfold B5;rw [Bool.eq_iff_iff];simp;try omega)
def U4 (c:UInt8) (w:wD):Calls prog 82 #[.int .u8 c.toNat] w fun e w'=>e = .returned (.bool (Dn c))/\w=w':=by
 go_enter func82,ntmps82
 go_wp2_with fail
 all_goals go_ret
 all_goals (refine ⟨AN ?_,rfl⟩;unfold Dn;rw [Bool.eq_iff_iff];simp;try omega)
def Z9 (c:UInt8) (w:wD):Calls prog 83 #[.int .u8 c.toNat] w fun e w'=>e = .returned (.bool (M2 c))/\w=w':=by
 go_enter func83,ntmps83
 go_wp2_with fail
 all_goals go_ret
 all_goals (refine ⟨AN ?_,rfl⟩;unfold M2;rw [Bool.eq_iff_iff];simp;try omega)
def Wd (c:UInt8) (w:wD):Calls prog 80 #[.int .u8 c.toNat] w fun e w'=>e = .returned (.bool (FK c))/\w=w':=by
 go_enter func80,ntmps80
 cases hl:CG c
 all_goals have HL:=kh hl;clear hl
 all_goals go_wp2_with (first|(go_at_call 78;refine (RI c _).mono ?_;rintro e w' ⟨rfl,rfl⟩;rw [HL.out])|(go_at_call 81;refine (QD c _).mono ?_;rintro e w' ⟨rfl,rfl⟩))
 all_goals go_ret
 all_goals (refine ⟨AN ?_,rfl⟩;unfold FK;rw [HL.out];simp)
def QE (f:FuncId) (p:UInt8->Bool) (hp : ∀(c:UInt8) (w:wD),Calls prog f #[.int .u8 c.toNat] w fun e w'=>e = .returned (.bool (p c))/\w=w')
 (he : ∀args w,(callFunc f args).run prog w = .ok (.enter f args) w) (s:lB) (w:wD) (hs:s.length<=9223372036854775807) :
 Calls prog 79 #[str s,.func (.func f) #[] #[]] w fun e w'=>e = .returned (.int .i64 (Es p s))/\w=w':=by
 have HP:=kh hp;clear hp
 go_enter func79,ntmps79
 go_wp2_with fail
 go_loop [8] (fun i=> ∃j:Nat,j<=s.length/\i = .int .i64 j/\Hid (Es p s=j+Es p (s.drop j))) (fun i=>s.length-(intOf i).toNat)
 case atStart=>exact ⟨0,kC _,rfl,kh (by simp)⟩
 case round=>
  obtain ⟨j,hj,rfl,HJ⟩:=hrel
  by_cases hlt:j<s.length
  . go_wp2_with fail
    refine (HP.out s[j] _).mono ?_;rintro e w' ⟨rfl,rfl⟩;have hd:=lh hlt
    have hsp:Es p (s.drop j)=if p s[j] then 1+Es p (s.drop (j+1)) else 0:=by
     rw [hd];unfold Es;rw [List.takeWhile_cons];split<;>simp;omega
    have HSP:=kh hsp;clear hsp hd
    cases hb:p s[j]
    . have HB:=kh hb;clear hb
      go_wp2_with fail
      go_ret
      refine ⟨QC ?_,rfl⟩
      rw [HJ.out,HSP.out,HB.out];simp
    . have HB:=kh hb;clear hb
      go_wp2_with fail
      go_round
      case rel=>exact ⟨j+1,by omega,by go_num,kh (by rw [HJ.out,HSP.out,HB.out];simp;omega)⟩
      case measure=>simp [intOf];omega
  . go_wp2_with fail
    go_ret
    refine ⟨QC ?_,rfl⟩
    rw [HJ.out,List.drop_eq_nil_of_le (by omega)];simp [Es];omega
def Ya (s:lB) (n:Int) (f:n.toNat=min 2 s.length):(⟨s.toArray⟩:ByteArray).extract 0 n.toNat=⟨(s.take 2).toArray⟩:=by
 apply ByteArray.ext;rw [f];simp only [ByteArray.data_extract];apply Array.ext';simp only [List.extract_toArray,List.extract_eq_take_drop,Nat.sub_zero,List.drop_zero];rcases Nat.le_total 2 s.length with h|h
 . rw [Nat.min_eq_left h]
 . rw [Nat.min_eq_right h,List.take_of_length_le h,kE]
def KF : ∀(l:lB) (c:UInt8),-1<=li l c
 | [],c=>by simp [li]
 | b::l,c=>by
  have:=KF l c;unfold li;split
  . omega
  . split<;>omega
def Gv : ∀(l:lB) (c:UInt8),(0<=li l c)↔l.contains c=true
 | [],c=>by simp [li]
 | b::l,c=>by
  have E:=Gv l c;have F:=KF l c;unfold li;rw [List.contains_cons];by_cases f:b=c
  . simp [f]
  . have h : ¬c=b:=fun e=>f e.symm
    simp only [beq_iff_eq,f,h,if_false,Bool.or_eq_true,false_or,<-E];split<;>omega
def fL (c:UInt8) (r:lB) (w:wD) (hs:(c::r).length<=9223372036854775807) :
 Calls prog 84 #[str (c::r)] w fun e w'=>e = .returned (.int .i64 (FL (c::r)))/\w=w':=by
 simp only [kf] at hs;have hx:=Ya (c::r) (min 2 ((r.length:Int)+1)) (by simp only [kf];omega)
 have hsl:FL (c::r)=if List.isPrefixOf [60,61,62] (c::r) then 3 else if pairs.contains ((c::r).take 2) then 2 else if singles.contains c then 1 else 0:=rfl
 have HSL:=kh hsl;clear hsl
 generalize (c::r).take 2=t at *
 cases h3:List.isPrefixOf [60,61,62] (c::r)
 . have H3:=kh h3;clear h3
   cases hp:pairs.contains t
   . have HP:=kh hp
     simp only [pairs,List.contains_cons,List.contains_nil,Bool.or_eq_false_iff,Bool.or_false] at hp;obtain ⟨p0,p1,p2,p3,p4,p5,p6,p7,p8,p9⟩:=hp
     go_enter func84,ntmps84
     go_wp2_with (go_at_call 127;refine (Tryz.strings_HasPrefix _ _ _).mono ?_;rintro e w' ⟨rfl,rfl⟩;rw [show Lib.hasPrefix (⟨(c::r).toArray⟩:ByteArray).data.toList (⟨#[60,61,62]⟩:ByteArray).data.toList=false from H3.out])
     refine (Tryz.strings_IndexByte _ _ _).mono ?_;rintro e w2 ⟨rfl,rfl⟩
     have e0:(((c.toNat:Nat):Int)).toNat.toUInt8=c:=by simp
     have e1 : ∀h,(((((⟨(c::r).toArray⟩:ByteArray)[0]'h).toNat:Nat):Int)).toNat.toUInt8=c:=fun _=>e0
     rw [e1];have hi:=Gv singles c;rw [show li (⟨#[43,45,42,47,37,38,124,94,33,61,60,62,40,41,123,125,91,93,59,44]⟩:ByteArray).data.toList c=li singles c from rfl]
     generalize li singles c=ix at *
     cases hc:singles.contains c
     . have hlt:ix<0:=by rw [hc] at hi;simp at hi;omega
       have HC:=kh hc;clear hc hi
       simp only
       go_wp2_with fail
       go_ret
       rw [HSL.out,H3.out,HP.out,HC.out];exact ⟨rfl,rfl⟩
     . have hge:0<=ix:=hi.2 hc
       have HC:=kh hc;clear hc hi
       simp only
       go_wp2_with fail
       go_ret
       rw [HSL.out,H3.out,HP.out,HC.out];exact ⟨rfl,rfl⟩
   . go_enter func84,ntmps84
     go_wp2_with (go_at_call 127;refine (Tryz.strings_HasPrefix _ _ _).mono ?_;rintro e w' ⟨rfl,rfl⟩;rw [show Lib.hasPrefix (⟨(c::r).toArray⟩:ByteArray).data.toList (⟨#[60,61,62]⟩:ByteArray).data.toList=false from H3.out])
     all_goals first|(go_ret;rw [HSL.out,H3.out,hp];exact ⟨rfl,rfl⟩)|(exfalso;simp_all [pairs];done)
 . have H3:=kh h3;clear h3
   go_enter func84,ntmps84
   go_wp2_with (go_at_call 127;refine (Tryz.strings_HasPrefix _ _ _).mono ?_;rintro e w' ⟨rfl,rfl⟩;rw [show Lib.hasPrefix (⟨(c::r).toArray⟩:ByteArray).data.toList (⟨#[60,61,62]⟩:ByteArray).data.toList=true from H3.out])
   go_ret
   rw [HSL.out,H3.out];exact ⟨rfl,rfl⟩
def C7:List lB->Nat->List MapEntry
 | [],_=>[]
 | k::r,i=>{ key:=str k,val:=.bool true,born:=i }::C7 r (i+1)
def Fh (ks:List lB):Obj:=.map (C7 ks 0).toArray ks.length
def Nc (f:List lB) (k:lB) : ∀i,C7 (f++[k]) i=C7 f i++[{ key:=str k,val:=.bool true,born:=i+f.length }]:=by
 induction f with
 | nil=>intro i;simp [C7]
 | cons x r h=>intro i;simp [C7,h,Nat.add_assoc,Nat.add_comm 1]
def fM (b:ByteArray) (x:lB):(b==(⟨x.toArray⟩:ByteArray))=(b.data.toList==x):=by
 show (b.data==x.toArray)=_;rw [Bool.eq_iff_iff];simp;constructor
 . intro h;rw [h]
 . intro h;rw [<-h]
def J2 (b:ByteArray) (f:List lB) : ∀i j,(f.contains b.data.toList=false->Instr.findNow .string (.string b) (C7 f i) j=some none) /\
 (f.contains b.data.toList=true -> ∃n,Instr.findNow .string (.string b) (C7 f i) j=some (some (n,.bool true))):=by
 induction f with
 | nil=>intro i j;simp [C7,Instr.findNow]
 | cons x r E=>
  intro i j;simp only [C7,Instr.findNow,Instr.sameNow,fM,List.contains_cons];cases h:b.data.toList==x
  . simpa using E (i+1) (j+1)
  . simp
def Yb (h:Array Obj) (a b:Obj):(h.push a).setIfInBounds h.size b=h.push b:=by
 apply Array.ext';simp
def Nf:prog.underlying 146=some (.map 9 4):=by kernel_rfl
def Fi:prog.underlying 9=some .string:=by kernel_rfl
def TK (w:wD) (f:List lB) (b:ByteArray) (h:f.contains b.data.toList=false) :
 (Instr.mapUpdate 146 (.map (some w.heap.size)) (.string b) (.bool true)).run prog (w.alloc (Fh f)) = .ok () (w.alloc (Fh (f++[b.data.toList]))):=by
 have E:(w.alloc (Fh f)).heap[w.heap.size]? = some (.map (C7 f 0).toArray f.length):=by show (w.heap.push (Fh f))[w.heap.size]? = _;simp [Fh]
 have F:Instr.findNow .string (.string b) (C7 f 0) 0=some none:=(J2 b f 0 0).1 h;have L:(Instr.checkKey false 10000 9 (.string b)).run prog (w.alloc (Fh f)) = .ok () (w.alloc (Fh f)):=MapKept.run_checkKey (k:=.string b) Fi (by simp [MapKept.IsKey]) false 9999;simp [Instr.mapUpdate,AD Nf,MapKept.run_getObj_map E,L,MapKept.run_findKey Fi F,MapKept.run_setObj_map _ E,kn];show ({ w with heap:=(w.heap.push (Fh f)).setIfInBounds w.heap.size _ }:wD)={ w with heap:=w.heap.push _ };rw [Yb];unfold Fh;rw [Nc];simp
def RJ (w:wD) (f:List lB) (b:ByteArray) :
 (Instr.lookup 146 (.map (some w.heap.size)) (.string b) false).run prog (w.alloc (Fh f)) = .ok (.bool (f.contains b.data.toList)) (w.alloc (Fh f)):=by
 have E:(w.alloc (Fh f)).heap[w.heap.size]? = some (.map (C7 f 0).toArray f.length):=by show (w.heap.push (Fh f))[w.heap.size]? = _;simp [Fh]
 have F : ∀q,(Instr.checkKey q 10000 9 (.string b)).run prog (w.alloc (Fh f)) = .ok () (w.alloc (Fh f)):=fun q=>MapKept.run_checkKey (k:=.string b) Fi (by simp [MapKept.IsKey]) q 9999
 have L:(zeroValue 4).run prog (w.alloc (Fh f)) = .ok (.bool false) (w.alloc (Fh f)):=by kernel_rfl
 cases hk:f.contains b.data.toList
 . have h:=(J2 b f 0 0).1 hk;simp [Instr.lookup,AD Nf,MapKept.run_getObj_map E,F,MapKept.run_findKey Fi h,L,kn]
 . obtain ⟨n,h⟩:=(J2 b f 0 0).2 hk;simp [Instr.lookup,AD Nf,MapKept.run_getObj_map E,F,MapKept.run_findKey Fi h,kn]
def RK (w:wD):(Instr.makeMap 146 none).run prog w = .ok (.map (some w.heap.size)) (w.alloc (Fh [])):=run_makeMap _ w
def RL (s:lB) (h:F8 s=true):2<=s.length/\s.length<=7:=by
 have key : ∀k∈keywords,2<=k.length/\k.length<=7:=by decide
 exact key s (by simpa [F8] using h)
def We (s:lB) (w:wD) (hs:s.length<=9223372036854775807) :
 Calls prog 47 #[str s] w fun e w'=>e = .returned (.bool (F8 s))/\Ext w w':=by
 by_cases h2:s.length<2\/7<s.length
 . have hk:F8 s=false:=by
    cases h:F8 s
    . rfl
    . have:=RL s h;omega
   have HK:=kh hk;clear hk
   by_cases h3:s.length<2
   . have d1:decide ((s.length:Int)<2)=true:=by simp;omega
     clear h2
     go_enter func47,ntmps47
     go_wp2_with fail
     go_ret
     rw [HK.out];exact ⟨rfl,lN _⟩
   . have d1:decide ((s.length:Int)<2)=false:=by simp;omega
     have d2:decide ((7:Int)<s.length)=true:=by simp;omega
     clear h2
     go_enter func47,ntmps47
     go_wp2_with fail
     go_ret
     rw [HK.out];exact ⟨rfl,lN _⟩
 . have d1:decide ((s.length:Int)<2)=false:=by simp;omega
   have d2:decide ((7:Int)<s.length)=false:=by simp;omega
   have r1:=RK;have r2:=TK w;have r3:=RJ w
   go_enter func47,ntmps47
   go_wp2_with fail
   go_ret
   exact ⟨AN (by simp [F8,keywords]),(by refine lO ?_ _;exact lN _)⟩
def Yc : ∀args w,(callFunc 81 args).run prog w = .ok (.enter 81 args) w:=enters_of func81 BD rfl
def Yd : ∀args w,(callFunc 82 args).run prog w = .ok (.enter 82 args) w:=enters_of func82 BD rfl
def Wf : ∀args w,(callFunc 80 args).run prog w = .ok (.enter 80 args) w:=enters_of func80 BD rfl
def Wg : ∀args w,(callFunc 83 args).run prog w = .ok (.enter 83 args) w:=enters_of func83 BD rfl
def U5 (c:UInt8) (r:lB) (w:wD) (hs:(c::r).length<=9223372036854775807) :
 Calls prog 46 #[str (c::r)] w fun e w'=>e = .returned (.tuple #[.int .u8 (Ar (c::r)).1,.int .i64 (Ar (c::r)).2])/\w=w':=by
 have hf:Ar (c::r)=if CG c then (1,Es FK (c::r)) else if B5 c then (2,Es B5 (c::r)) else if Dn c then (4,Es Dn (c::r)) else if c=35 then (5,Es M2 (c::r)) else (3,FL (c::r)):=rfl
 have HF:=kh hf;clear hf
 have HS:=kh hs;simp only [kf] at hs
 go_enter func46,ntmps46
 go_wp2_with fail
 refine (RI c _).mono ?_;rintro e w1 ⟨rfl,rfl⟩
 cases hl:CG c
 . have HL:=kh hl;clear hl
   simp only
   go_wp2_with fail
   refine (QD c _).mono ?_;rintro e w1 ⟨rfl,rfl⟩
   cases hd:B5 c
   . have HD:=kh hd;clear hd
     simp only
     go_wp2_with fail
     refine (U4 c _).mono ?_;rintro e w1 ⟨rfl,rfl⟩
     cases hb:Dn c
     . have HB:=kh hb;clear hb
       simp only
       by_cases h35:c=35
       . have H35:=kh h35
         have e35:(({ data:=(c::r).toArray }:ByteArray)[0]'(by simp [ByteArray.size])).toNat=35:=by show c.toNat=35;rw [h35];rfl
         clear h35
         go_wp2_with fail
         refine (QE 83 M2 Z9 Wg _ _ HS.out).mono ?_;rintro e w1 ⟨rfl,rfl⟩;simp only
         go_wp2_with fail
         go_ret2
         rw [HF.out,HL.out,HD.out,HB.out,AH H35.out];exact ⟨rfl,rfl⟩
       . have H35:=kh h35
         have e35:((({ data:=(c::r).toArray }:ByteArray)[0]'(by simp [ByteArray.size])).toNat:Int)≠35:=by
          show (c.toNat:Int)≠35
          intro h;apply h35;apply UInt8.toNat_inj.1;show c.toNat=35;omega
         clear h35
         go_wp2_with fail
         refine (fL c r _ HS.out).mono ?_;rintro e w1 ⟨rfl,rfl⟩;simp only
         go_wp2_with fail
         go_ret2
         rw [HF.out,HL.out,HD.out,HB.out,At H35.out];exact ⟨rfl,rfl⟩
     . have HB:=kh hb;clear hb
       simp only
       go_wp2_with fail
       refine (QE 82 Dn U4 Yd _ _ HS.out).mono ?_;rintro e w1 ⟨rfl,rfl⟩;simp only
       go_wp2_with fail
       go_ret2
       rw [HF.out,HL.out,HD.out,HB.out];exact ⟨rfl,rfl⟩
   . have HD:=kh hd;clear hd
     simp only
     go_wp2_with fail
     refine (QE 81 B5 QD Yc _ _ HS.out).mono ?_;rintro e w1 ⟨rfl,rfl⟩;simp only
     go_wp2_with fail
     go_ret2
     rw [HF.out,HL.out,HD.out];exact ⟨rfl,rfl⟩
 . have HL:=kh hl;clear hl
   simp only
   go_wp2_with fail
   refine (QE 80 FK Wd Wf _ _ HS.out).mono ?_;rintro e w1 ⟨rfl,rfl⟩;simp only
   go_wp2_with fail
   go_ret2
   rw [HF.out,HL.out];exact ⟨rfl,rfl⟩
def Ip (s:lB) (w:wD) (hs:s.length<=9223372036854775807) :
 Calls prog 24 #[str s] w fun e w'=>e = .returned (.bool (AS s))/\Ext w w':=by
 cases s with
 | nil=>
  go_enter func24,ntmps24
  go_wp2_with fail
  go_ret
  exact ⟨rfl,lN _⟩
 | cons c r=>
  have hn:AS (c::r)=(decide ((c::r).length<=16)&&((Ar (c::r)).1==1)&&((Ar (c::r)).2==(c::r).length) && !F8 (c::r)):=by simp [AS]
  have HN:=kh hn;clear hn
  have HS:=kh hs;simp only [kf] at hs
  by_cases h16:16<(c::r).length
  . simp only [kf] at h16
    have d1:decide ((16:Int)<(r.length:Int)+1)=true:=by simp;omega
    have H16:=kh h16;clear h16
    go_enter func24,ntmps24
    go_wp2_with fail
    go_ret
    rw [HN.out]
    exact ⟨AN (by have:=H16.out;simp;omega),lN _⟩
  . simp only [kf] at h16
    have d1:decide ((16:Int)<(r.length:Int)+1)=false:=by simp;omega
    go_enter func24,ntmps24
    go_wp2_with fail
    refine (U5 c r _ HS.out).mono ?_;rintro e w1 ⟨rfl,rfl⟩
    generalize Ar (c::r)=ft at *
    obtain ⟨k,n⟩:=ft
    by_cases hk:k=1
    . by_cases hl:n=(c::r).length
      . subst hk hl
        simp only [kf]
        go_wp2_with fail
        refine (We _ _ HS.out).mono ?_;rintro e w2 ⟨rfl,hx⟩;simp only
        go_wp2_with fail
        go_ret
        rw [HN.out]
        exact ⟨AN (by simp;omega),hx⟩
      . subst hk
        have dl:((n:Int)==(r.length:Int)+1)=false:=by simp only [kf] at hl;rw [beq_eq_false_iff_ne];omega
        have HL:=kh hl;clear hl
        simp only
        go_wp2_with fail
        go_ret
        rw [HN.out]
        exact ⟨AN (by have:=HL.out;simp at this ⊢;simp [this]),lN _⟩
    . have dk:((k:Int)==1)=false:=by rw [beq_eq_false_iff_ne];omega
      have HK:=kh hk;clear hk
      simp only
      go_wp2_with fail
      go_ret
      rw [HN.out]
      exact ⟨AN (by have:=HK.out;simp [this]),lN _⟩
def Iq (k n:Int) (s:lB) (a:oA) (l c:Nat) (w:wD) :
 Calls prog 177 #[.agg #[.int .u8 k,.int .i64 n,str s,.slice a l c]] w fun e w'=>e = .returned (.bool (plain n s))/\Ext w w':=by
 go_enter func177,ntmps177
 go_wp2_with fail
 all_goals go_ret
 all_goals exact ⟨AN (by unfold plain;simp [*]),(by repeat (first|exact lN _|assumption|refine lO ?_ _|refine mh ?_|refine lQ ?_ ‹_›))⟩
def Jw (k n:Int) (s:lB) (a:oA) (l c:Nat) (w:wD) (hs:s.length<=9223372036854775807) :
 Calls prog 225 #[.agg #[.int .u8 k,.int .i64 n,str s,.slice a l c]] w fun e w'=>e = .returned (.bool (named n s))/\Ext w w':=by
 by_cases h0:n=0
 . subst h0
   go_enter func225,ntmps225
   go_wp2_with (go_at_call 24;refine (Ip _ _ hs).mono ?_;rintro e w2 ⟨rfl,hx⟩)
   go_ret
   exact ⟨AN (by simp [named]),(by refine lQ ?_ ‹_›;refine lO ?_ _;exact lN _)⟩
 . have d0:(n==0)=false:=by simp [h0]
   go_enter func225,ntmps225
   go_wp2_with fail
   go_ret
   exact ⟨AN (by simp [named,h0]),(by refine lO ?_ _;exact lN _)⟩
def F5 (S:nP) (f:FuncId) (p:Nd->Bool) (t:Nd):Prop:=
 ∀(a:oA) (c:Nat) (w:wD),t.sits S w a->Calls prog f #[t.val a c] w fun e w'=>e = .returned (.bool (p t))/\Ext w w'
def Ir (f:FuncId):Prop:= ∀args w,(callFunc f args).run prog w = .ok (.enter f args) w
def U6 (f:FuncId) (p:Nd->Bool) (he:Ir f) (l:List Nd) (a:oA) (c:Nat) (S:nP) (w:wD) (hl:l.length<=9223372036854775807) (hs:rowSits S w l a) (ht : ∀t∈l,F5 S f p t) :
 Calls prog 178 #[.slice a l.length c,.func (.func f) #[] #[]] w fun e w'=>e = .returned (.bool (l.all p))/\Ext w w':=by
 have HT:=kh ht;clear ht
 unfold Ir at he
 go_enter func178,ntmps178
 go_wp2_with fail
 go_loopw [9] (fun i wr=> ∃j:Nat,j<=l.length/\i = .int .i64 j/\Hid (l.all p=(l.drop j).all p)/\Ext w wr) (fun i _=>l.length-(intOf i).toNat)
 case atStart=>exact ⟨0,kC _,rfl,kh rfl,lN _⟩
 case round=>
  obtain ⟨j,hj,rfl,HJ,hx⟩:=hrel
  by_cases hlt:j<l.length
  . have hg:l[j]? = some l[j]:=kg hlt
    have hmem:l[j]∈l:=kq hlt;have hdrop:=lh hlt
    generalize l[j]=t at *
    obtain ⟨b,o,a',c',rfl,hSb,g0,g1,g2,g3,hsk⟩:=Ed (hs.ext hx) hg
    have HG:=kh hg;clear hg
    have hall:l.all p=(p t&&(l.drop (j+1)).all p):=by rw [HJ.out,hdrop,List.all_cons]
    have HA:=kh hall;clear hdrop hall
    go_wp2_with fail
    refine (HT.out t hmem a' c' _ (hsk.ext ((lN _).alloc _))).mono ?_;rintro e w1 ⟨rfl,hx1⟩
    cases hp:p t
    . have HP:=kh hp;clear hp
      simp only
      go_wp2_with fail
      go_ret
      rw [HA.out,HP.out]
      exact ⟨rfl,(by refine lQ ?_ ‹_›;refine lO ?_ _;assumption)⟩
    . have HP:=kh hp;clear hp
      simp only
      go_wp2_with fail
      go_roundw
      case rel=>exact ⟨j+1,by omega,by go_num,kh (by rw [HA.out,HP.out];simp),(by refine lQ ?_ ‹_›;refine lO ?_ _;assumption)⟩
      case measure=>simp [intOf];omega
  . go_wp2_with fail
    go_ret
    rw [HJ.out,List.drop_eq_nil_of_le (by omega)]
    exact ⟨rfl,hx⟩
def Aw:List Nd->List (FuncId×(Nd->Bool))->Bool
 | [],[]=>true
 | t::r,f::fs=>f.2 t&&Aw r fs
 | _,_=>false
def Ng : ∀(l:List Nd) (E:List (FuncId×(Nd->Bool))),l.length≠E.length->Aw l E=false
 | [],[],h=>absurd rfl h
 | [],_::_,_=>rfl
 | _::_,[],_=>rfl
 | t::r,f::E,h=>by simp only [Aw];rw [Ng r E (by simpa using h)];simp
def G8 (k n:Int) (s:lB) (l:List Nd) (a:oA) (c:Nat) (fs:List (FuncId×(Nd->Bool))) (tb tc:Nat) (S:nP) (w:wD)
 (hl:l.length<=9223372036854775807) (hfl:fs.length<=100) (hs:rowSits S w l a)
 (htb : ∀i f,fs[i]? = some f->w.cell? ⟨tb,i,none⟩=some (.func (.func f.1) #[] #[])) (he : ∀f∈fs,Ir f.1) (ht : ∀f∈fs,∀t∈l,F5 S f.1 f.2 t) :
 Calls prog 222 #[.agg #[.int .u8 k,.int .i64 n,str s,.slice a l.length c],.slice (some ⟨tb,0,none⟩) fs.length tc] w fun e w'=>e = .returned (.bool (Aw l fs))/\Ext w w':=by
 have HT:=kh ht;clear ht
 have HE:=kh he;clear he
 have HB:=kh htb;clear htb
 by_cases hlen:l.length=fs.length
 . have dn:((l.length:Int) != (fs.length:Int))=false:=by rw [hlen];simp
   have HL:=kh hlen
   have hlen1:l.length<=fs.length:=by omega
   have hlen2:fs.length<=l.length:=by omega
   clear hlen
   go_enter func222,ntmps222
   go_wp2_with fail
   go_loopw [15] (fun i wr=> ∃j:Nat,j<=fs.length/\i = .int .i64 j/\Hid (Aw l fs=Aw (l.drop j) (fs.drop j))/\Ext (w.alloc (.cells #[.int .u8 k,.int .i64 n,str s,.slice a l.length c] 32)) wr) (fun i _=>fs.length-(intOf i).toNat)
   case atStart=>exact ⟨0,kC _,rfl,kh rfl,lN _⟩
   case round=>
    obtain ⟨j,hj,rfl,HJ,hx⟩:=hrel;have hcs:=hx.cells
    by_cases hlt:j<fs.length
    . have hlt':j<l.length:=by omega
      have hg:l[j]? = some l[j]:=kg hlt';have hmem:l[j]∈l:=kq hlt';have hdrop:=lh hlt';have hgf:fs[j]? = some fs[j]:=kg hlt;have hmemf:fs[j]∈fs:=kq hlt;have hdropf:=lh hlt
      generalize l[j]=t at *
      generalize fs[j]=f at *
      have hxx:Ext w wr:=lQ ((lN _).alloc _) hx;obtain ⟨b,o,a',c',rfl,hSb,g0,g1,g2,g3,hsk⟩:=Ed (hs.ext hxx) hg
      have HG:=kh hg;clear hg
      have ht0:=hxx.keep (HB.out j f hgf)
      have HGF:=kh hgf;clear hgf
      have hall:Aw l fs=(f.2 t&&Aw (l.drop (j+1)) (fs.drop (j+1))):=by rw [HJ.out,hdrop,hdropf];rfl
      have HA:=kh hall;clear hdrop hall hdropf
      have hen:=HE.out f hmemf
      unfold Ir at hen
      go_wp2_with fail
      refine (HT.out f hmemf t hmem a' c' _ hsk).mono ?_;rintro e w1 ⟨rfl,hx1⟩
      cases hp:f.2 t
      . have HP:=kh hp;clear hp
        simp only
        go_wp2_with fail
        go_ret
        rw [HA.out,HP.out]
        exact ⟨rfl,(by refine lQ ?_ ‹_›;assumption)⟩
      . have HP:=kh hp;clear hp
        simp only
        go_wp2_with fail
        go_roundw
        case rel=>exact ⟨j+1,by omega,by go_num,kh (by rw [HA.out,HP.out];simp),(by refine lQ ?_ ‹_›;assumption)⟩
        case measure=>simp [intOf];omega
    . go_wp2_with fail
      go_ret
      rw [HJ.out,List.drop_eq_nil_of_le (by omega),List.drop_eq_nil_of_le (by omega)]
      exact ⟨rfl,(by refine lQ ?_ ‹_›;refine lO ?_ _;exact lN _)⟩
 . have dn:((l.length:Int) != (fs.length:Int))=true:=by rw [bne_iff_ne];omega
   have hk:=Ng l fs hlen
   have HK:=kh hk;clear hk hlen
   go_enter func222,ntmps222
   go_wp2_with fail
   go_ret
   rw [HK.out]
   exact ⟨rfl,(by refine lO ?_ _;exact lN _)⟩
def Ye {α:Type} {Q:Nat->α->Prop} {x:α} (h:Q 0 x) : ∀i f,[x][i]? = some f->Q i f:=by
 intro i f E;rcases i with _|i
 . simp at E;exact E▸h
 . simp at E
def fN {α:Type} {Q:Nat->α->Prop} {x y:α} (h:Q 0 x) (h1:Q 1 y) : ∀i f,[x,y][i]? = some f->Q i f:=by
 intro i f E;rcases i with _|_|i
 . simp at E;exact E▸h
 . simp at E;exact E▸h1
 . simp at E
def jy {α:Type} {Q:Nat->α->Prop} {x y z:α} (h:Q 0 x) (h1:Q 1 y) (F:Q 2 z) : ∀i f,[x,y,z][i]? = some f->Q i f:=by
 intro i f E;rcases i with _|_|_|i
 . simp at E;exact E▸h
 . simp at E;exact E▸h1
 . simp at E;exact E▸F
 . simp at E
def jz {α:Type} {Q:Nat->α->Prop} {x y z u:α} (h:Q 0 x) (h1:Q 1 y) (F:Q 2 z) (L:Q 3 u) : ∀i f,[x,y,z,u][i]? = some f->Q i f:=by
 intro i f E;rcases i with _|_|_|_|i
 . simp at E;exact E▸h
 . simp at E;exact E▸h1
 . simp at E;exact E▸F
 . simp at E;exact E▸L
 . simp at E
def OD {α:Type} {Q:α->Prop} {x:α} (h:Q x) : ∀f∈[x],Q f:=by intro f E;simp at E;exact E▸h
def Wh {α:Type} {Q:α->Prop} {x y:α} (h:Q x) (h1:Q y) : ∀f∈[x,y],Q f:=by
 intro f E;simp at E;rcases E with rfl|rfl<;>assumption
def iO {α:Type} {Q:α->Prop} {x y z:α} (h:Q x) (h1:Q y) (F:Q z) : ∀f∈[x,y,z],Q f:=by
 intro f E;simp at E;rcases E with rfl|rfl|rfl<;>assumption
def iQ {α:Type} {Q:α->Prop} {x y z u:α} (h:Q x) (h1:Q y) (F:Q z) (L:Q u) : ∀f∈[x,y,z,u],Q f:=by
 intro f E;simp at E;rcases E with rfl|rfl|rfl|rfl<;>assumption
def Eu:Ir 224:=enters_of func224 BD rfl
def RM (n:Int) (s:lB) (l:List Nd):(Nd.mk 1 n s l).isExpr=(decide (0<=n)&&s.isEmpty&&l.isEmpty):=by rw [Nd.isExpr.eq_def];simp
def RN (k n:Int) (s:lB) (l:List Nd) (h:k=2\/k=4\/k=5):(Nd.mk k n s l).isExpr=(named n s&&l.isEmpty):=by
 rcases h with rfl|rfl|rfl<;>rw [Nd.isExpr.eq_def]<;>simp
def RO (f:FuncId) (n:Int) (s:lB) (l:List Nd):(Nd.mk 3 n s l).isExpr=(named n s&&Aw l [(f,Nd.isExpr)]):=by
 rcases l with _|⟨x,_|⟨y,l⟩⟩<;>rw [Nd.isExpr.eq_def]<;>simp [Aw]
def Wi (f:FuncId) (k n:Int) (s:lB) (l:List Nd) (h:k=6\/k=7):(Nd.mk k n s l).isExpr=(plain n s&&Aw l [(f,Nd.isExpr)]):=by
 rcases l with _|⟨x,_|⟨y,l⟩⟩<;>rcases h with rfl|rfl<;>rw [Nd.isExpr.eq_def]<;>simp [Aw]
def TL (f:FuncId) (k n:Int) (s:lB) (l:List Nd) (h:8<=k) (E:k<=23):(Nd.mk k n s l).isExpr=(plain n s&&Aw l [(f,Nd.isExpr),(f,Nd.isExpr)]):=by
 have F : ¬k=1:=by omega
 have L : ¬(k=2\/k=4\/k=5):=by omega
 have M : ¬k=3:=by omega
 have N : ¬(k=6\/k=7):=by omega
 rcases l with _|⟨x,_|⟨y,_|⟨z,l⟩⟩⟩<;>rw [Nd.isExpr.eq_def]<;>simp [Aw,F,L,M,N,h,E]
def RP (k n:Int) (s:lB) (l:List Nd) (h:k<1\/23<k):(Nd.mk k n s l).isExpr=false:=by
 have f : ¬k=1:=by omega
 have E : ¬(k=2\/k=4\/k=5):=by omega
 have F : ¬k=3:=by omega
 have L : ¬(k=6\/k=7):=by omega
 have M : ¬(8<=k/\k<=23):=by omega
 rw [Nd.isExpr.eq_def];simp [f,E,F,L,M]
def Yf (S:nP) (N:Nat) : ∀t:Nd,t.size<N->t.wf->F5 S 224 Nd.isExpr t:=by
 induction N with
 | zero=>intro t h;omega
 | succ N ih=>
  rintro ⟨k,n,s,l⟩ hN hwf a c w hs;simp only [Nd.wf,lR,me,lZ,mj,md,l9,ml] at *;obtain ⟨hk0,hk1,hn0,hn1,hsl,hll,hrw⟩:=hwf
  have hkid : ∀t∈l,F5 S 224 Nd.isExpr t:=fun t ht=>ih t (by have:=EF ht;omega) (BZ hrw t ht)
  have HKID:=kh hkid;clear hkid ih hrw
  have HSL:=kh hsl;clear hsl
  by_cases c1:k=1
  . subst c1
    have hr:=RM n s l
    have HR:=kh hr;clear hr
    go_enter func224,ntmps224
    go_wp2_with fail
    all_goals go_ret
    all_goals rw [HR.out]
    all_goals exact ⟨AN (by rw [Bool.eq_iff_iff];first|(simp [*];done)|(simp [*];intros;omega)),(by repeat (first|exact lN _|assumption|refine lO ?_ _|refine mh ?_|refine lQ ?_ ‹_›))⟩
  by_cases c2:k=2\/k=4\/k=5
  . have hr:=RN k n s l c2
    have HR:=kh hr;clear hr
    cases hnm:named n s
    all_goals have HNM:=kh hnm;clear hnm
    all_goals rcases c2 with rfl|rfl|rfl
    all_goals go_enter func224,ntmps224
    all_goals go_wp2_with (go_at_call 225;refine (Jw _ _ _ _ _ _ _ HSL.out).mono ?_;rintro e w1 ⟨rfl,hx1⟩;have hc1:=hx1.cells;rw [HNM.out])
    all_goals go_ret
    all_goals rw [HR.out,HNM.out]
    all_goals exact ⟨AN (by first|rfl|(rw [Bool.eq_iff_iff];simp)),(by repeat (first|exact lN _|assumption|refine lO ?_ _|refine mh ?_|refine lQ ?_ ‹_›))⟩
  by_cases c3:k=3
  . subst c3
    have hr:=RO 224 n s l
    have HR:=kh hr;clear hr
    cases hnm:named n s
    all_goals have HNM:=kh hnm;clear hnm
    all_goals go_enter func224,ntmps224
    all_goals go_wp2_with (first|(go_at_call 225;refine (Jw _ _ _ _ _ _ _ HSL.out).mono ?_;rintro e w1 ⟨rfl,hx1⟩;have hc1:=hx1.cells;rw [HNM.out])|(go_at_call 222;refine (G8 _ _ _ l a c [(224,Nd.isExpr)] _ _ S _ hll (by decide) (hs.ext (by refine lO ?_ _;refine lQ ?_ ‹_›;refine lO ?_ _;exact lN _)) (Ye (by go_simp)) (OD Eu) (OD HKID.out)).mono ?_;rintro e w2 ⟨rfl,hx2⟩))
    all_goals go_ret
    all_goals rw [HR.out,HNM.out]
    all_goals exact ⟨AN (by simp),(by repeat (first|exact lN _|assumption|refine lO ?_ _|refine mh ?_|refine lQ ?_ ‹_›))⟩
  by_cases c4:k=6\/k=7
  . have hr:=Wi 224 k n s l c4
    have HR:=kh hr;clear hr
    cases hnm:plain n s
    all_goals have HNM:=kh hnm;clear hnm
    all_goals rcases c4 with rfl|rfl
    all_goals go_enter func224,ntmps224
    all_goals go_wp2_with (first|(go_at_call 177;refine (Iq _ _ _ _ _ _ _).mono ?_;rintro e w1 ⟨rfl,hx1⟩;have hc1:=hx1.cells;rw [HNM.out])|(go_at_call 222;refine (G8 _ _ _ l a c [(224,Nd.isExpr)] _ _ S _ hll (by decide) (hs.ext (by repeat (first|exact lN _|assumption|refine lO ?_ _|refine mh ?_|refine lQ ?_ ‹_›))) (Ye (by go_simp)) (OD Eu) (OD HKID.out)).mono ?_;rintro e w2 ⟨rfl,hx2⟩))
    all_goals go_ret
    all_goals rw [HR.out,HNM.out]
    all_goals exact ⟨AN (by simp),(by repeat (first|exact lN _|assumption|refine lO ?_ _|refine mh ?_|refine lQ ?_ ‹_›))⟩
  by_cases c5:8<=k/\k<=23
  . obtain ⟨c5a,c5b⟩:=c5
    have d1:(k==1)=false:=by rw [beq_eq_false_iff_ne];omega
    have d2:(k==2)=false:=by rw [beq_eq_false_iff_ne];omega
    have d3:(k==3)=false:=by rw [beq_eq_false_iff_ne];omega
    have d4:(k==4)=false:=by rw [beq_eq_false_iff_ne];omega
    have d5:(k==5)=false:=by rw [beq_eq_false_iff_ne];omega
    have d6:(k==6)=false:=by rw [beq_eq_false_iff_ne];omega
    have d7:(k==7)=false:=by rw [beq_eq_false_iff_ne];omega
    clear c1 c2 c3 c4;have hr:=TL 224 k n s l c5a c5b
    have HR:=kh hr;clear hr
    cases hnm:plain n s
    all_goals have HNM:=kh hnm;clear hnm
    all_goals go_enter func224,ntmps224
    all_goals go_wp2_with (first|(go_at_call 177;refine (Iq _ _ _ _ _ _ _).mono ?_;rintro e w1 ⟨rfl,hx1⟩;have hc1:=hx1.cells;rw [HNM.out])|(go_at_call 222;refine (G8 _ _ _ l a c [(224,Nd.isExpr),(224,Nd.isExpr)] _ _ S _ hll (by decide) (hs.ext (by refine lO ?_ _;refine lQ ?_ ‹_›;refine lO ?_ _;exact lN _)) (fN (by go_simp) (by go_simp)) (Wh Eu Eu) (Wh HKID.out HKID.out)).mono ?_;rintro e w2 ⟨rfl,hx2⟩))
    all_goals go_ret
    all_goals rw [HR.out,HNM.out]
    all_goals exact ⟨AN (by simp),(by repeat (first|exact lN _|assumption|refine lO ?_ _|refine mh ?_|refine lQ ?_ ‹_›))⟩
  . have hr:=RP k n s l (by omega)
    have HR:=kh hr;clear hr
    have d1:(k==1)=false:=by rw [beq_eq_false_iff_ne];omega
    have d2:(k==2)=false:=by rw [beq_eq_false_iff_ne];omega
    have d3:(k==3)=false:=by rw [beq_eq_false_iff_ne];omega
    have d4:(k==4)=false:=by rw [beq_eq_false_iff_ne];omega
    have d5:(k==5)=false:=by rw [beq_eq_false_iff_ne];omega
    have d6:(k==6)=false:=by rw [beq_eq_false_iff_ne];omega
    have d7:(k==7)=false:=by rw [beq_eq_false_iff_ne];omega
    clear c1 c2 c3 c4
    go_enter func224,ntmps224
    go_wp2_with fail
    all_goals go_ret
    all_goals rw [HR.out]
    all_goals exact ⟨AN (by first|rfl|(simp;omega)),(by repeat (first|exact lN _|assumption|refine lO ?_ _|refine mh ?_|refine lQ ?_ ‹_›))⟩
def Gw:Ir 223:=enters_of func223 BD rfl
def Yg:Ir 226:=enters_of func226 BD rfl
def Wj:Ir 179:=enters_of func179 BD rfl
def Is:Ir 129:=enters_of func129 BD rfl
def Hp (S:nP) (t:Nd) (h:t.wf):F5 S 224 Nd.isExpr t:=Yf S (t.size+1) t Aa h
def Jy (S:nP) (t:Nd) (h:t.wf):F5 S 223 Nd.isPlace t:=by
 have HE:=kh (Hp S t h);intro a c w hs;obtain ⟨k,n,s,l⟩:=t;have hr:(Nd.mk k n s l).isPlace=((k==2||k==3)&&(Nd.mk k n s l).isExpr):=rfl
 have HR:=kh hr;clear hr
 have HSI:=kh hs;clear hs h
 simp only [lZ,mj,md,l9,ml]
 by_cases h2:k=2\/k=3
 . rcases h2 with rfl|rfl
   all_goals go_enter func223,ntmps223
   all_goals go_wp2_with (go_at_call 224;refine (HE.out a c _ (HSI.out.ext (by repeat (first|exact lN _|assumption|refine lO ?_ _|refine mh ?_|refine lQ ?_ ‹_›)))).mono ?_;rintro e w1 ⟨rfl,hx1⟩)
   all_goals go_ret
   all_goals rw [HR.out]
   all_goals exact ⟨AN (by simp),(by repeat (first|exact lN _|assumption|refine lO ?_ _|refine mh ?_|refine lQ ?_ ‹_›))⟩
 . have d2:(k==2)=false:=by rw [beq_eq_false_iff_ne];omega
   have d3:(k==3)=false:=by rw [beq_eq_false_iff_ne];omega
   clear h2
   go_enter func223,ntmps223
   go_wp2_with fail
   go_ret
   rw [HR.out]
   exact ⟨AN (by simp [d2,d3]),(by refine lO ?_ _;exact lN _)⟩
def aA (S:nP) (t:Nd) (h:t.wf):F5 S 226 Nd.isVar t:=by
 have HE:=kh (Hp S t h);intro a c w hs;obtain ⟨k,n,s,l⟩:=t;have hr:(Nd.mk k n s l).isVar=(k==2&&(Nd.mk k n s l).isExpr):=rfl
 have HR:=kh hr;clear hr
 have HSI:=kh hs;clear hs h
 simp only [lZ,mj,md,l9,ml]
 by_cases h2:k=2
 . subst h2
   go_enter func226,ntmps226
   go_wp2_with (go_at_call 224;refine (HE.out a c _ (HSI.out.ext (by refine lO ?_ _;exact lN _))).mono ?_;rintro e w1 ⟨rfl,hx1⟩)
   go_ret
   rw [HR.out]
   exact ⟨AN (by simp),(by refine lQ ?_ ‹_›;refine lO ?_ _;exact lN _)⟩
 . have d2:(k==2)=false:=by rw [beq_eq_false_iff_ne];omega
   clear h2
   go_enter func226,ntmps226
   go_wp2_with fail
   go_ret
   rw [HR.out]
   exact ⟨AN (by simp [d2]),(by refine lO ?_ _;exact lN _)⟩
def Ev {k:Int} (f:k=40\/k=41\/k=42\/k=56) (n:Int) (s:lB) (l:List Nd):(Nd.mk k n s l).isStmt=(plain n s&&Aw l [(223,Nd.isPlace),(224,Nd.isExpr)]):=by
 rcases f with rfl|rfl|rfl|rfl<;>rcases l with _|⟨x,_|⟨y,_|⟨z,_|⟨u,_|⟨v,l⟩⟩⟩⟩⟩<;>rw [Nd.isStmt.eq_def]<;>simp [Aw,Bool.and_assoc]
def Wk {k:Int} (hk:k=40\/k=41\/k=42\/k=56) (n:Int) (s:lB) (l:List Nd) (a:oA) (c:Nat) (S:nP) (w:wD)
 (hs:rowSits S w l a) (hsl:s.length<=9223372036854775807) (hll:l.length<=9223372036854775807) (hrw:Bc l) :
 Calls prog 179 #[.agg #[.int .u8 k,.int .i64 n,str s,.slice a l.length c]] w fun e w'=>e = .returned (.bool (Nd.mk k n s l).isStmt)/\Ext w w':=by
 have HEX:=kh fun t (ht:t∈l)=>Hp S t (BZ hrw t ht)
 have HPL:=kh fun t (ht:t∈l)=>Jy S t (BZ hrw t ht)
 have HSL:=kh hsl;clear hsl hrw
 have hr:=Ev hk n s l
 have HR:=kh hr;clear hr
 cases hnm:plain n s
 all_goals have HNM:=kh hnm;clear hnm
 all_goals rcases hk with rfl|rfl|rfl|rfl
 all_goals go_enter func179,ntmps179
 all_goals go_wp2_with (first|(go_at_call 177;refine (Iq _ _ _ _ _ _ _).mono ?_;rintro e w1 ⟨rfl,hx1⟩;have hc1:=hx1.cells;rw [HNM.out])|(go_at_call 222;refine (G8 _ _ _ l a c [(223,Nd.isPlace),(224,Nd.isExpr)] _ _ S _ hll (by decide) (hs.ext (by repeat (first|exact lN _|assumption|refine lO ?_ _|refine mh ?_|refine lQ ?_ ‹_›))) (fN (by go_simp) (by go_simp)) (Wh Gw Eu) (Wh HPL.out HEX.out)).mono ?_;rintro e w2 ⟨rfl,hx2⟩))
 all_goals go_ret
 all_goals rw [HR.out,HNM.out]
 all_goals exact ⟨AN (by simp),(by repeat (first|exact lN _|assumption|refine lO ?_ _|refine mh ?_|refine lQ ?_ ‹_›))⟩
def Lq {k:Int} (f:k=43) (n:Int) (s:lB) (l:List Nd):(Nd.mk k n s l).isStmt=(plain n s&&Aw l [(223,Nd.isPlace),(223,Nd.isPlace)]):=by
 rcases f with rfl<;>rcases l with _|⟨x,_|⟨y,_|⟨z,_|⟨u,_|⟨v,l⟩⟩⟩⟩⟩<;>rw [Nd.isStmt.eq_def]<;>simp [Aw,Bool.and_assoc]
def Wl {k:Int} (hk:k=43) (n:Int) (s:lB) (l:List Nd) (a:oA) (c:Nat) (S:nP) (w:wD)
 (hs:rowSits S w l a) (hsl:s.length<=9223372036854775807) (hll:l.length<=9223372036854775807) (hrw:Bc l) :
 Calls prog 179 #[.agg #[.int .u8 k,.int .i64 n,str s,.slice a l.length c]] w fun e w'=>e = .returned (.bool (Nd.mk k n s l).isStmt)/\Ext w w':=by
 have HPL:=kh fun t (ht:t∈l)=>Jy S t (BZ hrw t ht)
 have HSL:=kh hsl;clear hsl hrw
 have hr:=Lq hk n s l
 have HR:=kh hr;clear hr
 cases hnm:plain n s
 all_goals have HNM:=kh hnm;clear hnm
 all_goals rcases hk with rfl
 all_goals go_enter func179,ntmps179
 all_goals go_wp2_with (first|(go_at_call 177;refine (Iq _ _ _ _ _ _ _).mono ?_;rintro e w1 ⟨rfl,hx1⟩;have hc1:=hx1.cells;rw [HNM.out])|(go_at_call 222;refine (G8 _ _ _ l a c [(223,Nd.isPlace),(223,Nd.isPlace)] _ _ S _ hll (by decide) (hs.ext (by refine lO ?_ _;refine lQ ?_ ‹_›;refine lO ?_ _;exact lN _)) (fN (by go_simp) (by go_simp)) (Wh Gw Gw) (Wh HPL.out HPL.out)).mono ?_;rintro e w2 ⟨rfl,hx2⟩))
 all_goals go_ret
 all_goals rw [HR.out,HNM.out]
 all_goals exact ⟨AN (by simp),(by repeat (first|exact lN _|assumption|refine lO ?_ _|refine mh ?_|refine lQ ?_ ‹_›))⟩
def Hq {k:Int} (f:k=44\/k=45) (n:Int) (s:lB) (l:List Nd):(Nd.mk k n s l).isStmt=(named n s&&Aw l [(223,Nd.isPlace)]):=by
 rcases f with rfl|rfl<;>rcases l with _|⟨x,_|⟨y,_|⟨z,_|⟨u,_|⟨v,l⟩⟩⟩⟩⟩<;>rw [Nd.isStmt.eq_def]<;>simp [Aw,Bool.and_assoc]
def Wm {k:Int} (hk:k=44\/k=45) (n:Int) (s:lB) (l:List Nd) (a:oA) (c:Nat) (S:nP) (w:wD)
 (hs:rowSits S w l a) (hsl:s.length<=9223372036854775807) (hll:l.length<=9223372036854775807) (hrw:Bc l) :
 Calls prog 179 #[.agg #[.int .u8 k,.int .i64 n,str s,.slice a l.length c]] w fun e w'=>e = .returned (.bool (Nd.mk k n s l).isStmt)/\Ext w w':=by
 have HPL:=kh fun t (ht:t∈l)=>Jy S t (BZ hrw t ht)
 have HSL:=kh hsl;clear hsl hrw
 have hr:=Hq hk n s l
 have HR:=kh hr;clear hr
 cases hnm:named n s
 all_goals have HNM:=kh hnm;clear hnm
 all_goals rcases hk with rfl|rfl
 all_goals go_enter func179,ntmps179
 all_goals go_wp2_with (first|(go_at_call 225;refine (Jw _ _ _ _ _ _ _ HSL.out).mono ?_;rintro e w1 ⟨rfl,hx1⟩;have hc1:=hx1.cells;rw [HNM.out])|(go_at_call 222;refine (G8 _ _ _ l a c [(223,Nd.isPlace)] _ _ S _ hll (by decide) (hs.ext (by repeat (first|exact lN _|assumption|refine lO ?_ _|refine mh ?_|refine lQ ?_ ‹_›))) (Ye (by go_simp)) (OD Gw) (OD HPL.out)).mono ?_;rintro e w2 ⟨rfl,hx2⟩))
 all_goals go_ret
 all_goals rw [HR.out,HNM.out]
 all_goals exact ⟨AN (by simp),(by repeat (first|exact lN _|assumption|refine lO ?_ _|refine mh ?_|refine lQ ?_ ‹_›))⟩
def Ew {k:Int} (f:k=46\/k=47\/k=48\/k=49) (n:Int) (s:lB) (l:List Nd):(Nd.mk k n s l).isStmt=(plain n s&&Aw l [(223,Nd.isPlace)]):=by
 rcases f with rfl|rfl|rfl|rfl<;>rcases l with _|⟨x,_|⟨y,_|⟨z,_|⟨u,_|⟨v,l⟩⟩⟩⟩⟩<;>rw [Nd.isStmt.eq_def]<;>simp [Aw,Bool.and_assoc]
def Wn {k:Int} (hk:k=46\/k=47\/k=48\/k=49) (n:Int) (s:lB) (l:List Nd) (a:oA) (c:Nat) (S:nP) (w:wD)
 (hs:rowSits S w l a) (hsl:s.length<=9223372036854775807) (hll:l.length<=9223372036854775807) (hrw:Bc l) :
 Calls prog 179 #[.agg #[.int .u8 k,.int .i64 n,str s,.slice a l.length c]] w fun e w'=>e = .returned (.bool (Nd.mk k n s l).isStmt)/\Ext w w':=by
 have HPL:=kh fun t (ht:t∈l)=>Jy S t (BZ hrw t ht)
 have HSL:=kh hsl;clear hsl hrw
 have hr:=Ew hk n s l
 have HR:=kh hr;clear hr
 cases hnm:plain n s
 all_goals have HNM:=kh hnm;clear hnm
 all_goals rcases hk with rfl|rfl|rfl|rfl
 all_goals go_enter func179,ntmps179
 all_goals go_wp2_with (first|(go_at_call 177;refine (Iq _ _ _ _ _ _ _).mono ?_;rintro e w1 ⟨rfl,hx1⟩;have hc1:=hx1.cells;rw [HNM.out])|(go_at_call 222;refine (G8 _ _ _ l a c [(223,Nd.isPlace)] _ _ S _ hll (by decide) (hs.ext (by repeat (first|exact lN _|assumption|refine lO ?_ _|refine mh ?_|refine lQ ?_ ‹_›))) (Ye (by go_simp)) (OD Gw) (OD HPL.out)).mono ?_;rintro e w2 ⟨rfl,hx2⟩))
 all_goals go_ret
 all_goals rw [HR.out,HNM.out]
 all_goals exact ⟨AN (by simp),(by repeat (first|exact lN _|assumption|refine lO ?_ _|refine mh ?_|refine lQ ?_ ‹_›))⟩
def Hr {k:Int} (f:k=52\/k=53) (n:Int) (s:lB) (l:List Nd):(Nd.mk k n s l).isStmt=(plain n s&&Aw l [(224,Nd.isExpr),(129,Nd.isBlock),(129,Nd.isBlock),(224,Nd.isExpr)]):=by
 rcases f with rfl|rfl<;>rcases l with _|⟨x,_|⟨y,_|⟨z,_|⟨u,_|⟨v,l⟩⟩⟩⟩⟩<;>rw [Nd.isStmt.eq_def]<;>simp [Aw,Bool.and_assoc]
def Wo {k:Int} (hk:k=52\/k=53) (n:Int) (s:lB) (l:List Nd) (a:oA) (c:Nat) (S:nP) (w:wD)
 (hs:rowSits S w l a) (hsl:s.length<=9223372036854775807) (hll:l.length<=9223372036854775807) (hrw:Bc l) (hb : ∀t∈l,F5 S 129 Nd.isBlock t) :
 Calls prog 179 #[.agg #[.int .u8 k,.int .i64 n,str s,.slice a l.length c]] w fun e w'=>e = .returned (.bool (Nd.mk k n s l).isStmt)/\Ext w w':=by
 have HBL:=kh hb;clear hb
 have HEX:=kh fun t (ht:t∈l)=>Hp S t (BZ hrw t ht)
 have HSL:=kh hsl;clear hsl hrw
 have hr:=Hr hk n s l
 have HR:=kh hr;clear hr
 cases hnm:plain n s
 all_goals have HNM:=kh hnm;clear hnm
 all_goals rcases hk with rfl|rfl
 all_goals go_enter func179,ntmps179
 all_goals go_wp2_with (first|(go_at_call 177;refine (Iq _ _ _ _ _ _ _).mono ?_;rintro e w1 ⟨rfl,hx1⟩;have hc1:=hx1.cells;rw [HNM.out])|(go_at_call 222;refine (G8 _ _ _ l a c [(224,Nd.isExpr),(129,Nd.isBlock),(129,Nd.isBlock),(224,Nd.isExpr)] _ _ S _ hll (by decide) (hs.ext (by repeat (first|exact lN _|assumption|refine lO ?_ _|refine mh ?_|refine lQ ?_ ‹_›))) (jz (by go_simp) (by go_simp) (by go_simp) (by go_simp)) (iQ Eu Is Is Eu) (iQ HEX.out HBL.out HBL.out HEX.out)).mono ?_;rintro e w2 ⟨rfl,hx2⟩))
 all_goals go_ret
 all_goals rw [HR.out,HNM.out]
 all_goals exact ⟨AN (by simp),(by repeat (first|exact lN _|assumption|refine lO ?_ _|refine mh ?_|refine lQ ?_ ‹_›))⟩
def Lr {k:Int} (f:k=54) (n:Int) (s:lB) (l:List Nd):(Nd.mk k n s l).isStmt=(named n s&&Aw l [(224,Nd.isExpr),(129,Nd.isBlock),(224,Nd.isExpr)]):=by
 rcases f with rfl<;>rcases l with _|⟨x,_|⟨y,_|⟨z,_|⟨u,_|⟨v,l⟩⟩⟩⟩⟩<;>rw [Nd.isStmt.eq_def]<;>simp [Aw,Bool.and_assoc]
def Wp {k:Int} (hk:k=54) (n:Int) (s:lB) (l:List Nd) (a:oA) (c:Nat) (S:nP) (w:wD)
 (hs:rowSits S w l a) (hsl:s.length<=9223372036854775807) (hll:l.length<=9223372036854775807) (hrw:Bc l) (hb : ∀t∈l,F5 S 129 Nd.isBlock t) :
 Calls prog 179 #[.agg #[.int .u8 k,.int .i64 n,str s,.slice a l.length c]] w fun e w'=>e = .returned (.bool (Nd.mk k n s l).isStmt)/\Ext w w':=by
 have HBL:=kh hb;clear hb
 have HEX:=kh fun t (ht:t∈l)=>Hp S t (BZ hrw t ht)
 have HSL:=kh hsl;clear hsl hrw
 have hr:=Lr hk n s l
 have HR:=kh hr;clear hr
 cases hnm:named n s
 all_goals have HNM:=kh hnm;clear hnm
 all_goals rcases hk with rfl
 all_goals go_enter func179,ntmps179
 all_goals go_wp2_with (first|(go_at_call 225;refine (Jw _ _ _ _ _ _ _ HSL.out).mono ?_;rintro e w1 ⟨rfl,hx1⟩;have hc1:=hx1.cells;rw [HNM.out])|(go_at_call 222;refine (G8 _ _ _ l a c [(224,Nd.isExpr),(129,Nd.isBlock),(224,Nd.isExpr)] _ _ S _ hll (by decide) (hs.ext (by refine lO ?_ _;refine lQ ?_ ‹_›;refine lO ?_ _;exact lN _)) (jy (by go_simp) (by go_simp) (by go_simp)) (iO Eu Is Eu) (iO HEX.out HBL.out HEX.out)).mono ?_;rintro e w2 ⟨rfl,hx2⟩))
 all_goals go_ret
 all_goals rw [HR.out,HNM.out]
 all_goals exact ⟨AN (by simp),(by repeat (first|exact lN _|assumption|refine lO ?_ _|refine mh ?_|refine lQ ?_ ‹_›))⟩
def Ls {k:Int} (f:k=55) (n:Int) (s:lB) (l:List Nd):(Nd.mk k n s l).isStmt=(named n s&&Aw l [(129,Nd.isBlock)]):=by
 rcases f with rfl<;>rcases l with _|⟨x,_|⟨y,_|⟨z,_|⟨u,_|⟨v,l⟩⟩⟩⟩⟩<;>rw [Nd.isStmt.eq_def]<;>simp [Aw,Bool.and_assoc]
def Wq {k:Int} (hk:k=55) (n:Int) (s:lB) (l:List Nd) (a:oA) (c:Nat) (S:nP) (w:wD)
 (hs:rowSits S w l a) (hsl:s.length<=9223372036854775807) (hll:l.length<=9223372036854775807) (hrw:Bc l) (hb : ∀t∈l,F5 S 129 Nd.isBlock t) :
 Calls prog 179 #[.agg #[.int .u8 k,.int .i64 n,str s,.slice a l.length c]] w fun e w'=>e = .returned (.bool (Nd.mk k n s l).isStmt)/\Ext w w':=by
 have HBL:=kh hb;clear hb
 have HSL:=kh hsl;clear hsl hrw
 have hr:=Ls hk n s l
 have HR:=kh hr;clear hr
 cases hnm:named n s
 all_goals have HNM:=kh hnm;clear hnm
 all_goals rcases hk with rfl
 all_goals go_enter func179,ntmps179
 all_goals go_wp2_with (first|(go_at_call 225;refine (Jw _ _ _ _ _ _ _ HSL.out).mono ?_;rintro e w1 ⟨rfl,hx1⟩;have hc1:=hx1.cells;rw [HNM.out])|(go_at_call 222;refine (G8 _ _ _ l a c [(129,Nd.isBlock)] _ _ S _ hll (by decide) (hs.ext (by refine lO ?_ _;refine lQ ?_ ‹_›;refine lO ?_ _;exact lN _)) (Ye (by go_simp)) (OD Is) (OD HBL.out)).mono ?_;rintro e w2 ⟨rfl,hx2⟩))
 all_goals go_ret
 all_goals rw [HR.out,HNM.out]
 all_goals exact ⟨AN (by simp),(by repeat (first|exact lN _|assumption|refine lO ?_ _|refine mh ?_|refine lQ ?_ ‹_›))⟩
def Hs {k:Int} (f:k=50\/k=51) (n:Int) (s:lB) (l:List Nd):(Nd.mk k n s l).isStmt=(named n s&&decide (l.length<=8)&&l.all Nd.isVar):=by
 rcases f with rfl|rfl<;>rw [Nd.isStmt.eq_def]<;>simp
def Wr {k:Int} (hk:k=50\/k=51) (n:Int) (s:lB) (l:List Nd) (a:oA) (c:Nat) (S:nP) (w:wD)
 (hs:rowSits S w l a) (hsl:s.length<=9223372036854775807) (hll:l.length<=9223372036854775807) (hrw:Bc l) :
 Calls prog 179 #[.agg #[.int .u8 k,.int .i64 n,str s,.slice a l.length c]] w fun e w'=>e = .returned (.bool (Nd.mk k n s l).isStmt)/\Ext w w':=by
 have HVA:=kh fun t (ht:t∈l)=>aA S t (BZ hrw t ht)
 have HSL:=kh hsl;clear hsl hrw
 have hr:=Hs hk n s l
 have HR:=kh hr;clear hr
 cases hnm:named n s
 all_goals have HNM:=kh hnm;clear hnm
 all_goals by_cases h8:l.length<=8
 all_goals have d8:decide ((l.length:Int)<=8)=decide (l.length<=8):=by simp only [decide_eq_decide];omega
 all_goals first|rw [decide_eq_true h8] at d8|rw [decide_eq_false h8] at d8
 all_goals have H8:=kh h8;clear h8
 all_goals rcases hk with rfl|rfl
 all_goals go_enter func179,ntmps179
 all_goals go_wp2_with (first|(go_at_call 225;refine (Jw _ _ _ _ _ _ _ HSL.out).mono ?_;rintro e w1 ⟨rfl,hx1⟩;have hc1:=hx1.cells;rw [HNM.out])|(go_at_call 178;refine (U6 226 Nd.isVar Yg l a c S _ hll (hs.ext (by repeat (first|exact lN _|assumption|refine lO ?_ _|refine mh ?_|refine lQ ?_ ‹_›))) HVA.out).mono ?_;rintro e w2 ⟨rfl,hx2⟩))
 all_goals go_ret
 all_goals rw [HR.out,HNM.out]
 all_goals exact ⟨AN (by simp [H8.out]),(by repeat (first|exact lN _|assumption|refine lO ?_ _|refine mh ?_|refine lQ ?_ ‹_›))⟩
def L1 (k n:Int) (s:lB) (l:List Nd) (h:k<40\/56<k):(Nd.mk k n s l).isStmt=false:=by
 rw [Nd.isStmt.eq_def];simp only [];rw [At Aa,At Aa,At Aa,At Aa,At Aa,At Aa,At Aa,At Aa]
def RQ (k n:Int) (s:lB) (l:List Nd) (a:oA) (c:Nat) (w:wD) (h:k<40\/56<k) :
 Calls prog 179 #[.agg #[.int .u8 k,.int .i64 n,str s,.slice a l.length c]] w fun e w'=>e = .returned (.bool (Nd.mk k n s l).isStmt)/\Ext w w':=by
 have hr:=L1 k n s l h
 have HR:=kh hr;clear hr
 have d40:(k==40)=false:=by rw [beq_eq_false_iff_ne];omega
 have d41:(k==41)=false:=by rw [beq_eq_false_iff_ne];omega
 have d42:(k==42)=false:=by rw [beq_eq_false_iff_ne];omega
 have d43:(k==43)=false:=by rw [beq_eq_false_iff_ne];omega
 have d44:(k==44)=false:=by rw [beq_eq_false_iff_ne];omega
 have d45:(k==45)=false:=by rw [beq_eq_false_iff_ne];omega
 have d46:(k==46)=false:=by rw [beq_eq_false_iff_ne];omega
 have d47:(k==47)=false:=by rw [beq_eq_false_iff_ne];omega
 have d48:(k==48)=false:=by rw [beq_eq_false_iff_ne];omega
 have d49:(k==49)=false:=by rw [beq_eq_false_iff_ne];omega
 have d50:(k==50)=false:=by rw [beq_eq_false_iff_ne];omega
 have d51:(k==51)=false:=by rw [beq_eq_false_iff_ne];omega
 have d52:(k==52)=false:=by rw [beq_eq_false_iff_ne];omega
 have d53:(k==53)=false:=by rw [beq_eq_false_iff_ne];omega
 have d54:(k==54)=false:=by rw [beq_eq_false_iff_ne];omega
 have d55:(k==55)=false:=by rw [beq_eq_false_iff_ne];omega
 have d56:(k==56)=false:=by rw [beq_eq_false_iff_ne];omega
 clear h
 go_enter func179,ntmps179
 go_wp2_with fail
 go_ret
 rw [HR.out]
 exact ⟨rfl,(by refine lO ?_ _;exact lN _)⟩
def TM (k n:Int) (s:lB) (l:List Nd) (a:oA) (c:Nat) (S:nP) (w:wD)
 (L:rowSits S w l a) (f:s.length<=9223372036854775807) (E:l.length<=9223372036854775807) (F:Bc l) (M : ∀t∈l,F5 S 129 Nd.isBlock t) :
 Calls prog 179 #[.agg #[.int .u8 k,.int .i64 n,str s,.slice a l.length c]] w fun e w'=>e = .returned (.bool (Nd.mk k n s l).isStmt)/\Ext w w':=by
 by_cases h:k<40\/56<k
 . exact RQ k n s l a c w h
 by_cases N:k=40\/k=41\/k=42\/k=56
 . exact Wk N n s l a c S w L f E F
 by_cases O:k=43
 . exact Wl O n s l a c S w L f E F
 by_cases U:k=44\/k=45
 . exact Wm U n s l a c S w L f E F
 by_cases V:k=46\/k=47\/k=48\/k=49
 . exact Wn V n s l a c S w L f E F
 by_cases X:k=52\/k=53
 . exact Wo X n s l a c S w L f E F M
 by_cases Y:k=54
 . exact Wp Y n s l a c S w L f E F M
 by_cases Z:k=55
 . exact Wq Z n s l a c S w L f E F M
 by_cases aa:k=50\/k=51
 . exact Wr aa n s l a c S w L f E F
 omega
def RR (k n:Int) (s:lB) (l:List Nd) (a:oA) (c:Nat) (S:nP) (w:wD)
 (hs:rowSits S w l a) (hll:l.length<=9223372036854775807) (ht : ∀t∈l,F5 S 179 Nd.isStmt t) :
 Calls prog 129 #[.agg #[.int .u8 k,.int .i64 n,str s,.slice a l.length c]] w fun e w'=>e = .returned (.bool (Nd.mk k n s l).isBlock)/\Ext w w':=by
 have hall : ∀r:List Nd,DU r=r.all Nd.isStmt:=by
  intro r
  induction r with
  | nil=>rfl
  | cons x r ih=>simp [DU,ih]
 have hr:(Nd.mk k n s l).isBlock=(k==57&&plain n s&&l.all Nd.isStmt):=by rw [Nd.isBlock,hall]
 have HR:=kh hr;clear hr hall
 have HT:=kh ht;clear ht
 by_cases h57:k=57
 . subst h57
   cases hnm:plain n s
   all_goals have HNM:=kh hnm;clear hnm
   all_goals go_enter func129,ntmps129
   all_goals go_wp2_with (first|(go_at_call 177;refine (Iq _ _ _ _ _ _ _).mono ?_;rintro e w1 ⟨rfl,hx1⟩;have hc1:=hx1.cells;rw [HNM.out])|(go_at_call 178;refine (U6 179 Nd.isStmt Wj l a c S _ hll (hs.ext (by refine lQ ?_ ‹_›;refine lO ?_ _;exact lN _)) HT.out).mono ?_;rintro e w2 ⟨rfl,hx2⟩))
   all_goals go_ret
   all_goals rw [HR.out,HNM.out]
   all_goals exact ⟨AN (by simp),(by repeat (first|exact lN _|assumption|refine lO ?_ _|refine mh ?_|refine lQ ?_ ‹_›))⟩
 . have d57:(k==57)=false:=by rw [beq_eq_false_iff_ne];omega
   clear h57
   go_enter func129,ntmps129
   go_wp2_with fail
   go_ret
   rw [HR.out]
   exact ⟨AN (by simp [d57]),(by refine lO ?_ _;exact lN _)⟩
def OE (S:nP) (N:Nat):(∀t:Nd,t.size<N->t.wf->F5 S 179 Nd.isStmt t)/\(∀t:Nd,t.size<N->t.wf->F5 S 129 Nd.isBlock t):=by
 induction N with
 | zero=>exact ⟨fun t h=>absurd h (Nat.not_lt_zero _),fun t h=>absurd h (Nat.not_lt_zero _)⟩
 | succ N L=>
  refine ⟨?_,?_⟩
  . rintro ⟨k,n,s,l⟩ M f a c w F;simp only [Nd.wf,lR,me] at *;exact TM k n s l a c S w F f.2.2.2.2.1 f.2.2.2.2.2.1 f.2.2.2.2.2.2 (fun t E=>L.2 t (by have:=EF E;omega) (BZ f.2.2.2.2.2.2 t E))
  . rintro ⟨k,n,s,l⟩ M f a c w F;simp only [Nd.wf,lR,me] at *;exact RR k n s l a c S w F f.2.2.2.2.2.1 (fun t E=>L.1 t (by have:=EF E;omega) (BZ f.2.2.2.2.2.2 t E))
def Ws (S:nP) (t:Nd) (h:t.wf):F5 S 129 Nd.isBlock t:=(OE S (t.size+1)).2 t Aa h
attribute [local irreducible] Go.Calls
mutual
def Nd.eqb:Nd->Nd->Bool
 | .mk k n s l,.mk k' n' s' l'=>decide (k=k')&&(decide (n=n')&&(decide (s=s')&&Ef l l'))
def Ef:List Nd->List Nd->Bool
 | [],[]=>true
 | x::r,y::q=>x.eqb y&&Ef r q
 | [],_::_=>false
 | _::_,[]=>false
end
mutual
def U7 : ∀t u:Nd,t.eqb u=true↔t=u
 | .mk k n s l,.mk k' n' s' l'=>by
  unfold Nd.eqb;simp only [ke,decide_eq_true_eq,Nh l l',Nd.mk.injEq]
def Nh : ∀l q:List Nd,Ef l q=true↔l=q
 | [],[]=>by simp [Ef]
 | x::r,y::q=>by
  unfold Ef;simp only [ke,U7 x y,Nh r q,kQ]
 | [],_::_=>by simp [Ef]
 | _::_,[]=>by simp [Ef]
end
def Ni : ∀ {l q:List Nd},l.length≠q.length->Ef l q=false
 | [],[],h=>absurd rfl h
 | x::r,y::q,h=>by
  unfold Ef;rw [Ni (by simpa using h)];simp
 | [],_::_,_=>by simp [Ef]
 | _::_,[],_=>by simp [Ef]
def Wt {l q:List Nd} {j:Nat} (f:j<l.length) (h:j<q.length):Ef (l.drop j) (q.drop j)=(l[j].eqb q[j]&&Ef (l.drop (j+1)) (q.drop (j+1))):=by
 rw [lh f,lh h,Ef]
mutual
def CO {S:nP} {w:wD} : ∀(l:List Nd) (a:oA),rowSits S w l a->rowSits (· < w.heap.size) w l a
 | [],_,_=>by simp [rowSits]
 | t::r,a,h=>by
  simp only [rowSits] at h ⊢;obtain ⟨b,o,a',c,rfl,hb,h0,h1,h2,h3,hs,hr⟩:=h;exact ⟨b,o,a',c,rfl,CQ h0,h0,h1,h2,h3,I0 t a' hs,CO r _ hr⟩
def I0 {S:nP} {w:wD} : ∀(t:Nd) (a:oA),t.sits S w a->t.sits (· < w.heap.size) w a
 | .mk _ _ _ l,a,h=>by
  simp only [me] at h ⊢;exact CO l a h
end
def jN (x y:Nd):Prop:= ∀(S S':nP) (a a':oA) (c c':Nat) (w:wD),x.sits S w a->y.sits S' w a'->Calls prog 45 #[x.val a c,y.val a' c'] w fun e w'=>e = .returned (.bool (x.eqb y))/\Ext w w'
def RS (l q:List Nd) (h : ∀x∈l,∀y,jN x y) (S S':nP) (a a':oA) (c c':Nat) (w:wD) (hl:l.length<=1000000000) (E:rowSits S w l a) (f:rowSits S' w q a') :
 Calls prog 77 #[.slice a l.length c,.slice a' q.length c',.func (.func 45) #[] #[]] w fun e w'=>e = .returned (.bool (Ef l q))/\Ext w w':=by
 have X:=lN w;have H:=kh h;clear h;by_cases ab:l.length=q.length
 . refine Ae func77 ntmps77 rfl rfl ?_;refine cS (C1 Pa (cT (Al (cS (C1 Mv (C1 Pz (C1 Mv (C1 Pz (C1 V2 (cT (E4 ?_)))))))))));refine Av (Ai (Al (cS (C1 Mv (C1 Pz (C1 Mv (cT (Ax ?_))))))));have E:=CO _ _ E;have f:=CO _ _ f;refine AM (ι:=Nat) (fun j=>[(1,.slice a' q.length c'),(2,.func (.func 45) #[] #[]),(15,.slice a l.length c),(16,.int .i64 l.length),(17,.int .i64 j)])
    (fun j w'=>j<=l.length/\rowSits (· < w.heap.size) w' l a/\rowSits (· < w.heap.size) w' q a'/\Ef l q=Ef (l.drop j) (q.drop j)/\Ext w w') (fun j=>l.length-j) 0 sB ⟨kC _,E,f,rfl,X⟩ ?_
   clear E f X;rintro j w1 ⟨hj,E,f,he,X⟩;have au:=X.size;by_cases O:j<l.length
   . have L:j<q.length:=by omega
     obtain ⟨kb,ko,rfl,av,U⟩:=Bx E (by intro e;subst e;simp at O);obtain ⟨aw,ax,rfl,ai,M⟩:=Bx f (by intro e;subst e;simp at L);obtain ⟨xa,xc,V,Y⟩:=U j l[j] (kg O);obtain ⟨ya,yc,Z,sy⟩:=M j q[j] (kg L);have HC:=H.out l[j] (kq O) q[j];rw [Wt O L] at he;have H2:=kh HC;clear HC U M H;generalize l[j]=x at *;generalize q[j]=y at *
     focus
      refine eK ?_;refine eA [_,_,_,_] ?_;intro ay az ag ah a0 a1;revert X E f V Y Z sy;refine eE ah ?_;intro X E f V Y Z sy;refine C1 Pa (eS [_,_,_,_] ag ?_);intro a2 F ac aj;revert X E f V Y Z sy;refine eF ac ?_;intro X E f V Y Z sy;refine eK ?_;refine xA [_,_,_,_] ?_;intro ak al ad;refine eI [_,_,_,_] ad ?_;intro am aa ae an ao;revert F X E f V Y Z sy;refine eE ae ?_;intro F X E f V Y Z sy;refine eK ?_;refine Au (BU (fi:=[]) (ca:=[]) BD rfl rfl (H2.out _ _ _ _ _ _ _ Af Af) (fun _ _ h=>⟨_,h.1⟩)) rfl ?_ aFh;rintro ap aq ⟨⟨⟩,af⟩;revert aa F X E f V Y Z sy;refine eY af ?_;intro ar aa F X E f V Y Z sy;refine C1 Pt (cT ?_);refine Ko rfl (fun N=>?_) (fun N=>?_);refine eK ?_;refine xR ?_;rotate_left;refine Av (Ad (Ai (Ag (C1 V7 (C1 Mv (Ah ?_))))));rotate_left
     . exact ⟨by rw [he,N];rfl,X⟩
     . rw [N,Bool.true_and] at he;exact Ay (j+1) sB ⟨Aa,E,f,he,X⟩ Aa
   . obtain rfl:j=l.length:=by omega
     rw [List.drop_length,ab,List.drop_length] at he;refine eK ?_;refine xR ?_;exact ⟨by rw [he];rfl,X⟩
 . rw [Ni ab];refine Ae func77 ntmps77 rfl rfl ?_;refine eK ?_;refine xR ?_;exact ⟨rfl,X⟩
def Dm : ∀ {l:List Nd} {x:Nd},x∈l->x.size<=Aj l
 | [],x,f=>by cases f
 | t::r,x,f=>by
  simp only [Aj];rcases kF.1 f with rfl|f
  . omega
  . have:=Dm f;omega
def Dq (l:List Nd):l.length<=Aj l:=by
 induction l with
 | nil=>simp [Aj]
 | cons x r f=>
  have:1<=x.size:=by cases x;simp only [lR];omega
  simp only [Aj,kf];omega
def aB (N:Nat) : ∀(t u:Nd) (S S':nP) (a M:oA) (c V:Nat) (w:wD),t.size<N->t.size<=1000000000->t.sits S w a->u.sits S' w M ->
 Calls prog 45 #[t.val a c,u.val M V] w fun e w'=>e = .returned (.bool (t.eqb u))/\Ext w w':=by
 induction N with
 | zero=>intro t u S S' a M c V w h;omega
 | succ N ih=>
  rintro ⟨k,n,s,l⟩ ⟨k',n',s',q⟩ S S' a M c V w hN hM E f;simp only [me] at E f;simp only [lR] at hN hM;have av:=Dq l;have hC : ∀x∈l,∀y,jN x y:=fun x hx y S S' a M c V w h1 h2=>by
   have:=Dm hx;exact ih x y S S' a M c V w Aa Aa h1 h2
  have HF:=kh (fun w=>RS l q hC S S' a M c V w Aa);clear hC ih;simp only [ml,lZ,mj,md,l9];unfold Nd.eqb;have X:=lN w;by_cases O:k=k'
  . by_cases Y:n=n'
    . by_cases U:s=s'
      . rw [decide_eq_true O,decide_eq_true Y,decide_eq_true U,Bool.true_and,Bool.true_and,Bool.true_and];subst O Y U;refine Ae func45 ntmps45 rfl rfl ?_;refine cS (eB [_,_,_,_] ?_);intro b1 w2 L x5 p6 z7;revert E f X;refine eE x5 ?_;intro E f X;refine eB [_,_,_,_] ?_;intro b8 w9 F af aw ax;revert L E f X;refine eE af ?_;intro L E f X;refine C1 Pa (cN (C1 Pg (C1 (Pl L) (C1 Pg (C1 (Pl F) (C1 V1 (C1 Mv (XK (C1 Pf (XK (C1 (Pl L) ?_)))))))))));refine XK (C1 Pf (XK (C1 (Pl F) (XK (C1 V1 (C1 V0 (C1 Mv (XK (C1 Pf (XK (C1 (Pl L) ?_)))))))))));refine XK (C1 Pf (XK (C1 (Pl F) (XK (C1 V8 (C1 V0 (C1 Mv (Bl rfl rfl rfl (F4 (rfl)) (C1 Pf (Bl rfl rfl rfl (F4 (rfl)) (C1 (Pl L) ?_)))))))))));refine Bl rfl rfl rfl (F4 (rfl)) (C1 Pf (Bl rfl rfl rfl (F4 (rfl)) (C1 (Pl F) (Bl rfl rfl rfl (F4 (rfl)) (cC rfl (HF.out _ Af Af) ?_)))));rintro _ ay ⟨⟨⟩,ag⟩;revert F L E f X;refine eY ag ?_;intro az F L E f X;refine C1 (Qy (rfl)) ?_;refine eK ?_;refine xR ?_;exact ⟨rfl,X⟩
      . rw [decide_eq_true O,decide_eq_true Y,decide_eq_false U,Bool.true_and,Bool.true_and,Bool.false_and];subst O Y;refine Ae func45 ntmps45 rfl rfl ?_;refine cS (eB [_,_,_,_] ?_);intro a0 a1 Z ah a2 a3;revert E f X;refine eE ah ?_;intro E f X;refine eB [_,_,_,_] ?_;intro a4 a5 ak aa al am;revert Z E f X;refine eE aa ?_;intro Z E f X;refine eK ?_;refine xR ?_;exact ⟨rfl,X⟩
    . rw [decide_eq_true O,decide_eq_false Y,Bool.true_and,Bool.false_and];subst O;refine Ae func45 ntmps45 rfl rfl ?_;refine cS (eB [_,_,_,_] ?_);intro a6 a7 ab ai a8 a9;revert E f X;refine eE ai ?_;intro E f X;refine eB [_,_,_,_] ?_;intro ba bb an ac ao ap;revert ab E f X;refine eE ac ?_;intro ab E f X;refine eK ?_;refine xR ?_;exact ⟨rfl,X⟩
  . rw [decide_eq_false O,Bool.false_and];refine Ae func45 ntmps45 rfl rfl ?_;refine cS (eB [_,_,_,_] ?_);intro bc bd ad aj be bf;revert E f X;refine eE aj ?_;intro E f X;refine eB [_,_,_,_] ?_;intro bg bh aq ae ar au;revert ad E f X;refine eE ae ?_;intro ad E f X;refine eK ?_;refine xR ?_;exact ⟨rfl,X⟩
abbrev ints (xs:List Int):lV:=xs.map (.int .i64 ·)
def IntsAt (w:wD) (xs:List Int) (a:oA):Prop:=Rows (fun _=>True) w (ints xs) a
def IntsAt.get {w:wD} {xs:List Int} {a:oA} (h:IntsAt w xs a) (f:xs≠[]) : ∃b o,a=some ⟨b,o,none⟩/\Row w ⟨b,o,none⟩ (ints xs):=by
 rcases h with h|⟨b,o,h1,-,E⟩
 . exact absurd (List.map_eq_nil_iff.1 h) f
 . exact ⟨b,o,h1,E⟩
def jA {S:nP} {w:wD} {x:Nd} {a:oA} (h:rowSits S w [x] a) : ∃b o xa xc,a=some ⟨b,o,none⟩/\S b/\Row w ⟨b,o+0*4,none⟩ (x.cells xa xc)/\x.sits S w xa:=by
 obtain ⟨b,o,e,f,E⟩:=Bx h A6;obtain ⟨xa,xc,r,s⟩:=E 0 x rfl;exact ⟨b,o,xa,xc,e,f,r,s⟩
def OwnI (w:wD) (B:Nat) (v:Value) (xs:List Int):Prop:=Own w B 3 1 v xs.length (ints xs)
def OwnI.open {w:wD} {B:Nat} {v:Value} {xs:List Int} (h:OwnI w B v xs):(v = .slice none 0 0/\xs=[]) \/ ∃g cap F,v = .slice (some ⟨g,0,none⟩) xs.length cap/\B<=g/\TB w g (ints xs++F) 3/\xs.length+F.length=cap/\cap<=maxLen:=by
 obtain ⟨-,⟨h1,f⟩|⟨g,cap,E,h1,f,L,O,M,U,N⟩⟩:=h
 . exact kj ⟨h1,List.length_eq_zero_iff.1 f⟩
 . refine kp ⟨g,cap,E.toList.drop xs.length,h1,f,?_,?_,M⟩
   . unfold TB;rw [L,<-N,Nat.mul_one,lf]
   . simp only [List.length_drop,Array.length_toList];omega
def OwnI.shape {w:wD} {B:Nat} {v:Value} {xs:List Int} (h:OwnI w B v xs) : ∃a c,v = .slice a xs.length c:=by
 rcases h.open with ⟨h1,f⟩|⟨g,cap,E,h1,-⟩
 . exact ⟨none,0,by rw [h1,f];rfl⟩
 . exact ⟨_,_,h1⟩
def OwnI.lt {w:wD} {B:Nat} {v:Value} {xs:List Int} (h:OwnI w B v xs) {k:Nat} (f:v.ownBlock=some k):B<=k/\k<w.heap.size:=Own.blk h f
def Wu (w:wD) (q:Nat):Ext w (w.drewN q):=by
 induction q with
 | zero=>exact lN w
 | succ q f=>exact f.drew
def Yh (xs:List Int) (w:wD):Ending->wD->Prop:=fun e w'=> ∃a c,e = .returned (.slice a xs.length c)/\OwnI w' w.heap.size (.slice a xs.length c) xs/\(∀k,(lm a xs.length c).ownBlock=some k->w.heap.size<=k/\k<w'.heap.size)/\Ext w w'
def Yi (xs:List Int) (X:xs.length<=1000000) (a:oA) (c:Nat) (w:wD) (h:IntsAt w xs a):Calls prog 88 #[.slice a xs.length c] w (Yh xs w):=by
 have key : ∀(v:Value) (w':wD),w'.ownsRow w.heap.size 3 1 v xs.length (ints xs)->Ext w w'->Yh xs w (.returned v) w':=fun v w' h1 f=>by
  have h1:OwnI w' w.heap.size v xs:=h1;obtain ⟨L,M,rfl⟩:=h1.shape;exact ⟨L,M,rfl,h1,fun k N=>h1.lt N,f⟩
 cases a with
 | none=>
  obtain rfl:xs=[]:=by
   rcases h with h|⟨b,o,h,-⟩
   . simpa [ints] using h
   . cases h
  have E:=Any.slices_Clone_int_nil Tryz.lays2n15 0 c w;refine Calls.mono E ?_;rintro e w' ⟨rfl,rfl⟩;exact key _ _ Own.nil (lN _)
 | some p=>
  by_cases F:xs=[]
  . subst F;have E:=Any.slices_Clone_int_zero Tryz.lays2n15 p c w;refine Calls.mono E ?_;rintro e w' ⟨v,rfl,h1,-,f⟩;exact key _ _ h1 f
  . obtain ⟨b,o,O,U⟩:=h.get F;cases O;have E:=Any.slices_Clone_int Tryz.lays2n15 b o xs.length c xs w (kv _) Aa (fun j V=>by
     have:=U.at (i:=j) (v:=.int .i64 (xs.getD j 0)) (by simp [ints,List.getElem?_map,kg V,List.getD_eq_getElem?_getD]);exact this)
    refine Calls.mono E ?_;rintro e w' ⟨v,rfl,h1,-,f⟩;rw [kE] at h1;exact key _ _ h1 f
structure SV where
 cells:List (List Int)
 tin:List Int
 tout:List Int
def dV (S:nP) (w:wD) (b o:Nat) (xs:List Int):Prop:= ∃a c,Row w ⟨b,o,none⟩ [.slice a xs.length c]/\Rows S w (ints xs) a
def ICs (S:nP) (w:wD) (l:List (List Int)) (a:oA):Prop:=Arr S 1 (dV S) w l a
section
variable {S S' T:nP} {w w':wD} {l:List (List Int)} {xs:List Int} {a ta oa:oA} {s:SV}
def ICs.ext (h:ICs S w l a) (x:Ext w w'):ICs S w' l a:=h.mono aFh (fun _ _ _ _ _ ⟨a,c,h1,h2⟩=>⟨a,c,h1.ext x,h2.ext x⟩)
instance  : LfE w w' (ICs S w l a) (ICs S w' l a):=⟨fun x h=>Bk.ICs.ext h x⟩
def ICs.fr (h:ICs S w l a) (x:Fr T w w') (f : ∀b,S b -> ¬T b):ICs S w' l a:=h.mono aFh (fun b _ _ _ E ⟨a,c,h1,h2⟩=>⟨a,c,h1.fr x (f b E),h2.fr x f⟩)
instance  : LfF T w w' (ICs S w l a) (∀b,S b -> ¬T b) (ICs S w' l a):=⟨fun x s h=>Bk.ICs.fr h x s⟩
def ICs.wide (h:ICs S w l a) (f : ∀b,S b->S' b):ICs S' w l a:=h.mono f (fun _ _ _ _ _ ⟨a,c,h1,h2⟩=>⟨a,c,h1,h2.wide f⟩)
def ICs.get (h:ICs S w l a) (f:l≠[]) : ∃b o,a=some ⟨b,o,none⟩/\S b /\ ∀i x,l[i]? = some x->dV S w b (o+i*1) x:=by
 rcases h with h|⟨b,o,h1,E,F⟩
 . exact absurd h f
 . exact ⟨b,o,h1,E,fun i v L=>F i v L⟩
end
def MB (v:VD):Prop:=((v.kind=1\/v.kind=3)/\v.len=0)\/(v.kind=2/\1<=v.len/\v.len<=16)
def Fj (l:List VD):Prop:=l.length<=32 /\ ∀v∈l,MB v
def EA (v:VD):Int:=if v.kind=1 then 1 else v.len
def U9 (l:List VD) (hl:l.length<=1000000) (S:nP) (a:oA) (c:Nat) (w:wD) (E:VDs S w l a) :
 Calls prog 141 #[.slice a l.length c] w fun e w'=> ∃q,e = .returned (.bool q)/\(q=true↔Fj l)/\Ext w w':=by
 have X:=lN w;refine Ae func141 ntmps141 rfl rfl ?_;by_cases N:l.length<=32
 . refine cS (C1 Pa (cT (Al (cS (C1 Mv (C1 Pz (C1 V5 (cT (E4 (Av (Ai ?_)))))))))));refine Al (cS (C1 Mv (C1 Pz (C1 Mv (cT ?_)))));refine Ax ?_;refine AM (ι:=Nat) (fun j=>[(2,.bool false),(8,.slice a l.length c),(9,.int .i64 l.length),(10,.int .i64 j)])
    (fun j w'=>j<=l.length/\(∀v∈l.take j,MB v)/\VDs S w' l a/\Ext w w') (fun j=>l.length-j) 0 sB ⟨kC _,A6,E,X⟩ ?_
   clear E X;rintro j w1 ⟨hj,F,E,X⟩;by_cases M:j<l.length
   . obtain ⟨kb,ko,rfl,kS,hk⟩:=Arr.get E Aa;have rx:=hk j _ (kg M);have f : ¬MB l[j] -> ¬Fj l:=fun h h2=>h (h2.2 _ (kq M))
     have L:MB l[j] -> ∀v∈l.take (j+1),MB v:=fun h v hv=>by
      rw [ky M,List.mem_append,lM] at hv;rcases hv with hv|rfl
      . exact F v hv
      . exact h
     clear hk F;generalize l[j]=x at *;obtain ⟨xn,xk,xl⟩:=x;replace rx:Row w1 ⟨kb,ko+j*3,none⟩ [str xn,.int .u8 xk,.int .i64 xl]:=rx;simp only [MB] at f L
     focus
      refine eK ?_;refine xA [_,_,_] ?_;intro ae af ab;refine eI [_,_,_] ab ?_;intro ag ah ac ai aj;revert X E rx;refine eE ac ?_;intro X E rx;refine eK ?_;refine AF rfl (fun ad=>?_) (fun ad=>?_);refine eK ?_;refine Kn rfl (fun O=>?_) (fun O=>?_);refine eK ?_;refine xR ?_;rotate_left;refine Av (Ad (Ad (Ai (Ag (C1 V7 (C1 Mv (Ah ?_)))))));rotate_left;refine eK ?_;refine AF rfl (fun U=>?_) (fun U=>?_);refine eK ?_;refine Kn rfl (fun V=>?_) (fun V=>?_);refine eK ?_;refine xR ?_;rotate_left;refine Av (Ad (Ad (Ai (Ag (C1 V7 (C1 Mv (Ah ?_)))))));rotate_left;refine eK ?_;refine AF rfl (fun Y=>?_) (fun Y=>?_);refine eK ?_;refine DG rfl rfl rfl (fun Z=>?_) (fun Z=>?_);refine eK ?_;refine xR ?_;rotate_left;refine eK ?_;refine AF rfl (fun aa=>?_) (fun aa=>?_);refine eK ?_;refine xR ?_;rotate_left;refine Av (Ad (Ad (Ai (Ag (C1 V7 (C1 Mv (Ah ?_)))))));rotate_left;refine eK ?_;refine xR ?_;rotate_left
     . exact ⟨false,rfl,⟨fun h=>(by cases h),fun h=>absurd h (f Aa)⟩,X⟩
     . exact Ay (j+1) sB ⟨Aa,L Aa,E,X⟩ Aa
     . exact ⟨false,rfl,⟨fun h=>(by cases h),fun h=>absurd h (f Aa)⟩,X⟩
     . exact Ay (j+1) sB ⟨Aa,L Aa,E,X⟩ Aa
     . exact ⟨false,rfl,⟨fun h=>(by cases h),fun h=>absurd h (f Aa)⟩,X⟩
     . exact ⟨false,rfl,⟨fun h=>(by cases h),fun h=>absurd h (f Aa)⟩,X⟩
     . exact Ay (j+1) sB ⟨Aa,L Aa,E,X⟩ Aa
     . exact ⟨false,rfl,⟨fun h=>(by cases h),fun h=>absurd h (f Aa)⟩,X⟩
   . obtain rfl:j=l.length:=by omega
     rw [kE] at F;refine eK ?_;refine xR ?_;exact ⟨true,rfl,⟨fun _=>⟨N,F⟩,fun _=>rfl⟩,X⟩
 . refine eK ?_;refine xR ?_;exact ⟨false,rfl,⟨fun h=>(by cases h),fun h=>absurd h.1 N⟩,X⟩
def aC (v:VD) (w:wD):Calls prog 142 #[v.val] w fun e w'=>e = .returned (.int .i64 (EA v))/\Ext w w':=by
 have X:=lN w;obtain ⟨L,E,M⟩:=v;unfold EA;by_cases F:E=1
 . subst F;refine Ae func142 ntmps142 rfl rfl ?_;refine cS (GW [_,_,_] rfl rfl rfl ?_);intro b1 w2 f;have N:=f.blk;dsimp only at N;have O:=f.ext;have p6:=f.pos;have z7:=f.size;have X:=X.ext O;refine eK ?_;refine xR ?_;exact ⟨rfl,X⟩
 . change Calls prog _ #[.agg #[str L,.int .u8 E,.int .i64 M]] w _;simp only [At F];refine Ae func142 ntmps142 rfl rfl ?_;refine cS (eB [_,_,_] ?_);intro U V Y h Z aa;have X:=X.ext h;refine eK ?_;refine xR ?_;exact ⟨rfl,X⟩
structure BoxV where
 v:Int
 l:Int
 i:Int
 deriving DecidableEq
def BoxV.ok (b:BoxV):Prop:=(0<=b.v/\b.v<=1000)/\(0<=b.l/\b.l<=1000)/\0<=b.i/\b.i<=1000
instance (b:BoxV):Decidable b.ok:=by unfold BoxV.ok;infer_instance
instance (v:VD):Decidable (MB v):=by unfold MB;infer_instance
instance (l:List VD):Decidable (Fj l):=by unfold Fj;infer_instance
def MC (b:BoxV) (v:VD):Int×Int:=if v.kind=3 then (0,b.l) else (EA v,EA v)
def Gx (vs:List VD) (b:BoxV):List (Int×Int):=vs.map (MC b)++[(0,b.i)]
def GZ (x y:Int):Int:=if 1099511627776/y<x then 1099511627777 else x*y
def Nj (least y:Int):Nat->Int×Int
 | 0=>(0,1)
 | n+1=>(if least<=n then min ((Nj least y n).1+(Nj least y n).2) 1099511627777 else (Nj least y n).1,GZ (Nj least y n).2 y)
def Nk (p:Int×Int) (y:Int):Int:=(Nj p.1 y (p.2+1).toNat).1
def Ex (l:List (Int×Int)) (y:Int):Int:=l.foldl (fun s p=>GZ s (Nk p y)) 1
def G9 (vs:List VD) (b:BoxV):Int×Int:=
 if b.ok/\Fj vs then (if 1099511627776<Ex (Gx vs b) (2*b.v+1) then (0,5) else (Ex (Gx vs b) (2*b.v+1),0)) else (0,1)
def QF {x y:Int} (f:1<=x) (E:x<=1099511627777) (F:1<=y):1<=GZ x y/\GZ x y<=1099511627777:=by
 unfold GZ;split
 . omega
 . rename_i h;have h1:x<=1099511627776/y:=by omega
   have L:x*y<=1099511627776/y*y:=Int.mul_le_mul_of_nonneg_right h1 Aa;have M:=Int.ediv_mul_le 1099511627776 (b:=y) Aa;have N:1*1<=x*y:=Int.mul_le_mul f F Aa Aa;omega
def QG (f y:Int) (E:1<=y) : ∀n,1<=(Nj f y n).2/\(Nj f y n).2<=1099511627777
 | 0=>by simp [Nj]
 | n+1=>by
  have h:=QG f y E n;simp only [Nj];exact QF h.1 h.2 E
def QH (f y:Int) (E:1<=y) : ∀n:Nat,0<=(Nj f y n).1/\(Nj f y n).1<=1099511627777/\(f<(n:Int)->1<=(Nj f y n).1\/f<0/\n=0)
 | 0=>by simp [Nj]
 | n+1=>by
  have h:=QH f y E n;have F:=QG f y E n;simp only [Nj];split
  . refine ⟨Aa,Aa,fun _=>kj Aa⟩
  . exact ⟨h.1,h.2.1,fun L=>by omega⟩
def Yj {p:Int×Int} {y:Int} (f:1<=y) (E:0<=p.1) (F:p.1<=p.2):1<=Nk p y/\Nk p y<=1099511627777:=by
 have h:=QH p.1 y f (p.2+1).toNat;unfold Nk;refine ⟨?_,h.2.1⟩;rcases h.2.2 Aa with h|h
 . exact h
 . omega
def Ph : ∀(l:List (Int×Int)) (s y:Int),1<=y->(∀p∈l,0<=p.1/\p.1<=p.2)->1<=s->s<=1099511627777->1<=l.foldl (fun s p=>GZ s (Nk p y)) s/\l.foldl (fun s p=>GZ s (Nk p y)) s<=1099511627777
 | [],s,y,_,_,h1,f=>⟨h1,f⟩
 | p::l,s,y,E,F,h1,f=>by
  have L:=F p A6;have h:=QF h1 f (Yj E L.1 L.2).1;exact Ph l _ y E (fun q M=>F q (by simp [M])) h.1 h.2
def fO {b:BoxV} (f:b.ok) {v:VD} (h:MB v):0<=(MC b v).1/\(MC b v).1<=(MC b v).2/\(MC b v).2<=1000:=by
 unfold MC;obtain ⟨-,E,-⟩:=f;split
 . simp only;omega
 . rename_i F;unfold EA;unfold MB at h;split<;>omega
def aD {vs:List VD} {b:BoxV} (E:b.ok) (L:Fj vs) : ∀p∈Gx vs b,0<=p.1/\p.1<=p.2/\p.2<=1000:=by
 intro p f;unfold Gx at f;rw [List.mem_append,List.mem_map,lM] at f;rcases f with ⟨v,h,rfl⟩|rfl
 . exact fO E (L.2 v h)
 . obtain ⟨-,-,F⟩:=E;exact ⟨A6,F.1,F.2⟩
def Wv (vs:List VD) (b:BoxV):(Gx vs b).length=vs.length+1:=by simp [Gx]
def L2 : ∀(us p q r:lV),us.length=q.length->Bh (p++q++r) p.length us=p++us++r
 | [],p,[],r,_=>by simp [Bh]
 | u::us,p,v::q,r,h=>by
  simp only [kf,Nat.add_right_cancel_iff] at h;have e:(p++v::q++r).set p.length u=(p++[u])++q++r:=by
   rw [kA,kD,List.set_append_right _ _ (kv _),Nat.sub_self,kx];simp
  rw [Bh,e];have:=L2 us (p++[u]) q r h;rw [j9,kf,ki,Nat.zero_add] at this;rw [this];simp
def It {f:List lV} {n j:Nat} (h : ∀cs∈f,cs.length=n) (F:j<f.length):f.flatten=(f.take j).flatten++f[j]++(f.drop (j+1)).flatten/\(f.take j).flatten.length=j*n:=by
 constructor
 . have h1:=(lf j f).symm;rw [lh F] at h1;refine (congrArg List.flatten h1).trans ?_;rw [List.flatten_append,lg,kA]
 . rw [Gu (fun cs E=>h cs (List.mem_of_mem_take E)),kU];congr 1;omega
def TN {f:List lV} {n j:Nat} {us:lV} (h : ∀cs∈f,cs.length=n) (E:j<f.length) (L:us.length=n):Bh f.flatten (j*n) us=(f.set j us).flatten:=by
 obtain ⟨h1,F⟩:=It h E;have M:f[j].length=n:=h _ (kq E);rw [h1,<-F,L2 us _ _ _ Aa];have e:f.set j us=f.take j++us::f.drop (j+1):=by rw [List.set_eq_take_append_cons_drop,AH E]
 rw [e,List.flatten_append,lg,kA]
structure ArrS {α:Type} (sh:Shape α) (C D:Nat) (w:wD) (g:Nat) (xs:List α):Prop where
 ex : ∃css:List lV,Blk w g css.flatten/\css.length=xs.length /\ ∀(i:Nat) (x:α) (cs:lV),xs[i]? = some x->css[i]? = some cs->sh.rep w (fun b=>C<=b/\b<D) x cs
section
variable {α:Type} {sh:Shape α} {C D g:Nat} {w w':wD} {xs:List α}
def ArrS.lt (h:ArrS sh C D w g xs):g<w.heap.size:=by
 obtain ⟨f,h1,-⟩:=h.ex;exact h1.lt
def ArrS.fr {T:nP} (h:ArrS sh C D w g xs) (x:Fr T w w') (F : ∀k,T k->(k<C\/D<=k)/\k≠g):ArrS sh C D w' g xs:=by
 obtain ⟨f,h1,L,M⟩:=h.ex;exact ⟨f,h1.fr x (fun E=>(F g E).2 rfl),L,fun i y cs N O=>sh.mono (M i y cs N O) aFh (fun b o u V U=>x.keep (fun E=>by have:=(F b E).1;omega) U)⟩
instance {T:nP}:LfF T w w' (ArrS sh C D w g xs) (∀k,T k->(k<C\/D<=k)/\k≠g) (ArrS sh C D w' g xs):=⟨fun x s h=>Bk.ArrS.fr h x s⟩
def ArrS.ext (h:ArrS sh C D w g xs) (x:Ext w w'):ArrS sh C D w' g xs:=by
 obtain ⟨f,h1,E,F⟩:=h.ex;exact ⟨f,h1.ext x,E,fun i y cs L M=>sh.mono (F i y cs L M) aFh (fun b o u O N=>x.keep N)⟩
instance  : LfE w w' (ArrS sh C D w g xs) (ArrS sh C D w' g xs):=⟨fun x h=>Bk.ArrS.ext h x⟩
def ArrS.wide (h:ArrS sh C D w g xs) {E:Nat} (O:D<=E):ArrS sh C E w g xs:=by
 obtain ⟨f,h1,F,L⟩:=h.ex;exact ⟨f,h1,F,fun i y cs M N=>sh.mono (L i y cs M N) (fun _ h=>⟨h.1,Aa⟩) (fun _ _ _ _ h=>h)⟩
def ArrS.lens (h:ArrS sh C D w g xs) {f:List lV} (M:f.length=xs.length) (F : ∀(i:Nat) (x:α) (cs:lV),xs[i]? = some x->f[i]? = some cs->sh.rep w (fun b=>C<=b/\b<D) x cs) : ∀cs∈f,cs.length=sh.sz:=fun cs E=>by
 obtain ⟨k,L,rfl⟩:=List.mem_iff_getElem.1 E;exact sh.len (F k xs[k] f[k] (kg Aa) (kg L))
def ArrS.row (h:ArrS sh C D w g xs) {j:Nat} {x:α} (F:xs[j]? = some x) : ∃cs,Row w ⟨g,0+j*sh.sz,none⟩ cs/\sh.rep w (fun b=>C<=b/\b<D) x cs:=by
 obtain ⟨f,h1,O,N⟩:=h.ex;have U:j<xs.length:=by
  rcases kK j xs.length with h|h
  . exact h
  . rw [kO h] at F;cases F
 have V:f[j]? = some f[j]:=kg Aa;obtain ⟨X,Y⟩:=It (h.lens O N) (show j<f.length by omega);refine ⟨f[j],fun i v L=>?_,N j x _ F V⟩;have M:i<f[j].length:=by
  rcases kK i f[j].length with h|h
  . exact h
  . rw [kO h] at L;cases L
 have E:f.flatten[j*sh.sz+i]? = some v:=by
  rw [X,kA,lH Aa,Y,Nat.add_sub_cancel_left,lI M];exact L
 have:=h1.cell E;have e:(⟨g,0+j*sh.sz,none⟩:Addr).add i=⟨g,j*sh.sz+i,none⟩:=by unfold lA;by_cases Z:i=0<;>simp [Z]
 rw [e];exact this
def ArrS.made {n:Nat} {z:α} {f:lV} (E:Blk w g (kV n f).flatten) (F : ∀w S,sh.rep w S z f):ArrS sh C D w g (kV n z):=by
 refine ⟨kV n f,E,A6,fun i x cs L M=>?_⟩;have h1:=List.mem_of_getElem? L;have h:=List.mem_of_getElem? M;rw [List.mem_replicate] at h1 h;rw [h1.2,h.2];exact F _ _
def aE {j:Nat} {x:α} {us:lV} {N:wD} {f:List lV} (V:f.length=xs.length) (O : ∀(i:Nat) (x:α) (cs:lV),xs[i]? = some x->f[i]? = some cs->sh.rep w (fun b=>C<=b/\b<D) x cs) (X:j<xs.length) (hg:g<C\/D<=g) (U:sh.rep w (fun b=>C<=b/\b<D) x us) (L:Put w N g (Bh f.flatten (j*sh.sz) us)):ArrS sh C D N g (xs.set j x):=by
 have Y : ∀cs∈f,cs.length=sh.sz:=fun cs M=>by
  obtain ⟨k,Z,rfl⟩:=List.mem_iff_getElem.1 M;exact sh.len (O k xs[k] f[k] (kg Aa) (kg Z))
 rw [TN Y Aa (sh.len U)] at L;refine ⟨f.set j us,L.blk,by simp [V],fun i y cs E F=>?_⟩;have key:sh.rep w (fun b=>C<=b/\b<D) y cs:=by
  by_cases h:i=j
  . subst h;rw [List.getElem?_set_self X] at E;rw [List.getElem?_set_self Aa] at F;rw [<-kG E,<-kG F];exact U
  . rw [List.getElem?_set_ne (fun e=>h e.symm)] at E F;exact O i y cs E F
 exact sh.mono key aFh (fun b o u hb hu=>L.fr.keep (fun e=>by omega) hu)
end
section
variable {P:Program} {n:Nat} {l:Sl} {w:wD} {tab:Tab} {zt:E9} {ty:TypeId} {α:Type} {sh:Shape α}
def Nl (K:wD->Prop):Option Value->wD->Prop
 | none,w=>K w
 | some _,_=>False
def Pj {h:lV} {k:Nat} (f:h.length=k) : ∀N:Nat,(List.range (N*k)).map (fun i=>h.toArray[i%k]!)=(kV N h).flatten
 | 0=>by simp
 | N+1=>by
  rw [Nat.add_mul,Nat.one_mul,List.range_add,List.map_append,Pj f N,List.replicate_succ',List.flatten_append];congr 1;simp only [lg,List.flatten_nil,ll,List.map_map];apply List.ext_getElem
  . simp [f]
  . intro i h1 E;simp only [List.length_map,List.length_range] at h1;simp only [List.getElem_map,List.getElem_range,Function.comp];have:(N*k+i)%k=i:=by rw [Nat.mul_comm,Nat.mul_add_mod,Nat.mod_eq_of_lt h1]
    rw [this];simp [E]
def F6 {K X:wD->Prop} (h : ∀(_:Unit) f,K f->X f) : ∀v f,Nl K v f->X f:=fun v f E=>by
 cases v with
 | none=>exact h () f E
 | some v=>exact E.elim
def Lu {t e sz1 sz C D:Nat} {sE:Sk} {zs:lV} {x y:Operand} {N:Nat} {z:α} (T:TabOk P tab) (Z:CU P zt) (ht:AC tab t=some (.slice e,sz1)) (hE:AC tab e=some (sE,sz)) (hz:Dj zt e=some zs) (hzl:zs.length=sz)
 (hby:DQ P e=true) (hx:ev l x=some (.int .i64 (N:Int))) (hy:ev l y=some (.int .i64 (N:Int))) (hN:N<=100000000000) (hz0 : ∀w S,sh.rep w S z zs) :
 Ce P n l (.makeSlice t x y) ty w (IX fun o w'=> ∃g,o = .slice (some ⟨g,0,none⟩) N N/\ArrS sh C D w' g (kV N z)/\g=w.heap.size/\w'.heap.size=g+1/\Ext w w'):=by
 unfold Ce;intro a dst pos after gd next Q ha hn _;obtain ⟨i,v0,z1,z2,z3⟩:=FT Z hz;obtain ⟨i',hi',hs'⟩:=(T _ _ _ hE).info;rw [z1] at hi';obtain rfl:=kG hi';have hbb:i.bytes<=1000:=by
  unfold DQ at hby;rw [z1] at hby;exact kY hby
 have hu:=(T _ _ _ ht).under;have b:(i.bytes:Int)*(N:Int)<=281474976710656:=by
  have:i.bytes*N<=1000*100000000000:=Nat.mul_le_mul hbb hN;have h2:((i.bytes*N:Nat):Int)<=281474976710656:=by omega
  rwa [Int.natCast_mul] at h2
 have hr:=run_make (P:=P) w t e i v0 hu z1 z2 .i64 .i64 N N Aa (Int.le_refl _) b Aa;simp only [Int.toNat_natCast] at hr;have e2:(execOp a.eval ⟨dst,.makeSlice t x y,ty,pos,after,gd⟩).run P w = .ok (.value (.slice (some ⟨w.heap.size,0,none⟩) N N)) (w.alloc (.cells (madeCells v0.cells (N*i.size)) e)):=by
  simp only [execOp,ha.ev hx,ha.ev hy,kB,hr,lw,kJ]
 have ecell:madeCells v0.cells (N*i.size)=(kV N zs).flatten.toArray:=by
  rw [z3];have hsz:zs.length=i.size:=by omega
  apply Array.ext';simp only [madeCells,Array.toList_map,Array.toList_range,List.size_toArray];rw [hsz];exact Pj hsz N
 unfold lJ;rw [e2,ecell];have hnew:=Fv w (kV N zs).flatten e;exact hn _ _ ⟨w.heap.size,rfl,.made hnew.blk hz0,rfl,hnew.size,hnew.ext⟩
def Ds {x y:Operand} {t sz C D g j:Nat} {s:Sk} {v:Value} {us:lV} {xs:List α} {z:α} (T:TabOk P tab) (ht:AC tab t=some (s,sz)) (hx:ev l x=some (.pointer (some ⟨g,0+j*sh.sz,none⟩))) (hy:ev l y=some v) (hv:v.cells=us.toArray) (hl:us.length=sz) (h1:us.all mm=true)
 (hA:ArrS sh C D w g xs) (hj:j<xs.length) (hg:g<C\/D<=g) (hr:sh.rep w (fun b=>C<=b/\b<D) z us) :
 Ce P n l (.store t x y) ty w (Nl fun w'=>ArrS sh C D w' g (xs.set j z)/\Fr (· = g) w w'/\w'.heap.size=w.heap.size):=by
 obtain ⟨css,c1,c2,c3⟩:=hA.ex;have hfl:=Gu (hA.lens c2 c3);have hus:=sh.len hr;have hjs:j*sh.sz+sh.sz<=css.flatten.length:=by
  rw [hfl,c2,<-Nat.succ_mul];exact Nat.mul_le_mul_right _ hj
 have hd:=Ie (P:=P) (n:=n) (l:=l) (ty:=ty) T ht hx hy hv hl h1 c1 (by rw [Nat.ble_eq];omega);unfold Ce at hd ⊢;intro a dst pos after gd next Q ha hn c;refine hd a dst pos after gd next Q ha (fun v' w' h=>h.elim) (fun w' hP=>c w' ?_);have hP':Put w w' g (Bh css.flatten (j*sh.sz) us):=by rw [show j*sh.sz=0+j*sh.sz by omega];exact hP
 exact ⟨aE c2 c3 hj hg hr hP',hP'.fr,hP'.size⟩
def I1 {x y:Operand} {t sz C D g j:Nat} {s:Sk} {v:Value} {us:lV} {xs:List α} {z:α} (T:TabOk P tab) (f:AC tab t=some (s,sz)) (h:ev l x=some (.pointer (some ⟨g,0+j*sh.sz,none⟩))) (E:ev l y=some v) (F:v.cells=us.toArray) (L:us.length=sz) (h1:us.all mm=true)
 (M:ArrS sh C D w g xs) (N:j<xs.length) (O:g<C) (U:D<=w.heap.size) (V:sh.rep w (fun b=>C<=b) z us) :
 Ce P n l (.store t x y) ty w (Nl fun w'=>ArrS sh C w.heap.size w' g (xs.set j z)/\Fr (· = g) w w'/\w'.heap.size=w.heap.size):=
 Ds T f h E F L h1 (M.wide U) N (kj O) (sh.lt V)
end
section
variable {P:Program} {n:Nat} {l:Sl} {w:wD} {tab:Tab} {zt:E9} {ty:TypeId}
end
def KG {P:Program} {n:Nat} {l:Sl} {w:wD} {Q:Exit->Act->wD->Prop} {x y:Code} {ι:Type} (L:ι->Sl) (I:ι->wD->Prop) (h:CW P n x (Exit.then (fun a w=> ∃i,Env n (L i) a/\I i w) Q) l w) (k : ∀i w,I i w->CW P n y Q (L i) w):CW P n (.seq x y) Q l w:=
 eW _ h (fun a w ⟨i,he,hi⟩=>by have:=k i w hi;unfold CW at this;exact this a he)
def Cq {n:Nat} {l:Sl} {w:wD} {Q:Exit->Act->wD->Prop} {ι:Type} {L:ι->Sl} {I:ι->wD->Prop} (i:ι) (f:XJ (L i) l) (h:I i w):QW n (Exit.then (fun a w=> ∃i,Env n (L i) a/\I i w) Q) .normal l w:=
 VS fun _ E=>⟨i,E.sub f,h⟩
mutual
def Nm {S:nP} {w:wD} : ∀(l:List Nd) (a:oA),rowSits S w l a->rowSits (· < w.heap.size) w l a
 | [],_,_=>by simp [rowSits]
 | t::r,a,h=>by
  simp only [rowSits] at h ⊢;obtain ⟨b,o,a',c,rfl,hb,h0,h1,h2,h3,hs,hr⟩:=h;exact ⟨b,o,a',c,rfl,CQ h0,h0,h1,h2,h3,MK t a' hs,Nm r _ hr⟩
def MK {S:nP} {w:wD} : ∀(t:Nd) (a:oA),t.sits S w a->t.sits (· < w.heap.size) w a
 | .mk _ _ _ l,a,h=>by
  simp only [me] at h ⊢;exact Nm l a h
end
mutual
def L3 {S:nP} {w:wD} : ∀(l:List Nd) (a:oA),rowSits S w l a->rowSits (fun b=>S b/\b<w.heap.size) w l a
 | [],_,_=>by simp [rowSits]
 | t::r,a,h=>by
  simp only [rowSits] at h ⊢;obtain ⟨b,o,a',c,rfl,hb,h0,h1,h2,h3,hs,hr⟩:=h;exact ⟨b,o,a',c,rfl,⟨hb,CQ h0⟩,h0,h1,h2,h3,RT t a' hs,L3 r _ hr⟩
def RT {S:nP} {w:wD} : ∀(t:Nd) (a:oA),t.sits S w a->t.sits (fun b=>S b/\b<w.heap.size) w a
 | .mk _ _ _ l,a,h=>by
  simp only [me] at h ⊢;exact L3 l a h
end
def I2 (k:Int) (w:wD) (M:0<=k) (h1:k<=255):Calls prog 140 #[.int .u8 k] w fun e w'=>e = .returned (.int .u8 (Fg k))/\w=w':=by
 refine Ae func140 ntmps140 rfl rfl ?_
 focus
  refine eK ?_;refine AF rfl (fun h=>?_) (fun h=>?_);refine eK ?_;refine xR ?_;rotate_left;refine eK ?_;refine AF rfl (fun c2=>?_) (fun c2=>?_);refine eK ?_;refine xR ?_;rotate_left;refine eK ?_;refine AF rfl (fun c3=>?_) (fun c3=>?_);refine eK ?_;refine xR ?_;rotate_left;refine eK ?_;refine AF rfl (fun c4=>?_) (fun c4=>?_);refine eK ?_;refine xR ?_;rotate_left;refine eK ?_;refine AF rfl (fun c5=>?_) (fun c5=>?_);refine eK ?_;refine xR ?_;rotate_left;refine eK ?_;refine AF rfl (fun E=>?_) (fun E=>?_);refine eK ?_;refine xR ?_;rotate_left;refine eK ?_;refine AF rfl (fun F=>?_) (fun F=>?_);refine eK ?_;refine xR ?_;rotate_left;refine eK ?_;refine AF rfl (fun L=>?_) (fun L=>?_);refine eK ?_;refine xR ?_;rotate_left;refine eK ?_;refine AF rfl (fun c9=>?_) (fun c9=>?_);refine eK ?_;refine xR ?_;rotate_left;refine eK ?_;refine AF rfl (fun f=>?_) (fun f=>?_);refine eK ?_;refine xR ?_;rotate_left;refine eK ?_;refine xR ?_;rotate_left
 all_goals (refine ⟨congrArg (fun x=>Ending.returned (.int .u8 x)) ?_,rfl⟩;unfold Fg;(repeat' split)<;>omega)
def CopyR (u:Nd) (w:wD):Ending->wD->Prop:=fun e w'=> ∃a c,e = .returned (u.val a c)/\u.sits (fun b=>w.heap.size<=b/\b<w'.heap.size) w' a/\Ext w w'
def CopyR.ret {u:Nd} {w:wD} {e:Ending} {w':wD} (h:CopyR u w e w') : ∃v,e = .returned v:=by
 obtain ⟨_,_,h,-⟩:=h;exact ⟨_,h⟩
def CopyC (u:Nd) (w:wD):Ending->wD->Prop:=fun e w'=> ∃a c,e = .returned (u.val a c)/\u.sits (fun b=>w.heap.size<=b/\b<w'.heap.size) w' a/\Ext w w'/\u.kids.length<=c
def CopyC.ret {u:Nd} {w:wD} {e:Ending} {w':wD} (h:CopyC u w e w') : ∃v,e = .returned v:=by
 obtain ⟨_,_,h,-⟩:=h;exact ⟨_,h⟩
def CopyC.copy {u:Nd} {w:wD} {e:Ending} {w':wD} (h:CopyC u w e w'):CopyR u w e w':=by
 obtain ⟨a,c,h1,f,E,-⟩:=h;exact ⟨a,c,h1,f,E⟩
def Va {w:wD} {b e sz n c:Nat} {a:oA} {cs:lV} (h:Own w b e sz (.slice a n c) n cs):n<=c:=by
 rcases h.2 with ⟨f,-⟩|⟨M,E,F,f,-,-,L,-⟩
 . simp only [kT] at f;omega
 . simp only [kT] at f;obtain ⟨-,-,rfl⟩:=f;exact L
def Fz {S:nP} {w:wD} {k n:Int} {s:lB} {l:List Nd} {a:oA} (h:(Nd.mk k n s l).sits S w a):rowSits S w l a:=h
def aF (N:Nat) : ∀(t:Nd) (S:nP) (a:oA) (c:Nat) (w:wD),t.size<N->t.size<=1000000->t.sits S w a->Calls prog 52 #[t.val a c] w (CopyC t w):=by
 induction N with
 | zero=>intro t S a c w h;omega
 | succ N ih=>
  rintro ⟨k,n,s,l⟩ S a c w hN hM F;have aq:=Dq l;simp only [lR] at hN hM;have hC : ∀x∈l,∀(S:nP) (a:oA) (c:Nat) (w:wD),x.sits S w a->Calls prog 52 #[x.val a c] w (CopyC x w):=fun x hx S a c w h=>by
   have:=Dm hx;exact ih x S a c w Aa Aa h
  clear ih;have HC:=kh hC;clear hC;have F:=CO _ _ (Fz F);have X:=lN w;refine Ae func52 ntmps52 rfl rfl ?_;refine cS (eB [_,_,_,_] ?_);intro b1 w2 h4 x5 p6 z7;revert F X;refine eE x5 ?_;intro F X;refine eA [_,_,_,_] ?_;intro b8 w9 ac ak a6 a7;revert h4 F X;refine eE ak ?_;intro h4 F X;refine cN (C1 Pa (cT (Al (cS (C1 Pf (C1 (Pl h4) (C1 Pz (C1 Mv (cT (Ax ?_))))))))));have a8:b8+1=w9.heap.size:=by omega
  refine AM (ι:=Nat×List Nd×oA×Nat) (fun x=>[(1,.pointer (some ⟨b1,0,none⟩)),(2,.pointer (some ⟨b8,0,none⟩)),(3,.slice x.2.2.1 x.2.1.length x.2.2.2),(7,.slice a l.length c),(8,.int .i64 l.length),(9,.int .i64 x.1)])
   (fun x w'=>OwnL ndShape w' (b8+1) 32 (.slice x.2.2.1 x.2.1.length x.2.2.2) x.2.1/\x.1<=l.length/\x.2.1=l.take x.1/\rowSits (· < w.heap.size) w' l a/\Blk w' b1 [.int .u8 k,.int .i64 n,str s,.slice a l.length c]/\Blk w' b8 [.int .u8 0,.int .i64 0,str [],.slice none 0 0]/\Ext w w'/\b8+1<=w'.heap.size)
   (fun x=>l.length-x.1) (0,[],none,0) sB ⟨OwnL.nil,kC _,rfl,F,h4,ac,X,Aa⟩ ?_
  clear F h4 ac X;rintro ⟨j,xs,ra,rc⟩ w1 ⟨f,hj,O,F,L,E,X,hg⟩;simp only at f hj O F L E X hg;have al : ∀g,(lm ra xs.length rc).ownBlock=some g->g<w1.heap.size:=fun g h=>f.lt h
  have a9:xs.length<=l.length:=by rw [O,kU];omega
  refine CW.sub (m:=[(1,.pointer (some ⟨b1,0,none⟩)),(2,.pointer (some ⟨b8,0,none⟩)),(3,.slice ra xs.length rc),(7,.slice a l.length c),(8,.int .i64 l.length),(9,.int .i64 j)]) ?_ sB;by_cases U:j<l.length
  . obtain ⟨kb,ko,rfl,kS,Z⟩:=Bx F (by intro e;subst e;simp at U);obtain ⟨xa,xc,rx,sx⟩:=Z j l[j] (kg U);have hz:=Dm (kq U);have HX:=kh (HC.out l[j] (kq U));have ab:xs++[l[j]]=l.take (j+1):=by rw [O,ky U]
    clear Z HC O;generalize l[j]=x at *;refine eK ?_;refine xA [_,_,_,_] ?_;intro ba bb am;refine eI [_,_,_,_] am ?_;intro bc V an bd be;revert f E X F L rx sx;refine eE an ?_;intro f E X F L rx sx;refine eK ?_;refine eQ rfl (HX.out _ _ _ _ Af) ?_;rintro _ ar ⟨bf,⟨au,⟨⟨⟩,⟨Y,⟨ad,av⟩⟩⟩⟩⟩;revert V f E X F L rx sx;refine eY ad ?_;intro aw V f E X F L rx sx;refine Au (xS [_,_,_,_]) rfl ?_ aFh;rintro _ ax ⟨ay,rfl,M,az⟩;have ae:=M.blk;have af:=M.ext;have a0:=M.pos;have a1:=M.size;revert Y V f E X F L rx sx;refine eE af ?_;intro Y V f E X F L rx sx;refine BV (sh:=ndShape) (z:=x) Ab C9 rfl rfl rfl rfl BD rfl rfl rfl f (Blk.row Af) ⟨_,_,rfl,Nd.sits.wide Af (fun b h=>⟨Aa,fun e=>by have:=al _ e;omega⟩)⟩ Aa Aa rfl ?_;rintro a2 ag a3 a4 aa;have a5:=aa.size;clear ae Y V f;revert E X F L rx sx;refine eF aa ?_;intro E X F L rx sx;refine C1 Pa (Ah (Ad (Ai (Ag (C1 V7 (C1 Mv (Ah ?_)))))));refine Ay (j+1,xs++[x],some ⟨_,0,none⟩,_) sB ⟨Af,by simp only;omega,ab,F,L,E,X,Aa⟩ Aa
  . obtain rfl:j=l.length:=by omega
    rw [kE] at O;subst O;refine eK ?_;refine eV [_] [_,_,_,_] L ?_;intro bg ah ao bh;revert f E X F;refine eF ao ?_;intro f E X F;refine eK ?_;refine eS [_,_,_,_] E ?_;intro bi ai ap bj;revert ah f X F;refine eF ap ?_;intro ah f X F;refine eK ?_;refine xC ai ?_;have aj:=Va f.ex.choose_spec.1;exact ⟨ra,rc,rfl,RT (Nd.mk k n s xs) ra (KC (f.sits (S:=fun b=>w.heap.size<=b) (fun b h=>by omega))),X,aj⟩
def Vb (t:Nd) (f:t.size<=1000000) (S:nP) (a:oA) (c:Nat) (w:wD) (h:t.sits S w a):Calls prog 52 #[t.val a c] w (CopyC t w):=aF (t.size+1) t S a c w Aa f h
def QI (t:Nd) (f:t.size<=1000000) (S:nP) (a:oA) (c:Nat) (w:wD) (E:t.sits S w a):Calls prog 52 #[t.val a c] w (CopyR t w):=Calls.mono (Vb t f S a c w E) (fun _ _ h=>h.copy)
def RU (xs ys:List Nd) (i:Nat):Prop:=ys.length=xs.length /\ ∀k,k<xs.length->ys[k]? = if k<i\/xs.length-i<=k then xs[xs.length-1-k]? else xs[k]?
def aG (xs:List Nd):RU xs xs 0:=⟨rfl,fun k f=>by rw [At Aa]⟩
def Ww {xs ys:List Nd} {i:Nat} (h:RU xs ys i) (E:xs.length<=2*i+1):ys=xs.reverse:=by
 apply List.ext_getElem?;intro k;by_cases f:k<xs.length
 . rw [h.2 k f,List.getElem?_reverse f];split
   . rfl
   . have:xs.length-1-k=k:=by omega
     rw [this]
 . rw [kO (by rw [h.1];omega),kO (by rw [List.length_reverse];omega)]
def TO {xs ys:List Nd} {i:Nat} (h:RU xs ys i) (N:2*i+1<xs.length) {x y:Nd} (f:ys[i]? = some x) (E:ys[xs.length-1-i]? = some y):RU xs ((ys.set i y).set (xs.length-1-i) x) (i+1):=by
 refine ⟨by simp [h.1],fun k M=>?_⟩;have O:=h.1;rw [h.2 i Aa,At Aa] at f;rw [h.2 (xs.length-1-i) Aa,At Aa] at E;by_cases h1:k=xs.length-1-i
 . subst h1;rw [List.getElem?_set_self (by simp [h.1];omega),AH Aa,show xs.length-1-(xs.length-1-i)=i by omega,f]
 . rw [List.getElem?_set_ne (fun e=>h1 e.symm)];by_cases F:k=i
   . subst F;rw [List.getElem?_set_self Aa,AH Aa,E]
   . rw [List.getElem?_set_ne (fun e=>F e.symm),h.2 k M];by_cases L:k<i\/xs.length-i<=k
     . rw [AH L,AH Aa]
     . rw [At L,At Aa]
def Wx (C D g cap:Nat) (xs:List Nd) (w:wD) (hA:ArrS ndShape C D w g xs) (hg:g<C\/D<=g) (hl:xs.length<=1000000):Calls prog 139 #[.slice (some ⟨g,0,none⟩) xs.length cap] w fun e w'=>e = .returned (.tuple #[])/\ArrS ndShape C D w' g xs.reverse/\Fr (· = g) w w':=by
 have X:=Fr.refl (· = g) w
 by_cases hn:xs.length=0
 . have e0:xs=[]:=List.eq_nil_of_length_eq_zero hn;subst e0;refine Ae func139 ntmps139 rfl rfl ?_
   refine eK ?_;refine C1 (CM rfl rfl (kN _ (by omega))) (C1 Pa (C1 Pa (cT (Ax ?_))))
   refine AM (ι:=Unit) (fun _=>[(2,.int .i64 0),(3,.int .i64 (-1))]) (fun _ w'=>ArrS ndShape C D w' g []/\Fr (· = g) w w') (fun _=>0) () sB ⟨hA,X⟩ ?_;rintro _ w1 ⟨hA,X⟩
   refine Al (cS (C1 Mv (C1 Mv (C1 V3 (cT (Ij (DP (AQ (AQ (Bs (Bt rfl ?_)))))))))))
   exact ⟨rfl,hA,X⟩
 refine Ae func139 ntmps139 rfl rfl ?_
 refine eK ?_;refine C1 (CM rfl rfl (kN _ (by omega))) (C1 Pa (C1 Pa (cT (Ax ?_))))
 obtain ⟨m0,hm0⟩ : ∃m:Nat,((xs.length:Int)-1)=(m:Int):=⟨xs.length-1,by omega⟩;rw [hm0];refine AM (ι:=Nat×Nat×List Nd) (fun x=>[(0,.slice (some ⟨g,0,none⟩) xs.length cap),(2,.int .i64 x.1),(3,.int .i64 x.2.1)]) (fun x w'=>ArrS ndShape C D w' g x.2.2/\RU xs x.2.2 x.1/\x.1+x.2.1+1=xs.length/\Fr (· = g) w w') (fun x=>x.2.1) (0,m0,xs) sB ⟨hA,aG xs,by simp only;omega,X⟩ ?_;clear hA X hm0;rintro ⟨i,m,ys⟩ w1 ⟨hA,hR,hm,X⟩;simp only at hA hR hm;refine CW.sub (m:=[(0,.slice (some ⟨g,0,none⟩) xs.length cap),(2,.int .i64 i),(3,.int .i64 m)]) ?_ sB;have hyl:=hR.1
 by_cases hlt:i<m
 . obtain ⟨x,hx⟩ : ∃x,ys[i]? = some x:=⟨_,kg (by omega)⟩;obtain ⟨y,hy⟩ : ∃y,ys[m]? = some y:=⟨_,kg (by omega)⟩;obtain ⟨_,r1,xa,xc,rfl,sx⟩:=hA.row hx;obtain ⟨_,r2,ya,yc,rfl,sy⟩:=hA.row hy;have hR2:=TO hR (by omega) hx (show ys[xs.length-1-i]? = some y by rw [show xs.length-1-i=m by omega];exact hy);rw [show xs.length-1-i=m by omega] at hR2;clear hR hx hy;replace r1:Row w1 ⟨g,0+i*4,none⟩ _:=r1;replace r2:Row w1 ⟨g,0+m*4,none⟩ _:=r2
   refine eK ?_;refine Kv (fun wz=>Ext w1 wz) (fun wz=>Fr (fun x=>x=g) w1 wz) [2,3,13,14,15] [2,3] 13 14 (.free 2 (.free 3 (.pure 0 (.pure 1 (.pure 4 (.pure 5 (.pure 6 (.pure 7 (.pure 8 (.pure 9 (.pure 10 (.pure 11 (.pure 12 (.put 13 (.tail 14))))))))))))))) (fun _ h=>mi h) mixed (by kernel_rfl) (Ak (Ac (Ac (Ak An)))) ?_;intro wc1 xc2 _;have qsc3:(fun wz=>Ext w1 wz) wc1:=xc2;simp only at qsc3;have qtc4:(fun wz=>Fr (fun x=>x=g) w1 wz) wc1:=mi xc2;simp only at qtc4;have d_hA:=hA;have d_sx:=sx;have d_sy:=sy;have d_r1:=r1;have d_r2:=r2;revert hA X sx sy r1 r2;refine eY xc2 ?_;intro zc5 hA X sx sy r1 r2;refine Ee ‹_› rfl (A0 rfl) rfl (Ee ‹_› rfl (A0 rfl) rfl (AR ‹_› rfl (A0 rfl) rfl (AR ‹_› rfl (A0 rfl) rfl (AR ‹_› rfl (A0 rfl) rfl (AR ‹_› rfl (A0 rfl) rfl (AR ‹_› rfl (AG Ab rfl rfl rfl rfl (by omega) (by omega)) rfl (AR ‹_› rfl (BS Ab rfl rfl rfl (fun wz hz=>(mf d_r2 hz)) rfl) rfl (AR ‹_› rfl (A0 rfl) rfl (AR ‹_› rfl (A0 rfl) rfl (AR ‹_› rfl (AG Ab rfl rfl rfl rfl (by omega) (by omega)) rfl (AR ‹_› rfl (BS Ab rfl rfl rfl (fun wz hz=>(mf d_r1 hz)) rfl) rfl ?_)))))))))))
   refine AR ‹_› rfl (AG Ab rfl rfl rfl rfl (by omega) (by omega)) rfl (Kx rfl (Ds (sh:=ndShape) (j:=i) (z:=y) (us:=[_,_,_,_]) Ab rfl rfl rfl rfl rfl rfl hA (by omega) hg ⟨_,_,rfl,by assumption⟩) (F6 ?_));rintro _ wc9 ⟨hc6,⟨fc7,hc8⟩⟩;have zc10:=fc7.size;replace qtc4:=qtc4.fr fc7 (by omega);clear hA;revert X sx sy;refine eF fc7 ?_;intro X sx sy;refine ⟨by assumption,?_⟩;refine Kw rfl (C1 Pi (C8 (Ds (sh:=ndShape) (j:=m) (z:=x) (us:=[_,_,_,_]) Ab rfl rfl rfl rfl rfl rfl ‹_› (by rw [List.length_set];omega) hg ⟨_,_,rfl,by assumption⟩) (F6 ?_)));rintro _ wc14 ⟨hc11,⟨fc12,hc13⟩⟩;have zc15:=fc12.size;revert X sx sy;refine eF fc12 ?_;intro X sx sy;refine eK ?_;refine C1 (CM rfl rfl (kN _ (by omega))) (C1 Pa (C1 Pa (Ah ?_)))
   refine Ay (i+1,m-1,(ys.set i y).set m x) (by (refine Am rfl ?_;refine Am rfl ?_;refine Bj rfl (by go_num) ?_;exact BB)) ⟨by assumption,hR2,by simp only;omega,X⟩ (by simp only;omega)
 . have e:=Ww hR (by omega);subst e
   refine Al (cS (C1 Mv (C1 Mv (C1 V3 (cT (E4 (DP (AQ (AQ (Bs (Bt rfl ?_)))))))))))
   exact ⟨rfl,hA,X⟩
def DX (q:Bool) (k:Int) (x:Nd):Nd:=if k=57\/x.kind=57 then x.inv q else x
def TP (q:Bool) (l:List Nd):CH q l=l.map (DX q 57):=by
 induction l with
 | nil=>rfl
 | cons t r f=>simp only [CH,lr,f,DX,true_or,if_true]
def RV (q:Bool) {k:Int} (f:k≠57) (l:List Nd):Eb q l=l.map (DX q k):=by
 induction l with
 | nil=>rfl
 | cons t r h=>simp only [Eb,lr,h,DX,f,false_or]
def Ha (f:Nd->Nd) (l:List Nd) (j:Nat):List Nd:=(l.take j).map f++kV (l.length-j) BR
def TQ (f:Nd->Nd) (l:List Nd) (j:Nat) (h:j<=l.length):(Ha f l j).length=l.length:=by
 simp only [Ha,j9,List.length_map,kU,List.length_replicate];omega
def TR (f:Nd->Nd) (l:List Nd) (j:Nat) (h:j<l.length):(Ha f l j).set j (f l[j])=Ha f l (j+1):=by
 unfold Ha;have h1:((l.take j).map f).length=j:=by simp;omega
 rw [List.set_append_right _ _ Aa,h1,Nat.sub_self,show l.length-j=(l.length-(j+1))+1 by omega,List.replicate_succ,kx,ky h,List.map_append,kA];rfl
def TS (f:Nd->Nd) (l:List Nd):Ha f l l.length=l.map f:=by simp [Ha]
def TU {k n:Int} {s:lB} {l:List Nd} (h:(Nd.mk k n s l).isStmt=true\/(Nd.mk k n s l).isBlock=true):(∀x∈l,k=57\/x.kind=57->x.isStmt=true\/x.isBlock=true)/\(k=52\/k=53\/k=54->l≠[])/\40<=k/\k<=57:=by
 rcases h with h|h
 . have N:=O6 h;simp only [lZ] at N;have f : ∀x:Nd,x.isExpr=true -> ¬x.kind=57:=fun x f=>by have:=Lm f;omega
   have key : ∀x∈l,x.isBlock=true\/x.isExpr=true:=by
    cases DV h with
    | call _ _ _ O=>intro x f;exact kp (JZ (lG.1 O x f))
    | upd _ h1 F=>intro x f;simp only [kF,kI,or_false] at f;rcases f with rfl|rfl<;>first|exact kp (Bw Af)|exact kp Af
    | swap h1 F=>intro x f;simp only [kF,kI,or_false] at f;rcases f with rfl|rfl<;>exact kp (Bw Af)
    | stack _ _ h1=>intro x f;simp only [kF,kI,or_false] at f;rw [f];exact kp (Bw h1)
    | tape _ h1=>intro x f;simp only [kF,kI,or_false] at f;rw [f];exact kp (Bw h1)
    | branch _ h1 F U Z=>intro x f;simp only [kF,kI,or_false] at f;rcases f with rfl|rfl|rfl|rfl<;>first|exact kp Af|exact kj Af
    | local_ _ h1 F U=>intro x f;simp only [kF,kI,or_false] at f;rcases f with rfl|rfl|rfl<;>first|exact kp Af|exact kj Af
    | lstack _ h1=>intro x f;simp only [kF,kI,or_false] at f;rw [f];exact kj h1
   refine ⟨fun x L E=>?_,fun E=>?_,Aa,Aa⟩
   . rcases E with rfl|E
     . omega
     . rcases key x L with V|X
       . exact kp V
       . exact absurd E (f x X)
   . rintro rfl;cases DV h with
     | call Y=>omega
 . obtain ⟨e,M⟩:=Fx h;simp only [l9,Nd.mk.injEq,and_true] at e M;obtain ⟨rfl,-,-⟩:=e;exact ⟨fun x f _=>kj (rowStmt_iff.1 M x f),fun E=>by omega,Aa,Aa⟩
def RW (q:Bool) {k n:Int} {s:lB} {l:List Nd} (hk : ¬k=57):(Nd.mk k n s l).inv q=if k=52\/k=53\/k=54 then .mk k n s (Hn (l.map (DX q k))) else .mk (if k=50\/k=51 then (if q then k else Fg k) else Fg k) n s (l.map (DX q k)):=by
 conv=>lhs;unfold Nd.inv
 rw [At hk,RV q hk];by_cases h1:k=52\/k=53\/k=54
 . rw [AH h1,AH h1]
 . rw [At h1,At h1];by_cases h2:k=50\/k=51
   . rw [AH h2,AH h2]
   . rw [At h2,At h2]
def RX (w:wD) (S:nP):ndShape.rep w S BR [.int .u8 0,.int .i64 0,.string ⟨#[]⟩,.slice none 0 0]:=⟨none,0,rfl,Dp⟩
def ArrS.sits {C D g:Nat} {w:wD} {xs:List Nd} (h:ArrS ndShape C D w g xs) {S:nP} (E:S g) (F : ∀b,C<=b->b<D->S b):rowSits S w xs (some ⟨g,0,none⟩):=
 ET E xs 0 (fun i x L=>by
  obtain ⟨cs,M,a,c,rfl,N⟩:=h.row L;exact ⟨a,c,M,Nd.sits.wide N (fun b f=>F b f.1 f.2)⟩)
def Ey {C g:Nat} {w w':wD} {k n:Int} {s:lB} {xs:List Nd} {m:Nat} (E:xs.length=m) (h:ArrS ndShape C w'.heap.size w' g xs) (h1:w.heap.size<=g) (L:w.heap.size<=C) (X:Ext w w'):CopyR (.mk k n s xs) w (.returned (.agg #[.int .u8 k,.int .i64 n,str s,.slice (some ⟨g,0,none⟩) m m])) w':=by
 subst E;exact ⟨some ⟨g,0,none⟩,xs.length,rfl,KC (h.sits ⟨h1,h.lt⟩ (fun b F f=>⟨Aa,f⟩)),X⟩
def Yk (q:Bool) (N:Nat) : ∀(t:Nd) (S:nP) (a:oA) (c:Nat) (w:wD),t.size<N->t.size<=1000000->(t.isStmt=true\/t.isBlock=true)->t.sits S w a->Calls prog 96 #[t.val a c,.bool q] w (CopyR (t.inv q) w):=by
 induction N with
 | zero=>intro t S a c w h;omega
 | succ N ih=>
  rintro ⟨k,n,s,l⟩ S a c w hN hM hv hs;have hlen:=Dq l;simp only [lR] at hN hM;obtain ⟨v1,v2,v3,v4⟩:=TU hv;clear hv
  have hC : ∀x∈l,(k=57\/x.kind=57) -> ∀(S:nP) (a:oA) (c:Nat) (w:wD),x.sits S w a->Calls prog 96 #[x.val a c,.bool q] w (CopyR (x.inv q) w):=fun x hx hk S a c w h=>by
   have:=Dm hx
   exact ih x S a c w (by omega) (by omega) (v1 x hx hk) h
  clear ih v1;have HC:=kh hC;clear hC;replace hs:=CO _ _ (Fz hs);have X:=lN w;refine Ae func96 ntmps96 rfl rfl ?_
  refine cS (eB [_,_,_,_] ?_);intro b1 w2 h4 x5 p6 z7;revert hs X;refine eE x5 ?_;intro hs X;refine eA [_,_,_,_] ?_;intro b8 w9 h12 x13 p14 z15;revert h4 hs X;refine eE x13 ?_;intro h4 hs X;refine cT ?_
  refine KG (ι:=Nat×Nat) (fun x=>[(1,.bool q),(2,.pointer (some ⟨b1,0,none⟩)),(4,.pointer (some ⟨b8,0,none⟩)),(5,.pointer (some ⟨x.1,0,none⟩))])
   (fun x w'=>ArrS ndShape (b1+4) (b1+4) w' x.2 (kV l.length BR)/\Blk w' x.1 [.int .u8 k,.int .i64 n,str s,.slice (some ⟨x.2,0,none⟩) l.length l.length]/\b8<x.1/\b8<x.2/\x.1≠x.2/\x.1<b1+4/\x.2<b1+4/\Blk w' b1 [.int .u8 k,.int .i64 n,str s,.slice a l.length c]/\Blk w' b8 [.int .u8 0,.int .i64 0,str [],.slice none 0 0]/\rowSits (· < w.heap.size) w' l a/\Ext w w'/\w'.heap.size=b1+4) ?_ ?_
  . focus
     refine AE (fun wz=>Ext w9 wz) 12 (.pure 0 (.pure 1 (.pure 2 (.pure 3 (.pure 4 (.pure 5 (.pure 6 (.pure 7 (.pure 8 (.fork 9 (.pure 10 (.fork 11 .tail .none)) (.fork 11 (.fork 9 (.pure 10 .tail) .none) .none))))))))))) mixed (by kernel_rfl) (Ac An) ?_;intro wa1 xa2 _;have qsa3:(fun wz=>Ext w9 wz) wa1:=xa2;simp only at qsa3;have d_h12:=h12;have d_h4:=h4;have d_hs:=hs;revert h12 h4 hs X;refine eY xa2 ?_;intro za4 h12 h4 hs X;refine ⟨qsa3,?_⟩;refine eT ?_;refine A1 rfl (Lu (sh:=ndShape) (C:=b1+4) (D:=b1+4) (N:=l.length) (z:=BR) Ab C9 rfl rfl rfl rfl (by kernel_rfl) rfl rfl (by omega) RX) rfl ?_ (fun _ h=>h) ?kra5;rintro _ wa11 ⟨ga6,⟨rfl,⟨ha7,⟨ha8,⟨ha9,xa10⟩⟩⟩⟩⟩;revert qsa3 h12 h4 hs X;refine eY xa10 ?_;intro za12 qsa3 h12 h4 hs X;refine ⟨qsa3,?_⟩;refine Tq rfl (DS [_,_,_,_] Ab C9 rfl rfl rfl rfl) ?_;refine A1 rfl (Dx C9 rfl) rfl ?_ (fun _ h=>h) A9;rintro _ wa15 ⟨ba14,rfl,na16⟩;have ha17:=na16.blk;dsimp only at ha17;have xa18:=na16.ext;have pa19:=na16.pos;have za20:=na16.size;revert ha7 qsa3 h12 h4 hs X;refine eE xa18 ?_;intro ha7 qsa3 h12 h4 hs X;refine ⟨qsa3,?_⟩;refine AI rfl (eS [_,_,_,_] ha17 ?_);intro wa21 ha25 fa23 za24;revert ha7 h12 h4 hs X;refine eF fa23 ?_;intro ha7 h12 h4 hs X
     refine Ah ?_;rotate_left;refine A1 rfl (Dx C9 rfl) rfl ?_ (fun _ h=>h) A9;rintro _ wa28 ⟨ba27,rfl,na29⟩;have ha30:=na29.blk;dsimp only at ha30;have xa31:=na29.ext;have pa32:=na29.pos;have za33:=na29.size;revert qsa3 h12 h4 hs X;refine eE xa31 ?_;intro qsa3 h12 h4 hs X;refine ⟨qsa3,?_⟩;refine A1 rfl (Lu (sh:=ndShape) (C:=b1+4) (D:=b1+4) (N:=l.length) (z:=BR) Ab C9 rfl rfl rfl rfl (by kernel_rfl) rfl rfl (by omega) RX) rfl ?_ (fun _ h=>h) A9;rintro _ wa40 ⟨ga35,⟨rfl,⟨ha36,⟨ha37,⟨ha38,xa39⟩⟩⟩⟩⟩;revert ha30 qsa3 h12 h4 hs X;refine eY xa39 ?_;intro za41 ha30 qsa3 h12 h4 hs X;refine ⟨qsa3,?_⟩;refine Tq rfl (DS [_,_,_,_] Ab C9 rfl rfl rfl rfl) ?_;refine AI rfl (eS [_,_,_,_] ha30 ?_);intro wa42 ha46 fa44 za45;revert ha36 h12 h4 hs X;refine eF fa44 ?_;intro ha36 h12 h4 hs X;refine Ah ?_;rotate_left
    . have hq:wa1.heap.size=w9.heap.size:=congrArg Array.size ‹_›
      exact Cq (ba14,ga6) sB ⟨ha7,ha25,by simp only;omega,by simp only;omega,by simp only;omega,by simp only;omega,by simp only;omega,h4,h12,hs,X,by omega⟩
    . have hq:wa1.heap.size=w9.heap.size:=congrArg Array.size ‹_›
      exact Cq (ba27,ga35) sB ⟨ha36,ha46,by simp only;omega,by simp only;omega,by simp only;omega,by simp only;omega,by simp only;omega,h4,h12,hs,X,by omega⟩
  . clear h4 h12 hs X;rintro ⟨bm,g⟩ w1 ⟨hA,hbm,o1,o2,o3,o4,o5,hb1,hb8,hs,X,hz⟩;simp only at hA hbm o1 o2 o3 o4 o5;refine CW.sub (m:=[(1,.bool q),(2,.pointer (some ⟨b1,0,none⟩)),(4,.pointer (some ⟨b8,0,none⟩)),(5,.pointer (some ⟨bm,0,none⟩))]) ?_ sB
    have e0:kV l.length BR=Ha (DX q k) l 0:=by simp [Ha]
    rw [e0] at hA;refine KG (ι:=Unit) (fun _=>[(1,.bool q),(2,.pointer (some ⟨b1,0,none⟩)),(4,.pointer (some ⟨b8,0,none⟩)),(5,.pointer (some ⟨bm,0,none⟩))])
     (fun _ w'=>ArrS ndShape (b1+4) w'.heap.size w' g (l.map (DX q k))/\Blk w' bm [.int .u8 k,.int .i64 n,str s,.slice (some ⟨g,0,none⟩) l.length l.length]/\Blk w' b1 [.int .u8 k,.int .i64 n,str s,.slice a l.length c]/\Blk w' b8 [.int .u8 0,.int .i64 0,str [],.slice none 0 0]/\Ext w w'/\b1+4<=w'.heap.size) ?_ ?_
    . refine cS (C1 Pf (C1 (Pl hb1) (C1 Pz (C1 Mv (cT ?_)))))
      refine Ax ?_;refine AM (ι:=Nat) (fun j=>[(1,.bool q),(2,.pointer (some ⟨b1,0,none⟩)),(4,.pointer (some ⟨b8,0,none⟩)),(5,.pointer (some ⟨bm,0,none⟩)),(21,.slice a l.length c),(22,.int .i64 l.length),(23,.int .i64 j)])
       (fun j w'=>j<=l.length/\ArrS ndShape (b1+4) w'.heap.size w' g (Ha (DX q k) l j)/\Blk w' bm [.int .u8 k,.int .i64 n,str s,.slice (some ⟨g,0,none⟩) l.length l.length]/\Blk w' b1 [.int .u8 k,.int .i64 n,str s,.slice a l.length c]/\Blk w' b8 [.int .u8 0,.int .i64 0,str [],.slice none 0 0]/\rowSits (· < w.heap.size) w' l a/\Ext w w'/\b1+4<=w'.heap.size)
       (fun j=>l.length-j) 0 sB ⟨kC _,hA.wide (by omega),hbm,hb1,hb8,hs,X,by omega⟩ ?_
      clear hA hbm hb1 hb8 hs X hz e0;rintro j w2 ⟨hj,hA,hbm,hb1,hb8,hs,X,hz⟩
      by_cases hlt:j<l.length
      . obtain ⟨kb,ko,rfl,kS,hkid⟩:=Bx hs (by intro e;subst e;simp at hlt);obtain ⟨xa,xc,rx,sx⟩:=hkid j l[j] (kg hlt);have HX:=kh (HC.out l[j] (kq hlt));have hxz:=Dm (kq hlt);have hnext:=TR (DX q k) l j hlt;have hdl:=TQ (DX q k) l j hj;clear hkid HC
        by_cases hk:k=57\/(l[j]).kind=57
        . have HX2:=kh (HX.out hk)
          have hfx:DX q k l[j]=(l[j]).inv q:=by unfold DX;rw [AH hk]
          rw [hfx] at hnext;clear HX hfx
          generalize l[j]=x at *
          focus
           refine eK ?_;refine eA [_,_,_,_] ?_;intro bc1 wc2 hc5 xc6 pc7 zc8;revert hA hbm hb8 X hb1 hs rx sx;refine eE xc6 ?_;intro hA hbm hb8 X hb1 hs rx sx;refine C1 Pa (eS [_,_,_,_] hc5 ?_);intro wc9 hc13 fc11 zc12;revert hA hbm hb8 X hb1 hs rx sx;refine eF fc11 ?_;intro hA hbm hb8 X hb1 hs rx sx;refine eK ?_;refine DG rfl rfl rfl (fun cc14=>?_) (fun cc14=>?_);refine eK ?_;refine AE (fun wz=>Ext wc9 wz) 6 (.pure 0 (.pure 1 (.pure 2 (.pure 3 (.pure 4 (.fork 5 .tail .none)))))) mixed (by kernel_rfl) (Ak (Ac (Ac (Ak (Ac An))))) ?_;intro wc15 xc16 _;have qsc17:(fun wz=>Ext wc9 wz) wc15:=xc16;simp only at qsc17;have d_hc13:=hc13;have d_hA:=hA;have d_hbm:=hbm;have d_hb8:=hb8;have d_hb1:=hb1;have d_hs:=hs;have d_rx:=rx;have d_sx:=sx;revert hc13 hA hbm hb8 X hb1 hs rx sx;refine eY xc16 ?_;intro zc18 hc13 hA hbm hb8 X hb1 hs rx sx;refine ⟨qsc17,?_⟩;refine eT ?_;refine Tq rfl (Cn [_,_,_,_] Ab rfl rfl rfl (fun wz hz=>(l7 d_hc13 hz)) rfl rfl) (Tq rfl Mv ?_);refine A1 rfl (By (by kernel_rfl) rfl (HX2.out _ _ _ _ ‹_›) (fun _ _ h=>h.ret)) rfl ?_ (fun _ h=>h) A9;rintro _ wc24 ⟨ac20,⟨cc21,⟨⟨⟩,⟨hc22,xc23⟩⟩⟩⟩;revert qsc17 hc13 hA hbm hb8 X hb1 hs rx sx;refine eY xc23 ?_;intro zc25 qsc17 hc13 hA hbm hb8 X hb1 hs rx sx
           refine ⟨qsc17,?_⟩;refine AI rfl (C1 Pi (C8 (I1 (sh:=ndShape) (j:=j) (z:=x.inv q) (us:=[_,_,_,_]) Ab rfl rfl rfl rfl rfl rfl ‹_› (by omega) (by omega) (by omega) ⟨_,_,rfl,Nd.sits.wide ‹_› (fun b h=>by omega)⟩) (F6 ?_)));rintro _ wc29 ⟨hc26,⟨fc27,hc28⟩⟩;revert hc22 hc13;refine eZ fc27 ?_;intro zc30 hc22 hc13;clear hA;revert hbm hb8 X hb1 hs rx sx;refine eF fc27 ?_;intro hbm hb8 X hb1 hs rx sx;refine Ah (Ad (Ai (Ag (C1 V7 (C1 Mv (Ah ?_))))));rotate_left;refine eK ?_;refine AE (fun wz=>Ext wc9 wz) 6 (.pure 0 (.pure 1 (.pure 2 (.pure 3 (.pure 4 (.fork 5 .tail .none)))))) mixed (by kernel_rfl) (Ak (Ac (Ac (Ak (Ac An))))) ?_;intro wc31 xc32 _;have qsc33:(fun wz=>Ext wc9 wz) wc31:=xc32;simp only at qsc33;have d_hc13:=hc13;have d_hA:=hA;have d_hbm:=hbm;have d_hb8:=hb8;have d_hb1:=hb1;have d_hs:=hs;have d_rx:=rx;have d_sx:=sx;revert hc13 hA hbm hb8 X hb1 hs rx sx;refine eY xc32 ?_;intro zc34 hc13 hA hbm hb8 X hb1 hs rx sx;refine ⟨qsc33,?_⟩;refine eT ?_;refine Tq rfl (Cn [_,_,_,_] Ab rfl rfl rfl (fun wz hz=>(l7 d_hc13 hz)) rfl rfl) (Tq rfl Mv ?_);refine A1 rfl (By (by kernel_rfl) rfl (HX2.out _ _ _ _ ‹_›) (fun _ _ h=>h.ret)) rfl ?_ (fun _ h=>h) A9
           rintro _ wc40 ⟨ac36,⟨cc37,⟨⟨⟩,⟨hc38,xc39⟩⟩⟩⟩;revert qsc33 hc13 hA hbm hb8 X hb1 hs rx sx;refine eY xc39 ?_;intro zc41 qsc33 hc13 hA hbm hb8 X hb1 hs rx sx;refine ⟨qsc33,?_⟩;refine AI rfl (C1 Pi (C8 (I1 (sh:=ndShape) (j:=j) (z:=x.inv q) (us:=[_,_,_,_]) Ab rfl rfl rfl rfl rfl rfl ‹_› (by omega) (by omega) (by omega) ⟨_,_,rfl,Nd.sits.wide ‹_› (fun b h=>by omega)⟩) (F6 ?_)));rintro _ wc45 ⟨hc42,⟨fc43,hc44⟩⟩;revert hc38 hc13;refine eZ fc43 ?_;intro zc46 hc38 hc13;clear hA;revert hbm hb8 X hb1 hs rx sx;refine eF fc43 ?_;intro hbm hb8 X hb1 hs rx sx;refine Ah (Ad (Ai (Ag (C1 V7 (C1 Mv (Ah ?_))))));rotate_left
          all_goals exact Ay (j+1) (by (repeat (first|exact BB|refine Am rfl ?_|refine Bj rfl (by go_num) ?_))) ⟨by omega,by rw [<-hnext];exact ArrS.wide ‹_› (by omega),hbm,hb1,hb8,hs,X,by omega⟩ (by omega)
        . have hfx:DX q k l[j]=l[j]:=by unfold DX;rw [At hk]
          rw [hfx] at hnext;clear HX hfx
          generalize l[j]=x at *
          have hk1 : ¬k=57:=fun e=>hk (kj e)
          have hk2 : ¬x.kind=57:=fun e=>hk (kp e)
          have HX2:=kh (QI x (by omega))
          refine eK ?_;refine eA [_,_,_,_] ?_;intro bd1 wd2 hd5 xd6 pd7 zd8;revert hA hbm hb8 X hb1 hs rx sx;refine eE xd6 ?_;intro hA hbm hb8 X hb1 hs rx sx;refine C1 Pa (eS [_,_,_,_] hd5 ?_);intro wd9 hd13 fd11 zd12;revert hA hbm hb8 X hb1 hs rx sx;refine eF fd11 ?_;intro hA hbm hb8 X hb1 hs rx sx;refine eK ?_;refine AE (fun wz=>Ext wd9 wz) 5 (.pure 0 (.pure 1 (.pure 2 (.pure 3 (.fork 4 .tail .none))))) mixed (by kernel_rfl) (Ak (Ac (Ac (Ak (Ac An))))) ?_;intro wd14 xd15 _;have qsd16:(fun wz=>Ext wd9 wz) wd14:=xd15;simp only at qsd16;have d_hd13:=hd13;have d_hA:=hA;have d_hbm:=hbm;have d_hb8:=hb8;have d_hb1:=hb1;have d_hs:=hs;have d_rx:=rx;have d_sx:=sx;revert hd13 hA hbm hb8 X hb1 hs rx sx;refine eY xd15 ?_;intro zd17 hd13 hA hbm hb8 X hb1 hs rx sx;refine ⟨qsd16,?_⟩;refine eT ?_;refine Tq rfl (Cn [_,_,_,_] Ab rfl rfl rfl (fun wz hz=>(l7 d_hd13 hz)) rfl rfl) ?_;refine A1 rfl (By (by kernel_rfl) rfl (HX2.out _ _ _ _ ‹_›) (fun _ _ h=>h.ret)) rfl ?_ (fun _ h=>h) A9;rintro _ wd23 ⟨ad19,⟨cd20,⟨⟨⟩,⟨hd21,xd22⟩⟩⟩⟩;revert qsd16 hd13 hA hbm hb8 X hb1 hs rx sx;refine eY xd22 ?_;intro zd24 qsd16 hd13 hA hbm hb8 X hb1 hs rx sx;refine ⟨qsd16,?_⟩;refine AI rfl (C1 Pi (C8 (I1 (sh:=ndShape) (j:=j) (z:=x) (us:=[_,_,_,_]) Ab rfl rfl rfl rfl rfl rfl ‹_› (by omega) (by omega) (by omega) ⟨_,_,rfl,Nd.sits.wide ‹_› (fun b h=>by omega)⟩) (F6 ?_)))
          rintro _ wd28 ⟨hd25,⟨fd26,hd27⟩⟩;revert hd21 hd13;refine eZ fd26 ?_;intro zd29 hd21 hd13;clear hA;revert hbm hb8 X hb1 hs rx sx;refine eF fd26 ?_;intro hbm hb8 X hb1 hs rx sx;refine Ah (Ad (Ai (Ag (C1 V7 (C1 Mv (Ah ?_))))))
          all_goals exact Ay (j+1) sB ⟨by omega,by rw [<-hnext];exact ArrS.wide ‹_› (by omega),hbm,hb1,hb8,hs,X,by omega⟩ (by omega)
      . obtain rfl:j=l.length:=by omega
        rw [TS] at hA
        refine cS (C1 V3 (cT (Al (E4 (DP (AQ (AQ (Bs ?_))))))))
        exact Cq () sB ⟨hA,hbm,hb1,hb8,X,hz⟩
    . clear hA hbm hb1 hb8 hs X hz e0 HC;rintro _ w3 ⟨hA,hbm,hb1,hb8,X,hz⟩
      have hxl:(l.map (DX q k)).length=l.length:=by simp
      by_cases k57:k=57
      . subst k57
        have ht:(Nd.mk 57 n s l).inv q = .mk 57 n s (CH q l).reverse:=by
         conv=>lhs;unfold Nd.inv
         rw [AH rfl]
        rw [ht,TP]
        generalize l.map (DX q 57)=xs at *
        rw [<-hxl] at hbm
        refine eK ?_;refine C1 (CM rfl rfl (kN _ (by omega))) ?_;refine eK ?_;refine cC rfl (Wx (b1+4) _ _ _ _ _ ‹_› (kj (by omega)) (by omega)) ?_;rintro _ wf3 ⟨⟨⟩,⟨hf1,ff2⟩⟩;revert hb8 X hb1 hbm;refine eZ ff2 ?_;intro zf4 hb8 X hb1 hbm;clear hA ff2;refine eK ?_;refine eS [_,_,_,_] hb8 ?_;intro wf5 hf9 ff7 zf8;revert hf1 X hb1 hbm;refine eF ff7 ?_;intro hf1 X hb1 hbm;refine eK ?_;refine FJ rfl Ab rfl rfl rfl hf9 rfl ?_
        exact Ey (by simp) (hf1.wide (by omega)) (by omega) (by omega) X
      rw [RW q k57]
      by_cases k5:k=52\/k=53\/k=54
      . rw [AH k5];have hne:=v2 k5
        generalize l.map (DX q k)=xs at *
        have hpos:0<xs.length:=by rw [hxl];exact List.length_pos_iff.2 hne
        obtain ⟨x,hx⟩ : ∃x,xs[0]? = some x:=⟨_,kg hpos⟩;obtain ⟨y,hy⟩ : ∃y,xs[xs.length-1]? = some y:=⟨_,kg (by omega)⟩;obtain ⟨_,r1,xa,xc,rfl,sx⟩:=hA.row hx;obtain ⟨_,r2,ya,yc,rfl,sy⟩:=hA.row hy
        have em:((xs.length:Int)-1).toNat=xs.length-1:=by omega
        have hsw:Hn xs=(xs.set 0 y).set ((xs.length:Int)-1).toNat x:=by
         unfold Hn
         rw [em,List.getD_eq_getElem?_getD,List.getD_eq_getElem?_getD,hx,hy]
         rfl
        rw [hsw]
        have hsl:((xs.set 0 y).set ((xs.length:Int)-1).toNat x).length=xs.length:=by simp
        replace r1:Row w3 ⟨g,0+0*4,none⟩ (x.cells xa xc):=r1
        replace r2:Row w3 ⟨g,0+((xs.length:Int)-1).toNat*4,none⟩ (y.cells ya yc):=by rw [em];exact r2
        rw [<-hxl] at hbm
        clear hx hy hsw
        rcases k5 with rfl|rfl|rfl
        . focus
           refine eK ?_;refine C1 (CM rfl rfl (kN _ (by omega))) ?_;refine eK ?_;refine Kv (fun wz=>Ext w3 wz) (fun wz=>Fr (fun x=>x=g) w3 wz) [2,3,4,15,16,17] [2,3,4] 15 16 (.free 2 (.free 3 (.free 4 (.pure 0 (.pure 1 (.pure 5 (.pure 6 (.pure 7 (.pure 8 (.pure 9 (.pure 10 (.pure 11 (.pure 12 (.pure 13 (.pure 14 (.put 15 (.tail 16))))))))))))))))) (fun _ h=>mi h) mixed (by kernel_rfl) (Ak (Ac An)) ?_;intro wg1 xg2 _;have qsg3:(fun wz=>Ext w3 wz) wg1:=xg2;simp only at qsg3;have qtg4:(fun wz=>Fr (fun x=>x=g) w3 wz) wg1:=mi xg2;simp only at qtg4;have d_hb8:=hb8;have d_hA:=hA;have d_sx:=sx;have d_sy:=sy;have d_r1:=r1;have d_r2:=r2;have d_hb1:=hb1;have d_hbm:=hbm;revert hb8 X hA sx sy r1 r2 hb1 hbm;refine eY xg2 ?_;intro zg5 hb8 X hA sx sy r1 r2 hb1 hbm;refine Ee ‹_› rfl (AK Ab rfl rfl rfl) rfl (Ee ‹_› rfl (AA Ab rfl rfl rfl (fun wz hz=>lX (Blk.fr d_hbm hz (by omega)) rfl)) rfl (Ee ‹_› rfl (A0 rfl) rfl (AR ‹_› rfl (AK Ab rfl rfl rfl) rfl (AR ‹_› rfl (AA Ab rfl rfl rfl (fun wz hz=>lX (l7 d_hbm hz) rfl)) rfl (AR ‹_› rfl (AK Ab rfl rfl rfl) rfl (AR ‹_› rfl (AA Ab rfl rfl rfl (fun wz hz=>lX (l7 d_hbm hz) rfl)) rfl (AR ‹_› rfl (A0 rfl) rfl (AR ‹_› rfl (AG Ab rfl rfl rfl rfl (by omega) (by omega)) rfl (AR ‹_› rfl (BS Ab rfl rfl rfl (fun wz hz=>(mf d_r2 hz)) rfl) rfl (AR ‹_› rfl (AK Ab rfl rfl rfl) rfl (AR ‹_› rfl (AA Ab rfl rfl rfl (fun wz hz=>lX (l7 d_hbm hz) rfl)) rfl ?_)))))))))))
           refine AR ‹_› rfl (AG Ab rfl rfl rfl rfl (by omega) (by omega)) rfl (AR ‹_› rfl (CN [_,_,_,_] Ab rfl rfl rfl (fun wz hz=>(mf d_r1 hz)) rfl rfl) rfl (AR ‹_› rfl (AG Ab rfl rfl rfl rfl (by omega) (by omega)) rfl (Kx rfl (Ds (sh:=ndShape) (j:=0) (z:=y) (us:=[_,_,_,_]) Ab rfl rfl rfl rfl rfl rfl ‹_› (by omega) (kj (by omega)) ⟨_,_,rfl,by assumption⟩) (F6 ?_))));rintro _ wg9 ⟨hg6,⟨fg7,hg8⟩⟩;revert qtg4 hb8 X;refine eZ fg7 ?_;intro zg10 qtg4 hb8 X;clear hA;revert sx sy;refine eF fg7 ?_;intro sx sy;revert hb1 hbm;refine eF fg7 ?_;intro hb1 hbm;refine ⟨by assumption,?_⟩;refine Kw rfl (C1 Pi (C8 (Ds (sh:=ndShape) (j:=((xs.length:Int)-1).toNat) (z:=x) (us:=[_,_,_,_]) Ab rfl rfl rfl rfl rfl rfl ‹_› (by rw [List.length_set];omega) (kj (by omega)) ⟨_,_,rfl,by assumption⟩) (F6 ?_)));rintro _ wg14 ⟨hg11,⟨fg12,hg13⟩⟩;have zg15:=fg12.size;revert hb8 X sx sy hb1 hbm;refine eF fg12 ?_;intro hb8 X sx sy hb1 hbm;refine eK ?_;refine eS [_,_,_,_] hb8 ?_;intro wg16 hg20 fg18 zg19;revert hg11 X sx sy hb1 hbm;refine eF fg18 ?_;intro hg11 X sx sy hb1 hbm;refine eK ?_;refine FJ rfl Ab rfl rfl rfl hg20 rfl ?_
           rotate_left
          exact Ey hsl (ArrS.wide ‹_› (by omega)) (by omega) (by omega) X
        . focus
           refine eK ?_;refine C1 (CM rfl rfl (kN _ (by omega))) ?_;refine eK ?_;refine Kv (fun wz=>Ext w3 wz) (fun wz=>Fr (fun x=>x=g) w3 wz) [2,3,4,15,16,17] [2,3,4] 15 16 (.free 2 (.free 3 (.free 4 (.pure 0 (.pure 1 (.pure 5 (.pure 6 (.pure 7 (.pure 8 (.pure 9 (.pure 10 (.pure 11 (.pure 12 (.pure 13 (.pure 14 (.put 15 (.tail 16))))))))))))))))) (fun _ h=>mi h) mixed (by kernel_rfl) (Ak (Ac An)) ?_;intro wh1 xh2 _;have qsh3:(fun wz=>Ext w3 wz) wh1:=xh2;simp only at qsh3;have qth4:(fun wz=>Fr (fun x=>x=g) w3 wz) wh1:=mi xh2;simp only at qth4;have d_hb8:=hb8;have d_hA:=hA;have d_sx:=sx;have d_sy:=sy;have d_r1:=r1;have d_r2:=r2;have d_hb1:=hb1;have d_hbm:=hbm;revert hb8 X hA sx sy r1 r2 hb1 hbm;refine eY xh2 ?_;intro zh5 hb8 X hA sx sy r1 r2 hb1 hbm;refine Ee ‹_› rfl (AK Ab rfl rfl rfl) rfl (Ee ‹_› rfl (AA Ab rfl rfl rfl (fun wz hz=>lX (Blk.fr d_hbm hz (by omega)) rfl)) rfl (Ee ‹_› rfl (A0 rfl) rfl (AR ‹_› rfl (AK Ab rfl rfl rfl) rfl (AR ‹_› rfl (AA Ab rfl rfl rfl (fun wz hz=>lX (l7 d_hbm hz) rfl)) rfl (AR ‹_› rfl (AK Ab rfl rfl rfl) rfl (AR ‹_› rfl (AA Ab rfl rfl rfl (fun wz hz=>lX (l7 d_hbm hz) rfl)) rfl (AR ‹_› rfl (A0 rfl) rfl (AR ‹_› rfl (AG Ab rfl rfl rfl rfl (by omega) (by omega)) rfl (AR ‹_› rfl (BS Ab rfl rfl rfl (fun wz hz=>(mf d_r2 hz)) rfl) rfl (AR ‹_› rfl (AK Ab rfl rfl rfl) rfl (AR ‹_› rfl (AA Ab rfl rfl rfl (fun wz hz=>lX (l7 d_hbm hz) rfl)) rfl ?_)))))))))))
           refine AR ‹_› rfl (AG Ab rfl rfl rfl rfl (by omega) (by omega)) rfl (AR ‹_› rfl (CN [_,_,_,_] Ab rfl rfl rfl (fun wz hz=>(mf d_r1 hz)) rfl rfl) rfl (AR ‹_› rfl (AG Ab rfl rfl rfl rfl (by omega) (by omega)) rfl (Kx rfl (Ds (sh:=ndShape) (j:=0) (z:=y) (us:=[_,_,_,_]) Ab rfl rfl rfl rfl rfl rfl ‹_› (by omega) (kj (by omega)) ⟨_,_,rfl,by assumption⟩) (F6 ?_))));rintro _ wh9 ⟨hh6,⟨fh7,hh8⟩⟩;revert qth4 hb8 X;refine eZ fh7 ?_;intro zh10 qth4 hb8 X;clear hA;revert sx sy;refine eF fh7 ?_;intro sx sy;revert hb1 hbm;refine eF fh7 ?_;intro hb1 hbm;refine ⟨by assumption,?_⟩;refine Kw rfl (C1 Pi (C8 (Ds (sh:=ndShape) (j:=((xs.length:Int)-1).toNat) (z:=x) (us:=[_,_,_,_]) Ab rfl rfl rfl rfl rfl rfl ‹_› (by rw [List.length_set];omega) (kj (by omega)) ⟨_,_,rfl,by assumption⟩) (F6 ?_)));rintro _ wh14 ⟨hh11,⟨fh12,hh13⟩⟩;have zh15:=fh12.size;revert hb8 X sx sy hb1 hbm;refine eF fh12 ?_;intro hb8 X sx sy hb1 hbm;refine eK ?_;refine eS [_,_,_,_] hb8 ?_;intro wh16 hh20 fh18 zh19;revert hh11 X sx sy hb1 hbm;refine eF fh18 ?_;intro hh11 X sx sy hb1 hbm;refine eK ?_;refine FJ rfl Ab rfl rfl rfl hh20 rfl ?_
           rotate_left
          exact Ey hsl (ArrS.wide ‹_› (by omega)) (by omega) (by omega) X
        . focus
           refine eK ?_;refine C1 (CM rfl rfl (kN _ (by omega))) ?_;refine eK ?_;refine Kv (fun wz=>Ext w3 wz) (fun wz=>Fr (fun x=>x=g) w3 wz) [2,3,4,15,16,17] [2,3,4] 15 16 (.free 2 (.free 3 (.free 4 (.pure 0 (.pure 1 (.pure 5 (.pure 6 (.pure 7 (.pure 8 (.pure 9 (.pure 10 (.pure 11 (.pure 12 (.pure 13 (.pure 14 (.put 15 (.tail 16))))))))))))))))) (fun _ h=>mi h) mixed (by kernel_rfl) (Ak (Ac An)) ?_;intro wi1 xi2 _;have qsi3:(fun wz=>Ext w3 wz) wi1:=xi2;simp only at qsi3;have qti4:(fun wz=>Fr (fun x=>x=g) w3 wz) wi1:=mi xi2;simp only at qti4;have d_hb8:=hb8;have d_hA:=hA;have d_sx:=sx;have d_sy:=sy;have d_r1:=r1;have d_r2:=r2;have d_hb1:=hb1;have d_hbm:=hbm;revert hb8 X hA sx sy r1 r2 hb1 hbm;refine eY xi2 ?_;intro zi5 hb8 X hA sx sy r1 r2 hb1 hbm;refine Ee ‹_› rfl (AK Ab rfl rfl rfl) rfl (Ee ‹_› rfl (AA Ab rfl rfl rfl (fun wz hz=>lX (Blk.fr d_hbm hz (by omega)) rfl)) rfl (Ee ‹_› rfl (A0 rfl) rfl (AR ‹_› rfl (AK Ab rfl rfl rfl) rfl (AR ‹_› rfl (AA Ab rfl rfl rfl (fun wz hz=>lX (l7 d_hbm hz) rfl)) rfl (AR ‹_› rfl (AK Ab rfl rfl rfl) rfl (AR ‹_› rfl (AA Ab rfl rfl rfl (fun wz hz=>lX (l7 d_hbm hz) rfl)) rfl (AR ‹_› rfl (A0 rfl) rfl (AR ‹_› rfl (AG Ab rfl rfl rfl rfl (by omega) (by omega)) rfl (AR ‹_› rfl (BS Ab rfl rfl rfl (fun wz hz=>(mf d_r2 hz)) rfl) rfl (AR ‹_› rfl (AK Ab rfl rfl rfl) rfl (AR ‹_› rfl (AA Ab rfl rfl rfl (fun wz hz=>lX (l7 d_hbm hz) rfl)) rfl ?_)))))))))))
           refine AR ‹_› rfl (AG Ab rfl rfl rfl rfl (by omega) (by omega)) rfl (AR ‹_› rfl (CN [_,_,_,_] Ab rfl rfl rfl (fun wz hz=>(mf d_r1 hz)) rfl rfl) rfl (AR ‹_› rfl (AG Ab rfl rfl rfl rfl (by omega) (by omega)) rfl (Kx rfl (Ds (sh:=ndShape) (j:=0) (z:=y) (us:=[_,_,_,_]) Ab rfl rfl rfl rfl rfl rfl ‹_› (by omega) (kj (by omega)) ⟨_,_,rfl,by assumption⟩) (F6 ?_))));rintro _ wi9 ⟨hi6,⟨fi7,hi8⟩⟩;revert qti4 hb8 X;refine eZ fi7 ?_;intro zi10 qti4 hb8 X;clear hA;revert sx sy;refine eF fi7 ?_;intro sx sy;revert hb1 hbm;refine eF fi7 ?_;intro hb1 hbm;refine ⟨by assumption,?_⟩;refine Kw rfl (C1 Pi (C8 (Ds (sh:=ndShape) (j:=((xs.length:Int)-1).toNat) (z:=x) (us:=[_,_,_,_]) Ab rfl rfl rfl rfl rfl rfl ‹_› (by rw [List.length_set];omega) (kj (by omega)) ⟨_,_,rfl,by assumption⟩) (F6 ?_)));rintro _ wi14 ⟨hi11,⟨fi12,hi13⟩⟩;have zi15:=fi12.size;revert hb8 X sx sy hb1 hbm;refine eF fi12 ?_;intro hb8 X sx sy hb1 hbm;refine eK ?_;refine eS [_,_,_,_] hb8 ?_;intro wi16 hi20 fi18 zi19;revert hi11 X sx sy hb1 hbm;refine eF fi18 ?_;intro hi11 X sx sy hb1 hbm;refine eK ?_;refine FJ rfl Ab rfl rfl rfl hi20 rfl ?_
           rotate_left
          exact Ey hsl (ArrS.wide ‹_› (by omega)) (by omega) (by omega) X
      . rw [At k5]
        generalize l.map (DX q k)=xs at *
        have k52 : ¬k=52:=fun e=>k5 (kj e)
        have k53 : ¬k=53:=fun e=>k5 (kp (kj e))
        have k54 : ¬k=54:=fun e=>k5 (kp (kp e))
        by_cases k6:k=50\/k=51
        . rw [AH k6]
          cases q
          . simp only [lj,if_false]
            rcases k6 with rfl|rfl
            . refine eK ?_;refine C1 (CM rfl rfl (kN _ (by omega))) ?_;refine eK ?_;refine cC rfl (I2 _ _ (by omega) (by omega)) ?_;rintro _ wj1 ⟨⟨⟩,rfl⟩;refine C1 Pg (eV [_] [_,_,_,_] hbm ?_);intro wj2 hj6 fj4 zj5;clear hbm;revert hb8 X hA hb1;refine eF fj4 ?_;intro hb8 X hA hb1;refine eK ?_;refine eS [_,_,_,_] hb8 ?_;intro wj7 hj11 fj9 zj10;revert hj6 X hA hb1;refine eF fj9 ?_;intro hj6 X hA hb1;refine eK ?_;refine FJ rfl Ab rfl rfl rfl hj11 rfl ?_
              exact Ey hxl (ArrS.wide ‹_› (by omega)) (by omega) (by omega) X
            . refine eK ?_;refine C1 (CM rfl rfl (kN _ (by omega))) ?_;refine eK ?_;refine cC rfl (I2 _ _ (by omega) (by omega)) ?_;rintro _ wk1 ⟨⟨⟩,rfl⟩;refine C1 Pg (eV [_] [_,_,_,_] hbm ?_);intro wk2 hk6 fk4 zk5;clear hbm;revert hb8 X hA hb1;refine eF fk4 ?_;intro hb8 X hA hb1;refine eK ?_;refine eS [_,_,_,_] hb8 ?_;intro wk7 hk11 fk9 zk10;revert hk6 X hA hb1;refine eF fk9 ?_;intro hk6 X hA hb1;refine eK ?_;refine FJ rfl Ab rfl rfl rfl hk11 rfl ?_
              exact Ey hxl (ArrS.wide ‹_› (by omega)) (by omega) (by omega) X
          . simp only [if_true]
            rcases k6 with rfl|rfl
            . refine eK ?_;refine C1 (CM rfl rfl (kN _ (by omega))) ?_;refine eK ?_;refine eS [_,_,_,_] hb8 ?_;intro wl1 hl5 fl3 zl4;revert X hA hbm hb1;refine eF fl3 ?_;intro X hA hbm hb1;refine eK ?_;refine FJ rfl Ab rfl rfl rfl hl5 rfl ?_
              exact Ey hxl (ArrS.wide ‹_› (by omega)) (by omega) (by omega) X
            . refine eK ?_;refine C1 (CM rfl rfl (kN _ (by omega))) ?_;refine eK ?_;refine eS [_,_,_,_] hb8 ?_;intro wm1 hm5 fm3 zm4;revert X hA hbm hb1;refine eF fm3 ?_;intro X hA hbm hb1;refine eK ?_;refine FJ rfl Ab rfl rfl rfl hm5 rfl ?_
              exact Ey hxl (ArrS.wide ‹_› (by omega)) (by omega) (by omega) X
        . rw [At k6]
          have k50 : ¬k=50:=fun e=>k6 (kj e)
          have k51 : ¬k=51:=fun e=>k6 (kp e)
          refine eK ?_;refine C1 (CM rfl rfl (kN _ (by omega))) ?_;refine eK ?_;refine cC rfl (I2 _ _ (by omega) (by omega)) ?_;rintro _ wn1 ⟨⟨⟩,rfl⟩;refine C1 Pg (eV [_] [_,_,_,_] hbm ?_);intro wn2 hn6 fn4 zn5;clear hbm;revert hb1 hb8 X hA;refine eF fn4 ?_;intro hb1 hb8 X hA;refine eK ?_;refine eS [_,_,_,_] hb8 ?_;intro wn7 hn11 fn9 zn10;revert hn6 hb1 X hA;refine eF fn9 ?_;intro hn6 hb1 X hA;refine eK ?_;refine FJ rfl Ab rfl rfl rfl hn11 rfl ?_
          exact Ey hxl (ArrS.wide ‹_› (by omega)) (by omega) (by omega) X
end Bk
