/- Texts that the proofs of InverterReturns need. No condition. (Part 2 of 8.) -/
import Derived.Test.YtipjiidkdllbpaaGreatDoorPRtn1
set_option linter.unusedSimpArgs false
set_option linter.unusedVariables false
set_option linter.defProp false
set_option maxRecDepth 100000
set_option maxHeartbeats 4000000
open Go.Proofs.Tryz
open List renaming getElem?_eq_getElem->bT,getD_eq_getElem?_getD->cB,length_cons->cF,getElem?_eq_none->cI,getElem?_append_left->cK,getElem_mem->cL,length_append->cP,getElem?_append_right->cW,take_length->dB,length_nil->dD,getElem?_cons_zero->dF,take_succ_eq_append_getElem->dG,drop_eq_getElem_cons->dH,replicate->dJ,mem_of_getElem?->dL,append_assoc->dP,mem_cons->dQ,getElem?_map->dZ,length_take->eH,not_mem_nil->eP
open Go.Lib renaming hid->bU
open Or renaming inl->bW,inr->bX
open Bool renaming and_eq_true->bZ,false_eq_true->dK
open Option.some renaming inj->cD,injEq->cE
open Go.Result renaming andThen->cG
open Nat renaming le_refl->cH,lt_or_ge->cO,zero_le->cQ,blt->cV,le_of_ble_eq_true->dE,eq_of_beq_eq_true->dO,le_trans->dV,ble->dW,beq->eC,zero_add->eJ
open Except renaming bind->cJ
open Go.Sem renaming run_bind->cU,run_pure->dC
open Go renaming Calls->cX
open Go.Value renaming slice->cY,int->dM,ownBlock->eR
open Go.Region renaming ready->cZ,binds->dT
open Go.IntWalk renaming i64_in->dA
open Go.Value.slice renaming injEq->dI
open Go.DataW renaming trod->dN
open Go.Builtin renaming zeroCells->dR
open List.cons renaming injEq->dU
open Array renaming getElem?_eq_none->dX,replicate->eO
open Go.Calls renaming mono->dY
open Go.Addr renaming add->eG
open Go.Oper renaming wp->eL
open Bk.Ext renaming refl->eU,alloc->fG,trans->fI,drew->fR
open Bk.Blk renaming fr->fB
open Bk.Fr renaming refl->fC,of_ext->fE,fr->fJ
open Bk.Nd renaming size->fF,name->fQ,kind->fS,sits->fT,kids->gB
open Bk.Value renaming one->fP
namespace Bk
open Go Go.RowKit Go.Proofs
attribute [local irreducible] Go.Calls
def Ko (x:Int):Int:=IntKind.i64.wrap x
def M3 (op:BinOp) (x y:Int):Int:=match op with
 | .and=>Ko (BitVec.ofInt 64 x &&& BitVec.ofInt 64 y).toNat
 | .or=>Ko (BitVec.ofInt 64 x ||| BitVec.ofInt 64 y).toNat
 | _=>Ko (BitVec.ofInt 64 x ^^^ BitVec.ofInt 64 y).toNat
section
variable {P:Program} {n:Nat} {l:Sl} {S:wD->Prop} {ty:TypeId} {x y:Operand} {t t':Nat} {a b:Int}
def Xm (F:ev l x=some (.int .i64 a)) (G:ev l y=some (.int .i64 b)):BB P n l S (.binOp .and t x y t') ty (.int .i64 (M3 .and a b)):=by
 unfold BB;intro d w L pos after g h _;simp only [execOp,h.ev F,h.ev G,cU,Bz,cG,binOp,Op.intBits];rfl
def Y6 (F:ev l x=some (.int .i64 a)) (G:ev l y=some (.int .i64 b)):BB P n l S (.binOp .or t x y t') ty (.int .i64 (M3 .or a b)):=by
 unfold BB;intro d w L pos after g h _;simp only [execOp,h.ev F,h.ev G,cU,Bz,cG,binOp,Op.intBits];rfl
def SH (F:ev l x=some (.int .i64 a)) (G:ev l y=some (.int .i64 b)):BB P n l S (.binOp .xor t x y t') ty (.int .i64 (M3 .xor a b)):=by
 unfold BB;intro d w L pos after g h _;simp only [execOp,h.ev F,h.ev G,cU,Bz,cG,binOp,Op.intBits];rfl
def LD (h:ev l x=some (.int .i64 a)) (F:ev l y=some (.int .i64 b)):BB P n l S (.binOp .add t x y t') ty (.int .i64 (Ko (a+b))):=Oi h F rfl
def Pr (h:ev l x=some (.int .i64 a)) (F:ev l y=some (.int .i64 b)):BB P n l S (.binOp .sub t x y t') ty (.int .i64 (Ko (a-b))):=Bq h F rfl
def Vk (h:ev l x=some (.int .i64 a)) (F:ev l y=some (.int .i64 b)):BB P n l S (.binOp .mul t x y t') ty (.int .i64 (Ko (a*b))):=W8 h F rfl
def Vl (h:ev l x=some (.int .i64 a)) (F:ev l y=some (.int .i64 b)) (G:b≠0):BB P n l S (.binOp .quo t x y t') ty (.int .i64 (Ko (a.tdiv b))):=Xj h F G rfl
def Vm (h:ev l x=some (.int .i64 a)) (F:ev l y=some (.int .i64 b)) (G:b≠0):BB P n l S (.binOp .rem t x y t') ty (.int .i64 (a.tmod b)):=Xk h F G rfl
def Ps (h:ev l x=some (.int .i64 a)):BB P n l S (.unOp .neg t x) ty (.int .i64 (Ko (0-a))):=by
 unfold BB;intro d w F pos after g G _;simp [execOp,G.ev h,Op.unary,Op.intArith,Ko]
end
def U5 (b:Bool):Int:=if b then 1 else 0
def TF (k x y:Int):Int×Int:=if y=0 then (0,11) else if k=11 then (Ko (x.tdiv y),0) else (x.tmod y,0)
def EZ (k x y:Int):Int×Int:=
 if k=8 then (Ko (x+y),0) else if k=9 then (Ko (x-y),0) else if k=10 then (Ko (x*y),0) else if k=11\/k=12 then TF k x y
 else if k=13 then (M3 .and x y,0) else if k=14 then (M3 .or x y,0) else if k=15 then (M3 .xor x y,0)
 else if k=16 then (U5 (decide (x=y)),0) else if k=17 then (U5 (decide (x≠y)),0) else if k=18 then (U5 (decide (x<y)),0)
 else if k=19 then (U5 (decide (x<=y)),0) else if k=20 then (U5 (decide (y<x)),0) else if k=21 then (U5 (decide (y<=x)),0)
 else if k=22 then (U5 (decide (x≠0/\y≠0)),0) else if k=23 then (U5 (decide (x≠0\/y≠0)),0) else (0,7)
def E0 (k x:Int):Int×Int:=if k=6 then (Ko (0-x),0) else if k=7 then (U5 (decide (x=0)),0) else (0,7)
def Df (b:Bool) (w:wD):Calls prog 196 #[.bool b] w fun e w'=>e = .returned (.int .i64 (U5 b))/\w=w':=by
 cases b
 . refine Ac func196 ntmps196 rfl rfl ?_;refine eK ?_;refine xR ?_;exact ⟨rfl,rfl⟩
 . refine Ac func196 ntmps196 rfl rfl ?_;refine eK ?_;refine xR ?_;exact ⟨rfl,rfl⟩
def Pu (k x y:Int) (w:wD):Calls prog 197 #[.int .u8 k,.int .i64 x,.int .i64 y] w fun e w'=>e = .returned (.tuple #[.int .i64 (TF k x y).1,.int .i64 (TF k x y).2])/\w=w':=by
 refine Ac func197 ntmps197 rfl rfl ?_
 focus
  refine eK ?_;refine Ay rfl (fun h=>?_) (fun h=>?_);refine eK ?_;refine xT ?_;rotate_left;refine eK ?_;refine Ay rfl (fun c2=>?_) (fun c2=>?_);refine eK ?_;refine C1 (Vl rfl rfl Ae) ?_;refine eK ?_;refine xT ?_;rotate_left;refine eK ?_;refine C1 (Vm rfl rfl Ae) ?_;refine eK ?_;refine xT ?_;rotate_left
 all_goals (refine ⟨?_,rfl⟩;unfold TF;simp [*])
def Ot (k x:Int) (w:wD):Calls prog 190 #[.int .u8 k,.int .i64 x] w fun e w'=>e = .returned (.tuple #[.int .i64 (E0 k x).1,.int .i64 (E0 k x).2])/\w=w':=by
 refine Ac func190 ntmps190 rfl rfl ?_
 focus
  refine eK ?_;refine Ay rfl (fun h=>?_) (fun h=>?_);refine eK ?_;refine C1 (Ps rfl) ?_;refine eK ?_;refine xT ?_;rotate_left;refine eK ?_;refine Ay rfl (fun c2=>?_) (fun c2=>?_);refine eK ?_;refine cC rfl (Df _ _) ?_;rintro _ F ⟨⟨⟩,rfl⟩;refine eK ?_;refine xT ?_;rotate_left;refine eK ?_;refine xT ?_;rotate_left
 all_goals (refine ⟨?_,rfl⟩;unfold E0;simp [*])
set_option maxHeartbeats 8000000 in
def SI (k x y:Int) (w:wD):Calls prog 191 #[.int .u8 k,.int .i64 x,.int .i64 y] w fun e w'=>e = .returned (.tuple #[.int .i64 (EZ k x y).1,.int .i64 (EZ k x y).2])/\w=w':=by
 refine Ac func191 ntmps191 rfl rfl ?_
 focus
  refine eK ?_;refine Ay rfl (fun Y=>?_) (fun Y=>?_);refine eK ?_;refine C1 (LD rfl rfl) ?_;refine eK ?_;refine xT ?_;rotate_left;refine eK ?_;refine Ay rfl (fun c2=>?_) (fun c2=>?_);refine eK ?_;refine C1 (Pr rfl rfl) ?_;refine eK ?_;refine xT ?_;rotate_left;refine eK ?_;refine Ay rfl (fun c3=>?_) (fun c3=>?_);refine eK ?_;refine C1 (Vk rfl rfl) ?_;refine eK ?_;refine xT ?_;rotate_left;refine eK ?_;refine Ay rfl (fun c4=>?_) (fun c4=>?_);refine eK ?_;refine cC rfl (Pu _ _ _ _) ?_;rintro _ w5 ⟨⟨⟩,rfl⟩;refine eK ?_;refine xT ?_;rotate_left;refine eK ?_;refine Ay rfl (fun Z=>?_) (fun Z=>?_);refine eK ?_;refine cC rfl (Pu _ _ _ _) ?_;rintro _ w7 ⟨⟨⟩,rfl⟩;refine eK ?_;refine xT ?_;rotate_left;refine eK ?_;refine Ay rfl (fun c8=>?_) (fun c8=>?_);refine eK ?_;refine C1 (Xm rfl rfl) ?_;refine eK ?_;refine xT ?_;rotate_left;refine eK ?_;refine Ay rfl (fun c9=>?_) (fun c9=>?_);refine eK ?_;refine C1 (Y6 rfl rfl) ?_;refine eK ?_;refine xT ?_;rotate_left;refine eK ?_;refine Ay rfl (fun h=>?_) (fun h=>?_);refine eK ?_;refine C1 (SH rfl rfl) ?_;refine eK ?_;refine xT ?_;rotate_left;refine eK ?_;refine Ay rfl (fun F=>?_) (fun F=>?_);refine eK ?_;refine cC rfl (Df _ _) ?_;rintro _ aa ⟨⟨⟩,rfl⟩;refine eK ?_;refine xT ?_;rotate_left;refine eK ?_;refine Ay rfl (fun G=>?_) (fun G=>?_);refine eK ?_;refine cC rfl (Df _ _) ?_;rintro _ ab ⟨⟨⟩,rfl⟩;refine eK ?_;refine xT ?_;rotate_left;refine eK ?_;refine Ay rfl (fun L=>?_) (fun L=>?_);refine eK ?_;refine cC rfl (Df _ _) ?_;rintro _ ac ⟨⟨⟩,rfl⟩;refine eK ?_;refine xT ?_;rotate_left;refine eK ?_;refine Ay rfl (fun M=>?_) (fun M=>?_);refine eK ?_;refine cC rfl (Df _ _) ?_;rintro _ ad ⟨⟨⟩,rfl⟩;refine eK ?_;refine xT ?_;rotate_left;refine eK ?_;refine Ay rfl (fun N=>?_) (fun N=>?_);refine eK ?_;refine cC rfl (Df _ _) ?_;rintro _ ae ⟨⟨⟩,rfl⟩;refine eK ?_;refine xT ?_;rotate_left;refine eK ?_;refine Ay rfl (fun c21=>?_) (fun c21=>?_);refine eK ?_;refine cC rfl (Df _ _) ?_;rintro _ af ⟨⟨⟩,rfl⟩;refine eK ?_;refine xT ?_;rotate_left;refine eK ?_;refine Ay rfl (fun O=>?_) (fun O=>?_);refine eK ?_;refine C6 rfl rfl rfl (fun U=>?_) (fun U=>?_);refine eK ?_;refine cC rfl (Df _ _) ?_;rintro _ ag ⟨⟨⟩,rfl⟩;refine eK ?_;refine xT ?_;rotate_left;refine eK ?_;refine cC rfl (Df _ _) ?_;rintro _ ah ⟨⟨⟩,rfl⟩;refine eK ?_;refine xT ?_;rotate_left;refine eK ?_;refine Ay rfl (fun V=>?_) (fun V=>?_)
  refine eK ?_;refine C6 rfl rfl rfl (fun X=>?_) (fun X=>?_);refine eK ?_;refine cC rfl (Df _ _) ?_;rintro _ ai ⟨⟨⟩,rfl⟩;refine eK ?_;refine xT ?_;rotate_left;refine eK ?_;refine cC rfl (Df _ _) ?_;rintro _ aj ⟨⟨⟩,rfl⟩;refine eK ?_;refine xT ?_;rotate_left;refine eK ?_;refine xT ?_;rotate_left
 all_goals (refine ⟨?_,rfl⟩;unfold EZ;simp [*])
structure VD where
 name:lB
 kind:Int
 len:Int
structure PD where
 name:lB
 params:List VD
 body:Nd
structure PG where
 vars:List VD
 procs:List PD
 main:Nd
def Ep (l:List VD) (s:lB):Option VD:=l.reverse.find? (fun v=>decide (v.name=s))
def Fs (l:List VD) (s:lB):Int:=if (Ep l s).isSome then 22 else 0
def EC (l:List VD) (s:lB) (k:Int):Int:=match Ep l s with
 | none=>6
 | some v=>if v.kind=k then 0 else 7
def Cf (ps:List PD) (s:lB):Option Nat:=ps.findIdx? (fun p=>decide (p.name=s))
def Nr (ps:List PD) (s:lB) (m:Nat):Int:=match Cf ps s with
 | none=>6
 | some i=>if m=((ps[i]?.map fun p=>p.params.length).getD 0) then 0 else 7
def B7 (ps:List PD) (v:List VD) (k:Int) (s:lB) (m:Nat):Int:=
 if k=2 then EC v s 1 else if k=3 then EC v s 2 else if k=4\/k=5\/k=44\/k=45 then EC v s 3
 else if k=54\/k=55 then Fs v s else if k=50\/k=51 then Nr ps s m else 0
def Pv (ps:List PD) (v:List VD) (s:lB) (m i:Nat) (x:lB):Int:=match Ep v x with
 | none=>6
 | some d=>match (Cf ps s).bind (ps[·]?) with
  | none=>0
  | some p=>if m≠p.params.length then 0 else match p.params[i]? with
   | none=>0
   | some q=>if d.kind≠q.kind\/d.len≠q.len then 7 else 0
def Cr (k:Int) (s:lB) (i:Nat) (v:List VD):List VD:=
 if k=54/\i=1 then v++[⟨s,1,0⟩] else if k=55/\i=0 then v++[⟨s,3,0⟩] else v
def Ou (e:Int):Nat:=if e=0 then 0 else 1
def Gh (ps:List PD) (v:List VD) (s:lB) (m:Nat):Nat->List Nd->Nat
 | _,[]=>0
 | i,t::r=>Ou (Pv ps v s m i t.name)+Gh ps v s m (i+1) r
mutual
def Nd.flt (ps:List PD) (v:List VD):Nd->Nat
 | .mk k _ s l=>Ou (B7 ps v k s l.length)+if k=50\/k=51 then Gh ps v s l.length 0 l else CP ps v k s 0 l
def CP (ps:List PD) (v:List VD) (k:Int) (s:lB):Nat->List Nd->Nat
 | _,[]=>0
 | i,t::r=>t.flt ps (Cr k s i v)+CP ps v k s (i+1) r
end
def CE:List VD->List VD->Nat
 | _,[]=>0
 | acc,v::r=>Ou (Fs acc v.name)+CE (acc++[v]) r
def Eb (ps:List PD):Nat->List PD->Nat
 | _,[]=>0
 | i,p::r=>(if (Cf ps p.name).getD i<i then 1 else 0)+CE [] p.params+p.body.flt ps p.params+Eb ps (i+1) r
def PG.flt (g:PG):Nat:=CE [] g.vars+Eb g.procs 0 g.procs+g.main.flt g.procs g.vars
def FQ (c:UInt8):Bool:=decide (97<=c.toNat)&&decide (c.toNat<=122)
def Do (c:UInt8):Bool:=decide (48<=c.toNat)&&decide (c.toNat<=57)
def IV (c:UInt8):Bool:=decide (c.toNat=32)||decide (c.toNat=9)||decide (c.toNat=13)||decide (c.toNat=10)
def JD (c:UInt8):Bool:=FQ c||Do c
def PA (c:UInt8):Bool:= !decide (c.toNat=10)
def Hz (p:UInt8->Bool) (s:lB):Nat:=(s.takeWhile p).length
def keywords:List lB:=[[105,110,116],[97,114,114,97,121],[115,116,97,99,107],[112,114,111,99],[109,97,105,110],[112,117,115,104],[112,111,112],[114,101,97,100],[117,110,114,101,97,100],[119,114,105,116,101],[117,110,119,114,105,116,101],[99,97,108,108],[117,110,99,97,108,108],[105,102],[101,108,115,101],[102,105],[102,114,111,109],[108,111,111,112],[117,110,116,105,108],[108,111,99,97,108],[100,101,108,111,99,97,108],[116,111,112],[115,105,122,101]]
def Gi (s:lB):Bool:=keywords.contains s
def pairs:List lB:=[[58,61],[43,61],[45,61],[94,61],[61,61],[33,61],[60,61],[62,61],[38,38],[124,124]]
def singles:lB:=[43,45,42,47,37,38,124,94,33,61,60,62,40,41,123,125,91,93,59,44]
def Iw (s:lB):Nat:=
 if List.isPrefixOf [60,61,62] s then 3 else if pairs.contains (s.take 2) then 2 else if (s.head?.map (singles.contains ·)).getD false then 1 else 0
def Ba:lB->Nat×Nat
 | []=>(3,0)
 | c::r=>if FQ c then (1,Hz JD (c::r)) else if Do c then (2,Hz Do (c::r)) else if IV c then (4,Hz IV (c::r)) else if c=35 then (5,Hz PA (c::r)) else (3,Iw (c::r))
def CF (s:lB):Bool:= !s.isEmpty&&decide (s.length<=16)&&((Ba s).1==1)&&((Ba s).2==s.length) && !Gi s
def EJ (k:Int):Int:=
 if k=23 then 1 else if k=22 then 2 else if k=14 then 3 else if k=15 then 4 else if k=13 then 5
 else if 16<=k/\k<=21 then 6 else if k=8\/k=9 then 7 else if 10<=k/\k<=12 then 8 else if k=6\/k=7 then 9 else 0
def symbols:List lB:=[[],[],[],[],[],[],[45],[33],[43],[45],[42],[47],[37],[38],[124],[94],[61,61],[33,61],[60],[60,61],[62],[62,61],[38,38],[124,124],[],[],[],[],[],[],[],[],[],[],[],[],[],[],[],[],[43,61],[45,61],[94,61]]
def GZ (k:Int):lB:=symbols.getD k.toNat []
def CQ (n:Int) (s:lB):Bool:=n==0&&CF s
def plain (n:Int) (s:lB):Bool:=n==0&&s.isEmpty
def Nd.isExpr:Nd->Bool
 | .mk k n s l=>
  if k=1 then decide (0<=n)&&s.isEmpty&&l.isEmpty
  else if k=2\/k=4\/k=5 then CQ n s&&l.isEmpty
  else if k=3 then CQ n s&&match l with|[x]=>x.isExpr|_=>false
  else if k=6\/k=7 then plain n s&&match l with|[x]=>x.isExpr|_=>false
  else if 8<=k/\k<=23 then plain n s&&match l with|[x,y]=>x.isExpr&&y.isExpr|_=>false
  else false
def Nd.isPlace (t:Nd):Bool:=(t.kind==2||t.kind==3)&&t.isExpr
def Nd.isVar (t:Nd):Bool:=t.kind==2&&t.isExpr
mutual
def Nd.isStmt:Nd->Bool
 | .mk k n s l=>
  if k=40\/k=41\/k=42\/k=56 then plain n s&&match l with|[x,y]=>x.isPlace&&y.isExpr|_=>false
  else if k=43 then plain n s&&match l with|[x,y]=>x.isPlace&&y.isPlace|_=>false
  else if k=44\/k=45 then CQ n s&&match l with|[x]=>x.isPlace|_=>false
  else if 46<=k/\k<=49 then plain n s&&match l with|[x]=>x.isPlace|_=>false
  else if k=50\/k=51 then CQ n s&&decide (l.length<=8)&&l.all Nd.isVar
  else if k=52\/k=53 then plain n s&&match l with|[x,y,z,u]=>x.isExpr&&y.isBlock&&z.isBlock&&u.isExpr|_=>false
  else if k=54 then CQ n s&&match l with|[x,y,z]=>x.isExpr&&y.isBlock&&z.isExpr|_=>false
  else if k=55 then CQ n s&&match l with|[x]=>x.isBlock|_=>false
  else false
def Nd.isBlock:Nd->Bool
 | .mk k n s l=>k==57&&plain n s&&Eh l
def Eh:List Nd->Bool
 | []=>true
 | t::r=>t.isStmt&&Eh r
end
inductive StmtSh:Nd->Prop where
 | upd {k:Int} {x y:Nd}:(k=40\/k=41\/k=42\/k=56)->x.isPlace=true->y.isExpr=true->StmtSh (.mk k 0 [] [x,y])
 | swap {x y:Nd}:x.isPlace=true->y.isPlace=true->StmtSh (.mk 43 0 [] [x,y])
 | stack {k:Int} {s:lB} {x:Nd}:(k=44\/k=45)->CF s=true->x.isPlace=true->StmtSh (.mk k 0 s [x])
 | tape {k:Int} {x:Nd}:(k=46\/k=47\/k=48\/k=49)->x.isPlace=true->StmtSh (.mk k 0 [] [x])
 | call {k:Int} {s:lB} {l:List Nd}:(k=50\/k=51)->CF s=true->l.length<=8->l.all Nd.isVar=true->StmtSh (.mk k 0 s l)
 | branch {k:Int} {x y z u:Nd}:(k=52\/k=53)->x.isExpr=true->y.isBlock=true->z.isBlock=true->u.isExpr=true->StmtSh (.mk k 0 [] [x,y,z,u])
 | local_ {s:lB} {x y z:Nd}:CF s=true->x.isExpr=true->y.isBlock=true->z.isExpr=true->StmtSh (.mk 54 0 s [x,y,z])
 | lstack {s:lB} {x:Nd}:CF s=true->x.isBlock=true->StmtSh (.mk 55 0 s [x])
def BT {t:Nd} (h:t.isStmt=true):StmtSh t:=by
 obtain ⟨k,n,s,l⟩:=t;unfold Nd.isStmt at h;by_cases L:k=40\/k=41\/k=42\/k=56
 . rw [AG L] at h;simp only [bZ,plain,beq_iff_eq,List.isEmpty_iff] at h;obtain ⟨⟨rfl,rfl⟩,F⟩:=h;split at F
   . simp only [bZ] at F;exact .upd L F.1 F.2
   . cases F
 rw [As L] at h;by_cases c2:k=43
 . rw [AG c2] at h;simp only [bZ,plain,beq_iff_eq,List.isEmpty_iff] at h;obtain ⟨⟨rfl,rfl⟩,F⟩:=h;subst c2;split at F
   . simp only [bZ] at F;exact .swap F.1 F.2
   . cases F
 rw [As c2] at h;by_cases c3:k=44\/k=45
 . rw [AG c3] at h;simp only [bZ,CQ,beq_iff_eq] at h;obtain ⟨⟨rfl,G⟩,F⟩:=h;split at F
   . exact .stack c3 G F
   . cases F
 rw [As c3] at h;by_cases c4:46<=k/\k<=49
 . rw [AG c4] at h;simp only [bZ,plain,beq_iff_eq,List.isEmpty_iff] at h;obtain ⟨⟨rfl,rfl⟩,F⟩:=h;split at F
   . exact .tape Ab F
   . cases F
 rw [As c4] at h;by_cases c5:k=50\/k=51
 . rw [AG c5] at h;simp only [bZ,CQ,beq_iff_eq,decide_eq_true_eq] at h;obtain ⟨⟨⟨rfl,G⟩,U⟩,F⟩:=h;exact .call c5 G U F
 rw [As c5] at h;by_cases M:k=52\/k=53
 . rw [AG M] at h;simp only [bZ,plain,beq_iff_eq,List.isEmpty_iff] at h;obtain ⟨⟨rfl,rfl⟩,F⟩:=h;split at F
   . simp only [bZ] at F;exact .branch M F.1.1.1 F.1.1.2 F.1.2 F.2
   . cases F
 rw [As M] at h;by_cases N:k=54
 . rw [AG N] at h;simp only [bZ,CQ,beq_iff_eq] at h;obtain ⟨⟨rfl,G⟩,F⟩:=h;subst N;split at F
   . simp only [bZ] at F;exact .local_ G F.1.1 F.1.2 F.2
   . cases F
 rw [As N] at h;by_cases O:k=55
 . rw [AG O] at h;simp only [bZ,CQ,beq_iff_eq] at h;obtain ⟨⟨rfl,G⟩,F⟩:=h;subst O;split at F
   . exact .lstack G F
   . cases F
 rw [As O] at h;cases h
def Ek {t:Nd} (h:StmtSh t):t.isStmt=true:=by
 cases h with
 | upd G F L=>unfold Nd.isStmt;rw [AG G];simp [plain,F,L]
 | swap F L=>unfold Nd.isStmt;simp [plain,F,L]
 | stack G M F=>rcases G with rfl|rfl<;>(unfold Nd.isStmt;simp [CQ,M,F])
 | tape G F=>rcases G with rfl|rfl|rfl|rfl<;>(unfold Nd.isStmt;simp [plain,F])
 | call G M O U=>rcases G with rfl|rfl<;>(unfold Nd.isStmt;simp only [CQ,M,U];simp [O])
 | branch G F L N V=>rcases G with rfl|rfl<;>(unfold Nd.isStmt;simp [plain,F,L,N,V])
 | local_ M F L N=>unfold Nd.isStmt;simp [CQ,M,F,L,N]
 | lstack M F=>unfold Nd.isStmt;simp [CQ,M,F]
def GG {t:Nd} (h:t.isExpr=true):1<=t.kind/\t.kind<=23:=by
 obtain ⟨k,n,s,l⟩:=t;unfold Nd.isExpr at h;simp only [fS];by_cases F:k=1
 . omega
 rw [As F] at h;by_cases c2:k=2\/k=4\/k=5
 . omega
 rw [As c2] at h;by_cases c3:k=3
 . omega
 rw [As c3] at h;by_cases c4:k=6\/k=7
 . omega
 rw [As c4] at h;by_cases c5:8<=k/\k<=23
 . omega
 rw [As c5] at h;cases h
def A0 {t:Nd} (h:t.isPlace=true):t.isExpr=true:=by
 simp only [Nd.isPlace,bZ] at h;exact h.2
def G0 {t:Nd} (h:t.isVar=true):t.isExpr=true:=by
 simp only [Nd.isVar,bZ] at h;exact h.2
def Ns {t:Nd} (h:t.isStmt=true):40<=t.kind/\t.kind<=56:=by
 cases BT h<;>simp only [fS]<;>omega
def DT {t:Nd} (h:t.isBlock=true):t = .mk 57 0 [] t.kids/\Eh t.kids=true:=by
 obtain ⟨k,n,s,l⟩:=t;unfold Nd.isBlock at h;simp only [bZ,plain,beq_iff_eq,List.isEmpty_iff] at h;obtain ⟨⟨rfl,rfl,rfl⟩,F⟩:=h;exact ⟨rfl,F⟩
def rowStmt_iff : ∀ {l:List Nd},Eh l=true ↔ ∀x∈l,x.isStmt=true
 | []=>by simp [Eh]
 | t::r=>by simp [Eh,rowStmt_iff (l:=r)]
structure Tok where
 kind:Int
 text:lB
 pos:Int
def Tok.zero:Tok:=⟨0,[],0⟩
structure PS where
 at_:Nat
 off:Int
 err:Int
section
variable (ts:List Tok) (n:Int)
def AJ (σ:PS):Tok:=if σ.err≠0\/σ.at_=ts.length then Tok.zero else ts.getD σ.at_ Tok.zero
def Dc (σ:PS) (off e:Int):PS:=if σ.err=0 then ⟨σ.at_,off,e⟩ else σ
def DU (σ:PS):PS:=if σ.at_<ts.length then Dc σ (ts.getD σ.at_ Tok.zero).pos 3 else Dc σ n 4
def AA (σ:PS):PS:=⟨σ.at_+1,σ.off,σ.err⟩
def DA (σ:PS) (t:lB):Bool:=decide ((AJ ts σ).text=t)
def D4 (σ:PS) (t:lB):PS:=if DA ts σ t then AA σ else σ
def AW (σ:PS) (t:lB):PS:=if DA ts σ t then AA σ else DU ts n σ
def BJ (σ:PS):lB×PS:=if CF (AJ ts σ).text then ((AJ ts σ).text,AA σ) else ([],DU ts n σ)
def B4 (s:lB):Nat:=s.foldl (fun a c=>a*10+(c.toNat-48)) 0
def CU (least most:Int) (σ:PS):Int×PS:=
 if (AJ ts σ).kind=2 then
  if (B4 (AJ ts σ).text:Int)<=9223372036854775807/\least<=(B4 (AJ ts σ).text:Int)/\(B4 (AJ ts σ).text:Int)<=most then ((B4 (AJ ts σ).text:Int),AA σ)
  else (0,Dc (AA σ) (AJ ts σ).pos 2)
 else (0,DU ts n σ)
def Nt (t:lB):Option Int:=[8,9,10,11,12,13,14,15,16,17,18,19,20,21,22,23].find? (fun k=>decide (GZ k=t))
mutual
def Cn:Nat->Int->PS->Nd×PS
 | 0,_,σ=>(.mk 0 0 [] [],σ)
 | k+1,lv,σ=>Dt k lv (BK k σ).1 (BK k σ).2
def Dt:Nat->Int->Nd->PS->Nd×PS
 | 0,_,x,σ=>(x,σ)
 | k+1,lv,x,σ=>match Nt (AJ ts σ).text with
  | none=>(x,σ)
  | some op=>if EJ op<lv then (x,σ) else
   Dt k lv (.mk op 0 [] [x,(Cn k (EJ op+1) (AA σ)).1]) (Cn k (EJ op+1) (AA σ)).2
def BK:Nat->PS->Nd×PS
 | 0,σ=>(.mk 0 0 [] [],σ)
 | k+1,σ=>
  if DA ts σ [45] then (.mk 6 0 [] [(BK k (AA σ)).1],(BK k (AA σ)).2)
  else if DA ts σ [33] then (.mk 7 0 [] [(BK k (AA σ)).1],(BK k (AA σ)).2)
  else BY k σ
def BY:Nat->PS->Nd×PS
 | 0,σ=>(.mk 0 0 [] [],σ)
 | k+1,σ=>
  if (AJ ts σ).kind=2 then (.mk 1 (CU ts n 0 9223372036854775807 σ).1 [] [],(CU ts n 0 9223372036854775807 σ).2)
  else if DA ts σ [116,111,112] then (.mk 4 0 (BJ ts n (AW ts n (AA σ) [40])).1 [],AW ts n (BJ ts n (AW ts n (AA σ) [40])).2 [41])
  else if DA ts σ [115,105,122,101] then (.mk 5 0 (BJ ts n (AW ts n (AA σ) [40])).1 [],AW ts n (BJ ts n (AW ts n (AA σ) [40])).2 [41])
  else if DA ts σ [40] then ((Cn k 1 (AA σ)).1,AW ts n (Cn k 1 (AA σ)).2 [41])
  else CB k σ
def CB:Nat->PS->Nd×PS
 | 0,σ=>(.mk 0 0 [] [],σ)
 | k+1,σ=>
  if DA ts (BJ ts n σ).2 [91] then (.mk 3 0 (BJ ts n σ).1 [(Cn k 1 (AA (BJ ts n σ).2)).1],AW ts n (Cn k 1 (AA (BJ ts n σ).2)).2 [93])
  else (.mk 2 0 (BJ ts n σ).1 [],(BJ ts n σ).2)
end
def ED (σ:PS):Nd×PS:=(.mk 2 0 (BJ ts n σ).1 [],(BJ ts n σ).2)
def Ea:Nat->List Nd->PS->List Nd×PS
 | 0,acc,σ=>(acc,σ)
 | k+1,acc,σ=>
  if DA ts σ [44] then
   Ea k (acc++[(ED ts n (if acc.length=8/\CF (AJ ts (AA σ)).text=true then Dc (AA σ) (AJ ts (AA σ)).pos 5 else AA σ)).1])
    (ED ts n (if acc.length=8/\CF (AJ ts (AA σ)).text=true then Dc (AA σ) (AJ ts (AA σ)).pos 5 else AA σ)).2
  else (acc,σ)
def JE (k:Nat) (kind:Int) (σ:PS):Nd×PS:=
 let m:=BJ ts n (AA σ)
 let σ1:=AW ts n m.2 [40]
 if DA ts σ1 [41] then (.mk kind 0 m.1 [],AA σ1)
 else
  let a:=ED ts n σ1
  let r:=Ea ts n k [a.1] a.2
  (.mk kind 0 m.1 r.1,AW ts n r.2 [41])
def Fz (t:lB):Int:=if t=[43,61] then 40 else if t=[45,61] then 41 else if t=[94,61] then 42 else if t=[58,61] then 56 else 0
def Gj (k:Nat) (σ:PS):Nd×PS:=
 let p:=CB ts n k σ
 if DA ts p.2 [60,61,62] then (.mk 43 0 [] [p.1,(CB ts n k (AA p.2)).1],(CB ts n k (AA p.2)).2)
 else if Fz (AJ ts p.2).text=0 then (.mk 0 0 [] [],DU ts n p.2)
 else (.mk (Fz (AJ ts p.2).text) 0 [] [p.1,(Cn ts n k 1 (AA p.2)).1],(Cn ts n k 1 (AA p.2)).2)
def H4 (k:Nat) (kind:Int) (σ:PS):Nd×PS:=
 let p:=CB ts n k (AA σ)
 let m:=BJ ts n (AW ts n p.2 [44])
 (.mk kind 0 m.1 [p.1],m.2)
def IW (k:Nat) (kind:Int) (σ:PS):Nd×PS:=(.mk kind 0 [] [(CB ts n k (AA σ)).1],(CB ts n k (AA σ)).2)
mutual
def CH:Nat->PS->Nd×PS
 | 0,σ=>(.mk 0 0 [] [],σ)
 | k+1,σ=>
  if (AJ ts σ).text=[112,117,115,104] then H4 ts n k 44 σ else if (AJ ts σ).text=[112,111,112] then H4 ts n k 45 σ
  else if (AJ ts σ).text=[114,101,97,100] then IW ts n k 46 σ else if (AJ ts σ).text=[117,110,114,101,97,100] then IW ts n k 47 σ else if (AJ ts σ).text=[119,114,105,116,101] then IW ts n k 48 σ else if (AJ ts σ).text=[117,110,119,114,105,116,101] then IW ts n k 49 σ
  else if (AJ ts σ).text=[99,97,108,108] then JE ts n k 50 σ else if (AJ ts σ).text=[117,110,99,97,108,108] then JE ts n k 51 σ
  else if (AJ ts σ).text=[105,102] then CV k 52 [101,108,115,101] [102,105] σ else if (AJ ts σ).text=[102,114,111,109] then CV k 53 [108,111,111,112] [117,110,116,105,108] σ
  else if (AJ ts σ).text=[108,111,99,97,108] then FR k σ else Gj ts n k σ
def CV:Nat->Int->lB->lB->PS->Nd×PS
 | 0,_,_,_,σ=>(.mk 0 0 [] [],σ)
 | k+1,kind,mid,last,σ=>
  let a:=Cn ts n k 1 (AA σ)
  let x:=EK k a.2
  let y:=EK k (AW ts n x.2 mid)
  let e:=Cn ts n k 1 (AW ts n y.2 last)
  (.mk kind 0 [] [a.1,x.1,y.1,e.1],e.2)
def FR:Nat->PS->Nd×PS
 | 0,σ=>(.mk 0 0 [] [],σ)
 | k+1,σ=>
  if DA ts (AA σ) [115,116,97,99,107] then
   let m:=BJ ts n (AA (AA σ))
   let x:=EK k m.2
   (.mk 55 0 m.1 [x.1],x.2)
  else
   let m:=BJ ts n (AA σ)
   let a:=Cn ts n k 1 (AW ts n m.2 [61])
   let x:=EK k a.2
   let e:=Cn ts n k 1 (AW ts n x.2 [100,101,108,111,99,97,108])
   (.mk 54 0 m.1 [a.1,x.1,e.1],e.2)
def EK:Nat->PS->Nd×PS
 | 0,σ=>(.mk 57 0 [] [],σ)
 | k+1,σ=>let r:=DK k [] (AW ts n σ [123]);(.mk 57 0 [] r.1,r.2)
def DK:Nat->List Nd->PS->List Nd×PS
 | 0,acc,σ=>(acc,σ)
 | k+1,acc,σ=>
  if σ.err≠0 then (acc,σ)
  else if DA ts σ [125] then (acc,AA σ)
  else DK k (acc++[(CH k σ).1]) (AW ts n (CH k σ).2 [59])
end
end
mutual
def Nd.depth:Nd->Int
 | .mk _ _ _ l=>Bb l+1
def Bb:List Nd->Int
 | []=>0
 | t::r=>max t.depth (Bb r)
end
section
variable (ts:List Tok) (n:Int)
def DV (x:Nd) (off:Int) (σ:PS):PS:=if σ.err≠0 then σ else if 80<x.depth then Dc σ off 19 else if 2000<x.size then Dc σ off 5 else σ
def Dg:Nat->List Nd->PS->List Nd×PS
 | 0,acc,σ=>(acc,σ)
 | k+1,acc,σ=>if σ.err=0/\σ.at_<ts.length then Dg k (acc++[(CH ts n k σ).1]) (AW ts n (CH ts n k σ).2 [59]) else (acc,σ)
end
def Fw:Nat->lB->Nat->List Tok->List Tok×Option Nat
 | 0,_,_,acc=>(acc,none)
 | k+1,s,p,acc=>if p<s.length then
  if (Ba (s.drop p)).2=0 then ([],some p)
  else Fw k s (p+(Ba (s.drop p)).2) (acc++[⟨((Ba (s.drop p)).1:Nat),(s.drop p).take (Ba (s.drop p)).2,(p:Int)⟩])
  else (acc,none)
def H5 (s:lB):List Tok×Int×Int:=
 if 65536<s.length then ([],0,5) else match Fw (s.length+1) s 0 [] with
  | (l,none)=>(l,0,0)
  | (_,some p)=>([],(p:Int),3)
def El (l:List Tok):List Tok:=l.filter fun t=>decide (t.kind≠4)&&decide (t.kind≠5)
def Ec (s:lB):List Tok×PS:=(El (H5 s).1,⟨0,(H5 s).2.1,(H5 s).2.2⟩)
def H6 (s:lB):Nat:=4*s.length+20
def BO:Nd:=.mk 0 0 [] []
def E1 (s:lB):Nd×Int×Int:=
 let ts:=(Ec s).1
 let r:=Dg ts s.length (H6 s) [] (Ec s).2
 let x:=Nd.mk 57 0 [] r.1
 let σ:=DV x 0 r.2
 if σ.err≠0 then (BO,σ.off,σ.err) else (x,0,0)
def Bd (k:Int):Int:=
 if k=40 then 41 else if k=41 then 40 else if k=44 then 45 else if k=45 then 44 else if k=46 then 47 else if k=47 then 46
 else if k=48 then 49 else if k=49 then 48 else if k=50 then 51 else if k=51 then 50 else k
def GH (l:List Nd):List Nd:=(l.set 0 (l.getD (l.length-1) (.mk 0 0 [] []))).set (l.length-1) (l.getD 0 (.mk 0 0 [] []))
mutual
def Nd.inv (q:Bool):Nd->Nd
 | .mk k n s l=>
  if k=57 then .mk k n s (B3 q l).reverse
  else if k=52\/k=53\/k=54 then .mk k n s (GH (DN q l))
  else if k=50\/k=51 then .mk (if q then k else Bd k) n s (DN q l)
  else .mk (Bd k) n s (DN q l)
def B3 (q:Bool):List Nd->List Nd
 | []=>[]
 | t::r=>t.inv q::B3 q r
def DN (q:Bool):List Nd->List Nd
 | []=>[]
 | t::r=>(if t.kind=57 then t.inv q else t)::DN q r
end
def LE (q:Bool) : ∀l:List Nd,(B3 q l).length=l.length
 | []=>rfl
 | t::r=>by simp only [B3,cF,LE q r]
def LF (q:Bool) : ∀l m:List Nd,B3 q (l++m)=B3 q l++B3 q m
 | [],m=>rfl
 | t::r,m=>by simp only [B3,List.cons_append,LF q r m]
def I4 (q:Bool) : ∀l:List Nd,B3 q l.reverse=(B3 q l).reverse
 | []=>rfl
 | t::r=>by simp only [B3,List.reverse_cons,LF,I4 q r]
def DJ (q:Bool) {t:Nd} (h:t.isExpr=true):(if t.kind=57 then t.inv q else t)=t:=by
 have:=GG h;rw [As Ab]
def G1 (q:Bool) {t:Nd} (h:t.isBlock=true):(if t.kind=57 then t.inv q else t)=t.inv q:=by
 obtain ⟨e,-⟩:=DT h;rw [e];rfl
def Nu (q:Bool) : ∀l:List Nd,l.all Nd.isVar=true->DN q l=l
 | [],_=>rfl
 | t::r,h=>by
  simp only [List.all_cons,bZ] at h;simp only [DN,DJ q (G0 h.1),Nu q r h.2]
def Y7 (x y z:Nd):GH [x,y,z]=[z,y,x]:=rfl
def Y8 (x y z u:Nd):GH [x,y,z,u]=[u,y,z,x]:=rfl
section
variable (q:Bool)
def Lk {k:Int} {x y:Nd} (hk:k=40\/k=41\/k=42\/k=56) (hx:x.isExpr=true) (hy:y.isExpr=true):(Nd.mk k 0 [] [x,y]).inv q = .mk (Bd k) 0 [] [x,y]:=by
 conv=>lhs;unfold Nd.inv
 rw [As Ab,As Ab,As Ab];simp only [DN,DJ q hx,DJ q hy]
def JF {x y:Nd} (hx:x.isExpr=true) (hy:y.isExpr=true):(Nd.mk 43 0 [] [x,y]).inv q = .mk 43 0 [] [x,y]:=by
 conv=>lhs;unfold Nd.inv
 rw [As Ab,As Ab,As Ab];simp only [DN,DJ q hx,DJ q hy];rfl
def Gk {k:Int} {s:lB} {x:Nd} (hk:44<=k/\k<=49) (hx:x.isExpr=true):(Nd.mk k 0 s [x]).inv q = .mk (Bd k) 0 s [x]:=by
 conv=>lhs;unfold Nd.inv
 rw [As Ab,As Ab,As Ab];simp only [DN,DJ q hx]
def JG {k:Int} {s:lB} {l:List Nd} (hk:k=50\/k=51) (hl:l.all Nd.isVar=true):(Nd.mk k 0 s l).inv q = .mk (if q then k else Bd k) 0 s l:=by
 conv=>lhs;unfold Nd.inv
 rw [As Ab,As Ab,AG hk,Nu q l hl]
def G2 {k:Int} {x y z u:Nd} (hk:k=52\/k=53) (hx:x.isExpr=true) (hy:y.isBlock=true) (hz:z.isBlock=true) (hu:u.isExpr=true):(Nd.mk k 0 [] [x,y,z,u]).inv q = .mk k 0 [] [u,y.inv q,z.inv q,x]:=by
 conv=>lhs;unfold Nd.inv
 rw [As Ab,AG Ab];simp only [DN,DJ q hx,DJ q hu,G1 q hy,G1 q hz,Y8]
def Ix {s:lB} {x y z:Nd} (hx:x.isExpr=true) (hy:y.isBlock=true) (hz:z.isExpr=true):(Nd.mk 54 0 s [x,y,z]).inv q = .mk 54 0 s [z,y.inv q,x]:=by
 conv=>lhs;unfold Nd.inv
 rw [As Ab,AG Ab];simp only [DN,DJ q hx,DJ q hz,G1 q hy,Y7]
def G3 {s:lB} {x:Nd} (hx:x.isBlock=true):(Nd.mk 55 0 s [x]).inv q = .mk 55 0 s [x.inv q]:=by
 conv=>lhs;unfold Nd.inv
 rw [As Ab,As Ab,As Ab];simp only [DN,G1 q hx];rfl
def Er (l:List Nd):(Nd.mk 57 0 [] l).inv q = .mk 57 0 [] (B3 q l).reverse:=by
 conv=>lhs;unfold Nd.inv
 rw [AG rfl]
end
def Es {k:Int}:Bd (Bd k)=k:=by
 unfold Bd;by_cases F:k=40;· subst F;rfl
 by_cases G:k=41;· subst G;rfl
 by_cases L:k=44;· subst L;rfl
 by_cases M:k=45;· subst M;rfl
 by_cases N:k=46;· subst N;rfl
 by_cases O:k=47;· subst O;rfl
 by_cases U:k=48;· subst U;rfl
 by_cases V:k=49;· subst V;rfl
 by_cases X:k=50;· subst X;rfl
 by_cases h:k=51;· subst h;rfl
 simp only [F,G,L,M,N,O,U,V,X,h,if_false]
def LG {k:Int} (h:k=40\/k=41\/k=42\/k=56):Bd k=40\/Bd k=41\/Bd k=42\/Bd k=56:=by rcases h with rfl|rfl|rfl|rfl<;>decide
def Nv {k:Int} (h:k=50\/k=51):Bd k=50\/Bd k=51:=by rcases h with rfl|rfl<;>decide
def I5 {k:Int} (h:k=44\/k=45):Bd k=44\/Bd k=45:=by rcases h with rfl|rfl<;>decide
def Kq {k:Int} (h:k=46\/k=47\/k=48\/k=49):Bd k=46\/Bd k=47\/Bd k=48\/Bd k=49:=by rcases h with rfl|rfl|rfl|rfl<;>decide
structure InvOk (q:Bool) (t:Nd):Prop where
 st:t.isStmt=true->(t.inv q).isStmt=true
 bl:t.isBlock=true->(t.inv q).isBlock=true
 back:(t.inv q).inv q=t
 size:(t.inv q).size=t.size
 depth:(t.inv q).depth=t.depth
 wf:t.wf->(t.inv q).wf
def KL : ∀l m:List Nd,Aq (l++m)=Aq l+Aq m
 | [],m=>by simp [Aq]
 | t::r,m=>by simp only [Aq,List.cons_append,KL r m];omega
def KM : ∀l:List Nd,Aq l.reverse=Aq l
 | []=>rfl
 | t::r=>by simp only [List.reverse_cons,KL,KM r,Aq];omega
def G4 : ∀l:List Nd,0<=Bb l
 | []=>by simp [Bb]
 | t::r=>by have:=G4 r;simp only [Bb];omega
def JH : ∀l m:List Nd,Bb (l++m)=max (Bb l) (Bb m)
 | [],m=>by have:=G4 m;simp only [Bb,List.nil_append];omega
 | t::r,m=>by simp only [Bb,List.cons_append,JH r m];omega
def JI : ∀l:List Nd,Bb l.reverse=Bb l
 | []=>rfl
 | t::r=>by have:=G4 r;simp only [List.reverse_cons,JH,JI r,Bb];omega
def rowWf_iff : ∀ {l:List Nd},C9 l ↔ ∀x∈l,x.wf
 | []=>by simp [C9]
 | t::r=>by simp [C9,rowWf_iff (l:=r)]
def Du : ∀ {l:List Nd} {x:Nd},x∈l->x.size<=Aq l
 | t::r,x,h=>by
  simp only [Aq];rcases dQ.1 h with rfl|h
  . omega
  . have:=Du h;omega
def Vn (q:Bool) : ∀l:List Nd,(∀t∈l,InvOk q t)->(∀t∈l,t.isStmt=true)->(∀x∈B3 q l,x.isStmt=true)/\B3 q (B3 q l)=l/\Aq (B3 q l)=Aq l/\Bb (B3 q l)=Bb l/\(C9 l->C9 (B3 q l))
 | [],_,_=>⟨by simp [B3],rfl,rfl,rfl,fun h=>h⟩
 | t::r,h,M=>by
  have G:=h t AR;obtain ⟨N,i2,i3,i4,i5⟩:=Vn q r (fun x F=>h x (by simp [F])) (fun x F=>M x (by simp [F]));refine ⟨fun x F=>?_,?_,?_,?_,fun L=>?_⟩
  . simp only [B3,dQ] at F;rcases F with rfl|F
    . exact G.st (M t AR)
    . exact N x F
  . simp only [B3,G.back,i2]
  . simp only [B3,Aq,G.size,i3]
  . simp only [B3,Bb,G.depth,i4]
  . simp only [B3,C9] at L ⊢;exact ⟨G.wf L.1,i5 L.2⟩
def I6 {k:Int} (h:0<=k) (F:k<=255):0<=Bd k/\Bd k<=255:=by
 unfold Bd
 repeat' split
 all_goals omega
def Vo (q:Bool) (N:Nat) : ∀t:Nd,t.size<N->t.isStmt=true\/t.isBlock=true->InvOk q t:=by
 induction N with
 | zero=>intro t h;omega
 | succ N ih=>
  intro t hN h;by_cases U:t.isStmt=true
  . have ac : ∀ {u:Nd},u.isStmt=true -> ¬u.isBlock=true:=fun {u} Z hb=>by
     have h1:=Ns Z;obtain ⟨e,-⟩:=DT hb;rw [e] at h1;simp only [fS] at h1;omega
    have mk : ∀u v:Nd,u.isStmt=true->u.inv q=v->v.isStmt=true->v.inv q=u->v.size=u.size->v.depth=u.depth->(u.wf->v.wf)->InvOk q u:=fun u v Z e h1 h2 h3 h4 h5=>⟨fun _=>by rw [e];exact h1,fun hb=>absurd hb (ac Z),by rw [e,h2],by rw [e,h3],by rw [e,h4],by rw [e];exact h5⟩
    cases BT U with
    | @upd k x y L F M=>
     have X:=A0 F;refine mk _ _ U (Lk q L X M) (Ek (.upd (LG L) F M)) (by rw [Lk q (LG L) X M,Es]) rfl rfl (fun G=>?_);have:=I6 G.1 G.2.1;exact ⟨this.1,this.2,G.2.2⟩
    | @swap x y F M=>
     exact mk _ _ U (JF q (A0 F) (A0 M)) U (JF q (A0 F) (A0 M)) rfl rfl (fun G=>G)
    | @stack k s x L hn F=>
     have X:=A0 F;refine mk _ _ U (Gk q Ab X) (Ek (.stack (I5 L) hn F)) (by rw [Gk q (by have:=I5 L;omega) X,Es]) rfl rfl (fun G=>?_);have:=I6 G.1 G.2.1;exact ⟨this.1,this.2,G.2.2⟩
    | @tape k x L F=>
     have X:=A0 F;refine mk _ _ U (Gk q Ab X) (Ek (.tape (Kq L) F)) (by rw [Gk q (by have:=Kq L;omega) X,Es]) rfl rfl (fun G=>?_);have:=I6 G.1 G.2.1;exact ⟨this.1,this.2,G.2.2⟩
    | @call k s l L hn hl ha=>
     have aa:(if q then k else Bd k)=50\/(if q then k else Bd k)=51:=by
      cases q
      . exact Nv L
      . exact L
     refine mk _ _ U (JG q L ha) (Ek (.call aa hn hl ha)) ?_ rfl rfl (fun G=>?_)
     . rw [JG q aa ha];cases q
       . simp only [dK,if_false,Es]
       . simp
     . exact ⟨Ab,Ab,G.2.2⟩
    | @branch k x y z u L F M Y Z=>
     simp only [fF,Aq] at hN;have O:=ih y Ab (bX M);have iz:=ih z Ab (bX Y);refine mk _ _ U (G2 q L F M Y Z) (Ek (.branch L Z (O.bl M) (iz.bl Y) F)) (by rw [G2 q L Z (O.bl M) (iz.bl Y) F,O.back,iz.back]) ?_ ?_ (fun G=>?_)
     . simp only [fF,Aq,O.size,iz.size];omega
     . simp only [Nd.depth,Bb,O.depth,iz.depth];omega
     . obtain ⟨w1,w2,w3,w4,w5,w6,V⟩:=G;exact ⟨w1,w2,w3,w4,w5,w6,V.2.2.2.1,O.wf V.2.1,iz.wf V.2.2.1,V.1,trivial⟩
    | @local_ s x y z hn F M Y=>
     simp only [fF,Aq] at hN;have O:=ih y Ab (bX M);refine mk _ _ U (Ix q F M Y) (Ek (.local_ hn Y (O.bl M) F)) (by rw [Ix q Y (O.bl M) F,O.back]) ?_ ?_ (fun G=>?_)
     . simp only [fF,Aq,O.size];omega
     . simp only [Nd.depth,Bb,O.depth];omega
     . obtain ⟨w1,w2,w3,w4,w5,w6,V⟩:=G;exact ⟨w1,w2,w3,w4,w5,w6,V.2.2.1,O.wf V.2.1,V.1,trivial⟩
    | @lstack s x hn F=>
     simp only [fF,Aq] at hN;have ix:=ih x Ab (bX F);refine mk _ _ U (G3 q F) (Ek (.lstack hn (ix.bl F))) (by rw [G3 q (ix.bl F),ix.back]) ?_ ?_ (fun G=>?_)
     . simp only [fF,Aq,ix.size]
     . simp only [Nd.depth,Bb,ix.depth]
     . obtain ⟨w1,w2,w3,w4,w5,w6,V⟩:=G;exact ⟨w1,w2,w3,w4,w5,w6,ix.wf V.1,trivial⟩
  . have hb:t.isBlock=true:=h.resolve_left U;obtain ⟨e,hr⟩:=DT hb;obtain ⟨k,n,s,l⟩:=t;simp only [gB,Nd.mk.injEq,and_true] at e;obtain ⟨rfl,rfl,rfl⟩:=e;simp only [gB] at hr;simp only [fF] at hN;have ab:=rowStmt_iff.1 hr;obtain ⟨i1,i2,i3,i4,i5⟩:=Vn q l (fun t ht=>ih t (by have:=Du ht;omega) (bW (ab t ht))) ab;refine ⟨fun h=>absurd h U,fun _=>?_,?_,?_,?_,fun G=>?_⟩
    . rw [Er];unfold Nd.isBlock;rw [rowStmt_iff.2 (fun x F=>i1 x (List.mem_reverse.1 F))];rfl
    . rw [Er,Er,I4,List.reverse_reverse,i2]
    . rw [Er];simp only [fF,KM,i3]
    . rw [Er];simp only [Nd.depth,JI,i4]
    . rw [Er];obtain ⟨w1,w2,w3,w4,w5,w6,V⟩:=G;exact ⟨w1,w2,w3,w4,w5,by rw [List.length_reverse,LE];exact w6,rowWf_iff.2 (fun x F=>rowWf_iff.1 (i5 V) x (List.mem_reverse.1 F))⟩
def AT (at_:lB->Option (List Int)):Nd->Int×Int
 | .mk k n s l=>
  if k=1 then (n,0)
  else if k=2 then match at_ s with
   | none=>(0,6)
   | some c=>if c.length=1 then (c.getD 0 0,0) else (0,7)
  else if k=3 then match at_ s with
   | none=>(0,6)
   | some c=>match l with
    | [x]=>if (AT at_ x).2≠0 then (0,(AT at_ x).2) else if (AT at_ x).1<0\/(c.length:Int)<=(AT at_ x).1 then (0,12) else (c.getD (AT at_ x).1.toNat 0,0)
    | _=>(0,0)
  else if k=4 then match at_ s with
   | none=>(0,6)
   | some c=>if c.length=0 then (0,13) else (c.getD (c.length-1) 0,0)
  else if k=5 then match at_ s with
   | none=>(0,6)
   | some c=>(c.length,0)
  else match l with
   | [x]=>if (AT at_ x).2≠0 then (0,(AT at_ x).2) else E0 k (AT at_ x).1
   | [x,y]=>if (AT at_ x).2≠0 then (0,(AT at_ x).2) else if (AT at_ y).2≠0 then (0,(AT at_ y).2) else EZ k (AT at_ x).1 (AT at_ y).1
   | _=>(0,0)
def Bi (at_:lB->Option (List Int)) (t:Nd):Int×Int:=
 if t.kind=2 then (0,0) else match t.kids with
 | x::_=>AT at_ x
 | []=>(0,0)
def BR (s:lB):List VD->Option Nat
 | []=>none
 | v::r=>match BR s r with
  | some i=>some (i+1)
  | none=>if v.name=s then some 0 else none
structure Frm where
 vars:List VD
 cells:List Nat
 locals:Nat
structure Stp where
 heap:List (List Int)
 base:Frm
 calls:List Frm
 tin:List Int
 tout:List Int
def Stp.cur (st:Stp):Frm:=st.calls.getLast?.getD st.base
def Stp.setCur (st:Stp) (f:Frm):Stp:=if st.calls=[] then { st with base:=f } else { st with calls:=st.calls.dropLast++[f] }
def Stp.items (st:Stp) (c:Nat):List Int:=st.heap.getD c []
def Frm.cell (f:Frm) (s:lB):Option Nat:=(BR s f.vars).bind (f.cells[·]?)
def Stp.cellD (st:Stp) (s:lB):Nat:=(st.cur.cell s).getD 0
def Stp.look (st:Stp) (s:lB):Option (List Int):=(st.cur.cell s).map st.items
def Stp.all (st:Stp) (c:Nat) (xs:List Int):Stp:={ st with heap:=st.heap.set c xs }
def Stp.put (st:Stp) (c i:Nat) (v:Int):Stp:=st.all c ((st.items c).set i v)
def CS (k:Int):Int:=if k=2 then 1 else if k=3 then 2 else if k=4\/k=5\/k=44\/k=45 then 3 else 0
mutual
def Nd.bad (v:List VD):Nd->Int
 | .mk k _ s l=>if CS k≠0/\EC v s (CS k)≠0 then EC v s (CS k) else Ft v l
def Ft (v:List VD):List Nd->Int
 | []=>0
 | t::r=>if t.bad v≠0 then t.bad v else Ft v r
end
def Lc (k x y:Int):Int:=if k=40 then Ko (x+y) else if k=41 then Ko (x-y) else M3 .xor x y
def Stp.transfer (st:Stp) (k:Int) (c i:Nat):Int×Stp:=
 if k=46 then match st.tin with
  | []=>(17,st)
  | v::r=>if (st.items c).getD i 0≠0 then (14,st) else (0,{ st.put c i v with tin:=r })
 else if k=47 then if 4096<=st.tin.length then (5,st) else (0,{ st.put c i 0 with tin:=(st.items c).getD i 0::st.tin })
 else if k=48 then if 4096<=st.tout.length then (5,st) else (0,{ st.put c i 0 with tout:=st.tout++[(st.items c).getD i 0] })
 else match st.tout.getLast? with
  | none=>(17,st)
  | some v=>if (st.items c).getD i 0≠0 then (14,st) else (0,{ st.put c i v with tout:=st.tout.dropLast })
def Stp.move (st:Stp) (k:Int) (c i d:Nat):Int×Stp:=
 if k=44 then if 1000<=(st.items d).length then (5,st) else (0,(st.all d (st.items d++[(st.items c).getD i 0])).put c i 0)
 else match (st.items d).getLast? with
  | none=>(13,st)
  | some v=>if (st.items c).getD i 0≠0 then (14,st) else (0,(st.put c i v).all d (st.items d).dropLast)
def Stp.exec (st:Stp) (k:Int) (s:lB) (l:List Nd):Int×Stp:=
 let x:=l.getD 0 (.mk 0 0 [] [])
 let y:=l.getD 1 (.mk 0 0 [] [])
 let a:=Bi st.look x
 let r:=if k=43 then Bi st.look y else if 40<=k/\k<=42 then AT st.look y else (0,0)
 let c:=st.cellD x.name
 if a.2≠0 then (a.2,st) else if r.2≠0 then (r.2,st) else if a.1<0\/((st.items c).length:Int)<=a.1 then (12,st)
 else if 40<=k/\k<=42 then (0,st.put c a.1.toNat (Lc k ((st.items c).getD a.1.toNat 0) r.1))
 else if k=43 then
  if r.1<0\/((st.items (st.cellD y.name)).length:Int)<=r.1 then (12,st)
  else (0,(st.put c a.1.toNat ((st.items (st.cellD y.name)).getD r.1.toNat 0)).put (st.cellD y.name) r.1.toNat ((st.items c).getD a.1.toNat 0))
 else if k=44\/k=45 then st.move k c a.1.toNat (st.cellD s)
 else st.transfer k c a.1.toNat
def Stp.run1 (st:Stp) (k n:Int) (s:lB) (l:List Nd):Int×Stp:=
 if k=56 then (9,st) else if (Nd.mk k n s l).bad st.cur.vars≠0 then ((Nd.mk k n s l).bad st.cur.vars,st) else st.exec k s l
def Stp.opens (st:Stp) (v:VD) (x:Int):Int×Stp:=
 if (BR v.name st.cur.vars).isSome then (22,st)
 else (0,{ st.setCur ⟨st.cur.vars++[v],st.cur.cells++[st.heap.length],st.cur.locals+1⟩ with heap:=st.heap++[if v.kind=1 then [x] else []] })
def Stp.closes (st:Stp) (s:lB) (x:Int):Int×Stp:=
 let f:=st.cur
 let v:=f.vars.getD (f.vars.length-1) ⟨[],0,0⟩
 let xs:=st.items (f.cells.getD (f.vars.length-1) 0)
 if f.locals=0\/v.name≠s then (6,st)
 else if v.kind=1/\xs.getD 0 0≠x\/v.kind=3/\0<xs.length then (16,st)
 else (0,st.setCur ⟨f.vars.dropLast,f.cells.dropLast,f.locals-1⟩)
def BS (f:Frm):List VD->List lB->Int×List Nat
 | [],_=>(0,[])
 | _::_,[]=>(0,[])
 | v::r,s::q=>match BR s f.vars with
  | none=>(6,[])
  | some i=>if (f.vars.getD i ⟨[],0,0⟩).kind≠v.kind\/(f.vars.getD i ⟨[],0,0⟩).len≠v.len then (7,[])
   else ((BS f r q).1,f.cells.getD i 0::(BS f r q).2)
def Stp.enters (st:Stp) (ps:List VD) (args:List lB):Int×Stp:=
 if ps.length≠args.length then (7,st)
 else if (BS st.cur ps args).1≠0 then ((BS st.cur ps args).1,st)
 else if 100<=st.calls.length then (19,st)
 else (0,{ st with calls:=st.calls++[⟨ps,(BS st.cur ps args).2,0⟩] })
def Stp.leaves (st:Stp):Int×Stp:=if st.calls=[]\/0<st.cur.locals then (20,st) else (0,{ st with calls:=st.calls.dropLast })
structure Rn where
 st:Stp
 rem:Nat
def A7 (r:Rn):Except Int Rn:=if r.rem=0 then .error 18 else .ok ⟨r.st,r.rem-1⟩
def CI (f:Stp->Int×Stp) (r:Rn):Except Int Rn:=if (f r.st).1≠0 then .error (f r.st).1 else .ok ⟨(f r.st).2,r.rem⟩
def BH (t:Nd) (r:Rn):Except Int Int:=if (AT r.st.look t).2≠0 then .error (AT r.st.look t).2 else .ok (AT r.st.look t).1
def BL (t:Nd) (r:Rn):Except Int (Bool×Rn):=(A7 r).bind fun r=>(BH t r).bind fun v=>.ok (decide (v≠0),r)
def Bp (t:Nd) (want:Bool) (r:Rn):Except Int Rn:=(BL t r).bind fun p=>if p.1≠want then .error 15 else .ok p.2
def E2 (f:Nd->Rn->Except Int Rn):List Nd->Rn->Except Int Rn
 | [],r=>.ok r
 | t::l,r=>(f t r).bind (E2 f l)
def Cs (b1 b2:Rn->Except Int Rn) (test entry:Nd):Nat->Rn->Except Int Rn
 | 0,_=>.error (-1)
 | m+1,r=>(b1 r).bind fun r=>(BL test r).bind fun p=>if p.1 then .ok p.2 else (b2 p.2).bind fun r=>(Bp entry false r).bind (Cs b1 b2 test entry m)
def AD (f:Bool->Nd->Rn->Except Int Rn) (back:Bool) (t:Nd) (r:Rn):Except Int Rn:=E2 (f back) (if back then t.kids.reverse else t.kids) r
def Bw (l:List Nd) (i:Nat):Nd:=l.getD i (.mk 0 0 [] [])
def Au (ps:List PD):Nat->Bool->Nd->Rn->Except Int Rn
 | 0,_,_,_=>.error (-1)
 | d+1,back,.mk k n s l,r=>
  let first:=if back then Bw l (l.length-1) else Bw l 0
  let last:=if back then Bw l 0 else Bw l (l.length-1)
  let blk:=AD (Au ps d)
  if k=52 then (BL first r).bind fun p=>(blk back (if p.1 then Bw l 1 else Bw l 2) p.2).bind (Bp last p.1)
  else if k=53 then (Bp first true r).bind (Cs (blk back (Bw l 1)) (blk back (Bw l 2)) last first d)
  else if k=54 then (A7 r).bind fun r=>(BH first r).bind fun v=>(CI (·.opens ⟨s,1,0⟩ v) r).bind fun r=>(blk back (Bw l 1) r).bind fun r=>
   (A7 r).bind fun r=>(BH last r).bind fun v=>CI (·.closes s v) r
  else if k=55 then (A7 r).bind fun r=>(CI (·.opens ⟨s,3,0⟩ 0) r).bind fun r=>(blk back (Bw l 0) r).bind fun r=>(A7 r).bind (CI (·.closes s 0))
  else if k=50\/k=51 then
   let p:=ps.getD ((Cf ps s).getD 0) ⟨[],[],.mk 0 0 [] []⟩
   (A7 r).bind fun r=>(CI (·.enters p.params (l.map fQ)) r).bind fun r=>(blk (back != decide (k=51)) p.body r).bind fun r=>(A7 r).bind (CI (·.leaves))
  else (A7 r).bind (CI (·.run1 (if back then Bd k else k) n s l))
structure Shape (α:Type) where
 sz:Nat
 rep:wD->(nP)->α->lV->Prop
 len : ∀ {w S x cs},rep w S x cs->cs.length=sz
 one : ∀ {w S x cs},rep w S x cs->cs.all fP=true
 mono : ∀ {w w':wD} {S S' x cs},rep w S x cs->(∀b,S b->S' b)->(∀b o v,S b->w.cell? ⟨b,o,none⟩=some v->w'.cell? ⟨b,o,none⟩=some v)->rep w' S' x cs
 lt : ∀ {w S x cs},rep w S x cs->rep w (fun b=>S b/\b<w.heap.size) x cs
structure OwnL {α:Type} (sh:Shape α) (w:wD) (B:Nat) (e:TypeId) (v:Value) (xs:List α):Prop where
 ex : ∃css:List lV,Own w B e sh.sz v xs.length css.flatten/\css.length=xs.length /\ ∀(i:Nat) (x:α) (cs:lV),xs[i]? = some x->css[i]? = some cs->sh.rep w (fun b=>B<=b/\v.ownBlock≠some b) x cs
def OwnL.nil {α:Type} {sh:Shape α} {w:wD} {B e:Nat}:OwnL sh w B e (.slice none 0 0) []:=⟨⟨[],Own.nil,rfl,AR⟩⟩
def Own.ge {w:wD} {b e sz n:Nat} {v:Value} {cs:lV} (h:Own w b e sz v n cs) {k:Nat} (F:v.ownBlock=some k):b<=k:=(h.blk F).1
def OwnL.ge {α:Type} {sh:Shape α} {w:wD} {B e:Nat} {v:Value} {xs:List α} (h:OwnL sh w B e v xs) {k:Nat} (F:v.ownBlock=some k):B<=k:=by
 obtain ⟨G,L,-⟩:=h.ex;exact L.ge F
def OwnL.ext {α:Type} {sh:Shape α} {w w':wD} {B e:Nat} {v:Value} {xs:List α} (h:OwnL sh w B e v xs) (x:Ext w w'):OwnL sh w' B e v xs:=by
 obtain ⟨F,G,L,M⟩:=h.ex;exact ⟨F,G.ext x,L,fun i y cs N O=>sh.mono (M i y cs N O) aFh (fun b o u _ U=>x.keep U)⟩
instance {α:Type} {sh:Shape α} {w w':wD} {B e:Nat} {v:Value} {xs:List α}:LfE w w' (OwnL sh w B e v xs) (OwnL sh w' B e v xs):=⟨fun x h=>Bk.OwnL.ext h x⟩
def OwnL.fr {α:Type} {sh:Shape α} {S:nP} {w w':wD} {B e:Nat} {v:Value} {xs:List α} (h:OwnL sh w B e v xs) (x:Fr S w w') (L : ∀k,S k->k<B):OwnL sh w' B e v xs:=by
 obtain ⟨F,M,N,O⟩:=h.ex;exact ⟨F,M.fr x (fun k U G=>by have:=M.ge U;have:=L k G;omega),N,fun i y cs V X=>sh.mono (O i y cs V X) aFh (fun b o u Z Y=>x.keep (fun G=>by have:=L b G;omega) Y)⟩
instance {α:Type} {sh:Shape α} {S:nP} {w w':wD} {B e:Nat} {v:Value} {xs:List α}:LfF S w w' (OwnL sh w B e v xs) (∀k,S k->k<B) (OwnL sh w' B e v xs):=⟨fun x s h=>Bk.OwnL.fr h x s⟩
def FT {α:Type} {F:List (List α)} {n:Nat} (h : ∀cs∈F,cs.length=n):F.flatten.length=F.length*n:=by
 induction F with
 | nil=>simp
 | cons c r G=>
  simp only [List.flatten_cons,cP,cF,G (fun x L=>h x (List.mem_cons_of_mem _ L)),h c List.mem_cons_self,Nat.add_mul];omega
def ZT {α:Type} (sh:Shape α) (w:wD) (B:Nat) (e:TypeId) (xs:List α):Option Value->wD->Prop
 | some v',w'=> ∃g cap,v' = .slice (some ⟨g,0,none⟩) xs.length cap/\OwnL sh w' B e v' xs/\Fr (B <= ·) w w'
 | none,_=>False
section
variable {P:Program} {n:Nat} {l:Sl} {w:wD} {tab:Tab} {zt:EV} {ty:TypeId} {α:Type} {sh:Shape α}
def JJ {x y:Operand} {t e sz1 B cap:Nat} {sE:Sk} {zs:lV} {v:Value} {xs:List α} {cs:lV} {z:α} {p:Addr} (T:TabOk P tab) (Z:CN P zt) (ht:Az tab t=some (.slice e,sz1)) (hE:Az tab e=some (sE,sh.sz)) (hz:Da zt e=some zs) (hzl:zs.length=sh.sz)
 (hby:DM P e=true) (hsz:cV 0 sh.sz=true) (hx:ev l x=some v) (hy:ev l y=some (.slice (some p) 1 cap)) (hown:OwnL sh w B e v xs) (hr:Row w p cs) (hrep:sh.rep w (fun b=>B<=b/\v.ownBlock≠some b) z cs) (hlen:xs.length<=10000000000) (hB:B<=w.heap.size) :
 B5 P n l (.call ⟨.builtin .append,#[x,y],#[t,t]⟩) ty w (ZT sh w B e (xs++[z])):=by
 obtain ⟨css,h1,h2,h3⟩:=hown.ex;have hd:=Eo (P:=P) (n:=n) (l:=l) (ty:=ty) T Z ht hE hz hzl hby hsz hx hy h1 hr (by rw [sh.len hrep];simp) (sh.one hrep) Ab Ab hB;unfold B5 at hd ⊢;intro a dst pos after g next Q ha hn c;refine hd a dst pos after g next Q ha (fun v' w' hG=>?_) (fun w' hG=>hG.elim);obtain ⟨g1,g2,g,cap',g3,g4⟩:=hG;have hgB:B<=g:=g1.ge (k:=g) (by rw [g3];rfl);refine hn v' w' ⟨g,cap',by rw [g3];simp,⟨css++[cs],?_,by simp [h2],fun i y ds hy hc=>?_⟩,g2.weaken (fun b hb=>h1.ge hb)⟩
 . have e1:(css++[cs]).flatten=css.flatten++cs:=by simp
   have e2:(xs++[z]).length=xs.length+1:=by simp
   rw [e1,e2];exact g1
 . have key:sh.rep w (fun b=>B<=b/\v.ownBlock≠some b) y ds:=by
    by_cases hi:i<xs.length
    . rw [cK hi] at hy;rw [cK Ab] at hc;exact h3 i y ds hy hc
    . have hil:i<(xs++[z]).length:=by
       rcases cO i (xs++[z]).length with h|h
       . exact h
       . rw [cI h] at hy;cases hy
      simp only [cP,cF,dD] at hil;have hi':i=xs.length:=by omega
      subst hi';rw [cW (cH _)] at hy;rw [cW Ab] at hc;simp only [Nat.sub_self,dF,cE] at hy;rw [h2] at hc;simp only [Nat.sub_self,dF,cE] at hc;subst hy hc;exact hrep
   refine sh.mono (sh.lt key) (fun b hb=>⟨hb.1.1,fun e=>?_⟩) (fun b o u hb hu=>g2.keep hb.1.2 hu);rw [g3] at e;simp only [eR,cE] at e;subst e;rcases g4 with h|h
   . exact hb.1.2 h
   . omega
def C7 {ops:Array Oper} {Q:Exit->Act->wD->Prop} {rest:List Oper} {d:Nat} {pos:String} {after:Array Edge} {x y:Operand} {t e N B cap:Nat} {X:Sk} {zs:lV} {v:Value} {xs:List α} {cs:lV} {z:α} {p:Addr} (T:TabOk P tab) (Z:CN P zt) (Y:Az tab t=some (.slice e,N)) (hE:Az tab e=some (X,sh.sz)) (hz:Da zt e=some zs) (O:zs.length=sh.sz)
 (U:DM P e=true) (V:cV 0 sh.sz=true) (hx:ev l x=some v) (hy:ev l y=some (.slice (some p) 1 cap)) (G:OwnL sh w B e v xs) (hr:Row w p cs) (L:sh.rep w (fun b=>B<=b/\v.ownBlock≠some b) z cs) (M:xs.length<=10000000000) (hB:B<=w.heap.size) (hd:cV d n=true)
 (k : ∀g F w1,OwnL sh w1 B e (.slice (some ⟨g,0,none⟩) (xs++[z]).length F) (xs++[z])->Fr (B <= ·) w w1->LW P n ops Q rest ((d,.slice (some ⟨g,0,none⟩) (xs++[z]).length F)::l) w1) :
 LW P n ops Q (⟨some d,.call ⟨.builtin .append,#[x,y],#[t,t]⟩,ty,pos,after,none⟩::rest) l w:=
 AC (JJ T Z Y hE hz O U V hx hy G hr L M hB) hd (fun v w1 ⟨g,cap,h,ho,hf⟩=>by subst h;exact k g cap w1 ho hf) aFh
end
section
variable {P:Program} {n:Nat} {l:Sl} {S:wD->Prop} {w:wD} {tab:Tab} {zt:EV} {ty:TypeId} {ops:Array Oper} {Q:Exit->Act->wD->Prop} {rest:List Oper} {d:Nat} {pos:String} {after:Array Edge}
end
def OwnL.rows {α:Type} {sh:Shape α} {w:wD} {B e:Nat} {v:Value} {xs:List α} (h:OwnL sh w B e v xs) (hx:xs≠[]) : ∃g cap,v = .slice (some ⟨g,0,none⟩) xs.length cap/\B<=g /\ ∀(i:Nat) (x:α),xs[i]? = some x -> ∃cs,Row w ⟨g,i*sh.sz,none⟩ cs/\sh.rep w (fun b=>B<=b/\b≠g) x cs:=by
 obtain ⟨F,O,h2,U⟩:=h.ex;rcases O.row with ⟨rfl,hn,-⟩|⟨g,cap,rfl,hg,V,hr⟩
 . exact absurd (List.length_eq_zero_iff.1 hn) hx
 . refine ⟨g,cap,rfl,hg,fun i x N=>?_⟩;have ac:i<xs.length:=by
    rcases cO i xs.length with h|h
    . exact h
    . rw [cI h] at N;cases N
   have hc:F[i]? = some F[i]:=bT Ab;refine ⟨F[i],?_,sh.mono (U i x _ N hc) (fun b hb=>⟨hb.1,fun e=>hb.2 (by rw [V,e])⟩) (fun _ _ _ _ h=>h)⟩;intro j u X;have G : ∀cs∈F,cs.length=sh.sz:=fun cs L=>by
    obtain ⟨k,hk,rfl⟩:=List.mem_iff_getElem.1 L;exact sh.len (U k xs[k] F[k] (bT Ab) (bT hk))
   have Y:j<sh.sz:=by
    rw [<-sh.len (U i x _ N hc)];rcases cO j F[i].length with h|h
    . exact h
    . rw [cI h] at X;cases X
   have M:F.flatten[i*sh.sz+j]? = some u:=by
    have Z:F=F.take i++F[i]::F.drop (i+1):=by
     have O:=(List.take_append_drop i F).symm;rwa [dH Ab] at O
    have aa:F.flatten=(F.take i).flatten++(F[i]++(F.drop (i+1)).flatten):=by
     refine (congrArg List.flatten Z).trans ?_;rw [List.flatten_append,List.flatten_cons]
    have ab:(F.take i).flatten.length=i*sh.sz:=by
     rw [FT (fun cs L=>G cs (List.mem_of_mem_take L)),eH];congr 1;omega
    rw [aa,cW Ab,ab,Nat.add_sub_cancel_left,cK (by rw [G _ (cL _)];exact Y)];exact X
   have:=hr.at (i:=i*sh.sz+j) M;have e:(⟨g,i*sh.sz,none⟩:Addr).add j=⟨g,0+(i*sh.sz+j),none⟩:=by unfold eG;by_cases h0:j=0<;>simp [h0]
   rw [e];exact this
def GI {S:nP} {w:wD} (t:Nd) (a:oA) (h:t.sits S w a):t.sits (fun b=>S b/\b<w.heap.size) w a:=by
 have key : ∀N:Nat,(∀(l:List Nd) (a:oA),Aq l<N->rowSits S w l a->rowSits (fun b=>S b/\b<w.heap.size) w l a):=by
  intro N
  induction N with
  | zero=>intro l a h;omega
  | succ N F=>
   intro l a G h;cases l with
   | nil=>simp [rowSits]
   | cons x r=>
    simp only [rowSits] at h ⊢;obtain ⟨b,o,L,c,rfl,U,M,V,X,Y,O,Z⟩:=h;have hb:=Co M;simp only [Aq] at G;have hx:=Nd.size_pos x;obtain ⟨k,n,s,l⟩:=x;simp only [fF] at G;refine ⟨b,o,L,c,rfl,⟨U,hb⟩,M,V,X,Y,?_,F r _ Ab Z⟩;simp only [fT] at O ⊢;exact F l L Ab O
 obtain ⟨k,n,s,l⟩:=t;simp only [fT] at h ⊢;exact key (Aq l+1) l a Ab h
def ndShape:Shape Nd where
 sz:=4
 rep:=fun w S t cs=> ∃a c,cs=t.cells a c/\t.sits S w a
 len:=fun ⟨_,_,h,_⟩=>by rw [h];rfl
 one:=fun ⟨_,_,h,_⟩=>by rw [h];rfl
 mono:=fun ⟨a,c,h,hs⟩ hS hc=>⟨a,c,h,Nd.sits_mono hS hc _ a hs⟩
 lt:=fun ⟨a,c,h,hs⟩=>⟨a,c,h,GI _ a hs⟩
def Em {S:nP} {w:wD} {g:Nat} (L:S g) : ∀(xs:List Nd) (o:Nat),(∀(i:Nat) (x:Nd),xs[i]? = some x -> ∃a c,Row w ⟨g,o+i*4,none⟩ (x.cells a c)/\x.sits S w a)->rowSits S w xs (some ⟨g,o,none⟩)
 | [],_,_=>by simp [rowSits]
 | x::r,o,h=>by
  simp only [rowSits];obtain ⟨a,c,F,G⟩:=h 0 x rfl;simp only [Nat.zero_mul,Nat.add_zero] at F;refine ⟨g,o,a,c,rfl,L,F.at0 rfl,F.at (i:=1) rfl,F.at (i:=2) rfl,F.at (i:=3) rfl,G,Em L r (o+4) (fun i y M=>?_)⟩;obtain ⟨a,c,F,G⟩:=h (i+1) y (by simpa using M);exact ⟨a,c,by rw [show o+4+i*4=o+(i+1)*4 from by omega];exact F,G⟩
def OwnL.sits {w:wD} {B e:Nat} {a:oA} {len cap:Nat} {xs:List Nd} {S:nP} (h:OwnL ndShape w B e (.slice a len cap) xs) (G : ∀b,B<=b->S b):rowSits S w xs a:=by
 by_cases L:xs=[]
 . subst L;simp [rowSits]
 . obtain ⟨g,M,N,O,F⟩:=h.rows L;simp only [dI] at N;obtain ⟨rfl,-,-⟩:=N;refine Em (G g O) xs 0 (fun i x U=>?_);obtain ⟨cs,V,a,c,rfl,X⟩:=F i x U;exact ⟨a,c,by simpa [ndShape] using V,Nd.sits_mono (fun b Y=>G b Y.1) (fun _ _ _ _ h=>h) _ _ X⟩
def Ov {w:wD} {b o:Nat} {v0 h v2 v3:Value} (G:w.cell? ⟨b,o,none⟩=some v0) (L:w.cell? ⟨b,o+1,none⟩=some h) (M:w.cell? ⟨b,o+2,none⟩=some v2) (N:w.cell? ⟨b,o+3,none⟩=some v3):Row w ⟨b,o,none⟩ [v0,h,v2,v3]:=fun i v F=>by
 rcases i with _|_|_|_|i<;>simp at F<;>(subst F;simpa [eG])
def BA {S:nP} {w:wD} {l:List Nd} {a:oA} (h:rowSits S w l a) (L:l≠[]) : ∃b o,a=some ⟨b,o,none⟩/\S b /\ ∀i t,l[i]? = some t -> ∃F c,Row w ⟨b,o+i*4,none⟩ (t.cells F c)/\t.sits S w F:=by
 cases l with
 | nil=>exact absurd rfl L
 | cons x r=>
  obtain ⟨b,o,F,c,rfl,M,-⟩:=Fi h (i:=0) (t:=x) rfl;refine ⟨b,o,rfl,M,fun i t N=>?_⟩;obtain ⟨Z,o',F,c,G,-,O,U,V,X,Y⟩:=Fi h N;simp only [cE,Addr.mk.injEq] at G;obtain ⟨rfl,rfl,-⟩:=G;exact ⟨F,c,Ov O U V X,Y⟩
def Iy {S:nP} {w:wD} {k n:Int} {s:lB} {l:List Nd} {a:oA} (h:rowSits S w l a):(Nd.mk k n s l).sits S w a:=by simp only [fT];exact h
def OwnL.lt {α:Type} {sh:Shape α} {w:wD} {B e:Nat} {v:Value} {xs:List α} (h:OwnL sh w B e v xs) {k:Nat} (F:v.ownBlock=some k):k<w.heap.size:=by
 obtain ⟨G,L,-⟩:=h.ex;exact (L.blk F).2
def CZ {S:nP} {w:wD} {k n:Int} {s:lB} {a:oA}:(Nd.mk k n s []).sits S w a:=by simp [fT,rowSits]
def Nd.sits.wide {S S':nP} {w:wD} {t:Nd} {a:oA} (h:t.sits S w a) (F : ∀b,S b->S' b):t.sits S' w a:=Nd.sits_mono F (fun _ _ _ _ h=>h) t a h
section
variable {S:nP} {w:wD} {k n:Int} {s:lB} {b:Nat} {x y z u:Nd} {xa ya za ua:oA} {xc yc zc uc:Nat}
def Blk.sub {vs:lV} (h:Blk w b vs) (i m:Nat):Row w ⟨b,i,none⟩ ((vs.drop i).take m):=by
 have:=h.row.sub i m;simpa using this
def Kr {G:nP} (h:Blk w b (x.cells xa xc)) (L:S b) (M:x.sits G w xa) (N : ∀b,G b->S b):(Nd.mk k n s [x]).sits S w (some ⟨b,0,none⟩):=by
 simp only [fT];refine Em L _ 0 (fun i t F=>?_)
 match i,F with
 | 0,F=>simp at F;subst F;exact ⟨xa,xc,h.sub 0 4,Nd.sits.wide M N⟩
def Ks {G S2:nP} (h:Blk w b (x.cells xa xc++y.cells ya yc)) (L:S b) (M:x.sits G w xa) (N : ∀b,G b->S b) (O:y.sits S2 w ya) (U : ∀b,S2 b->S b):(Nd.mk k n s [x,y]).sits S w (some ⟨b,0,none⟩):=by
 simp only [fT];refine Em L _ 0 (fun i t F=>?_)
 match i,F with
 | 0,F=>simp at F;subst F;exact ⟨xa,xc,h.sub 0 4,Nd.sits.wide M N⟩
 | 1,F=>simp at F;subst F;exact ⟨ya,yc,h.sub 4 4,Nd.sits.wide O U⟩
def Y9 {G S2 L:nP} (h:Blk w b (x.cells xa xc++y.cells ya yc++z.cells za zc)) (M:S b) (N:x.sits G w xa) (O : ∀b,G b->S b) (U:y.sits S2 w ya) (V : ∀b,S2 b->S b) (X:z.sits L w za) (Y : ∀b,L b->S b):(Nd.mk k n s [x,y,z]).sits S w (some ⟨b,0,none⟩):=by
 simp only [fT];refine Em M _ 0 (fun i t F=>?_)
 match i,F with
 | 0,F=>simp at F;subst F;exact ⟨xa,xc,h.sub 0 4,Nd.sits.wide N O⟩
 | 1,F=>simp at F;subst F;exact ⟨ya,yc,h.sub 4 4,Nd.sits.wide U V⟩
 | 2,F=>simp at F;subst F;exact ⟨za,zc,h.sub 8 4,Nd.sits.wide X Y⟩
def Za {G S2 L M:nP} (h:Blk w b (x.cells xa xc++y.cells ya yc++z.cells za zc++u.cells ua uc)) (N:S b) (O:x.sits G w xa) (U : ∀b,G b->S b) (V:y.sits S2 w ya) (X : ∀b,S2 b->S b) (Y:z.sits L w za) (Z : ∀b,L b->S b) (hu:u.sits M w ua) (ku : ∀b,M b->S b):(Nd.mk k n s [x,y,z,u]).sits S w (some ⟨b,0,none⟩):=by
 simp only [fT];refine Em N _ 0 (fun i t F=>?_)
 match i,F with
 | 0,F=>simp at F;subst F;exact ⟨xa,xc,h.sub 0 4,Nd.sits.wide O U⟩
 | 1,F=>simp at F;subst F;exact ⟨ya,yc,h.sub 4 4,Nd.sits.wide V X⟩
 | 2,F=>simp at F;subst F;exact ⟨za,zc,h.sub 8 4,Nd.sits.wide Y Z⟩
 | 3,F=>simp at F;subst F;exact ⟨ua,uc,h.sub 12 4,Nd.sits.wide hu ku⟩
end
def Xo {w:wD} {b o:Nat} {us vs:lV} (M:Row w ⟨b,o,none⟩ us) (N:Row w ⟨b,o+us.length,none⟩ vs):Row w ⟨b,o,none⟩ (us++vs):=fun i v F=>by
 rcases cO i us.length with G|L
 . rw [cK G] at F;exact M i v F
 . rw [cW L] at F;have h:=N.at F;have e:(⟨b,o,none⟩:Addr).add i=⟨b,o+i,none⟩:=by unfold eG;by_cases O:i=0<;>simp [O]
   rw [e,show o+i=o+us.length+(i-us.length) by omega];exact h
def Kt {P:Program} (w:wD) (t ty e:TypeId) (i:TypeInfo) (h:P.underlying t=some (.slice e)) (F:P.info? e=some i) (g n cap c:Nat) (G:n<=cap) :
 (Builtin.append_ #[t,t] ty #[.slice (some ⟨g,0,none⟩) n cap,.slice none 0 c]).run P w = .ok (.slice (some ⟨g,0,none⟩) n cap) w:=by
 simp [Builtin.append_,AF h,Go.sizeOf,typeInfo,F,Builtin.lenOf,Builtin.firstCells,G,storeCells]
def Ku (K:Value->wD->Prop):Option Value->wD->Prop
 | some v,w=>K v w
 | none,_=>False
section
variable {P:Program} {n:Nat} {l:Sl} {w:wD} {tab:Tab} {zt:EV} {ty:TypeId}
end
abbrev VD.cells (v:VD):lV:=[str v.name,.int .u8 v.kind,.int .i64 v.len]
abbrev VD.val (v:VD):Value:=.agg #[str v.name,.int .u8 v.kind,.int .i64 v.len]
def aU (w:wD) (b o:Nat) (v:VD):Prop:=Row w ⟨b,o,none⟩ v.cells
def VDs (S:nP) (w:wD) (l:List VD) (a:oA):Prop:=Arr S 3 aU w l a
abbrev PD.cells (p:PD) (pa:oA) (pc:Nat) (ba:oA) (bc:Nat):lV:=[str p.name,.slice pa p.params.length pc,.int .u8 p.body.kind,.int .i64 p.body.num,str p.body.name,.slice ba p.body.kids.length bc]
def ZU (S:nP) (w:wD) (b o:Nat) (p:PD):Prop:= ∃pa pc ba bc,Row w ⟨b,o,none⟩ (p.cells pa pc ba bc)/\VDs S w p.params pa/\p.body.sits S w ba
def PDs (S:nP) (w:wD) (l:List PD) (a:oA):Prop:=Arr S 6 (ZU S) w l a
def VDs.ext {S:nP} {w w':wD} {l:List VD} {a:oA} (h:VDs S w l a) (x:Ext w w'):VDs S w' l a:=h.mono aFh (fun _ _ _ _ _ h=>Row.ext h x)
instance {S:nP} {w w':wD} {l:List VD} {a:oA}:LfE w w' (VDs S w l a) (VDs S w' l a):=⟨fun x h=>Bk.VDs.ext h x⟩
def PDs.ext {S:nP} {w w':wD} {l:List PD} {a:oA} (h:PDs S w l a) (x:Ext w w'):PDs S w' l a:=
 h.mono aFh (fun _ _ _ _ _ ⟨F,pc,ba,bc,h1,h2,h3⟩=>⟨F,pc,ba,bc,h1.ext x,h2.ext x,h3.ext x⟩)
instance {S:nP} {w w':wD} {l:List PD} {a:oA}:LfE w w' (PDs S w l a) (PDs S w' l a):=⟨fun x h=>Bk.PDs.ext h x⟩
abbrev PG.cells (g:PG) (va:oA) (vc:Nat) (pa:oA) (pc:Nat) (ma:oA) (mc:Nat):lV:=
 [.slice va g.vars.length vc,.slice pa g.procs.length pc,.int .u8 g.main.kind,.int .i64 g.main.num,str g.main.name,.slice ma g.main.kids.length mc]
structure PG.sits (S:nP) (w:wD) (g:PG) (va pa ma:oA):Prop where
 vars:VDs S w g.vars va
 procs:PDs S w g.procs pa
 main:g.main.sits S w ma
def PG.sits.ext {S:nP} {w w':wD} {g:PG} {F G L:oA} (h:g.sits S w F G L) (x:Ext w w'):g.sits S w' F G L:=⟨h.vars.ext x,h.procs.ext x,h.main.ext x⟩
instance {S:nP} {w w':wD} {g:PG} {F G L:oA}:LfE w w' (g.sits S w F G L) (g.sits S w' F G L):=⟨fun x h=>Bk.PG.sits.ext h x⟩
def VDs.fr {S T:nP} {w w':wD} {l:List VD} {a:oA} (h:VDs S w l a) (x:Fr T w w') (F : ∀b,S b -> ¬T b):VDs S w' l a:=h.mono aFh (fun b _ _ _ G h=>Row.fr h x (F b G))
instance {S T:nP} {w w':wD} {l:List VD} {a:oA}:LfF T w w' (VDs S w l a) (∀b,S b -> ¬T b) (VDs S w' l a):=⟨fun x s h=>Bk.VDs.fr h x s⟩
def PDs.fr {S T:nP} {w w':wD} {l:List PD} {a:oA} (h:PDs S w l a) (x:Fr T w w') (F : ∀b,S b -> ¬T b):PDs S w' l a:=
 h.mono aFh (fun b _ _ _ G ⟨L,pc,ba,bc,h1,h2,h3⟩=>⟨L,pc,ba,bc,h1.fr x (F b G),h2.fr x F,h3.fr x F⟩)
instance {S T:nP} {w w':wD} {l:List PD} {a:oA}:LfF T w w' (PDs S w l a) (∀b,S b -> ¬T b) (PDs S w' l a):=⟨fun x s h=>Bk.PDs.fr h x s⟩
def PG.sits.fr {S T:nP} {w w':wD} {g:PG} {F G L:oA} (h:g.sits S w F G L) (x:Fr T w w') (M : ∀b,S b -> ¬T b):g.sits S w' F G L:=⟨h.vars.fr x M,h.procs.fr x M,h.main.fr x M⟩
instance {S T:nP} {w w':wD} {g:PG} {F G L:oA}:LfF T w w' (g.sits S w F G L) (∀b,S b -> ¬T b) (g.sits S w' F G L):=⟨fun x s h=>Bk.PG.sits.fr h x s⟩
def VDs.wide {S S':nP} {w:wD} {l:List VD} {a:oA} (h:VDs S w l a) (F : ∀b,S b->S' b):VDs S' w l a:=h.mono F (fun _ _ _ _ _ h=>h)
def PB {w w':wD} {b o:Nat} {vs:lV} (h:Row w ⟨b,o,none⟩ vs) (F : ∀o v,w.cell? ⟨b,o,none⟩=some v->w'.cell? ⟨b,o,none⟩=some v):Row w' ⟨b,o,none⟩ vs:=fun i v G=>by
 have:=h.at G;have e:(⟨b,o,none⟩:Addr).add i=⟨b,o+i,none⟩:=by unfold eG;by_cases L:i=0<;>simp [L]
 rw [e];exact F _ _ this
def VDs.move {S S':nP} {w w':wD} {l:List VD} {a:oA} (h:VDs S w l a) (F : ∀b,S b->S' b) (G : ∀b o v,S b->w.cell? ⟨b,o,none⟩=some v->w'.cell? ⟨b,o,none⟩=some v):VDs S' w' l a:=
 h.mono F (fun b o x _ L h=>PB h (fun o v=>G b o v L))
def VDs.lt2 {S:nP} {w:wD} {l:List VD} {a:oA} (h:VDs S w l a):VDs (fun b=>S b/\b<w.heap.size) w l a:=by
 rcases h with h|⟨b,o,G,L,F⟩
 . exact bW h
 . cases l with
   | nil=>exact bW rfl
   | cons v r=>exact bX ⟨b,o,G,⟨L,Co (Row.at0 (F 0 v rfl) rfl)⟩,F⟩
def RA:1<=maxLen:=by unfold maxLen;omega
def Rows (S:nP) (w:wD) (cs:lV) (a:oA):Prop:=cs=[] \/ ∃b o,a=some ⟨b,o,none⟩/\S b/\Row w ⟨b,o,none⟩ cs
section
variable {S S' T:nP} {w w':wD} {cs:lV} {a:oA}
def Rows.ext (h:Rows S w cs a) (x:Ext w w'):Rows S w' cs a:=h.imp id fun ⟨b,o,h1,h2,h3⟩=>⟨b,o,h1,h2,h3.ext x⟩
instance  : LfE w w' (Rows S w cs a) (Rows S w' cs a):=⟨fun x h=>Bk.Rows.ext h x⟩
def Rows.fr (h:Rows S w cs a) (x:Fr T w w') (F : ∀b,S b -> ¬T b):Rows S w' cs a:=h.imp id fun ⟨b,o,h1,h2,h3⟩=>⟨b,o,h1,h2,h3.fr x (F b h2)⟩
instance  : LfF T w w' (Rows S w cs a) (∀b,S b -> ¬T b) (Rows S w' cs a):=⟨fun x s h=>Bk.Rows.fr h x s⟩
def Rows.wide (h:Rows S w cs a) (F : ∀b,S b->S' b):Rows S' w cs a:=h.imp id fun ⟨b,o,h1,h2,h3⟩=>⟨b,o,h1,F b h2,h3⟩
def Rows.lt2 (h:Rows S w cs a):Rows (fun b=>S b/\b<w.heap.size) w cs a:=by
 rcases h with h|⟨b,o,G,L,F⟩
 . exact bW h
 . cases cs with
   | nil=>exact bW rfl
   | cons v r=>exact bX ⟨b,o,G,⟨L,Co (Row.at0 F rfl)⟩,F⟩
def Rows.ltA (h:Rows S w cs a):Rows (· < w.heap.size) w cs a:=h.lt2.wide fun _ h=>h.2
def Rows.get (h:Rows S w cs a) (F:cs≠[]) : ∃b o,a=some ⟨b,o,none⟩/\S b/\Row w ⟨b,o,none⟩ cs:=h.resolve_left F
def Rows.move (h:Rows S w cs a) (F : ∀b,S b->S' b) (G : ∀b o v,S b->w.cell? ⟨b,o,none⟩=some v->w'.cell? ⟨b,o,none⟩=some v):Rows S' w' cs a:=
 h.imp id fun ⟨b,o,h1,h2,h3⟩=>⟨b,o,h1,F b h2,PB h3 (fun o v=>G b o v h2)⟩
end
def OwnF (e sz B:Nat) (w:wD) (g cap n:Nat) (cs:lV):Prop:=B<=g/\Own w g e sz (.slice (some ⟨g,0,none⟩) n cap) n cs
def OwnF.lt {e sz B:Nat} {w:wD} {g cap n:Nat} {cs:lV} (h:OwnF e sz B w g cap n cs):g<w.heap.size:=(h.2.blk (k:=g) rfl).2
def OwnF.row {e sz B:Nat} {w:wD} {g cap n:Nat} {cs:lV} (h:OwnF e sz B w g cap n cs):Row w ⟨g,0,none⟩ cs:=by
 rcases h.2.row with ⟨F,-⟩|⟨g',G,F,-,-,L⟩
 . simp at F
 . simp only [dI,cE,Addr.mk.injEq,and_true] at F;obtain ⟨rfl,-⟩:=F;exact L
def OwnF.rows {e sz B:Nat} {w:wD} {g cap n:Nat} {cs:lV} {S:nP} (h:OwnF e sz B w g cap n cs) (F:S g):Rows S w cs (some ⟨g,0,none⟩):=bX ⟨g,0,rfl,F,h.row⟩
def OwnF.le {e sz B:Nat} {w:wD} {g cap n:Nat} {cs:lV} (h:OwnF e sz B w g cap n cs):n<=cap:=by
 rcases h.2.2 with ⟨F,-⟩|⟨g',G,cur,F,-,-,L,-⟩
 . simp at F
 . simp only [dI] at F;obtain ⟨-,-,rfl⟩:=F;exact L
section
variable {P:Program} {n:Nat} {l:Sl} {w:wD} {tab:Tab} {zt:EV} {ty:TypeId}
def JK {t e sz1 sz B:Nat} {sE:Sk} (T:TabOk P tab) (ht:Az tab t=some (.slice e,sz1)) (hE:Az tab e=some (sE,sz)) (hB:B<=w.heap.size) :
 B5 P n l (.buildSlice t 0 #[]) ty w (Ku fun o w'=> ∃g,o = .slice (some ⟨g,0,none⟩) 0 0/\OwnF e sz B w' g 0 0 []/\w.heap.size<=g/\g<w'.heap.size/\Ext w w'):=by
 unfold B5;intro a dst pos after g next Q ha hn _;obtain ⟨i,hi,hs⟩:=(T _ _ _ hE).info;have hu:=(T _ _ _ ht).under;have e1:(Instr.buildSlice t 0 #[]).run P w = .ok (.slice (some ⟨w.heap.size,0,none⟩) 0 0) (w.alloc (.cells #[] e)):=by
  simp [Instr.buildSlice,AF hu,Go.sizeOf,typeInfo,hi,Instr.fill,newRow,show Array.range 0 = #[] from rfl]
 have e2:(execOp a.eval ⟨dst,.buildSlice t 0 #[],ty,pos,after,g⟩).run P w = .ok (.value (.slice (some ⟨w.heap.size,0,none⟩) 0 0)) (w.alloc (.cells #[] e)):=by
  simp [execOp,cU,e1,Result.andThen_ok]
 unfold eL;rw [e2];have hx:Ext w (w.alloc (.cells #[] e)):=(EU w [] e).ext;refine hn _ _ ⟨w.heap.size,rfl,⟨hB,AR,bX ⟨w.heap.size,0,#[],rfl,cH _,?_,cH _,by unfold maxLen;omega,AR,AR⟩⟩,cH _,?_,hx⟩
 . rw [show (w.alloc (Obj.cells #[] e)).heap=w.heap.push (.cells #[] e) from rfl];simp
 . rw [show (w.alloc (Obj.cells #[] e)).heap=w.heap.push (.cells #[] e) from rfl];simp
def JL {x y:Operand} {t e sz1 sz B g cap c k m:Nat} {sE:Sk} {zs:lV} {a:oA} {cs ds:lV} {S:nP} (T:TabOk P tab) (Z:CN P zt) (ht:Az tab t=some (.slice e,sz1)) (hE:Az tab e=some (sE,sz)) (hz:Da zt e=some zs) (hzl:zs.length=sz)
 (hby:DM P e=true) (hsz:cV 0 sz=true) (hx:ev l x=some (.slice (some ⟨g,0,none⟩) k cap)) (hy:ev l y=some (.slice a m c)) (hown:OwnF e sz B w g cap k cs) (hs:Rows S w ds a) (hl:ds.length=m*sz) (hone:ds.all fP=true) (hkm:k+m<=100000000000) :
 B5 P n l (.call ⟨.builtin .append,#[x,y],#[t,t]⟩) ty w (Ku fun o w'=> ∃g' cap',o = .slice (some ⟨g',0,none⟩) (k+m) cap'/\OwnF e sz B w' g' cap' (k+m) (cs++ds)/\(g'=g\/w.heap.size<=g')/\g'<w'.heap.size/\Fr (fun k=>k=g) w w'):=by
 have hlt:=hown.lt;have hncap:=hown.le;obtain ⟨h0,h1⟩:=hown;have hsz':0<sz:=by simpa using hsz
 by_cases hm:m=0
 . subst hm;have d:ds=[]:=by simpa using hl
   subst d;unfold B5;intro act dst pos after gd next Q ha hn _;obtain ⟨i,hi,hsz⟩:=(T _ _ _ hE).info;have hun:=(T _ _ _ ht).under;have key : ∃w',(Builtin.append_ #[t,t] ty #[.slice (some ⟨g,0,none⟩) k cap,.slice a 0 c]).run P w = .ok (.slice (some ⟨g,0,none⟩) k cap) w'/\Own w' g e sz (.slice (some ⟨g,0,none⟩) k cap) k cs/\Fr (fun k=>k=g) w w':=by
    cases a with
    | none=>exact ⟨w,Kt w t ty e i hun hi g k cap c hncap,h1,.of_ext (eU w)⟩
    | some p=>
     obtain ⟨w',r1,r2,r3⟩:=run_append_fits (P:=P) w g t ty e i sz hun hi hsz g k cap cs h1 p 0 c [] AR (fun j u hj=>by simp at hj) (fun u hu=>by cases hu) Ab;refine ⟨w',by simpa using r1,by simpa using r2,?_⟩;have:=Fr.of_grown r3;exact this.weaken (fun b hb=>by simpa using hb)
   obtain ⟨w',hrun,ho,hf⟩:=key;have e1:(execOp act.eval ⟨dst,.call ⟨.builtin .append,#[x,y],#[t,t]⟩,ty,pos,after,gd⟩).run P w = .ok (.value (.slice (some ⟨g,0,none⟩) k cap)) w':=by
    simp only [execOp,resolve,invoke,builtin,cU,dC,Result.andThen_ok,List.map_toArray,List.map_cons,List.map_nil,ha.ev hx,ha.ev hy,hrun]
   unfold eL;rw [e1];have hsz':=hf.size;exact hn _ _ ⟨g,cap,AR,⟨h0,by simpa using ho⟩,bW rfl,Ab,hf⟩
 . have hdn:ds≠[]:=by
    rintro rfl;simp only [dD] at hl;have:=Nat.mul_pos (Nat.pos_of_ne_zero hm) hsz';omega
   obtain ⟨pb,po,rfl,-,d1⟩:=hs.get hdn;have hd:=Eo (P:=P) (n:=n) (l:=l) (ty:=ty) T Z ht hE hz hzl hby hsz hx hy h1 d1 hl hone Ab Ab Ab;unfold B5 at hd ⊢;intro act dst pos after gd next Q ha hn q;refine hd act dst pos after gd next Q ha (fun v' w' hG=>?_) (fun w' hG=>hG.elim);obtain ⟨g1,g2,g',cap',g3,g4⟩:=hG;have hf:Fr (fun k=>k=g) w w':=g2.weaken (fun b hb=>by simpa [eR] using hb.symm);subst g3;have hgg:=g1.blk (k:=g') rfl;refine hn _ w' ⟨g',cap',rfl,⟨Ab,?_⟩,?_,hgg.2,hf⟩
   . obtain ⟨k1,k2|⟨g2',f,cur,k3,k4,k5⟩⟩:=g1
     . simp at k2
     . simp only [dI,cE,Addr.mk.injEq,and_true,true_and] at k3;obtain ⟨rfl,rfl⟩:=k3;exact ⟨k1,bX ⟨g',cap',cur,rfl,cH _,k5⟩⟩
   . rcases g4 with h|h
     . simp only [eR,cE] at h;exact bW h.symm
     . exact bX h
end
def Nw {α:Type} {f:α->lV} {sz:Nat} (F : ∀x,(f x).length=sz) {w:wD} {b:Nat} : ∀(l:List α) (o:Nat),(∀(i:Nat) (x:α),l[i]? = some x->Row w ⟨b,o+i*sz,none⟩ (f x))->Row w ⟨b,o,none⟩ (l.flatMap f)
 | [],o,_=>fun i v G=>by simp at G
 | x::r,o,h=>by
  rw [List.flatMap_cons];refine Xo (by simpa using h 0 x rfl) ?_;rw [F x];refine Nw F r (o+sz) (fun i y L=>?_);have:=h (i+1) y L;rw [show o+sz+i*sz=o+(i+1)*sz by rw [Nat.add_mul];omega];exact this
def Nx {α:Type} {f:α->lV} {sz:Nat} (N : ∀x,(f x).length=sz) {w:wD} {b:Nat} : ∀(l:List α) (o:Nat),Row w ⟨b,o,none⟩ (l.flatMap f) -> ∀(i:Nat) (x:α),l[i]? = some x->Row w ⟨b,o+i*sz,none⟩ (f x)
 | [],_,_,i,x,F=>by simp at F
 | y::r,o,h,i,x,F=>by
  rw [List.flatMap_cons] at h;cases i with
  | zero=>
   simp only [dF,cE] at F;subst F;intro j v G;have L:j<(f y).length:=by
    rcases cO j (f y).length with M|M
    . exact M
    . rw [cI M] at G;cases G
   have:=h j v (by rw [cK L];exact G);simpa using this
  | succ i=>
   simp only [List.getElem?_cons_succ] at F;have O:Row w ⟨b,o+sz,none⟩ (r.flatMap f):=by
    have:=h.sub sz (r.flatMap f).length;rw [List.drop_left' (N y),dB] at this;exact this
   have:=Nx N r (o+sz) O i x F;rw [show o+(i+1)*sz=o+sz+i*sz by rw [Nat.add_mul];omega];exact this
def H7 {α:Type} {f:α->lV} {sz:Nat} (h : ∀x,(f x).length=sz) : ∀l:List α,(l.flatMap f).length=l.length*sz
 | []=>by simp
 | x::r=>by rw [List.flatMap_cons,cP,h x,H7 h r,cF,Nat.add_mul];omega
def KN {α:Type} {f:α->lV} (h : ∀x,(f x).all fP=true) : ∀l:List α,(l.flatMap f).all fP=true
 | []=>rfl
 | x::r=>by rw [List.flatMap_cons,List.all_append,h x,KN h r];rfl
def Ny {P:Program} {n:Nat} {l:Sl} {S:wD->Prop} {tab:Tab} {t t' ty sz e:Nat} {x:Operand} {a:oA} {m c:Nat} (T:TabOk P tab) (F:Az tab t=some (.slice e,sz)) (G:ev l x=some (.slice a m c)):BB P n l S (.binOp .eql t x (.const (.slice none 0 0)) t') ty (.bool a.isNone):=by
 unfold BB;intro h w L pos after g M _;have N:P.underlying t=some (.slice e):=(T _ _ _ F).under;have O:(eqGuard .eql t x (.const (.slice none 0 0)) (.slice a m c) (.slice none 0 0)).run P w = .ok () w:=by unfold eqGuard;simp
 have U:(Op.equal t (.slice a m c) (.slice none 0 0)).run P w = .ok a.isNone w:=by
  show (Op.equalIn (9999+1) t (.slice a m c) (.slice none 0 0)).run P w=_;unfold Op.equalIn;cases a<;>simp [AF N,cG]
 have V:h.eval (.const (.slice none 0 0)) = .slice none 0 0:=rfl;simp [execOp,M.ev G,V,O,U,binOp]
def LH {P:Program} {n:Nat} {l:Sl} {S:wD->Prop} {tab:Tab} {t t' ty sz e:Nat} {x:Operand} {m c:Nat} (T:TabOk P tab) (h:Az tab t=some (.slice e,sz)) (F:ev l x=some (.slice none m c)):BB P n l S (.binOp .eql t x (.const (.slice none 0 0)) t') ty (.bool true):=Ny T h F
def LJ {P:Program} {n:Nat} {l:Sl} {S:wD->Prop} {tab:Tab} {t t' ty sz e:Nat} {x:Operand} {p:Addr} {m c:Nat} (T:TabOk P tab) (h:Az tab t=some (.slice e,sz)) (F:ev l x=some (.slice (some p) m c)):BB P n l S (.binOp .eql t x (.const (.slice none 0 0)) t') ty (.bool false):=Ny T h F
end Bk
namespace Go.Proofs
open Go.Shelf
def Tryz.lays137_ren:Go.Shelf.Ren:=⟨fun|137=>122|217=>147|266=>164|n=>n,fun|9=>9|5=>5|3=>3|n=>n,fun|n=>n⟩
def Tryz.lays137:Go.Proofs.Lays.n137 prog Tryz.lays137_ren:={
 mixed:=by kernel_rfl
 f137:=func122.trans (congrArg some (by kernel_rfl))
 f217:=func147.trans (congrArg some (by kernel_rfl))
 f266:=func164.trans (congrArg some (by kernel_rfl))
 t3:=underlying3
 a3:=isAgg3
 z3:=sizeOf3
 v3:=zeroValue3
 t5:=underlying5
 a5:=isAgg5
 z5:=sizeOf5
 v5:=zeroValue5
 t9:=underlying9
 a9:=isAgg9
 z9:=sizeOf9
 v9:=zeroValue9 }
open Go.RowKit in
def Tryz.strings_IndexByte (s:ByteArray) (c:Int) (w:World) :
 Calls prog 122 #[.string s,.int .u8 c] w fun e w'=>e = .returned (.int .i64 (Lib.indexByte s.data.toList c.toNat.toUInt8))/\w'=w:=Any.strings_IndexByte Tryz.lays137 s c w
def Tryz.laysC172_ren:Go.Shelf.Ren:=⟨fun|172=>188|244=>194|245=>195|247=>200|279=>201|280=>202|281=>203|282=>204|287=>207|316=>208|171=>210|205=>209|321=>212|322=>213|243=>214|246=>216|283=>217|284=>218|285=>219|286=>220|129=>222|317=>221|318=>223|319=>224|320=>225|337=>226|338=>227|n=>n,fun|9=>9|3=>3|75=>217|76=>218|4=>4|5=>5|167=>228|37=>124|0=>0|85=>229|2=>2|168=>231|53=>235|175=>236|46=>238|210=>241|127=>244|145=>247|143=>245|21=>21|171=>250|173=>253|212=>256|51=>257|20=>20|213=>258|232=>262|233=>263|80=>166|n=>n,fun|15=>2|16=>3|17=>4|18=>5|19=>6|n=>n⟩
def Tryz.laysC172:Go.Proofs.LaysC.n172 prog Tryz.laysC172_ren:={
 mixed:=by kernel_rfl
 f129:=func222.trans (congrArg some (by kernel_rfl))
 f171:=func210.trans (congrArg some (by kernel_rfl))
 f172:=func188.trans (congrArg some (by kernel_rfl))
 f205:=func209.trans (congrArg some (by kernel_rfl))
 f243:=func214.trans (congrArg some (by kernel_rfl))
 f244:=func194.trans (congrArg some (by kernel_rfl))
 f245:=func195.trans (congrArg some (by kernel_rfl))
 f246:=func216.trans (congrArg some (by kernel_rfl))
 f247:=func200.trans (congrArg some (by kernel_rfl))
 f279:=func201.trans (congrArg some (by kernel_rfl))
 f280:=func202.trans (congrArg some (by kernel_rfl))
 f281:=func203.trans (congrArg some (by kernel_rfl))
 f282:=func204.trans (congrArg some (by kernel_rfl))
 f283:=func217.trans (congrArg some (by kernel_rfl))
 f284:=func218.trans (congrArg some (by kernel_rfl))
 f285:=func219.trans (congrArg some (by kernel_rfl))
 f286:=func220.trans (congrArg some (by kernel_rfl))
 f287:=func207.trans (congrArg some (by kernel_rfl))
 f316:=func208.trans (congrArg some (by kernel_rfl))
 f317:=func221.trans (congrArg some (by kernel_rfl))
 f318:=func223.trans (congrArg some (by kernel_rfl))
 f319:=func224.trans (congrArg some (by kernel_rfl))
 f320:=func225.trans (congrArg some (by kernel_rfl))
 f321:=func212.trans (congrArg some (by kernel_rfl))
 f322:=func213.trans (congrArg some (by kernel_rfl))
 f337:=func226.trans (congrArg some (by kernel_rfl))
 f338:=func227.trans (congrArg some (by kernel_rfl))
 t0:=underlying0
 a0:=isAgg0
 z0:=sizeOf0
 v0:=zeroValue0
 t2:=underlying2
 a2:=isAgg2
 z2:=sizeOf2
 v2:=zeroValue2
 t3:=underlying3
 a3:=isAgg3
 z3:=sizeOf3
 v3:=zeroValue3
 t4:=underlying4
 a4:=isAgg4
 z4:=sizeOf4
 v4:=zeroValue4
 t5:=underlying5
 a5:=isAgg5
 z5:=sizeOf5
 v5:=zeroValue5
 t9:=underlying9
 a9:=isAgg9
 z9:=sizeOf9
 v9:=zeroValue9
 t20:=underlying20
 a20:=isAgg20
 z20:=sizeOf20
 v20:=zeroValue20
 t21:=underlying21
 a21:=isAgg21
 z21:=sizeOf21
 v21:=zeroValue21
 t37:=underlying124
 a37:=isAgg124
 z37:=sizeOf124
 v37:=zeroValue124
 t46:=underlying238
 a46:=isAgg238
 z46:=sizeOf238
 v46:=zeroValue238
 t51:=underlying257
 a51:=isAgg257
 z51:=sizeOf257
 v51:=zeroValue257
 t53:=underlying235
 a53:=isAgg235
 z53:=sizeOf235
 v53:=zeroValue235
 t75:=underlying217
 a75:=isAgg217
 z75:=sizeOf217
 v75:=zeroValue217
 t76:=underlying218
 a76:=isAgg218
 z76:=sizeOf218
 v76:=zeroValue218
 t85:=underlying229
 a85:=isAgg229
 z85:=sizeOf229
 v85:=zeroValue229
 t127:=underlying244
 a127:=isAgg244
 z127:=sizeOf244
 v127:=zeroValue244
 t143:=underlying245
 a143:=isAgg245
 z143:=sizeOf245
 v143:=zeroValue245
 t145:=underlying247
 a145:=isAgg247
 z145:=sizeOf247
 v145:=zeroValue247
 t167:=underlying228
 a167:=isAgg228
 z167:=sizeOf228
 v167:=zeroValue228
 t168:=underlying231
 a168:=isAgg231
 z168:=sizeOf231
 v168:=zeroValue231
 t171:=underlying250
 a171:=isAgg250
 z171:=sizeOf250
 v171:=zeroValue250
 t173:=underlying253
 a173:=isAgg253
 z173:=sizeOf253
 v173:=zeroValue253
 t175:=underlying236
 a175:=isAgg236
 z175:=sizeOf236
 v175:=zeroValue236
 t210:=underlying241
 a210:=isAgg241
 z210:=sizeOf241
 v210:=zeroValue241
 t212:=underlying256
 a212:=isAgg256
 z212:=sizeOf256
 v212:=zeroValue256
 t213:=underlying258
 a213:=isAgg258
 z213:=sizeOf258
 t232:=underlying262
 a232:=isAgg262
 z232:=sizeOf262
 v232:=zeroValue262
 t233:=underlying263
 a233:=isAgg263
 z233:=sizeOf263
 v233:=zeroValue263
 g15:=by kernel_rfl
 g16:=by kernel_rfl
 g17:=by kernel_rfl
 g18:=by kernel_rfl
 g19:=by kernel_rfl
 t80:=underlying166
 a80:=isAgg166
 z80:=sizeOf166
 v80:=zeroValue166
 i0:=by kernel_rfl
 i2:=by kernel_rfl
 i3:=by kernel_rfl
 i4:=by kernel_rfl
 i5:=by kernel_rfl
 i9:=by kernel_rfl
 i20:=by kernel_rfl
 i21:=by kernel_rfl
 i37:=by kernel_rfl
 i46:=by kernel_rfl
 i51:=by kernel_rfl
 i53:=by kernel_rfl
 i75:=by kernel_rfl
 i76:=by kernel_rfl
 i80:=by kernel_rfl
 i85:=by kernel_rfl
 i127:=by kernel_rfl
 i143:=by kernel_rfl
 i145:=by kernel_rfl
 i167:=by kernel_rfl
 i168:=by kernel_rfl
 i171:=by kernel_rfl
 i173:=by kernel_rfl
 i175:=by kernel_rfl
 i210:=by kernel_rfl
 i212:=by kernel_rfl
 i232:=by kernel_rfl
 i233:=by kernel_rfl
 m15:=by kernel_rfl
 m16:=by kernel_rfl
 m17:=by kernel_rfl
 m18:=by kernel_rfl
 m19:=by kernel_rfl
 c0:=by kernel_rfl
 c2:=by kernel_rfl
 c3:=by kernel_rfl
 c4:=by kernel_rfl
 c5:=by kernel_rfl
 c9:=by kernel_rfl
 c20:=by kernel_rfl
 c21:=by kernel_rfl
 c37:=by kernel_rfl
 c46:=by kernel_rfl
 c51:=by kernel_rfl
 c53:=by kernel_rfl
 c75:=by kernel_rfl
 c76:=by kernel_rfl
 c80:=by kernel_rfl
 c85:=by kernel_rfl
 c127:=by kernel_rfl
 c143:=by kernel_rfl
 c145:=by kernel_rfl
 c167:=by kernel_rfl
 c168:=by kernel_rfl
 c171:=by kernel_rfl
 c173:=by kernel_rfl
 c175:=by kernel_rfl
 c210:=by kernel_rfl
 c212:=by kernel_rfl
 c213:=by kernel_rfl
 c232:=by kernel_rfl
 c233:=by kernel_rfl }
open Go.RowKit in
def Tryz.strconv_Atoi_ok (s:ByteArray) (hmax:s.size<=9223372036854775806) (v:Int) (h:Lib.atoiAll s.data.toList = .ok v) (w:World) :
 Calls prog 188 #[.string s] w fun e w'=>e = .returned (.tuple #[.int .i64 v,.nilIface])/\(w'=w \/ ∃t,w'=Lib.bytesWorld w 5 t):=Any.strconv_Atoi_ok Tryz.laysC172 s hmax v h w
open Go.RowKit in
def Tryz.strconv_Atoi_range (s:ByteArray) (hlim:s.size<=281474976710656) (h:Lib.atoiAll s.data.toList = .range) (ev:Value) (w:World) (hv:w.cell? ⟨3,0,none⟩=some ev) (hev:ev = .nilIface \/ ∃te pe,ev = .iface te pe) :
 Calls prog 188 #[.string s] w fun e w'=> ∃N,e = .returned (.tuple #[.int .i64 (Lib.atoiSat s.data.toList),.iface 231 (.pointer (some ⟨N,0,none⟩))])/\w.heap.size<=N/\w'.heap[N]? = some (.cells #[.string ⟨#[65,116,111,105]⟩,.string s,ev] 241 (0,0))/\Below w.heap.size w w':=Any.strconv_Atoi_range Tryz.laysC172 s hlim h ev w hv hev
def Tryz.lays99_ren:Go.Shelf.Ren:=⟨fun|99=>121|206=>146|n=>n,fun|9=>9|4=>4|3=>3|n=>n,fun|n=>n⟩
def Tryz.lays99:Go.Proofs.Lays.n99 prog Tryz.lays99_ren:={
 mixed:=by kernel_rfl
 f99:=func121.trans (congrArg some (by kernel_rfl))
 f206:=func146.trans (congrArg some (by kernel_rfl))
 t3:=underlying3
 a3:=isAgg3
 z3:=sizeOf3
 v3:=zeroValue3
 t4:=underlying4
 a4:=isAgg4
 z4:=sizeOf4
 v4:=zeroValue4
 t9:=underlying9
 a9:=isAgg9
 z9:=sizeOf9
 v9:=zeroValue9 }
open Go.RowKit Go.Lib in
def Tryz.strings_HasPrefix (s p:ByteArray) (w:World) :
 Calls prog 121 #[.string s,.string p] w fun e w'=>e = .returned (.bool (Lib.hasPrefix s.data.toList p.data.toList))/\w'=w:=Any.strings_HasPrefix Tryz.lays99 s p w
end Go.Proofs
namespace Bk
open Go Go.RowKit Go.Proofs
def Ow {k:IntKind} {a b:Int} (h:a=b):Ending.returned (.int k a) = .returned (.int k b):=by rw [h]
def AV {a b:Bool} (h:a=b):Ending.returned (.bool a) = .returned (.bool b):=by rw [h]
def Gv (k:Int) (w:wD) (h0:0<=k) (h1:k<=255):Calls prog 145 #[.int .u8 k] w fun e w'=>e = .returned (.int .i64 (EJ k))/\w=w':=by
 go_enter func145,ntmps145
 go_wp2_with fail
 all_goals go_ret
 all_goals (refine ⟨Ow ?_,rfl⟩;(try simp only [beq_iff_eq,beq_eq_false_iff_ne,ne_eq,bne_iff_ne,decide_eq_true_eq,decide_eq_false_iff_not] at *);first|(subst k;rfl)|(unfold EJ;(repeat' split)<;>omega))
structure Syms (w:wD):Prop where
 sym : ∀i,i<43->w.cell? ⟨0,i,none⟩=some (str (symbols.getD i []))
def Syms.ext {w w':wD} (h:Syms w) (x:Ext w w'):Syms w':=⟨fun i F=>x.keep (h.sym i F)⟩
instance {w w':wD}:LfE w w' (Syms w) (Syms w'):=⟨fun x h=>Bk.Syms.ext h x⟩
def Syms.fr {S:nP} {w w':wD} (h:Syms w) (x:Fr S w w') (F : ∀k,S k->0<k):Syms w':=⟨fun i G=>x.keep (fun e=>by have:=F _ e;omega) (h.sym i G)⟩
instance {S:nP} {w w':wD}:LfF S w w' (Syms w) (∀k,S k->0<k) (Syms w'):=⟨fun x s h=>Bk.Syms.fr h x s⟩
def RB (k:Int) (h:43<=k):GZ k=[]:=by
 unfold GZ;rw [cB,cI (show 43<=k.toNat by omega)];rfl
def LK (k:Int) (w:wD) (h0:0<=k) (h1:k<=255) (ht:Syms w):Calls prog 74 #[.int .u8 k] w fun e w'=>e = .returned (str (GZ k))/\w=w':=by
 by_cases hk:k<43
 . have g:=ht.sym k.toNat (by omega)
   have G:Hid (symbols.getD k.toNat []=GZ k):=bU rfl;clear ht
   go_enter func74,ntmps74
   go_wp2_with fail
   go_ret
   rw [<-G.out]
   exact ⟨by simp [go_sem],rfl⟩
 . have hn:=RB k (by omega)
   have HN:=bU hn;clear hn ht
   go_enter func74,ntmps74
   go_wp2_with fail
   go_ret
   rw [HN.out]
   exact ⟨rfl,rfl⟩
def PE (c:UInt8) (w:wD):Calls prog 93 #[.int .u8 c.toNat] w fun e w'=>e = .returned (.bool (FQ c))/\w=w':=by
 go_enter func93,ntmps93
 go_wp2_with fail
 all_goals go_ret
 all_goals (refine ⟨AV ?_,rfl⟩;unfold FQ;rw [Bool.eq_iff_iff];simp;try omega)
def Ox (c:UInt8) (w:wD):Calls prog 96 #[.int .u8 c.toNat] w fun e w'=>e = .returned (.bool (Do c))/\w=w':=by
 go_enter func96,ntmps96
 go_wp2_with fail
 all_goals go_ret
 all_goals (refine ⟨AV ?_,rfl⟩;unfold Do;rw [Bool.eq_iff_iff];simp;try omega)
def SJ (c:UInt8) (w:wD):Calls prog 97 #[.int .u8 c.toNat] w fun e w'=>e = .returned (.bool (IV c))/\w=w':=by
 go_enter func97,ntmps97
 go_wp2_with fail
 all_goals go_ret
 all_goals (refine ⟨AV ?_,rfl⟩;unfold IV;rw [Bool.eq_iff_iff];simp;try omega)
def Xp (c:UInt8) (w:wD):Calls prog 98 #[.int .u8 c.toNat] w fun e w'=>e = .returned (.bool (PA c))/\w=w':=by
 go_enter func98,ntmps98
 go_wp2_with fail
 all_goals go_ret
 all_goals (refine ⟨AV ?_,rfl⟩;unfold PA;rw [Bool.eq_iff_iff];simp;try omega)
def TG (c:UInt8) (w:wD):Calls prog 95 #[.int .u8 c.toNat] w fun e w'=>e = .returned (.bool (JD c))/\w=w':=by
 go_enter func95,ntmps95
 cases hl:FQ c
 all_goals have HL:=bU hl;clear hl
 all_goals go_wp2_with (first|(go_at_call 93;refine (PE c _).mono ?_;rintro e w' ⟨rfl,rfl⟩;rw [HL.out])|(go_at_call 96;refine (Ox c _).mono ?_;rintro e w' ⟨rfl,rfl⟩))
 all_goals go_ret
 all_goals (refine ⟨AV ?_,rfl⟩;unfold JD;rw [HL.out];simp)
def Oy (f:FuncId) (p:UInt8->Bool) (hp : ∀(c:UInt8) (w:wD),Calls prog f #[.int .u8 c.toNat] w fun e w'=>e = .returned (.bool (p c))/\w=w')
 (he : ∀args w,(callFunc f args).run prog w = .ok (.enter f args) w) (s:lB) (w:wD) (hs:s.length<=9223372036854775807) :
 Calls prog 94 #[str s,.func (.func f) #[] #[]] w fun e w'=>e = .returned (.int .i64 (Hz p s))/\w=w':=by
 have HP:=bU hp;clear hp
 go_enter func94,ntmps94
 go_wp2_with fail
 go_loop [8] (fun i=> ∃j:Nat,j<=s.length/\i = .int .i64 j/\Hid (Hz p s=j+Hz p (s.drop j))) (fun i=>s.length-(intOf i).toNat)
 case atStart=>exact ⟨0,cQ _,rfl,bU (by simp)⟩
 case round=>
  obtain ⟨j,hj,rfl,HJ⟩:=hrel
  by_cases hlt:j<s.length
  . go_wp2_with fail
    refine (HP.out s[j] _).mono ?_;rintro e w' ⟨rfl,rfl⟩;have hd:=dH hlt
    have hsp:Hz p (s.drop j)=if p s[j] then 1+Hz p (s.drop (j+1)) else 0:=by
     rw [hd];unfold Hz;rw [List.takeWhile_cons];split<;>simp;omega
    have HSP:=bU hsp;clear hsp hd
    cases hb:p s[j]
    . have HB:=bU hb;clear hb
      go_wp2_with fail
      go_ret
      refine ⟨Ow ?_,rfl⟩
      rw [HJ.out,HSP.out,HB.out];simp
    . have HB:=bU hb;clear hb
      go_wp2_with fail
      go_round
      case rel=>exact ⟨j+1,by omega,by go_num,bU (by rw [HJ.out,HSP.out,HB.out];simp;omega)⟩
      case measure=>simp [intOf];omega
  . go_wp2_with fail
    go_ret
    refine ⟨Ow ?_,rfl⟩
    rw [HJ.out,List.drop_eq_nil_of_le (by omega)];simp [Hz];omega
def Vp (s:lB) (n:Int) (F:n.toNat=min 2 s.length):(⟨s.toArray⟩:ByteArray).extract 0 n.toNat=⟨(s.take 2).toArray⟩:=by
 apply ByteArray.ext;rw [F];simp only [ByteArray.data_extract];apply Array.ext';simp only [List.extract_toArray,List.extract_eq_take_drop,Nat.sub_zero,List.drop_zero];rcases Nat.le_total 2 s.length with h|h
 . rw [Nat.min_eq_left h]
 . rw [Nat.min_eq_right h,List.take_of_length_le h,dB]
def JM : ∀(l:lB) (c:UInt8),-1<=Lib.indexByte l c
 | [],c=>by simp [Lib.indexByte]
 | b::l,c=>by
  have:=JM l c;unfold Lib.indexByte;split
  . omega
  . split<;>omega
def FU : ∀(l:lB) (c:UInt8),(0<=Lib.indexByte l c)↔l.contains c=true
 | [],c=>by simp [Lib.indexByte]
 | b::l,c=>by
  have G:=FU l c;have L:=JM l c;unfold Lib.indexByte;rw [List.contains_cons];by_cases h:b=c
  . simp [h]
  . have F : ¬c=b:=fun e=>h e.symm
    simp only [beq_iff_eq,h,F,if_false,Bool.or_eq_true,false_or,<-G];split<;>omega
def Zb (c:UInt8) (r:lB) (w:wD) (hs:(c::r).length<=9223372036854775807) :
 Calls prog 99 #[str (c::r)] w fun e w'=>e = .returned (.int .i64 (Iw (c::r)))/\w=w':=by
 simp only [cF] at hs;have hx:=Vp (c::r) (min 2 ((r.length:Int)+1)) (by simp only [cF];omega)
 have hsl:Iw (c::r)=if List.isPrefixOf [60,61,62] (c::r) then 3 else if pairs.contains ((c::r).take 2) then 2 else if singles.contains c then 1 else 0:=rfl
 have HSL:=bU hsl;clear hsl
 generalize (c::r).take 2=t at *
 cases h3:List.isPrefixOf [60,61,62] (c::r)
 . have H3:=bU h3;clear h3
   cases hp:pairs.contains t
   . have HP:=bU hp
     simp only [pairs,List.contains_cons,List.contains_nil,Bool.or_eq_false_iff,Bool.or_false] at hp;obtain ⟨p0,p1,p2,p3,p4,p5,p6,p7,p8,p9⟩:=hp
     go_enter func99,ntmps99
     go_wp2_with (go_at_call 121;refine (Tryz.strings_HasPrefix _ _ _).mono ?_;rintro e w' ⟨rfl,rfl⟩;rw [show Lib.hasPrefix (⟨(c::r).toArray⟩:ByteArray).data.toList (⟨#[60,61,62]⟩:ByteArray).data.toList=false from H3.out])
     refine (Tryz.strings_IndexByte _ _ _).mono ?_;rintro e w2 ⟨rfl,rfl⟩
     have e0:(((c.toNat:Nat):Int)).toNat.toUInt8=c:=by simp
     have e1 : ∀h,(((((⟨(c::r).toArray⟩:ByteArray)[0]'h).toNat:Nat):Int)).toNat.toUInt8=c:=fun _=>e0
     rw [e1];have hi:=FU singles c;rw [show Lib.indexByte (⟨#[43,45,42,47,37,38,124,94,33,61,60,62,40,41,123,125,91,93,59,44]⟩:ByteArray).data.toList c=Lib.indexByte singles c from rfl]
     generalize Lib.indexByte singles c=ix at *
     cases hc:singles.contains c
     . have hlt:ix<0:=by rw [hc] at hi;simp at hi;omega
       have HC:=bU hc;clear hc hi
       simp only
       go_wp2_with fail
       go_ret
       rw [HSL.out,H3.out,HP.out,HC.out];exact ⟨rfl,rfl⟩
     . have hge:0<=ix:=hi.2 hc
       have HC:=bU hc;clear hc hi
       simp only
       go_wp2_with fail
       go_ret
       rw [HSL.out,H3.out,HP.out,HC.out];exact ⟨rfl,rfl⟩
   . go_enter func99,ntmps99
     go_wp2_with (go_at_call 121;refine (Tryz.strings_HasPrefix _ _ _).mono ?_;rintro e w' ⟨rfl,rfl⟩;rw [show Lib.hasPrefix (⟨(c::r).toArray⟩:ByteArray).data.toList (⟨#[60,61,62]⟩:ByteArray).data.toList=false from H3.out])
     all_goals first|(go_ret;rw [HSL.out,H3.out,hp];exact ⟨rfl,rfl⟩)|(exfalso;simp_all [pairs];done)
 . have H3:=bU h3;clear h3
   go_enter func99,ntmps99
   go_wp2_with (go_at_call 121;refine (Tryz.strings_HasPrefix _ _ _).mono ?_;rintro e w' ⟨rfl,rfl⟩;rw [show Lib.hasPrefix (⟨(c::r).toArray⟩:ByteArray).data.toList (⟨#[60,61,62]⟩:ByteArray).data.toList=true from H3.out])
   go_ret
   rw [HSL.out,H3.out];exact ⟨rfl,rfl⟩
def CL:List lB->Nat->List MapEntry
 | [],_=>[]
 | k::r,i=>{ key:=str k,val:=.bool true,born:=i }::CL r (i+1)
def EL (ks:List lB):Obj:=.map (CL ks 0).toArray ks.length
def LM (h:List lB) (k:lB) : ∀i,CL (h++[k]) i=CL h i++[{ key:=str k,val:=.bool true,born:=i+h.length }]:=by
 induction h with
 | nil=>intro i;simp [CL]
 | cons x r F=>intro i;simp [CL,F,Nat.add_assoc,Nat.add_comm 1]
def Zc (b:ByteArray) (x:lB):(b==(⟨x.toArray⟩:ByteArray))=(b.data.toList==x):=by
 show (b.data==x.toArray)=_;rw [Bool.eq_iff_iff];simp;constructor
 . intro h;rw [h]
 . intro h;rw [<-h]
def I7 (b:ByteArray) (F:List lB) : ∀i j,(F.contains b.data.toList=false->Instr.findNow .string (.string b) (CL F i) j=some none) /\
 (F.contains b.data.toList=true -> ∃n,Instr.findNow .string (.string b) (CL F i) j=some (some (n,.bool true))):=by
 induction F with
 | nil=>intro i j;simp [CL,Instr.findNow]
 | cons x r G=>
  intro i j;simp only [CL,Instr.findNow,Instr.sameNow,Zc,List.contains_cons];cases h:b.data.toList==x
  . simpa using G (i+1) (j+1)
  . simp
def Vq (h:Array Obj) (a b:Obj):(h.push a).setIfInBounds h.size b=h.push b:=by
 apply Array.ext';simp
def LN:prog.underlying 138=some (.map 9 4):=by kernel_rfl
def FV:prog.underlying 9=some .string:=by kernel_rfl
def RD (w:wD) (F:List lB) (b:ByteArray) (h:F.contains b.data.toList=false) :
 (Instr.mapUpdate 138 (.map (some w.heap.size)) (.string b) (.bool true)).run prog (w.alloc (EL F)) = .ok () (w.alloc (EL (F++[b.data.toList]))):=by
 have G:(w.alloc (EL F)).heap[w.heap.size]? = some (.map (CL F 0).toArray F.length):=by show (w.heap.push (EL F))[w.heap.size]? = _;simp [EL]
 have L:Instr.findNow .string (.string b) (CL F 0) 0=some none:=(I7 b F 0 0).1 h;have M:(Instr.checkKey false 10000 9 (.string b)).run prog (w.alloc (EL F)) = .ok () (w.alloc (EL F)):=MapKept.run_checkKey (k:=.string b) FV (by simp [MapKept.IsKey]) false 9999;simp [Instr.mapUpdate,AF LN,MapKept.run_getObj_map G,M,MapKept.run_findKey FV L,MapKept.run_setObj_map _ G,cG];show ({ w with heap:=(w.heap.push (EL F)).setIfInBounds w.heap.size _ }:wD)={ w with heap:=w.heap.push _ };rw [Vq];unfold EL;rw [LM];simp
def PF (w:wD) (h:List lB) (b:ByteArray) :
 (Instr.lookup 138 (.map (some w.heap.size)) (.string b) false).run prog (w.alloc (EL h)) = .ok (.bool (h.contains b.data.toList)) (w.alloc (EL h)):=by
 have G:(w.alloc (EL h)).heap[w.heap.size]? = some (.map (CL h 0).toArray h.length):=by show (w.heap.push (EL h))[w.heap.size]? = _;simp [EL]
 have L : ∀q,(Instr.checkKey q 10000 9 (.string b)).run prog (w.alloc (EL h)) = .ok () (w.alloc (EL h)):=fun q=>MapKept.run_checkKey (k:=.string b) FV (by simp [MapKept.IsKey]) q 9999
 have M:(zeroValue 4).run prog (w.alloc (EL h)) = .ok (.bool false) (w.alloc (EL h)):=by kernel_rfl
 cases hk:h.contains b.data.toList
 . have F:=(I7 b h 0 0).1 hk;simp [Instr.lookup,AF LN,MapKept.run_getObj_map G,L,MapKept.run_findKey FV F,M,cG]
 . obtain ⟨n,F⟩:=(I7 b h 0 0).2 hk;simp [Instr.lookup,AF LN,MapKept.run_getObj_map G,L,MapKept.run_findKey FV F,cG]
def PH (w:wD):(Instr.makeMap 138 none).run prog w = .ok (.map (some w.heap.size)) (w.alloc (EL [])):=run_makeMap _ w
def PI (s:lB) (h:Gi s=true):2<=s.length/\s.length<=7:=by
 have key : ∀k∈keywords,2<=k.length/\k.length<=7:=by decide
 exact key s (by simpa [Gi] using h)
def TH (s:lB) (w:wD) (hs:s.length<=9223372036854775807) :
 Calls prog 52 #[str s] w fun e w'=>e = .returned (.bool (Gi s))/\Ext w w':=by
 by_cases h2:s.length<2\/7<s.length
 . have hk:Gi s=false:=by
    cases h:Gi s
    . rfl
    . have:=PI s h;omega
   have HK:=bU hk;clear hk
   by_cases h3:s.length<2
   . have d1:decide ((s.length:Int)<2)=true:=by simp;omega
     clear h2
     go_enter func52,ntmps52
     go_wp2_with fail
     go_ret
     rw [HK.out];exact ⟨rfl,eU _⟩
   . have d1:decide ((s.length:Int)<2)=false:=by simp;omega
     have d2:decide ((7:Int)<s.length)=true:=by simp;omega
     clear h2
     go_enter func52,ntmps52
     go_wp2_with fail
     go_ret
     rw [HK.out];exact ⟨rfl,eU _⟩
 . have d1:decide ((s.length:Int)<2)=false:=by simp;omega
   have d2:decide ((7:Int)<s.length)=false:=by simp;omega
   have r1:=PH;have r2:=RD w;have r3:=PF w
   go_enter func52,ntmps52
   go_wp2_with fail
   go_ret
   exact ⟨AV (by simp [Gi,keywords]),(by refine fG ?_ _;exact eU _)⟩
def Vr : ∀args w,(callFunc 96 args).run prog w = .ok (.enter 96 args) w:=enters_of func96 A9 rfl
def Vs : ∀args w,(callFunc 97 args).run prog w = .ok (.enter 97 args) w:=enters_of func97 A9 rfl
def TI : ∀args w,(callFunc 95 args).run prog w = .ok (.enter 95 args) w:=enters_of func95 A9 rfl
def TJ : ∀args w,(callFunc 98 args).run prog w = .ok (.enter 98 args) w:=enters_of func98 A9 rfl
def SK (c:UInt8) (r:lB) (w:wD) (hs:(c::r).length<=9223372036854775807) :
 Calls prog 51 #[str (c::r)] w fun e w'=>e = .returned (.tuple #[.int .u8 (Ba (c::r)).1,.int .i64 (Ba (c::r)).2])/\w=w':=by
 have hf:Ba (c::r)=if FQ c then (1,Hz JD (c::r)) else if Do c then (2,Hz Do (c::r)) else if IV c then (4,Hz IV (c::r)) else if c=35 then (5,Hz PA (c::r)) else (3,Iw (c::r)):=rfl
 have HF:=bU hf;clear hf
 have HS:=bU hs;simp only [cF] at hs
 go_enter func51,ntmps51
 go_wp2_with fail
 refine (PE c _).mono ?_;rintro e w1 ⟨rfl,rfl⟩
 cases hl:FQ c
 . have HL:=bU hl;clear hl
   simp only
   go_wp2_with fail
   refine (Ox c _).mono ?_;rintro e w1 ⟨rfl,rfl⟩
   cases hd:Do c
   . have HD:=bU hd;clear hd
     simp only
     go_wp2_with fail
     refine (SJ c _).mono ?_;rintro e w1 ⟨rfl,rfl⟩
     cases hb:IV c
     . have HB:=bU hb;clear hb
       simp only
       by_cases h35:c=35
       . have H35:=bU h35
         have e35:(({ data:=(c::r).toArray }:ByteArray)[0]'(by simp [ByteArray.size])).toNat=35:=by show c.toNat=35;rw [h35];rfl
         clear h35
         go_wp2_with fail
         refine (Oy 98 PA Xp TJ _ _ HS.out).mono ?_;rintro e w1 ⟨rfl,rfl⟩;simp only
         go_wp2_with fail
         go_ret2
         rw [HF.out,HL.out,HD.out,HB.out,AG H35.out];exact ⟨rfl,rfl⟩
       . have H35:=bU h35
         have e35:((({ data:=(c::r).toArray }:ByteArray)[0]'(by simp [ByteArray.size])).toNat:Int)≠35:=by
          show (c.toNat:Int)≠35
          intro h;apply h35;apply UInt8.toNat_inj.1;show c.toNat=35;omega
         clear h35
         go_wp2_with fail
         refine (Zb c r _ HS.out).mono ?_;rintro e w1 ⟨rfl,rfl⟩;simp only
         go_wp2_with fail
         go_ret2
         rw [HF.out,HL.out,HD.out,HB.out,As H35.out];exact ⟨rfl,rfl⟩
     . have HB:=bU hb;clear hb
       simp only
       go_wp2_with fail
       refine (Oy 97 IV SJ Vs _ _ HS.out).mono ?_;rintro e w1 ⟨rfl,rfl⟩;simp only
       go_wp2_with fail
       go_ret2
       rw [HF.out,HL.out,HD.out,HB.out];exact ⟨rfl,rfl⟩
   . have HD:=bU hd;clear hd
     simp only
     go_wp2_with fail
     refine (Oy 96 Do Ox Vr _ _ HS.out).mono ?_;rintro e w1 ⟨rfl,rfl⟩;simp only
     go_wp2_with fail
     go_ret2
     rw [HF.out,HL.out,HD.out];exact ⟨rfl,rfl⟩
 . have HL:=bU hl;clear hl
   simp only
   go_wp2_with fail
   refine (Oy 95 JD TG TI _ _ HS.out).mono ?_;rintro e w1 ⟨rfl,rfl⟩;simp only
   go_wp2_with fail
   go_ret2
   rw [HF.out,HL.out];exact ⟨rfl,rfl⟩
def I8 (s:lB) (w:wD) (hs:s.length<=9223372036854775807) :
 Calls prog 24 #[str s] w fun e w'=>e = .returned (.bool (CF s))/\Ext w w':=by
 cases s with
 | nil=>
  go_enter func24,ntmps24
  go_wp2_with fail
  go_ret
  exact ⟨rfl,eU _⟩
 | cons c r=>
  have hn:CF (c::r)=(decide ((c::r).length<=16)&&((Ba (c::r)).1==1)&&((Ba (c::r)).2==(c::r).length) && !Gi (c::r)):=by simp [CF]
  have HN:=bU hn;clear hn
  have HS:=bU hs;simp only [cF] at hs
  by_cases h16:16<(c::r).length
  . simp only [cF] at h16
    have d1:decide ((16:Int)<(r.length:Int)+1)=true:=by simp;omega
    have H16:=bU h16;clear h16
    go_enter func24,ntmps24
    go_wp2_with fail
    go_ret
    rw [HN.out]
    exact ⟨AV (by have:=H16.out;simp;omega),eU _⟩
  . simp only [cF] at h16
    have d1:decide ((16:Int)<(r.length:Int)+1)=false:=by simp;omega
    go_enter func24,ntmps24
    go_wp2_with fail
    refine (SK c r _ HS.out).mono ?_;rintro e w1 ⟨rfl,rfl⟩
    generalize Ba (c::r)=ft at *
    obtain ⟨k,n⟩:=ft
    by_cases hk:k=1
    . by_cases hl:n=(c::r).length
      . subst hk hl
        simp only [cF]
        go_wp2_with fail
        refine (TH _ _ HS.out).mono ?_;rintro e w2 ⟨rfl,hx⟩;simp only
        go_wp2_with fail
        go_ret
        rw [HN.out]
        exact ⟨AV (by simp;omega),hx⟩
      . subst hk
        have dl:((n:Int)==(r.length:Int)+1)=false:=by simp only [cF] at hl;rw [beq_eq_false_iff_ne];omega
        have HL:=bU hl;clear hl
        simp only
        go_wp2_with fail
        go_ret
        rw [HN.out]
        exact ⟨AV (by have:=HL.out;simp at this ⊢;simp [this]),eU _⟩
    . have dk:((k:Int)==1)=false:=by rw [beq_eq_false_iff_ne];omega
      have HK:=bU hk;clear hk
      simp only
      go_wp2_with fail
      go_ret
      rw [HN.out]
      exact ⟨AV (by have:=HK.out;simp [this]),eU _⟩
def G5 (k n:Int) (s:lB) (a:oA) (l c:Nat) (w:wD) :
 Calls prog 85 #[.agg #[.int .u8 k,.int .i64 n,str s,.slice a l c]] w fun e w'=>e = .returned (.bool (plain n s))/\Ext w w':=by
 go_enter func85,ntmps85
 go_wp2_with fail
 all_goals go_ret
 all_goals exact ⟨AV (by unfold plain;simp [*]),(by repeat (first|exact eU _|assumption|refine fG ?_ _|refine fR ?_|refine fI ?_ ‹_›))⟩
def Iz (k n:Int) (s:lB) (a:oA) (l c:Nat) (w:wD) (hs:s.length<=9223372036854775807) :
 Calls prog 89 #[.agg #[.int .u8 k,.int .i64 n,str s,.slice a l c]] w fun e w'=>e = .returned (.bool (CQ n s))/\Ext w w':=by
 by_cases h0:n=0
 . subst h0
   go_enter func89,ntmps89
   go_wp2_with (go_at_call 24;refine (I8 _ _ hs).mono ?_;rintro e w2 ⟨rfl,hx⟩)
   go_ret
   exact ⟨AV (by simp [CQ]),(by refine fI ?_ ‹_›;refine fG ?_ _;exact eU _)⟩
 . have d0:(n==0)=false:=by simp [h0]
   go_enter func89,ntmps89
   go_wp2_with fail
   go_ret
   exact ⟨AV (by simp [CQ,h0]),(by refine fG ?_ _;exact eU _)⟩
def Et (S:nP) (f:FuncId) (p:Nd->Bool) (t:Nd):Prop:=
 ∀(a:oA) (c:Nat) (w:wD),t.sits S w a->Calls prog f #[t.val a c] w fun e w'=>e = .returned (.bool (p t))/\Ext w w'
def G6 (f:FuncId):Prop:= ∀args w,(callFunc f args).run prog w = .ok (.enter f args) w
def SL (f:FuncId) (p:Nd->Bool) (he:G6 f) (l:List Nd) (a:oA) (c:Nat) (S:nP) (w:wD) (hl:l.length<=9223372036854775807) (hs:rowSits S w l a) (ht : ∀t∈l,Et S f p t) :
 Calls prog 90 #[.slice a l.length c,.func (.func f) #[] #[]] w fun e w'=>e = .returned (.bool (l.all p))/\Ext w w':=by
 have HT:=bU ht;clear ht
 unfold G6 at he
 go_enter func90,ntmps90
 go_wp2_with fail
 go_loopw [9] (fun i wr=> ∃j:Nat,j<=l.length/\i = .int .i64 j/\Hid (l.all p=(l.drop j).all p)/\Ext w wr) (fun i _=>l.length-(intOf i).toNat)
 case atStart=>exact ⟨0,cQ _,rfl,bU rfl,eU _⟩
 case round=>
  obtain ⟨j,hj,rfl,HJ,hx⟩:=hrel
  by_cases hlt:j<l.length
  . have hg:l[j]? = some l[j]:=bT hlt
    have hmem:l[j]∈l:=cL hlt;have hdrop:=dH hlt
    generalize l[j]=t at *
    obtain ⟨b,o,a',c',rfl,hSb,g0,g1,g2,g3,hsk⟩:=Fi (hs.ext hx) hg
    have HG:=bU hg;clear hg
    have hall:l.all p=(p t&&(l.drop (j+1)).all p):=by rw [HJ.out,hdrop,List.all_cons]
    have HA:=bU hall;clear hdrop hall
    go_wp2_with fail
    refine (HT.out t hmem a' c' _ (hsk.ext ((eU _).alloc _))).mono ?_;rintro e w1 ⟨rfl,hx1⟩
    cases hp:p t
    . have HP:=bU hp;clear hp
      simp only
      go_wp2_with fail
      go_ret
      rw [HA.out,HP.out]
      exact ⟨rfl,(by refine fI ?_ ‹_›;refine fG ?_ _;assumption)⟩
    . have HP:=bU hp;clear hp
      simp only
      go_wp2_with fail
      go_roundw
      case rel=>exact ⟨j+1,by omega,by go_num,bU (by rw [HA.out,HP.out];simp),(by refine fI ?_ ‹_›;refine fG ?_ _;assumption)⟩
      case measure=>simp [intOf];omega
  . go_wp2_with fail
    go_ret
    rw [HJ.out,List.drop_eq_nil_of_le (by omega)]
    exact ⟨rfl,hx⟩
def Ch:List Nd->List (FuncId×(Nd->Bool))->Bool
 | [],[]=>true
 | t::r,f::fs=>f.2 t&&Ch r fs
 | _,_=>false
def LO : ∀(l:List Nd) (F:List (FuncId×(Nd->Bool))),l.length≠F.length->Ch l F=false
 | [],[],h=>absurd rfl h
 | [],_::_,_=>rfl
 | _::_,[],_=>rfl
 | t::r,f::F,h=>by simp only [Ch];rw [LO r F (by simpa using h)];simp
def Gw (k n:Int) (s:lB) (l:List Nd) (a:oA) (c:Nat) (fs:List (FuncId×(Nd->Bool))) (tb tc:Nat) (S:nP) (w:wD)
 (hl:l.length<=9223372036854775807) (hfl:fs.length<=100) (hs:rowSits S w l a)
 (htb : ∀i f,fs[i]? = some f->w.cell? ⟨tb,i,none⟩=some (.func (.func f.1) #[] #[])) (he : ∀f∈fs,G6 f.1) (ht : ∀f∈fs,∀t∈l,Et S f.1 f.2 t) :
 Calls prog 86 #[.agg #[.int .u8 k,.int .i64 n,str s,.slice a l.length c],.slice (some ⟨tb,0,none⟩) fs.length tc] w fun e w'=>e = .returned (.bool (Ch l fs))/\Ext w w':=by
 have HT:=bU ht;clear ht
 have HE:=bU he;clear he
 have HB:=bU htb;clear htb
 by_cases hlen:l.length=fs.length
 . have dn:((l.length:Int) != (fs.length:Int))=false:=by rw [hlen];simp
   have HL:=bU hlen
   have hlen1:l.length<=fs.length:=by omega
   have hlen2:fs.length<=l.length:=by omega
   clear hlen
   go_enter func86,ntmps86
   go_wp2_with fail
   go_loopw [15] (fun i wr=> ∃j:Nat,j<=fs.length/\i = .int .i64 j/\Hid (Ch l fs=Ch (l.drop j) (fs.drop j))/\Ext (w.alloc (.cells #[.int .u8 k,.int .i64 n,str s,.slice a l.length c] 26)) wr) (fun i _=>fs.length-(intOf i).toNat)
   case atStart=>exact ⟨0,cQ _,rfl,bU rfl,eU _⟩
   case round=>
    obtain ⟨j,hj,rfl,HJ,hx⟩:=hrel;have hcs:=hx.cells
    by_cases hlt:j<fs.length
    . have hlt':j<l.length:=by omega
      have hg:l[j]? = some l[j]:=bT hlt';have hmem:l[j]∈l:=cL hlt';have hdrop:=dH hlt';have hgf:fs[j]? = some fs[j]:=bT hlt;have hmemf:fs[j]∈fs:=cL hlt;have hdropf:=dH hlt
      generalize l[j]=t at *
      generalize fs[j]=f at *
      have hxx:Ext w wr:=fI ((eU _).alloc _) hx;obtain ⟨b,o,a',c',rfl,hSb,g0,g1,g2,g3,hsk⟩:=Fi (hs.ext hxx) hg
      have HG:=bU hg;clear hg
      have ht0:=hxx.keep (HB.out j f hgf)
      have HGF:=bU hgf;clear hgf
      have hall:Ch l fs=(f.2 t&&Ch (l.drop (j+1)) (fs.drop (j+1))):=by rw [HJ.out,hdrop,hdropf];rfl
      have HA:=bU hall;clear hdrop hall hdropf
      have hen:=HE.out f hmemf
      unfold G6 at hen
      go_wp2_with fail
      refine (HT.out f hmemf t hmem a' c' _ hsk).mono ?_;rintro e w1 ⟨rfl,hx1⟩
      cases hp:f.2 t
      . have HP:=bU hp;clear hp
        simp only
        go_wp2_with fail
        go_ret
        rw [HA.out,HP.out]
        exact ⟨rfl,(by refine fI ?_ ‹_›;assumption)⟩
      . have HP:=bU hp;clear hp
        simp only
        go_wp2_with fail
        go_roundw
        case rel=>exact ⟨j+1,by omega,by go_num,bU (by rw [HA.out,HP.out];simp),(by refine fI ?_ ‹_›;assumption)⟩
        case measure=>simp [intOf];omega
    . go_wp2_with fail
      go_ret
      rw [HJ.out,List.drop_eq_nil_of_le (by omega),List.drop_eq_nil_of_le (by omega)]
      exact ⟨rfl,(by refine fI ?_ ‹_›;refine fG ?_ _;exact eU _)⟩
 . have dn:((l.length:Int) != (fs.length:Int))=true:=by rw [bne_iff_ne];omega
   have hk:=LO l fs hlen
   have HK:=bU hk;clear hk hlen
   go_enter func86,ntmps86
   go_wp2_with fail
   go_ret
   rw [HK.out]
   exact ⟨rfl,(by refine fG ?_ _;exact eU _)⟩
def Vt {α:Type} {Q:Nat->α->Prop} {x:α} (h:Q 0 x) : ∀i f,[x][i]? = some f->Q i f:=by
 intro i f F;rcases i with _|i
 . simp at F;exact F▸h
 . simp at F
def Zd {α:Type} {Q:Nat->α->Prop} {x y:α} (h:Q 0 x) (G:Q 1 y) : ∀i f,[x,y][i]? = some f->Q i f:=by
 intro i f F;rcases i with _|_|i
 . simp at F;exact F▸h
 . simp at F;exact F▸G
 . simp at F
def aV {α:Type} {Q:Nat->α->Prop} {x y z:α} (h:Q 0 x) (G:Q 1 y) (L:Q 2 z) : ∀i f,[x,y,z][i]? = some f->Q i f:=by
 intro i f F;rcases i with _|_|_|i
 . simp at F;exact F▸h
 . simp at F;exact F▸G
 . simp at F;exact F▸L
 . simp at F
def aW {α:Type} {Q:Nat->α->Prop} {x y z u:α} (h:Q 0 x) (G:Q 1 y) (L:Q 2 z) (M:Q 3 u) : ∀i f,[x,y,z,u][i]? = some f->Q i f:=by
 intro i f F;rcases i with _|_|_|_|i
 . simp at F;exact F▸h
 . simp at F;exact F▸G
 . simp at F;exact F▸L
 . simp at F;exact F▸M
 . simp at F
def M4 {α:Type} {Q:α->Prop} {x:α} (h:Q x) : ∀f∈[x],Q f:=by intro f F;simp at F;exact F▸h
def TK {α:Type} {Q:α->Prop} {x y:α} (h:Q x) (G:Q y) : ∀f∈[x,y],Q f:=by
 intro f F;simp at F;rcases F with rfl|rfl<;>assumption
def ZV {α:Type} {Q:α->Prop} {x y z:α} (h:Q x) (G:Q y) (L:Q z) : ∀f∈[x,y,z],Q f:=by
 intro f F;simp at F;rcases F with rfl|rfl|rfl<;>assumption
def ZW {α:Type} {Q:α->Prop} {x y z u:α} (h:Q x) (G:Q y) (L:Q z) (M:Q u) : ∀f∈[x,y,z,u],Q f:=by
 intro f F;simp at F;rcases F with rfl|rfl|rfl|rfl<;>assumption
def D5:G6 88:=enters_of func88 A9 rfl
def PJ (n:Int) (s:lB) (l:List Nd):(Nd.mk 1 n s l).isExpr=(decide (0<=n)&&s.isEmpty&&l.isEmpty):=by rw [Nd.isExpr.eq_def];simp
def PK (k n:Int) (s:lB) (l:List Nd) (h:k=2\/k=4\/k=5):(Nd.mk k n s l).isExpr=(CQ n s&&l.isEmpty):=by
 rcases h with rfl|rfl|rfl<;>rw [Nd.isExpr.eq_def]<;>simp
def PL (f:FuncId) (n:Int) (s:lB) (l:List Nd):(Nd.mk 3 n s l).isExpr=(CQ n s&&Ch l [(f,Nd.isExpr)]):=by
 rcases l with _|⟨x,_|⟨y,l⟩⟩<;>rw [Nd.isExpr.eq_def]<;>simp [Ch]
def TL (f:FuncId) (k n:Int) (s:lB) (l:List Nd) (h:k=6\/k=7):(Nd.mk k n s l).isExpr=(plain n s&&Ch l [(f,Nd.isExpr)]):=by
 rcases l with _|⟨x,_|⟨y,l⟩⟩<;>rcases h with rfl|rfl<;>rw [Nd.isExpr.eq_def]<;>simp [Ch]
def RE (f:FuncId) (k n:Int) (s:lB) (l:List Nd) (h:8<=k) (F:k<=23):(Nd.mk k n s l).isExpr=(plain n s&&Ch l [(f,Nd.isExpr),(f,Nd.isExpr)]):=by
 have G : ¬k=1:=by omega
 have L : ¬(k=2\/k=4\/k=5):=by omega
 have M : ¬k=3:=by omega
 have N : ¬(k=6\/k=7):=by omega
 rcases l with _|⟨x,_|⟨y,_|⟨z,l⟩⟩⟩<;>rw [Nd.isExpr.eq_def]<;>simp [Ch,G,L,M,N,h,F]
def PM (k n:Int) (s:lB) (l:List Nd) (h:k<1\/23<k):(Nd.mk k n s l).isExpr=false:=by
 have F : ¬k=1:=by omega
 have G : ¬(k=2\/k=4\/k=5):=by omega
 have L : ¬k=3:=by omega
 have M : ¬(k=6\/k=7):=by omega
 have N : ¬(8<=k/\k<=23):=by omega
 rw [Nd.isExpr.eq_def];simp [F,G,L,M,N]
def Vu (S:nP) (N:Nat) : ∀t:Nd,t.size<N->t.wf->Et S 88 Nd.isExpr t:=by
 induction N with
 | zero=>intro t h;omega
 | succ N ih=>
  rintro ⟨k,n,s,l⟩ hN hwf a c w hs;simp only [Nd.wf,fF,fT,fS,Nd.num,fQ,gB,Nd.val] at *;obtain ⟨hk0,hk1,hn0,hn1,hsl,hll,hrw⟩:=hwf
  have hkid : ∀t∈l,Et S 88 Nd.isExpr t:=fun t ht=>ih t (by have:=DP ht;omega) (BF hrw t ht)
  have HKID:=bU hkid;clear hkid ih hrw
  have HSL:=bU hsl;clear hsl
  by_cases c1:k=1
  . subst c1
    have hr:=PJ n s l
    have HR:=bU hr;clear hr
    go_enter func88,ntmps88
    go_wp2_with fail
    all_goals go_ret
    all_goals rw [HR.out]
    all_goals exact ⟨AV (by rw [Bool.eq_iff_iff];first|(simp [*];done)|(simp [*];intros;omega)),(by repeat (first|exact eU _|assumption|refine fG ?_ _|refine fR ?_|refine fI ?_ ‹_›))⟩
  by_cases c2:k=2\/k=4\/k=5
  . have hr:=PK k n s l c2
    have HR:=bU hr;clear hr
    cases hnm:CQ n s
    all_goals have HNM:=bU hnm;clear hnm
    all_goals rcases c2 with rfl|rfl|rfl
    all_goals go_enter func88,ntmps88
    all_goals go_wp2_with (go_at_call 89;refine (Iz _ _ _ _ _ _ _ HSL.out).mono ?_;rintro e w1 ⟨rfl,hx1⟩;have hc1:=hx1.cells;rw [HNM.out])
    all_goals go_ret
    all_goals rw [HR.out,HNM.out]
    all_goals exact ⟨AV (by first|rfl|(rw [Bool.eq_iff_iff];simp)),(by repeat (first|exact eU _|assumption|refine fG ?_ _|refine fR ?_|refine fI ?_ ‹_›))⟩
  by_cases c3:k=3
  . subst c3
    have hr:=PL 88 n s l
    have HR:=bU hr;clear hr
    cases hnm:CQ n s
    all_goals have HNM:=bU hnm;clear hnm
    all_goals go_enter func88,ntmps88
    all_goals go_wp2_with (first|(go_at_call 89;refine (Iz _ _ _ _ _ _ _ HSL.out).mono ?_;rintro e w1 ⟨rfl,hx1⟩;have hc1:=hx1.cells;rw [HNM.out])|(go_at_call 86;refine (Gw _ _ _ l a c [(88,Nd.isExpr)] _ _ S _ hll (by decide) (hs.ext (by refine fG ?_ _;refine fI ?_ ‹_›;refine fG ?_ _;exact eU _)) (Vt (by go_simp)) (M4 D5) (M4 HKID.out)).mono ?_;rintro e w2 ⟨rfl,hx2⟩))
    all_goals go_ret
    all_goals rw [HR.out,HNM.out]
    all_goals exact ⟨AV (by simp),(by repeat (first|exact eU _|assumption|refine fG ?_ _|refine fR ?_|refine fI ?_ ‹_›))⟩
  by_cases c4:k=6\/k=7
  . have hr:=TL 88 k n s l c4
    have HR:=bU hr;clear hr
    cases hnm:plain n s
    all_goals have HNM:=bU hnm;clear hnm
    all_goals rcases c4 with rfl|rfl
    all_goals go_enter func88,ntmps88
    all_goals go_wp2_with (first|(go_at_call 85;refine (G5 _ _ _ _ _ _ _).mono ?_;rintro e w1 ⟨rfl,hx1⟩;have hc1:=hx1.cells;rw [HNM.out])|(go_at_call 86;refine (Gw _ _ _ l a c [(88,Nd.isExpr)] _ _ S _ hll (by decide) (hs.ext (by repeat (first|exact eU _|assumption|refine fG ?_ _|refine fR ?_|refine fI ?_ ‹_›))) (Vt (by go_simp)) (M4 D5) (M4 HKID.out)).mono ?_;rintro e w2 ⟨rfl,hx2⟩))
    all_goals go_ret
    all_goals rw [HR.out,HNM.out]
    all_goals exact ⟨AV (by simp),(by repeat (first|exact eU _|assumption|refine fG ?_ _|refine fR ?_|refine fI ?_ ‹_›))⟩
  by_cases c5:8<=k/\k<=23
  . obtain ⟨c5a,c5b⟩:=c5
    have d1:(k==1)=false:=by rw [beq_eq_false_iff_ne];omega
    have d2:(k==2)=false:=by rw [beq_eq_false_iff_ne];omega
    have d3:(k==3)=false:=by rw [beq_eq_false_iff_ne];omega
    have d4:(k==4)=false:=by rw [beq_eq_false_iff_ne];omega
    have d5:(k==5)=false:=by rw [beq_eq_false_iff_ne];omega
    have d6:(k==6)=false:=by rw [beq_eq_false_iff_ne];omega
    have d7:(k==7)=false:=by rw [beq_eq_false_iff_ne];omega
    clear c1 c2 c3 c4;have hr:=RE 88 k n s l c5a c5b
    have HR:=bU hr;clear hr
    cases hnm:plain n s
    all_goals have HNM:=bU hnm;clear hnm
    all_goals go_enter func88,ntmps88
    all_goals go_wp2_with (first|(go_at_call 85;refine (G5 _ _ _ _ _ _ _).mono ?_;rintro e w1 ⟨rfl,hx1⟩;have hc1:=hx1.cells;rw [HNM.out])|(go_at_call 86;refine (Gw _ _ _ l a c [(88,Nd.isExpr),(88,Nd.isExpr)] _ _ S _ hll (by decide) (hs.ext (by refine fG ?_ _;refine fI ?_ ‹_›;refine fG ?_ _;exact eU _)) (Zd (by go_simp) (by go_simp)) (TK D5 D5) (TK HKID.out HKID.out)).mono ?_;rintro e w2 ⟨rfl,hx2⟩))
    all_goals go_ret
    all_goals rw [HR.out,HNM.out]
    all_goals exact ⟨AV (by simp),(by repeat (first|exact eU _|assumption|refine fG ?_ _|refine fR ?_|refine fI ?_ ‹_›))⟩
  . have hr:=PM k n s l (by omega)
    have HR:=bU hr;clear hr
    have d1:(k==1)=false:=by rw [beq_eq_false_iff_ne];omega
    have d2:(k==2)=false:=by rw [beq_eq_false_iff_ne];omega
    have d3:(k==3)=false:=by rw [beq_eq_false_iff_ne];omega
    have d4:(k==4)=false:=by rw [beq_eq_false_iff_ne];omega
    have d5:(k==5)=false:=by rw [beq_eq_false_iff_ne];omega
    have d6:(k==6)=false:=by rw [beq_eq_false_iff_ne];omega
    have d7:(k==7)=false:=by rw [beq_eq_false_iff_ne];omega
    clear c1 c2 c3 c4
    go_enter func88,ntmps88
    go_wp2_with fail
    all_goals go_ret
    all_goals rw [HR.out]
    all_goals exact ⟨AV (by first|rfl|(simp;omega)),(by repeat (first|exact eU _|assumption|refine fG ?_ _|refine fR ?_|refine fI ?_ ‹_›))⟩
def FW:G6 87:=enters_of func87 A9 rfl
def Vv:G6 91:=enters_of func91 A9 rfl
def TM:G6 47:=enters_of func47 A9 rfl
def G7:G6 48:=enters_of func48 A9 rfl
def FX (S:nP) (t:Nd) (h:t.wf):Et S 88 Nd.isExpr t:=Vu S (t.size+1) t Ab h
def GJ (S:nP) (t:Nd) (h:t.wf):Et S 87 Nd.isPlace t:=by
 have HE:=bU (FX S t h);intro a c w hs;obtain ⟨k,n,s,l⟩:=t;have hr:(Nd.mk k n s l).isPlace=((k==2||k==3)&&(Nd.mk k n s l).isExpr):=rfl
 have HR:=bU hr;clear hr
 have HSI:=bU hs;clear hs h
 simp only [fS,Nd.num,fQ,gB,Nd.val]
 by_cases h2:k=2\/k=3
 . rcases h2 with rfl|rfl
   all_goals go_enter func87,ntmps87
   all_goals go_wp2_with (go_at_call 88;refine (HE.out a c _ (HSI.out.ext (by repeat (first|exact eU _|assumption|refine fG ?_ _|refine fR ?_|refine fI ?_ ‹_›)))).mono ?_;rintro e w1 ⟨rfl,hx1⟩)
   all_goals go_ret
   all_goals rw [HR.out]
   all_goals exact ⟨AV (by simp),(by repeat (first|exact eU _|assumption|refine fG ?_ _|refine fR ?_|refine fI ?_ ‹_›))⟩
 . have d2:(k==2)=false:=by rw [beq_eq_false_iff_ne];omega
   have d3:(k==3)=false:=by rw [beq_eq_false_iff_ne];omega
   clear h2
   go_enter func87,ntmps87
   go_wp2_with fail
   go_ret
   rw [HR.out]
   exact ⟨AV (by simp [d2,d3]),(by refine fG ?_ _;exact eU _)⟩
def Xq (S:nP) (t:Nd) (h:t.wf):Et S 91 Nd.isVar t:=by
 have HE:=bU (FX S t h);intro a c w hs;obtain ⟨k,n,s,l⟩:=t;have hr:(Nd.mk k n s l).isVar=(k==2&&(Nd.mk k n s l).isExpr):=rfl
 have HR:=bU hr;clear hr
 have HSI:=bU hs;clear hs h
 simp only [fS,Nd.num,fQ,gB,Nd.val]
 by_cases h2:k=2
 . subst h2
   go_enter func91,ntmps91
   go_wp2_with (go_at_call 88;refine (HE.out a c _ (HSI.out.ext (by refine fG ?_ _;exact eU _))).mono ?_;rintro e w1 ⟨rfl,hx1⟩)
   go_ret
   rw [HR.out]
   exact ⟨AV (by simp),(by refine fI ?_ ‹_›;refine fG ?_ _;exact eU _)⟩
 . have d2:(k==2)=false:=by rw [beq_eq_false_iff_ne];omega
   clear h2
   go_enter func91,ntmps91
   go_wp2_with fail
   go_ret
   rw [HR.out]
   exact ⟨AV (by simp [d2]),(by refine fG ?_ _;exact eU _)⟩
def TN {k:Int} (h:k=40\/k=41\/k=42\/k=56) (n:Int) (s:lB) (l:List Nd):(Nd.mk k n s l).isStmt=(plain n s&&Ch l [(87,Nd.isPlace),(88,Nd.isExpr)]):=by
 rcases h with rfl|rfl|rfl|rfl<;>rcases l with _|⟨x,_|⟨y,_|⟨z,_|⟨u,_|⟨v,l⟩⟩⟩⟩⟩<;>rw [Nd.isStmt.eq_def]<;>simp [Ch,Bool.and_assoc]
def TO {k:Int} (hk:k=40\/k=41\/k=42\/k=56) (n:Int) (s:lB) (l:List Nd) (a:oA) (c:Nat) (S:nP) (w:wD)
 (hs:rowSits S w l a) (hsl:s.length<=9223372036854775807) (hll:l.length<=9223372036854775807) (hrw:C9 l) :
 Calls prog 47 #[.agg #[.int .u8 k,.int .i64 n,str s,.slice a l.length c]] w fun e w'=>e = .returned (.bool (Nd.mk k n s l).isStmt)/\Ext w w':=by
 have HEX:=bU fun t (ht:t∈l)=>FX S t (BF hrw t ht)
 have HPL:=bU fun t (ht:t∈l)=>GJ S t (BF hrw t ht)
 have HSL:=bU hsl;clear hsl hrw
 have hr:=TN hk n s l
 have HR:=bU hr;clear hr
 cases hnm:plain n s
 all_goals have HNM:=bU hnm;clear hnm
 all_goals rcases hk with rfl|rfl|rfl|rfl
 all_goals go_enter func47,ntmps47
 all_goals go_wp2_with (first|(go_at_call 85;refine (G5 _ _ _ _ _ _ _).mono ?_;rintro e w1 ⟨rfl,hx1⟩;have hc1:=hx1.cells;rw [HNM.out])|(go_at_call 86;refine (Gw _ _ _ l a c [(87,Nd.isPlace),(88,Nd.isExpr)] _ _ S _ hll (by decide) (hs.ext (by repeat (first|exact eU _|assumption|refine fG ?_ _|refine fR ?_|refine fI ?_ ‹_›))) (Zd (by go_simp) (by go_simp)) (TK FW D5) (TK HPL.out HEX.out)).mono ?_;rintro e w2 ⟨rfl,hx2⟩))
 all_goals go_ret
 all_goals rw [HR.out,HNM.out]
 all_goals exact ⟨AV (by simp),(by repeat (first|exact eU _|assumption|refine fG ?_ _|refine fR ?_|refine fI ?_ ‹_›))⟩
def TP {k:Int} (h:k=43) (n:Int) (s:lB) (l:List Nd):(Nd.mk k n s l).isStmt=(plain n s&&Ch l [(87,Nd.isPlace),(87,Nd.isPlace)]):=by
 rcases h with rfl<;>rcases l with _|⟨x,_|⟨y,_|⟨z,_|⟨u,_|⟨v,l⟩⟩⟩⟩⟩<;>rw [Nd.isStmt.eq_def]<;>simp [Ch,Bool.and_assoc]
def TQ {k:Int} (hk:k=43) (n:Int) (s:lB) (l:List Nd) (a:oA) (c:Nat) (S:nP) (w:wD)
 (hs:rowSits S w l a) (hsl:s.length<=9223372036854775807) (hll:l.length<=9223372036854775807) (hrw:C9 l) :
 Calls prog 47 #[.agg #[.int .u8 k,.int .i64 n,str s,.slice a l.length c]] w fun e w'=>e = .returned (.bool (Nd.mk k n s l).isStmt)/\Ext w w':=by
 have HPL:=bU fun t (ht:t∈l)=>GJ S t (BF hrw t ht)
 have HSL:=bU hsl;clear hsl hrw
 have hr:=TP hk n s l
 have HR:=bU hr;clear hr
 cases hnm:plain n s
 all_goals have HNM:=bU hnm;clear hnm
 all_goals rcases hk with rfl
 all_goals go_enter func47,ntmps47
 all_goals go_wp2_with (first|(go_at_call 85;refine (G5 _ _ _ _ _ _ _).mono ?_;rintro e w1 ⟨rfl,hx1⟩;have hc1:=hx1.cells;rw [HNM.out])|(go_at_call 86;refine (Gw _ _ _ l a c [(87,Nd.isPlace),(87,Nd.isPlace)] _ _ S _ hll (by decide) (hs.ext (by refine fG ?_ _;refine fI ?_ ‹_›;refine fG ?_ _;exact eU _)) (Zd (by go_simp) (by go_simp)) (TK FW FW) (TK HPL.out HPL.out)).mono ?_;rintro e w2 ⟨rfl,hx2⟩))
 all_goals go_ret
 all_goals rw [HR.out,HNM.out]
 all_goals exact ⟨AV (by simp),(by repeat (first|exact eU _|assumption|refine fG ?_ _|refine fR ?_|refine fI ?_ ‹_›))⟩
def TR {k:Int} (h:k=44\/k=45) (n:Int) (s:lB) (l:List Nd):(Nd.mk k n s l).isStmt=(CQ n s&&Ch l [(87,Nd.isPlace)]):=by
 rcases h with rfl|rfl<;>rcases l with _|⟨x,_|⟨y,_|⟨z,_|⟨u,_|⟨v,l⟩⟩⟩⟩⟩<;>rw [Nd.isStmt.eq_def]<;>simp [Ch,Bool.and_assoc]
def TS {k:Int} (hk:k=44\/k=45) (n:Int) (s:lB) (l:List Nd) (a:oA) (c:Nat) (S:nP) (w:wD)
 (hs:rowSits S w l a) (hsl:s.length<=9223372036854775807) (hll:l.length<=9223372036854775807) (hrw:C9 l) :
 Calls prog 47 #[.agg #[.int .u8 k,.int .i64 n,str s,.slice a l.length c]] w fun e w'=>e = .returned (.bool (Nd.mk k n s l).isStmt)/\Ext w w':=by
 have HPL:=bU fun t (ht:t∈l)=>GJ S t (BF hrw t ht)
 have HSL:=bU hsl;clear hsl hrw
 have hr:=TR hk n s l
 have HR:=bU hr;clear hr
 cases hnm:CQ n s
 all_goals have HNM:=bU hnm;clear hnm
 all_goals rcases hk with rfl|rfl
 all_goals go_enter func47,ntmps47
 all_goals go_wp2_with (first|(go_at_call 89;refine (Iz _ _ _ _ _ _ _ HSL.out).mono ?_;rintro e w1 ⟨rfl,hx1⟩;have hc1:=hx1.cells;rw [HNM.out])|(go_at_call 86;refine (Gw _ _ _ l a c [(87,Nd.isPlace)] _ _ S _ hll (by decide) (hs.ext (by repeat (first|exact eU _|assumption|refine fG ?_ _|refine fR ?_|refine fI ?_ ‹_›))) (Vt (by go_simp)) (M4 FW) (M4 HPL.out)).mono ?_;rintro e w2 ⟨rfl,hx2⟩))
 all_goals go_ret
 all_goals rw [HR.out,HNM.out]
 all_goals exact ⟨AV (by simp),(by repeat (first|exact eU _|assumption|refine fG ?_ _|refine fR ?_|refine fI ?_ ‹_›))⟩
def TU {k:Int} (h:k=46\/k=47\/k=48\/k=49) (n:Int) (s:lB) (l:List Nd):(Nd.mk k n s l).isStmt=(plain n s&&Ch l [(87,Nd.isPlace)]):=by
 rcases h with rfl|rfl|rfl|rfl<;>rcases l with _|⟨x,_|⟨y,_|⟨z,_|⟨u,_|⟨v,l⟩⟩⟩⟩⟩<;>rw [Nd.isStmt.eq_def]<;>simp [Ch,Bool.and_assoc]
def TV {k:Int} (hk:k=46\/k=47\/k=48\/k=49) (n:Int) (s:lB) (l:List Nd) (a:oA) (c:Nat) (S:nP) (w:wD)
 (hs:rowSits S w l a) (hsl:s.length<=9223372036854775807) (hll:l.length<=9223372036854775807) (hrw:C9 l) :
 Calls prog 47 #[.agg #[.int .u8 k,.int .i64 n,str s,.slice a l.length c]] w fun e w'=>e = .returned (.bool (Nd.mk k n s l).isStmt)/\Ext w w':=by
 have HPL:=bU fun t (ht:t∈l)=>GJ S t (BF hrw t ht)
 have HSL:=bU hsl;clear hsl hrw
 have hr:=TU hk n s l
 have HR:=bU hr;clear hr
 cases hnm:plain n s
 all_goals have HNM:=bU hnm;clear hnm
 all_goals rcases hk with rfl|rfl|rfl|rfl
 all_goals go_enter func47,ntmps47
 all_goals go_wp2_with (first|(go_at_call 85;refine (G5 _ _ _ _ _ _ _).mono ?_;rintro e w1 ⟨rfl,hx1⟩;have hc1:=hx1.cells;rw [HNM.out])|(go_at_call 86;refine (Gw _ _ _ l a c [(87,Nd.isPlace)] _ _ S _ hll (by decide) (hs.ext (by repeat (first|exact eU _|assumption|refine fG ?_ _|refine fR ?_|refine fI ?_ ‹_›))) (Vt (by go_simp)) (M4 FW) (M4 HPL.out)).mono ?_;rintro e w2 ⟨rfl,hx2⟩))
 all_goals go_ret
 all_goals rw [HR.out,HNM.out]
 all_goals exact ⟨AV (by simp),(by repeat (first|exact eU _|assumption|refine fG ?_ _|refine fR ?_|refine fI ?_ ‹_›))⟩
def TX {k:Int} (h:k=52\/k=53) (n:Int) (s:lB) (l:List Nd):(Nd.mk k n s l).isStmt=(plain n s&&Ch l [(88,Nd.isExpr),(48,Nd.isBlock),(48,Nd.isBlock),(88,Nd.isExpr)]):=by
 rcases h with rfl|rfl<;>rcases l with _|⟨x,_|⟨y,_|⟨z,_|⟨u,_|⟨v,l⟩⟩⟩⟩⟩<;>rw [Nd.isStmt.eq_def]<;>simp [Ch,Bool.and_assoc]
def TY {k:Int} (hk:k=52\/k=53) (n:Int) (s:lB) (l:List Nd) (a:oA) (c:Nat) (S:nP) (w:wD)
 (hs:rowSits S w l a) (hsl:s.length<=9223372036854775807) (hll:l.length<=9223372036854775807) (hrw:C9 l) (hb : ∀t∈l,Et S 48 Nd.isBlock t) :
 Calls prog 47 #[.agg #[.int .u8 k,.int .i64 n,str s,.slice a l.length c]] w fun e w'=>e = .returned (.bool (Nd.mk k n s l).isStmt)/\Ext w w':=by
 have HBL:=bU hb;clear hb
 have HEX:=bU fun t (ht:t∈l)=>FX S t (BF hrw t ht)
 have HSL:=bU hsl;clear hsl hrw
 have hr:=TX hk n s l
 have HR:=bU hr;clear hr
 cases hnm:plain n s
 all_goals have HNM:=bU hnm;clear hnm
 all_goals rcases hk with rfl|rfl
 all_goals go_enter func47,ntmps47
 all_goals go_wp2_with (first|(go_at_call 85;refine (G5 _ _ _ _ _ _ _).mono ?_;rintro e w1 ⟨rfl,hx1⟩;have hc1:=hx1.cells;rw [HNM.out])|(go_at_call 86;refine (Gw _ _ _ l a c [(88,Nd.isExpr),(48,Nd.isBlock),(48,Nd.isBlock),(88,Nd.isExpr)] _ _ S _ hll (by decide) (hs.ext (by repeat (first|exact eU _|assumption|refine fG ?_ _|refine fR ?_|refine fI ?_ ‹_›))) (aW (by go_simp) (by go_simp) (by go_simp) (by go_simp)) (ZW D5 G7 G7 D5) (ZW HEX.out HBL.out HBL.out HEX.out)).mono ?_;rintro e w2 ⟨rfl,hx2⟩))
 all_goals go_ret
 all_goals rw [HR.out,HNM.out]
 all_goals exact ⟨AV (by simp),(by repeat (first|exact eU _|assumption|refine fG ?_ _|refine fR ?_|refine fI ?_ ‹_›))⟩
def TZ {k:Int} (h:k=54) (n:Int) (s:lB) (l:List Nd):(Nd.mk k n s l).isStmt=(CQ n s&&Ch l [(88,Nd.isExpr),(48,Nd.isBlock),(88,Nd.isExpr)]):=by
 rcases h with rfl<;>rcases l with _|⟨x,_|⟨y,_|⟨z,_|⟨u,_|⟨v,l⟩⟩⟩⟩⟩<;>rw [Nd.isStmt.eq_def]<;>simp [Ch,Bool.and_assoc]
def T0 {k:Int} (hk:k=54) (n:Int) (s:lB) (l:List Nd) (a:oA) (c:Nat) (S:nP) (w:wD)
 (hs:rowSits S w l a) (hsl:s.length<=9223372036854775807) (hll:l.length<=9223372036854775807) (hrw:C9 l) (hb : ∀t∈l,Et S 48 Nd.isBlock t) :
 Calls prog 47 #[.agg #[.int .u8 k,.int .i64 n,str s,.slice a l.length c]] w fun e w'=>e = .returned (.bool (Nd.mk k n s l).isStmt)/\Ext w w':=by
 have HBL:=bU hb;clear hb
 have HEX:=bU fun t (ht:t∈l)=>FX S t (BF hrw t ht)
 have HSL:=bU hsl;clear hsl hrw
 have hr:=TZ hk n s l
 have HR:=bU hr;clear hr
 cases hnm:CQ n s
 all_goals have HNM:=bU hnm;clear hnm
 all_goals rcases hk with rfl
 all_goals go_enter func47,ntmps47
 all_goals go_wp2_with (first|(go_at_call 89;refine (Iz _ _ _ _ _ _ _ HSL.out).mono ?_;rintro e w1 ⟨rfl,hx1⟩;have hc1:=hx1.cells;rw [HNM.out])|(go_at_call 86;refine (Gw _ _ _ l a c [(88,Nd.isExpr),(48,Nd.isBlock),(88,Nd.isExpr)] _ _ S _ hll (by decide) (hs.ext (by refine fG ?_ _;refine fI ?_ ‹_›;refine fG ?_ _;exact eU _)) (aV (by go_simp) (by go_simp) (by go_simp)) (ZV D5 G7 D5) (ZV HEX.out HBL.out HEX.out)).mono ?_;rintro e w2 ⟨rfl,hx2⟩))
 all_goals go_ret
 all_goals rw [HR.out,HNM.out]
 all_goals exact ⟨AV (by simp),(by repeat (first|exact eU _|assumption|refine fG ?_ _|refine fR ?_|refine fI ?_ ‹_›))⟩
def T1 {k:Int} (h:k=55) (n:Int) (s:lB) (l:List Nd):(Nd.mk k n s l).isStmt=(CQ n s&&Ch l [(48,Nd.isBlock)]):=by
 rcases h with rfl<;>rcases l with _|⟨x,_|⟨y,_|⟨z,_|⟨u,_|⟨v,l⟩⟩⟩⟩⟩<;>rw [Nd.isStmt.eq_def]<;>simp [Ch,Bool.and_assoc]
def T2 {k:Int} (hk:k=55) (n:Int) (s:lB) (l:List Nd) (a:oA) (c:Nat) (S:nP) (w:wD)
 (hs:rowSits S w l a) (hsl:s.length<=9223372036854775807) (hll:l.length<=9223372036854775807) (hrw:C9 l) (hb : ∀t∈l,Et S 48 Nd.isBlock t) :
 Calls prog 47 #[.agg #[.int .u8 k,.int .i64 n,str s,.slice a l.length c]] w fun e w'=>e = .returned (.bool (Nd.mk k n s l).isStmt)/\Ext w w':=by
 have HBL:=bU hb;clear hb
 have HSL:=bU hsl;clear hsl hrw
 have hr:=T1 hk n s l
 have HR:=bU hr;clear hr
 cases hnm:CQ n s
 all_goals have HNM:=bU hnm;clear hnm
 all_goals rcases hk with rfl
 all_goals go_enter func47,ntmps47
 all_goals go_wp2_with (first|(go_at_call 89;refine (Iz _ _ _ _ _ _ _ HSL.out).mono ?_;rintro e w1 ⟨rfl,hx1⟩;have hc1:=hx1.cells;rw [HNM.out])|(go_at_call 86;refine (Gw _ _ _ l a c [(48,Nd.isBlock)] _ _ S _ hll (by decide) (hs.ext (by refine fG ?_ _;refine fI ?_ ‹_›;refine fG ?_ _;exact eU _)) (Vt (by go_simp)) (M4 G7) (M4 HBL.out)).mono ?_;rintro e w2 ⟨rfl,hx2⟩))
 all_goals go_ret
 all_goals rw [HR.out,HNM.out]
 all_goals exact ⟨AV (by simp),(by repeat (first|exact eU _|assumption|refine fG ?_ _|refine fR ?_|refine fI ?_ ‹_›))⟩
def T3 {k:Int} (h:k=50\/k=51) (n:Int) (s:lB) (l:List Nd):(Nd.mk k n s l).isStmt=(CQ n s&&decide (l.length<=8)&&l.all Nd.isVar):=by
 rcases h with rfl|rfl<;>rw [Nd.isStmt.eq_def]<;>simp
def T4 {k:Int} (hk:k=50\/k=51) (n:Int) (s:lB) (l:List Nd) (a:oA) (c:Nat) (S:nP) (w:wD)
 (hs:rowSits S w l a) (hsl:s.length<=9223372036854775807) (hll:l.length<=9223372036854775807) (hrw:C9 l) :
 Calls prog 47 #[.agg #[.int .u8 k,.int .i64 n,str s,.slice a l.length c]] w fun e w'=>e = .returned (.bool (Nd.mk k n s l).isStmt)/\Ext w w':=by
 have HVA:=bU fun t (ht:t∈l)=>Xq S t (BF hrw t ht)
 have HSL:=bU hsl;clear hsl hrw
 have hr:=T3 hk n s l
 have HR:=bU hr;clear hr
 cases hnm:CQ n s
 all_goals have HNM:=bU hnm;clear hnm
 all_goals by_cases h8:l.length<=8
 all_goals have d8:decide ((l.length:Int)<=8)=decide (l.length<=8):=by simp only [decide_eq_decide];omega
 all_goals first|rw [decide_eq_true h8] at d8|rw [decide_eq_false h8] at d8
 all_goals have H8:=bU h8;clear h8
 all_goals rcases hk with rfl|rfl
 all_goals go_enter func47,ntmps47
 all_goals go_wp2_with (first|(go_at_call 89;refine (Iz _ _ _ _ _ _ _ HSL.out).mono ?_;rintro e w1 ⟨rfl,hx1⟩;have hc1:=hx1.cells;rw [HNM.out])|(go_at_call 90;refine (SL 91 Nd.isVar Vv l a c S _ hll (hs.ext (by repeat (first|exact eU _|assumption|refine fG ?_ _|refine fR ?_|refine fI ?_ ‹_›))) HVA.out).mono ?_;rintro e w2 ⟨rfl,hx2⟩))
 all_goals go_ret
 all_goals rw [HR.out,HNM.out]
 all_goals exact ⟨AV (by simp [H8.out]),(by repeat (first|exact eU _|assumption|refine fG ?_ _|refine fR ?_|refine fI ?_ ‹_›))⟩
def PN (k n:Int) (s:lB) (l:List Nd) (h:k<40\/56<k):(Nd.mk k n s l).isStmt=false:=by
 rw [Nd.isStmt.eq_def];simp only [];rw [As Ab,As Ab,As Ab,As Ab,As Ab,As Ab,As Ab,As Ab]
def PO (k n:Int) (s:lB) (l:List Nd) (a:oA) (c:Nat) (w:wD) (h:k<40\/56<k) :
 Calls prog 47 #[.agg #[.int .u8 k,.int .i64 n,str s,.slice a l.length c]] w fun e w'=>e = .returned (.bool (Nd.mk k n s l).isStmt)/\Ext w w':=by
 have hr:=PN k n s l h
 have HR:=bU hr;clear hr
 have d40:(k==40)=false:=by rw [beq_eq_false_iff_ne];omega
 have d41:(k==41)=false:=by rw [beq_eq_false_iff_ne];omega
 have d42:(k==42)=false:=by rw [beq_eq_false_iff_ne];omega
 have d43:(k==43)=false:=by rw [beq_eq_false_iff_ne];omega
 have d44:(k==44)=false:=by rw [beq_eq_false_iff_ne];omega
 have d45:(k==45)=false:=by rw [beq_eq_false_iff_ne];omega
 have d46:(k==46)=false:=by rw [beq_eq_false_iff_ne];omega
 have d47:(k==47)=false:=by rw [beq_eq_false_iff_ne];omega
 have d48:(k==48)=false:=by rw [beq_eq_false_iff_ne];omega
 have d49:(k==49)=false:=by rw [beq_eq_false_iff_ne];omega
 have d50:(k==50)=false:=by rw [beq_eq_false_iff_ne];omega
 have d51:(k==51)=false:=by rw [beq_eq_false_iff_ne];omega
 have d52:(k==52)=false:=by rw [beq_eq_false_iff_ne];omega
 have d53:(k==53)=false:=by rw [beq_eq_false_iff_ne];omega
 have d54:(k==54)=false:=by rw [beq_eq_false_iff_ne];omega
 have d55:(k==55)=false:=by rw [beq_eq_false_iff_ne];omega
 have d56:(k==56)=false:=by rw [beq_eq_false_iff_ne];omega
 clear h
 go_enter func47,ntmps47
 go_wp2_with fail
 go_ret
 rw [HR.out]
 exact ⟨rfl,(by refine fG ?_ _;exact eU _)⟩
def RF (k n:Int) (s:lB) (l:List Nd) (a:oA) (c:Nat) (S:nP) (w:wD)
 (M:rowSits S w l a) (F:s.length<=9223372036854775807) (G:l.length<=9223372036854775807) (L:C9 l) (N : ∀t∈l,Et S 48 Nd.isBlock t) :
 Calls prog 47 #[.agg #[.int .u8 k,.int .i64 n,str s,.slice a l.length c]] w fun e w'=>e = .returned (.bool (Nd.mk k n s l).isStmt)/\Ext w w':=by
 by_cases h:k<40\/56<k
 . exact PO k n s l a c w h
 by_cases O:k=40\/k=41\/k=42\/k=56
 . exact TO O n s l a c S w M F G L
 by_cases U:k=43
 . exact TQ U n s l a c S w M F G L
 by_cases V:k=44\/k=45
 . exact TS V n s l a c S w M F G L
 by_cases X:k=46\/k=47\/k=48\/k=49
 . exact TV X n s l a c S w M F G L
 by_cases Y:k=52\/k=53
 . exact TY Y n s l a c S w M F G L N
 by_cases Z:k=54
 . exact T0 Z n s l a c S w M F G L N
 by_cases aa:k=55
 . exact T2 aa n s l a c S w M F G L N
 by_cases ab:k=50\/k=51
 . exact T4 ab n s l a c S w M F G L
 omega
def PQ (k n:Int) (s:lB) (l:List Nd) (a:oA) (c:Nat) (S:nP) (w:wD)
 (hs:rowSits S w l a) (hll:l.length<=9223372036854775807) (ht : ∀t∈l,Et S 47 Nd.isStmt t) :
 Calls prog 48 #[.agg #[.int .u8 k,.int .i64 n,str s,.slice a l.length c]] w fun e w'=>e = .returned (.bool (Nd.mk k n s l).isBlock)/\Ext w w':=by
 have hall : ∀r:List Nd,Eh r=r.all Nd.isStmt:=by
  intro r
  induction r with
  | nil=>rfl
  | cons x r ih=>simp [Eh,ih]
 have hr:(Nd.mk k n s l).isBlock=(k==57&&plain n s&&l.all Nd.isStmt):=by rw [Nd.isBlock,hall]
 have HR:=bU hr;clear hr hall
 have HT:=bU ht;clear ht
 by_cases h57:k=57
 . subst h57
   cases hnm:plain n s
   all_goals have HNM:=bU hnm;clear hnm
   all_goals go_enter func48,ntmps48
   all_goals go_wp2_with (first|(go_at_call 85;refine (G5 _ _ _ _ _ _ _).mono ?_;rintro e w1 ⟨rfl,hx1⟩;have hc1:=hx1.cells;rw [HNM.out])|(go_at_call 90;refine (SL 47 Nd.isStmt TM l a c S _ hll (hs.ext (by refine fI ?_ ‹_›;refine fG ?_ _;exact eU _)) HT.out).mono ?_;rintro e w2 ⟨rfl,hx2⟩))
   all_goals go_ret
   all_goals rw [HR.out,HNM.out]
   all_goals exact ⟨AV (by simp),(by repeat (first|exact eU _|assumption|refine fG ?_ _|refine fR ?_|refine fI ?_ ‹_›))⟩
 . have d57:(k==57)=false:=by rw [beq_eq_false_iff_ne];omega
   clear h57
   go_enter func48,ntmps48
   go_wp2_with fail
   go_ret
   rw [HR.out]
   exact ⟨AV (by simp [d57]),(by refine fG ?_ _;exact eU _)⟩
def IX (S:nP) (N:Nat):(∀t:Nd,t.size<N->t.wf->Et S 47 Nd.isStmt t)/\(∀t:Nd,t.size<N->t.wf->Et S 48 Nd.isBlock t):=by
 induction N with
 | zero=>exact ⟨fun t h=>absurd h (Nat.not_lt_zero _),fun t h=>absurd h (Nat.not_lt_zero _)⟩
 | succ N M=>
  refine ⟨?_,?_⟩
  . rintro ⟨k,n,s,l⟩ O F a c w L;simp only [Nd.wf,fF,fT] at *;exact RF k n s l a c S w L F.2.2.2.2.1 F.2.2.2.2.2.1 F.2.2.2.2.2.2 (fun t G=>M.2 t (by have:=DP G;omega) (BF F.2.2.2.2.2.2 t G))
  . rintro ⟨k,n,s,l⟩ O F a c w L;simp only [Nd.wf,fF,fT] at *;exact PQ k n s l a c S w L F.2.2.2.2.2.1 (fun t G=>M.1 t (by have:=DP G;omega) (BF F.2.2.2.2.2.2 t G))
def PR (S:nP) (t:Nd) (h:t.wf):Et S 47 Nd.isStmt t:=(IX S (t.size+1)).1 t Ab h
def Nz (S:nP) (t:Nd) (h:t.wf):Et S 48 Nd.isBlock t:=(IX S (t.size+1)).2 t Ab h
attribute [local irreducible] Go.Calls
mutual
def Nd.eqb:Nd->Nd->Bool
 | .mk k n s l,.mk k' n' s' l'=>decide (k=k')&&(decide (n=n')&&(decide (s=s')&&DX l l'))
def DX:List Nd->List Nd->Bool
 | [],[]=>true
 | x::r,y::q=>x.eqb y&&DX r q
 | [],_::_=>false
 | _::_,[]=>false
end
mutual
def SM : ∀t u:Nd,t.eqb u=true↔t=u
 | .mk k n s l,.mk k' n' s' l'=>by
  unfold Nd.eqb;simp only [bZ,decide_eq_true_eq,LP l l',Nd.mk.injEq]
def LP : ∀l q:List Nd,DX l q=true↔l=q
 | [],[]=>by simp [DX]
 | x::r,y::q=>by
  unfold DX;simp only [bZ,SM x y,LP r q,dU]
 | [],_::_=>by simp [DX]
 | _::_,[]=>by simp [DX]
end
def LQ : ∀ {l q:List Nd},l.length≠q.length->DX l q=false
 | [],[],h=>absurd rfl h
 | x::r,y::q,h=>by
  unfold DX;rw [LQ (by simpa using h)];simp
 | [],_::_,_=>by simp [DX]
 | _::_,[],_=>by simp [DX]
def T5 {l q:List Nd} {j:Nat} (h:j<l.length) (F:j<q.length):DX (l.drop j) (q.drop j)=(l[j].eqb q[j]&&DX (l.drop (j+1)) (q.drop (j+1))):=by
 rw [dH h,dH F,DX]
mutual
def BV {S:nP} {w:wD} : ∀(l:List Nd) (a:oA),rowSits S w l a->rowSits (· < w.heap.size) w l a
 | [],_,_=>by simp [rowSits]
 | t::r,a,h=>by
  simp only [rowSits] at h ⊢;obtain ⟨b,o,a',c,rfl,hb,h0,h1,h2,h3,hs,hr⟩:=h;exact ⟨b,o,a',c,rfl,Co h0,h0,h1,h2,h3,BZ t a' hs,BV r _ hr⟩
def BZ {S:nP} {w:wD} : ∀(t:Nd) (a:oA),t.sits S w a->t.sits (· < w.heap.size) w a
 | .mk _ _ _ l,a,h=>by
  simp only [fT] at h ⊢;exact BV l a h
end
def bF (x y:Nd):Prop:= ∀(S S':nP) (a a':oA) (c c':Nat) (w:wD),x.sits S w a->y.sits S' w a'->Calls prog 20 #[x.val a c,y.val a' c'] w fun e w'=>e = .returned (.bool (x.eqb y))/\Ext w w'
def PT (l q:List Nd) (h : ∀x∈l,∀y,bF x y) (S S':nP) (a a':oA) (c c':Nat) (w:wD) (hl:l.length<=1000000000) (G:rowSits S w l a) (F:rowSits S' w q a') :
 Calls prog 49 #[.slice a l.length c,.slice a' q.length c',.func (.func 20) #[] #[]] w fun e w'=>e = .returned (.bool (DX l q))/\Ext w w':=by
 have X:=eU w;have H:=bU h;clear h;by_cases ab:l.length=q.length
 . refine Ac func49 ntmps49 rfl rfl ?_;refine cS (C1 Pa (cT (Ai (cS (C1 Mv (C1 Pz (C1 Mv (C1 Pz (C1 V2 (cT (Ds ?_)))))))))));refine Am (Ag (Ai (cS (C1 Mv (C1 Pz (C1 Mv (cT (Av ?_))))))));have G:=BV _ _ G;have F:=BV _ _ F;refine A1 (ι:=Nat) (fun j=>[(1,.slice a' q.length c'),(2,.func (.func 20) #[] #[]),(15,.slice a l.length c),(16,.int .i64 l.length),(17,.int .i64 j)])
    (fun j w'=>j<=l.length/\rowSits (· < w.heap.size) w' l a/\rowSits (· < w.heap.size) w' q a'/\DX l q=DX (l.drop j) (q.drop j)/\Ext w w') (fun j=>l.length-j) 0 sB ⟨cQ _,G,F,rfl,X⟩ ?_
   clear G F X;rintro j w1 ⟨hj,G,F,he,X⟩;have au:=X.size;by_cases U:j<l.length
   . have M:j<q.length:=by omega
     obtain ⟨kb,ko,rfl,av,V⟩:=BA G (by intro e;subst e;simp at U);obtain ⟨aw,ax,rfl,ai,N⟩:=BA F (by intro e;subst e;simp at M);obtain ⟨xa,xc,Y,Z⟩:=V j l[j] (bT U);obtain ⟨ya,yc,ry,sy⟩:=N j q[j] (bT M);have HC:=H.out l[j] (cL U) q[j];rw [T5 U M] at he;have H2:=bU HC;clear HC V N H;generalize l[j]=x at *;generalize q[j]=y at *
     focus
      refine eK ?_;refine eA [_,_,_,_] ?_;intro ay az ag ah a0 a1;revert X G F Y Z ry sy;refine eE ah ?_;intro X G F Y Z ry sy;refine C1 Pa (eS [_,_,_,_] ag ?_);intro a2 L ac aj;revert X G F Y Z ry sy;refine eF ac ?_;intro X G F Y Z ry sy;refine eK ?_;refine xA [_,_,_,_] ?_;intro ak al ad;refine eI [_,_,_,_] ad ?_;intro am aa ae an ao;revert L X G F Y Z ry sy;refine eE ae ?_;intro L X G F Y Z ry sy;refine eK ?_;refine AC (Bv (fi:=[]) (ca:=[]) A9 rfl rfl (H2.out _ _ _ _ _ _ _ Ae Ae) (fun _ _ h=>⟨_,h.1⟩)) rfl ?_ aFh;rintro ap aq ⟨⟨⟩,af⟩;revert aa L X G F Y Z ry sy;refine eY af ?_;intro ar aa L X G F Y Z ry sy;refine C1 Pt (cT ?_);refine Hx rfl (fun O=>?_) (fun O=>?_);refine eK ?_;refine xR ?_;rotate_left;refine Am (Af (Ag (Aj (C1 V7 (C1 Mv (Ak ?_))))));rotate_left
     . exact ⟨by rw [he,O];rfl,X⟩
     . rw [O,Bool.true_and] at he;exact AI (j+1) sB ⟨Ab,G,F,he,X⟩ Ab
   . obtain rfl:j=l.length:=by omega
     rw [List.drop_length,ab,List.drop_length] at he;refine eK ?_;refine xR ?_;exact ⟨by rw [he];rfl,X⟩
 . rw [LQ ab];refine Ac func49 ntmps49 rfl rfl ?_;refine eK ?_;refine xR ?_;exact ⟨rfl,X⟩
def Cz : ∀ {l:List Nd} {x:Nd},x∈l->x.size<=Aq l
 | [],x,h=>by cases h
 | t::r,x,h=>by
  simp only [Aq];rcases dQ.1 h with rfl|h
  . omega
  . have:=Cz h;omega
def C0 (l:List Nd):l.length<=Aq l:=by
 induction l with
 | nil=>simp [Aq]
 | cons x r h=>
  have:1<=x.size:=by cases x;simp only [fF];omega
  simp only [Aq,cF];omega
def Xr (N:Nat) : ∀(t u:Nd) (S S':nP) (a O:oA) (c Y:Nat) (w:wD),t.size<N->t.size<=1000000000->t.sits S w a->u.sits S' w O ->
 Calls prog 20 #[t.val a c,u.val O Y] w fun e w'=>e = .returned (.bool (t.eqb u))/\Ext w w':=by
 induction N with
 | zero=>intro t u S S' a O c Y w h;omega
 | succ N ih=>
  rintro ⟨k,n,s,l⟩ ⟨k',n',s',q⟩ S S' a O c Y w hN hM G F;simp only [fT] at G F;simp only [fF] at hN hM;have aw:=C0 l;have hC : ∀x∈l,∀y,bF x y:=fun x hx y S S' a O c Y w h1 h2=>by
   have:=Cz hx;exact ih x y S S' a O c Y w Ab Ab h1 h2
  have HF:=bU (fun w=>PT l q hC S S' a O c Y w Ab);clear hC ih;simp only [Nd.val,fS,Nd.num,fQ,gB];unfold Nd.eqb;have X:=eU w;by_cases U:k=k'
  . by_cases Z:n=n'
    . by_cases V:s=s'
      . rw [decide_eq_true U,decide_eq_true Z,decide_eq_true V,Bool.true_and,Bool.true_and,Bool.true_and];subst U Z V;refine Ac func20 ntmps20 rfl rfl ?_;refine cS (eB [_,_,_,_] ?_);intro b1 w2 M x5 p6 z7;revert G F X;refine eE x5 ?_;intro G F X;refine eB [_,_,_,_] ?_;intro b8 w9 L ag ax ay;revert M G F X;refine eE ag ?_;intro M G F X;refine C1 Pa (cN (C1 Pg (C1 (Pl M) (C1 Pg (C1 (Pl L) (C1 V1 (C1 Mv (Vg (C1 Pf (Vg (C1 (Pl M) ?_)))))))))));refine Vg (C1 Pf (Vg (C1 (Pl L) (Vg (C1 V1 (C1 SG (C1 Mv (Vg (C1 Pf (Vg (C1 (Pl M) ?_)))))))))));refine Vg (C1 Pf (Vg (C1 (Pl L) (Vg (C1 V8 (C1 SG (C1 Mv (Bh rfl rfl rfl (Cq (rfl)) (C1 Pf (Bh rfl rfl rfl (Cq (rfl)) (C1 (Pl M) ?_)))))))))));refine Bh rfl rfl rfl (Cq (rfl)) (C1 Pf (Bh rfl rfl rfl (Cq (rfl)) (C1 (Pl L) (Bh rfl rfl rfl (Cq (rfl)) (cC rfl (HF.out _ Ae Ae) ?_)))));rintro _ az ⟨⟨⟩,ah⟩;revert L M G F X;refine eY ah ?_;intro a0 L M G F X;refine C1 (Qy (rfl)) ?_;refine eK ?_;refine xR ?_;exact ⟨rfl,X⟩
      . rw [decide_eq_true U,decide_eq_true Z,decide_eq_false V,Bool.true_and,Bool.true_and,Bool.false_and];subst U Z;refine Ac func20 ntmps20 rfl rfl ?_;refine cS (eB [_,_,_,_] ?_);intro a1 a2 aa ai a3 a4;revert G F X;refine eE ai ?_;intro G F X;refine eB [_,_,_,_] ?_;intro a5 a6 al ab am an;revert aa G F X;refine eE ab ?_;intro aa G F X;refine eK ?_;refine xR ?_;exact ⟨rfl,X⟩
    . rw [decide_eq_true U,decide_eq_false Z,Bool.true_and,Bool.false_and];subst U;refine Ac func20 ntmps20 rfl rfl ?_;refine cS (eB [_,_,_,_] ?_);intro a7 a8 ac aj a9 ba;revert G F X;refine eE aj ?_;intro G F X;refine eB [_,_,_,_] ?_;intro bb bc ao ad ap aq;revert ac G F X;refine eE ad ?_;intro ac G F X;refine eK ?_;refine xR ?_;exact ⟨rfl,X⟩
  . rw [decide_eq_false U,Bool.false_and];refine Ac func20 ntmps20 rfl rfl ?_;refine cS (eB [_,_,_,_] ?_);intro bd be ae ak bf bg;revert G F X;refine eE ak ?_;intro G F X;refine eB [_,_,_,_] ?_;intro bh bi ar af au av;revert ae G F X;refine eE af ?_;intro ae G F X;refine eK ?_;refine xR ?_;exact ⟨rfl,X⟩
abbrev ints (xs:List Int):lV:=xs.map (.int .i64 ·)
def IntsAt (w:wD) (xs:List Int) (a:oA):Prop:=Rows (fun _=>True) w (ints xs) a
def IntsAt.ext {w w':wD} {xs:List Int} {a:oA} (h:IntsAt w xs a) (x:Ext w w'):IntsAt w' xs a:=Rows.ext h x
instance {w w':wD} {xs:List Int} {a:oA}:LfE w w' (IntsAt w xs a) (IntsAt w' xs a):=⟨fun x h=>Bk.IntsAt.ext h x⟩
def IntsAt.get {w:wD} {xs:List Int} {a:oA} (h:IntsAt w xs a) (F:xs≠[]) : ∃b o,a=some ⟨b,o,none⟩/\Row w ⟨b,o,none⟩ (ints xs):=by
 rcases h with h|⟨b,o,G,-,L⟩
 . exact absurd (List.map_eq_nil_iff.1 h) F
 . exact ⟨b,o,G,L⟩
def IntsAt.at {w:wD} {xs:List Int} {b o:Nat} (h:Row w ⟨b,o,none⟩ (ints xs)) {i:Nat} (G:i<xs.length):Row w ⟨b,o+i*1,none⟩ [.int .i64 (xs.getD i 0)]:=by
 intro j v F
 match j,F with
 | 0,F=>
  simp only [dF,cE] at F;subst F;have:=h.at (i:=i) (v:=.int .i64 (xs.getD i 0)) (by simp [ints,dZ,bT G,cB]);simpa [eG] using this
def LookR (xs:List Int) (q:Bool) (w:wD):Ending->wD->Prop:=fun e w'=> ∃a c,e = .returned (.tuple #[.slice a xs.length c,.bool q])/\IntsAt w' xs a/\xs.length<=1000000/\Ext w w'
def LookR.ret {xs:List Int} {q:Bool} {w:wD} {e:Ending} {w':wD} (h:LookR xs q w e w') : ∃v,e = .returned v:=by
 obtain ⟨_,_,h,-⟩:=h;exact ⟨_,h⟩
structure Keep (I:wD->Prop) (w:wD):Prop where
 h:I w
 s : ∀w1 w2,I w1->Ext w1 w2->I w2
def Keep.ext {I:wD->Prop} {w w':wD} (h:Keep I w) (x:Ext w w'):Keep I w':=⟨h.s _ _ h.h x,h.s⟩
instance {I:wD->Prop} {w w':wD}:LfE w w' (Keep I w) (Keep I w'):=⟨fun x h=>Bk.Keep.ext h x⟩
def KO (at_:lB->Option (List Int)) (f:FuncId) (fi:lV) (I:wD->Prop):Prop:= ∀(s:lB) (w:wD),Keep I w->Calls prog f (fi++[str s]++[]).toArray w (LookR ((at_ s).getD []) (at_ s).isSome w)
def ZO (r:Int×Int) (w:wD):Ending->wD->Prop:=fun e w'=>e = .returned (.tuple #[.int .i64 r.1,.int .i64 r.2])/\Ext w w'
inductive ExprSh:Nd->Prop where
 | num {n:Int}:ExprSh (.mk 1 n [] [])
 | ref {k:Int} {s:lB}:(k=2\/k=4\/k=5)->CF s=true->ExprSh (.mk k 0 s [])
 | item {s:lB} {x:Nd}:CF s=true->x.isExpr=true->ExprSh (.mk 3 0 s [x])
 | un {k:Int} {x:Nd}:(k=6\/k=7)->x.isExpr=true->ExprSh (.mk k 0 [] [x])
 | bin {k:Int} {x y:Nd}:8<=k/\k<=23->x.isExpr=true->y.isExpr=true->ExprSh (.mk k 0 [] [x,y])
def LR {t:Nd} (h:t.isExpr=true):ExprSh t:=by
 obtain ⟨k,n,s,l⟩:=t;unfold Nd.isExpr at h;by_cases G:k=1
 . rw [AG G] at h;simp only [bZ,List.isEmpty_iff,decide_eq_true_eq] at h;obtain ⟨⟨M,rfl⟩,rfl⟩:=h;subst G;exact .num
 rw [As G] at h;by_cases c2:k=2\/k=4\/k=5
 . rw [AG c2] at h;simp only [bZ,CQ,beq_iff_eq,List.isEmpty_iff] at h;obtain ⟨⟨rfl,L⟩,rfl⟩:=h;exact .ref c2 L
 rw [As c2] at h;by_cases c3:k=3
 . rw [AG c3] at h;simp only [bZ,CQ,beq_iff_eq] at h;obtain ⟨⟨rfl,L⟩,F⟩:=h;subst c3;split at F
   . exact .item L F
   . cases F
 rw [As c3] at h;by_cases c4:k=6\/k=7
 . rw [AG c4] at h;simp only [bZ,plain,beq_iff_eq,List.isEmpty_iff] at h;obtain ⟨⟨rfl,rfl⟩,F⟩:=h;split at F
   . exact .un c4 F
   . cases F
 rw [As c4] at h;by_cases c5:8<=k/\k<=23
 . rw [AG c5] at h;simp only [bZ,plain,beq_iff_eq,List.isEmpty_iff] at h;obtain ⟨⟨rfl,rfl⟩,F⟩:=h;split at F
   . simp only [bZ] at F;exact .bin c5 F.1 F.2
   . cases F
 rw [As c5] at h;cases h
def Oz (k:Int) (o:Option (List Int)):Int×Int:=match o with
 | none=>(0,6)
 | some c=>if k=2 then if c.length=1 then (c.getD 0 0,0) else (0,7) else if k=4 then if c.length=0 then (0,13) else (c.getD (c.length-1) 0,0) else (c.length,0)
def T6 {at_:lB->Option (List Int)} {k:Int} {s:lB} (h:k=2\/k=4\/k=5):AT at_ (.mk k 0 s [])=Oz k (at_ s):=by
 unfold AT Oz;rcases h with rfl|rfl|rfl
 . simp only [show ¬((2:Int)=1) by decide,if_false,if_true];all_goals (cases at_ s<;>rfl)
 . simp only [show ¬((4:Int)=1) by decide,show ¬((4:Int)=2) by decide,show ¬((4:Int)=3) by decide,if_false,if_true];all_goals (cases at_ s<;>rfl)
 . simp only [show ¬((5:Int)=1) by decide,show ¬((5:Int)=2) by decide,show ¬((5:Int)=3) by decide,show ¬((5:Int)=4) by decide,if_false,if_true];all_goals (cases at_ s<;>rfl)
def KP (o:Option (List Int)) (r:Int×Int):Int×Int:=match o with
 | none=>(0,6)
 | some c=>if r.2≠0 then (0,r.2) else if r.1<0\/(c.length:Int)<=r.1 then (0,12) else (c.getD r.1.toNat 0,0)
def RG {at_:lB->Option (List Int)} {s:lB} {x:Nd}:AT at_ (.mk 3 0 s [x])=KP (at_ s) (AT at_ x):=by
 conv=>lhs;unfold AT
 unfold KP;simp only [show ¬((3:Int)=1) by decide,show ¬((3:Int)=2) by decide,if_false,if_true];all_goals (cases at_ s<;>rfl)
def Vw {at_:lB->Option (List Int)} {k:Int} {x:Nd} (hk:k=6\/k=7):AT at_ (.mk k 0 [] [x])=if (AT at_ x).2≠0 then (0,(AT at_ x).2) else E0 k (AT at_ x).1:=by
 conv=>lhs;unfold AT
 rw [As Ab,As Ab,As Ab,As Ab,As Ab]
def T7 {at_:lB->Option (List Int)} {k:Int} {x y:Nd} (hk:8<=k/\k<=23):AT at_ (.mk k 0 [] [x,y])=if (AT at_ x).2≠0 then (0,(AT at_ x).2) else if (AT at_ y).2≠0 then (0,(AT at_ y).2) else EZ k (AT at_ x).1 (AT at_ y).1:=by
 conv=>lhs;unfold AT
 rw [As Ab,As Ab,As Ab,As Ab,As Ab]
def PU {at_:List UInt8->Option (List Int)} {f:FuncId} {fi:List Value} {I:World->Prop} (hf:CO prog f=true) (HL:KO at_ f fi I) {k n:Int} (hk:k=2\/k=4\/k=5) (s:List UInt8) (a:Option Addr) (m c:Nat) (w:World) (M:Keep I w) :
 Calls prog 189 #[.agg #[.int .u8 k,.int .i64 n,str s,.slice a m c],.func (.func f) fi.toArray #[]] w (ZO (Oz k (at_ s)) w):=by
 have X:=eU w;have HA:=bU (HL s);clear HL
 generalize at_ s=o at *
 cases o with
 | none=>
  simp only [Option.getD_none,Option.isSome_none] at HA;refine Ac func189 ntmps189 rfl rfl ?_
  refine cS ?_;refine eB [_,_,_,_] ?_;intro b1 w2 h4 x5 p6 z7;revert M X;refine eE x5 ?_;intro M X;clear x5;refine C1 Pa (C1 Pa (cN (C1 Mv (C1 Pf (C1 (Pl h4) ?_)))));refine AC (Bv (ca:=[]) hf rfl rfl (HA.out _ Ae) (fun _ _ h=>h.ret)) rfl ?_ aFh;rintro _ ae ⟨a8,⟨c9,⟨⟨⟩,⟨af,⟨ag,N⟩⟩⟩⟩⟩;have ah:=N.size;revert h4 M X;refine eE N ?_;intro h4 M X;clear N;refine C1 Mv (C1 Px (C1 Px (C1 Pa (C1 Pa (cT (Ai (cS (C1 Mv (C1 Pt (cT (Cb rfl ?_)))))))))));refine cS (C1 Pa (C1 Pa (cT (AN (Ao (Be rfl rfl rfl ?_))))))
  exact ⟨rfl,X⟩
 | some xs=>
  simp only [Option.getD_some,Option.isSome_some] at HA;refine Ac func189 ntmps189 rfl rfl ?_
  focus
   refine cS ?_;refine eB [_,_,_,_] ?_;intro ai aj L U ak al;revert M X;refine eE U ?_;intro M X;clear U;refine C1 Pa (C1 Pa (cN (C1 Mv (C1 Pf (C1 (Pl L) ?_)))));refine AC (Bv (ca:=[]) hf rfl rfl (HA.out _ Ae) (fun _ _ h=>h.ret)) rfl ?_ aFh;rintro _ ab ⟨am,⟨an,⟨⟨⟩,⟨F,⟨ac,G⟩⟩⟩⟩⟩;have ad:=G.size;revert L M X;refine eE G ?_;intro L M X;clear G;refine C1 Mv (C1 Px (C1 Px (C1 Pa (C1 Pa (cT (Ai (cS (C1 Mv (C1 Pt (cT (BD rfl ?_)))))))))));refine Am (Ag (Ai (cS (C1 Pg (C1 (Pl L) (cT (Av (cS (C1 V1 (C1 Pa (cT ?_)))))))))));refine Ay rfl (fun V=>?_) (fun V=>?_);refine Ai (cS (C1 Mv (C1 Pz (C1 V2 (cT ?_)))));refine BU rfl (fun Y=>?_) (fun Y=>?_);refine cS (C1 Pa (C1 Pa (cT (AN (Ao (AH (Ao (Be rfl rfl rfl ?_))))))));rotate_left;refine Am (Ag ?_);rotate_left;refine cS (C1 V1 (C1 Pa (cT (Ds (cS (C1 V1 (C1 Pa (cT ?_))))))));refine Ay rfl (fun Z=>?_) (fun Z=>?_);refine Ai (cS (C1 Mv (C1 Pz (C1 V1 (cT ?_)))));refine Ay rfl (fun aa=>?_) (fun aa=>?_);refine cS (C1 Pa (C1 Pa (cT (AN (Ao (AH (Ao (Be rfl rfl rfl ?_))))))));rotate_left;refine Am (Ag ?_);rotate_left;refine Am (Af (Ag (cS (C1 Mv (C1 Pz (C1 Pa (C1 Pa (cT (AN (Be rfl rfl rfl ?_))))))))));rotate_left
  . exact ⟨by rw [Oz,AG Ae,As Ab],X⟩
  . have O:xs≠[]:=by rintro rfl;simp at *
    obtain ⟨gb,go,rfl,hr⟩:=F.get O;have r1:=IntsAt.at hr (i:=0) Ab;clear hr F
    generalize hv:xs.getD 0 0=v at *
    refine cS (C1 Mv (C1 Pi (C1 (Pw r1) (C1 Pa (C1 Pa (cT (AN (AH (Ao (Be rfl rfl rfl ?_))))))))))
    exact ⟨by rw [Oz,AG Ae,AG Ab,hv],X⟩
  . exact ⟨by rw [Oz,As Ab,AG Ae,AG Ab],X⟩
  . have O:xs≠[]:=by rintro rfl;simp at *
    obtain ⟨gb,go,rfl,hr⟩:=F.get O;have r1:=IntsAt.at hr (i:=((xs.length:Int)-1).toNat) Ab;clear hr F
    have hj:((xs.length:Int)-1).toNat=xs.length-1:=by omega
    generalize hv:xs.getD ((xs.length:Int)-1).toNat 0=v at *
    rw [hj] at hv
    refine cS (C1 Mv (C1 Mv (C1 Pz ?_)));refine C1 (Bq rfl rfl (dA _ Ab)) ?_;refine C1 Pi (C1 (TA r1) (C1 Pa (C1 Pa (cT (AN (AH (Ao (Be rfl rfl rfl ?_))))))))
    exact ⟨by rw [Oz,As Ab,AG Ae,As Ab,hv],X⟩
  . focus
     rotate_left
    exact ⟨by rw [Oz,As Ab,As Ab],X⟩
def Vx {S:nP} {w:wD} {x:Nd} {a:oA} (h:rowSits S w [x] a) : ∃b o xa xc,a=some ⟨b,o,none⟩/\S b/\Row w ⟨b,o+0*4,none⟩ (x.cells xa xc)/\x.sits S w xa:=by
 obtain ⟨b,o,e,F,G⟩:=BA h AR;obtain ⟨xa,xc,r,s⟩:=G 0 x rfl;exact ⟨b,o,xa,xc,e,F,r,s⟩
def Ze {S:nP} {w:wD} {x y:Nd} {a:oA} (h:rowSits S w [x,y] a) : ∃b o xa xc ya yc,a=some ⟨b,o,none⟩/\S b/\Row w ⟨b,o+0*4,none⟩ (x.cells xa xc)/\x.sits S w xa/\Row w ⟨b,o+1*4,none⟩ (y.cells ya yc)/\y.sits S w ya:=by
 obtain ⟨b,o,e,G,F⟩:=BA h AR;obtain ⟨xa,xc,r,s⟩:=F 0 x rfl;obtain ⟨ya,yc,L,M⟩:=F 1 y rfl;exact ⟨b,o,xa,xc,ya,yc,e,G,r,s,L,M⟩
def Zf (at_:lB->Option (List Int)) (f:FuncId) (fi:lV) (I:wD->Prop) (t:Nd):Prop:= ∀(S:nP) (a:oA) (c:Nat) (w:wD),t.sits S w a->Keep I w->Calls prog 178 #[t.val a c,.func (.func f) fi.toArray #[]] w (ZO (AT at_ t) w)
def PV {at_:List UInt8->Option (List Int)} {f:FuncId} {fi:List Value} {I:World->Prop} (hf:CO prog f=true) (HL:KO at_ f fi I) {n:Int} (s:List UInt8) {x:Nd} (HX:Zf at_ f fi I x) (S:Nat->Prop) (a:Option Addr) (c:Nat) (w:World) (hs:rowSits S w [x] a) (U:Keep I w) :
 Calls prog 189 #[.agg #[.int .u8 3,.int .i64 n,str s,.slice a 1 c],.func (.func f) fi.toArray #[]] w (ZO (KP (at_ s) (AT at_ x)) w):=by
 have X:=eU w;have HA:=bU (HL s)
 unfold Zf at HX
 replace HX:=bU HX;obtain ⟨kb,ko,xa,xc,rfl,-,M,L⟩:=Vx hs;replace L:=BZ _ _ L;clear HL hs
 generalize AT at_ x=r at *
 generalize at_ s=o at *
 cases o with
 | none=>
  simp only [Option.getD_none,Option.isSome_none] at HA;refine Ac func189 ntmps189 rfl rfl ?_
  refine cS ?_;refine eB [_,_,_,_] ?_;intro b1 w2 h4 x5 p6 z7;revert U X M L;refine eE x5 ?_;intro U X M L;clear x5;refine C1 Pa (C1 Pa (cN (C1 Mv (C1 Pf (C1 (Pl h4) ?_)))));refine AC (Bv (ca:=[]) hf rfl rfl (HA.out _ Ae) (fun _ _ h=>h.ret)) rfl ?_ aFh;rintro _ aj ⟨a8,⟨c9,⟨⟨⟩,⟨ak,⟨al,V⟩⟩⟩⟩⟩;have am:=V.size;revert h4 U X M L;refine eE V ?_;intro h4 U X M L;clear V;refine C1 Mv (C1 Px (C1 Px (C1 Pa (C1 Pa (cT (Ai (cS (C1 Mv (C1 Pt (cT (Cb rfl ?_)))))))))));refine cS (C1 Pa (C1 Pa (cT (AN (Ao (Be rfl rfl rfl ?_))))))
  exact ⟨rfl,X⟩
 | some xs=>
  simp only [Option.getD_some,Option.isSome_some] at HA;refine Ac func189 ntmps189 rfl rfl ?_
  focus
   refine cS ?_;refine eB [_,_,_,_] ?_;intro an ao F Y ap aq;revert U X M L;refine eE Y ?_;intro U X M L;clear Y;refine C1 Pa (C1 Pa (cN (C1 Mv (C1 Pf (C1 (Pl F) ?_)))));refine AC (Bv (ca:=[]) hf rfl rfl (HA.out _ Ae) (fun _ _ h=>h.ret)) rfl ?_ aFh;rintro _ ae ⟨ar,⟨au,⟨⟨⟩,⟨G,⟨af,N⟩⟩⟩⟩⟩;have ag:=N.size;revert F U X M L;refine eE N ?_;intro F U X M L;clear N;refine C1 Mv (C1 Px (C1 Px (C1 Pa (C1 Pa (cT (Ai (cS (C1 Mv (C1 Pt (cT (BD rfl ?_)))))))))));refine Am (Ag (Ai (cS (C1 Pg (C1 (Pl F) (cT (Av (cS (C1 V1 (C1 Pa (cT ?_)))))))))));refine Np (cS (C1 V1 (C1 Pa (cT (Ve (cS (C1 Pf (C1 (Pl F) (C1 Pi (Ce [_,_,_,_] Ad rfl rfl rfl M rfl rfl rfl (C1 Mv ?_)))))))))));refine cC rfl (HX.out _ _ _ _ Ae Ae) ?_;rintro _ ah ⟨⟨⟩,O⟩;have ai:=O.size;revert G F U X M L;refine eE O ?_;intro G F U X M L;clear O;refine C1 Mv (C1 Px (C1 Px (C1 Pa (C1 Pa (cT (Ai (cS (C1 Mv (C1 V2 (cT ?_))))))))));refine BU rfl (fun Z=>?_) (fun Z=>?_);refine cS (C1 Mv (C1 Pa (C1 Pa (cT (AN (Ao (AH (Ao (Be rfl rfl rfl ?_)))))))));rotate_left;refine Am (Ag (Ai (cS (C1 Mv (C1 V3 (C1 Mv ?_))))));refine C6 rfl rfl rfl (fun aa=>?_) (fun aa=>?_);refine Gb (Gb (Gb (Gb (C1 Rw (cT (Cb rfl (cS (C1 Pa (C1 Pa (cT (AN ?_)))))))))))
   refine Ao (AH (Ao (Be rfl rfl rfl ?_)));rotate_left;refine Ga (C1 Mv (Ga (C1 Mv (Ga (C1 Pz (Ga (C1 V6 (C1 Rk (cT ?_)))))))));refine Ay rfl (fun ab=>?_) (fun ab=>?_);refine cS (C1 Pa (C1 Pa (cT (AN (Ao (AH (Ao (Be rfl rfl rfl ?_))))))));rotate_left;refine Am (Ag ?_);rotate_left
  . exact ⟨by rw [KP,AG Ab],X⟩
  . exact ⟨by rw [KP,As Ab,AG (bW Ab)],X⟩
  . exact ⟨by rw [KP,As Ab,AG (bX Ab)],X⟩
  . have ad:xs≠[]:=by rintro rfl;simp at *;omega
    obtain ⟨gb,go,rfl,ac⟩:=G.get ad;have r1:=IntsAt.at ac (i:=r.1.toNat) Ab;clear ac G
    generalize hv:xs.getD r.1.toNat 0=v at *
    refine cS (C1 Mv (C1 Mv (C1 Pi (C1 (TA r1) (C1 Pa (C1 Pa (cT (AN (AH (Ao (Be rfl rfl rfl ?_)))))))))))
    exact ⟨by rw [KP,As Ab,As Ab,hv],X⟩
def PW {at_:List UInt8->Option (List Int)} {f:FuncId} {fi:List Value} {I:World->Prop} (hf:CO prog f=true) (HL:KO at_ f fi I) (N:Nat) : ∀(t:Nd),t.size<N->t.isExpr=true->Zf at_ f fi I t:=by
 induction N with
 | zero=>intro t h;omega
 | succ N ih=>
  intro t hN F;have ap:=LR F;clear F;intro S a c w U G;have X:=eU w
  cases ap with
  | num=>
   rename_i n
   have e:AT at_ (.mk 1 n [] [])=(n,0):=by unfold AT;rw [AG rfl]
   rw [e]
   change Calls prog 178 #[.agg #[.int .u8 1,.int .i64 n,str [],.slice a 0 c],.func (.func f) fi.toArray #[]] w _
   refine Ac func178 ntmps178 rfl rfl ?_
   refine cS ?_;refine eB [_,_,_,_] ?_;intro b1 w2 h4 x5 p6 z7;revert G X U;refine eE x5 ?_;intro G X U;clear x5;refine C1 Pa (C1 Pa (cT (Ai (cS (C1 Pg (C1 (Pl h4) (cT (Av (cS (C1 V1 (C1 Pa ?_)))))))))));refine cT (Ve (cS (C1 Pf (C1 (Pl h4) (C1 Pa (C1 Pa (cT (AN (AH (Ao (Be rfl rfl rfl ?_)))))))))))
   exact ⟨rfl,X⟩
  | ref hk hn=>
   rename_i k s
   rw [T6 hk];have HV:=bU (PU hf HL (n:=0) hk s a 0 c);clear HL ih U
   generalize Oz k (at_ s)=r at *
   change Calls prog 178 #[.agg #[.int .u8 k,.int .i64 0,str s,.slice a 0 c],.func (.func f) fi.toArray #[]] w _
   refine Ac func178 ntmps178 rfl rfl ?_
   focus
    refine cS ?_;refine eB [_,_,_,_] ?_;intro a6 a7 L ai a8 a9;revert G X;refine eE ai ?_;intro G X;clear ai;refine C1 Pa (C1 Pa (cT (Ai (cS (C1 Pg (C1 (Pl L) (cT (Av (cS (C1 V1 (C1 Pa ?_)))))))))));refine cT (Ds (Ai (cS (C1 V1 (C1 Pa (cT ?_))))));refine Ay rfl (fun aq=>?_) (fun aq=>?_);refine Am (Ag (Ph (cS (Cd [_,_,_,_] Ad rfl rfl rfl L rfl rfl rfl (C1 Mv ?_)))));refine cC rfl (HV.out _ Ae) ?_;rintro _ ar ⟨⟨⟩,ad⟩;have au:=ad.size;revert L G X;refine eE ad ?_;intro L G X;clear ad;refine C1 Px (C1 Px (C1 Pa (C1 Pa (cT (AN (AH (Ao (Be rfl rfl rfl ?_))))))));rotate_left;refine cS (C1 V1 (C1 Pa (cT (Ds (cS (C1 V1 (C1 Pa (cT ?_))))))));refine Ay rfl (fun aj=>?_) (fun aj=>?_);refine Am (Ag (Ph (cS (Cd [_,_,_,_] Ad rfl rfl rfl L rfl rfl rfl (C1 Mv ?_)))));refine cC rfl (HV.out _ Ae) ?_;rintro _ av ⟨⟨⟩,Z⟩;have aw:=Z.size;revert L G X;refine eE Z ?_;intro L G X;clear Z;refine C1 Px (C1 Px (C1 Pa (C1 Pa (cT (AN (AH (Ao (Be rfl rfl rfl ?_))))))));rotate_left;refine Aj (C1 V1 (C1 Pa (cT (Vf (cS (Cd [_,_,_,_] Ad rfl rfl rfl L rfl rfl rfl (C1 Mv ?_)))))));refine cC rfl (HV.out _ Ae) ?_;rintro _ ax ⟨⟨⟩,aa⟩;have ay:=aa.size;revert L G X;refine eE aa ?_;intro L G X;clear aa
    refine C1 Px (C1 Px (C1 Pa (C1 Pa (cT (AN (AH (Ao (Be rfl rfl rfl ?_))))))));rotate_left
   all_goals exact ⟨rfl,X⟩
  | item hn F=>
   rename_i s x
   rw [RG];simp only [fF,Aq] at hN;have HV:=bU (PV hf HL (n:=0) s (ih x Ab F) S a c);clear HL ih
   generalize KP (at_ s) (AT at_ x)=r at *
   have U:rowSits S w [x] a:=U
   change Calls prog 178 #[.agg #[.int .u8 3,.int .i64 0,str s,.slice a 1 c],.func (.func f) fi.toArray #[]] w _
   refine Ac func178 ntmps178 rfl rfl ?_
   refine cS ?_;refine eB [_,_,_,_] ?_;intro ba bb ac ae bc bd;revert G X;refine eE ae ?_;intro G X;clear U;replace U:=Bk.rowSits.ext U ae;clear ae;refine C1 Pa (C1 Pa (cT (Ai (cS (C1 Pg (C1 (Pl ac) (cT (Av (cS (C1 V1 (C1 Pa ?_)))))))))));refine cT (Np (Ai (cS (C1 V1 (C1 Pa (cT (Np (cS (C1 V1 (C1 Pa (cT ?_)))))))))));refine Ve (Am (Ag (Ve (cS (Cd [_,_,_,_] Ad rfl rfl rfl ac rfl rfl rfl (C1 Mv ?_))))));refine cC rfl (HV.out _ Ae Ae) ?_;rintro _ be ⟨⟨⟩,af⟩;have az:=af.size;revert ac G X U;refine eE af ?_;intro ac G X U;clear af;refine C1 Px (C1 Px (C1 Pa (C1 Pa (cT (AN (AH (Ao (Be rfl rfl rfl ?_))))))))
   exact ⟨rfl,X⟩
  | un hk F=>
   rename_i k x
   rw [Vw hk];simp only [fF,Aq] at hN;have HX:=ih x Ab F
   unfold Zf at HX
   replace HX:=bU HX;obtain ⟨kb,ko,xa,xc,rfl,-,V,F⟩:=Vx U;replace F:=BZ _ _ F;clear HL ih U
   generalize AT at_ x=r at *
   change Calls prog 178 #[.agg #[.int .u8 k,.int .i64 0,str [],.slice (some ⟨kb,ko,none⟩) 1 c],.func (.func f) fi.toArray #[]] w _
   refine Ac func178 ntmps178 rfl rfl ?_
   focus
    refine cS ?_;refine eB [_,_,_,_] ?_;intro bf bg Y ak bh bi;revert G X V F;refine eE ak ?_;intro G X V F;clear ak;refine C1 Pa (C1 Pa (cT (Ai (cS (C1 Pg (C1 (Pl Y) (cT (Av (cS (C1 V1 (C1 Pa ?_)))))))))));refine cT (Ds (Ai (cS (C1 V1 (C1 Pa (cT (Ds (cS (C1 V1 (C1 Pa (cT ?_)))))))))));refine Ds (cS (C1 V1 (C1 Pa (cT (Ds (Aj (C1 V1 (C1 Pa (cT (Ds (Am ?_)))))))))));refine Af (Ag (cS (C1 Pf (C1 (Pl Y) (C1 Pi (Ce [_,_,_,_] Ad rfl rfl rfl V rfl rfl rfl (C1 Mv ?_)))))));refine cC rfl (HX.out _ _ _ _ Ae Ae) ?_;rintro _ bj ⟨⟨⟩,ag⟩;have a0:=ag.size;revert Y G X V F;refine eE ag ?_;intro Y G X V F;clear ag;refine C1 Mv (C1 Px (C1 Px (C1 Pa (C1 Pa (cT (Ai (cS (C1 Mv (C1 V2 (cT ?_))))))))));refine BU rfl (fun al=>?_) (fun al=>?_);refine cS (C1 Mv (C1 Pa (C1 Pa (cT (AN (Ao (Be rfl rfl rfl ?_)))))));rotate_left;refine Am (Ag (Ai (cS (C1 Pf (C1 (Pl Y) (C1 Pz (C1 V1 (cT (Ve (cS (C1 Pg ?_)))))))))));refine C1 (Pl Y) (C1 Mv (cC rfl (Ot _ _ _) ?_));rintro _ a1 ⟨⟨⟩,rfl⟩;refine C1 Px (C1 Px (C1 Pa (C1 Pa (cT (AN (Ao (Be rfl rfl rfl ?_)))))));rotate_left
   . exact ⟨by rw [AG Ab],X⟩
   . exact ⟨by rw [As Ab],X⟩
  | bin hk F hy=>
   rename_i k x y
   rw [T7 hk];simp only [fF,Aq] at hN;have HX:=ih x Ab F;have HY:=ih y Ab hy
   unfold Zf at HX HY
   replace HX:=bU HX;replace HY:=bU HY;obtain ⟨kb,ko,xa,xc,ya,yc,rfl,-,V,F,O,hy⟩:=Ze U;replace F:=BZ _ _ F;replace hy:=BZ _ _ hy;clear HL ih U
   generalize AT at_ x=r at *
   generalize AT at_ y=r' at *
   change Calls prog 178 #[.agg #[.int .u8 k,.int .i64 0,str [],.slice (some ⟨kb,ko,none⟩) 2 c],.func (.func f) fi.toArray #[]] w _
   refine Ac func178 ntmps178 rfl rfl ?_
   focus
    refine cS ?_;refine eB [_,_,_,_] ?_;intro bk bl M am bm bn;revert G X V O F hy;refine eE am ?_;intro G X V O F hy;clear am;refine C1 Pa (C1 Pa (cT (Ai (cS (C1 Pg (C1 (Pl M) (cT (Av (cS (C1 V1 (C1 Pa ?_)))))))))));refine cT (Ds (Ai (cS (C1 V1 (C1 Pa (cT (Ds (cS (C1 V1 (C1 Pa (cT ?_)))))))))));refine Ds (cS (C1 V1 (C1 Pa (cT (Ds (Aj (C1 V1 (C1 Pa (cT (Ds (Am ?_)))))))))));refine Af (Ag (cS (C1 Pf (C1 (Pl M) (C1 Pi (Ce [_,_,_,_] Ad rfl rfl rfl V rfl rfl rfl (C1 Mv ?_)))))));refine cC rfl (HX.out _ _ _ _ Ae Ae) ?_;rintro _ bo ⟨⟨⟩,ah⟩;have a2:=ah.size;revert M G X V O F hy;refine eE ah ?_;intro M G X V O F hy;clear ah;refine C1 Mv (C1 Px (C1 Px (C1 Pa (C1 Pa (cT (Ai (cS (C1 Mv (C1 V2 (cT ?_))))))))));refine BU rfl (fun an=>?_) (fun an=>?_);refine cS (C1 Mv (C1 Pa (C1 Pa (cT (AN (Ao (Be rfl rfl rfl ?_)))))));rotate_left;refine Am (Ag (Ai (cS (C1 Pf (C1 (Pl M) (C1 Pz (C1 V1 (cT (Np (Am (Ag ?_)))))))))));refine cS (C1 Pf (C1 (Pl M) (C1 Pi (C1 (W7 O) (C1 Mv ?_)))));refine cC rfl (HY.out _ _ _ _ Ae Ae) ?_;rintro _ a3 ⟨⟨⟩,ab⟩;have a4:=ab.size;revert M G X V O F hy;refine eE ab ?_;intro M G X V O F hy;clear ab;refine C1 Mv (C1 Px (C1 Px (C1 Pa (C1 Pa (cT (Ai (cS (C1 Mv (C1 V2 (cT ?_))))))))));refine BU rfl (fun ao=>?_) (fun ao=>?_)
    refine cS (C1 Mv (C1 Pa (C1 Pa (cT (AN (Ao (Be rfl rfl rfl ?_)))))));rotate_left;refine Am (Ag (cS (C1 Pg (C1 (Pl M) (C1 Mv (C1 Mv (cC rfl (SI _ _ _ _) ?_)))))));rintro _ a5 ⟨⟨⟩,rfl⟩;refine C1 Px (C1 Px (C1 Pa (C1 Pa (cT (AN (Be rfl rfl rfl ?_))))));rotate_left
   . exact ⟨by rw [AG Ab],X⟩
   . exact ⟨by rw [As Ab,AG Ab],X⟩
   . exact ⟨by rw [As Ab,As Ab],X⟩
def OwnI (w:wD) (B:Nat) (v:Value) (xs:List Int):Prop:=Own w B 3 1 v xs.length (ints xs)
def OwnI.ext {w w':wD} {B:Nat} {v:Value} {xs:List Int} (h:OwnI w B v xs) (x:Ext w w'):OwnI w' B v xs:=Own.ext h x
instance {w w':wD} {B:Nat} {v:Value} {xs:List Int}:LfE w w' (OwnI w B v xs) (OwnI w' B v xs):=⟨fun x h=>Bk.OwnI.ext h x⟩
def OwnI.fr {S:nP} {w w':wD} {B:Nat} {v:Value} {xs:List Int} (h:OwnI w B v xs) (x:Fr S w w') (F : ∀k,v.ownBlock=some k -> ¬S k):OwnI w' B v xs:=Own.fr h x F
instance {S:nP} {w w':wD} {B:Nat} {v:Value} {xs:List Int}:LfF S w w' (OwnI w B v xs) (∀k,v.ownBlock=some k -> ¬S k) (OwnI w' B v xs):=⟨fun x s h=>Bk.OwnI.fr h x s⟩
def OwnI.open {w:wD} {B:Nat} {v:Value} {xs:List Int} (h:OwnI w B v xs):(v = .slice none 0 0/\xs=[]) \/ ∃g cap zs,v = .slice (some ⟨g,0,none⟩) xs.length cap/\B<=g/\TB w g (ints xs++zs) 3/\xs.length+zs.length=cap/\cap<=maxLen:=by
 obtain ⟨-,⟨F,G⟩|⟨g,cap,cur,F,G,L,O,M,U,N⟩⟩:=h
 . exact bW ⟨F,List.length_eq_zero_iff.1 G⟩
 . refine bX ⟨g,cap,cur.toList.drop xs.length,F,G,?_,?_,M⟩
   . unfold TB;rw [L,<-N,Nat.mul_one,List.take_append_drop]
   . simp only [List.length_drop,Array.length_toList];omega
def OwnI.mk {w:wD} {B g:Nat} {xs:List Int} {zs:lV} (F:B<=g) (h:TB w g (ints xs++zs) 3) (G:xs.length+zs.length<=maxLen):OwnI w B (.slice (some ⟨g,0,none⟩) xs.length (xs.length+zs.length)) xs:=by
 refine ⟨by simp [ints],bX ⟨g,_,(ints xs++zs).toArray,rfl,F,h,Ab,G,by simp [ints],?_⟩⟩;have e:xs.length*1=(ints xs).length:=by simp [ints]
 rw [e];simp
def OwnI.nil {w:wD} {B:Nat}:OwnI w B (.slice none 0 0) []:=Own.nil
def OwnI.shape {w:wD} {B:Nat} {v:Value} {xs:List Int} (h:OwnI w B v xs) : ∃a c,v = .slice a xs.length c:=by
 rcases h.open with ⟨F,G⟩|⟨g,cap,zs,F,-⟩
 . exact ⟨none,0,by rw [F,G];rfl⟩
 . exact ⟨_,_,F⟩
def OwnI.at {w:wD} {B:Nat} {a:oA} {n c:Nat} {xs:List Int} (h:OwnI w B (.slice a n c) xs):IntsAt w xs a:=by
 rcases h.open with ⟨F,N⟩|⟨g,cap,zs,F,-,O,-⟩
 . exact bW (by rw [N];rfl)
 . simp only [dI] at F;obtain ⟨rfl,-⟩:=F;refine bX ⟨g,0,rfl,trivial,fun i v G=>?_⟩;have L:i<(ints xs).length:=by
    rcases cO i (ints xs).length with M|M
    . exact M
    . rw [cI M] at G;cases G
   exact O.blk.row i v (by rw [cK L];exact G)
def OwnI.low {w:wD} {B F:Nat} {v:Value} {xs:List Int} (h:OwnI w B v xs) (G : ∀k,v.ownBlock=some k->F<=k):OwnI w F v xs:=by
 obtain ⟨k1,L|⟨g,cap,cur,rfl,N,M⟩⟩:=h
 . exact ⟨k1,bW L⟩
 . exact ⟨k1,bX ⟨g,cap,cur,rfl,G g rfl,M⟩⟩
def OwnI.lt {w:wD} {B:Nat} {v:Value} {xs:List Int} (h:OwnI w B v xs) {k:Nat} (F:v.ownBlock=some k):B<=k/\k<w.heap.size:=Own.blk h F
def T8 (w:wD) (q:Nat):Ext w (w.drewN q):=by
 induction q with
 | zero=>exact eU w
 | succ q h=>exact h.drew
def NA (w:wD) (q:Nat):Ext w (Sort.ahead w q):=by
 induction q with
 | zero=>exact eU w
 | succ q h=>exact h.drew
def Eu {e:TypeId} {b:Nat} : ∀(us pre F post:lV) (w:wD),us.length=F.length->TB w b (pre++F++post) e->TB (w.setCells b pre.length us) b (pre++us++post) e
 | [],pre,F,post,w,G,h=>by
  obtain rfl:F=[]:=List.length_eq_zero_iff.1 G.symm;exact h
 | u::us,pre,[],post,w,G,h=>by simp at G
 | u::us,pre,m::F,post,w,G,h=>by
  have L:=TB.set (i:=pre.length) h u;have N:(pre++m::F++post).set pre.length u=(pre++[u])++F++post:=by simp
  rw [N] at L;have M:=Eu us (pre++[u]) F post _ (by simpa using G) L;rw [show pre++u::us++post=(pre++[u])++us++post by simp];rw [cP,List.length_singleton] at M;exact M
def Ev (b:Nat) : ∀(us:lV) (o:Nat) (w:wD),Fr (· = b) w (w.setCells b o us)
 | [],o,w=>fC _ w
 | u::us,o,w=>(Fr.setCell (S:=(· = b)) (fC _ w) ⟨b,o,none⟩ u (bW rfl)).trans (Ev b us (o+1) _)
def T9 {w:wD} {b n:Nat} {zs:lV} {e:TypeId} {xs ys:List Int} (h:TB w b (ints xs++zs) e) (L:ys.length=xs.length):TB (Sort.putRow (dM .i64) w b 0 ys.toArray) b (ints ys++zs) e/\Fr (· = b) w (Sort.putRow (dM .i64) w b 0 ys.toArray):=by
 refine ⟨?_,?_⟩
 . unfold TB at h ⊢;unfold Sort.putRow Sort.mapBlock;simp only [Array.getElem?_modify,if_true,h,Option.map_some];unfold Sort.onCells;simp only [cE,Obj.cells.injEq,and_true];apply Array.ext';simp only [Sort.putCells,Array.toList_mapIdx];apply List.ext_getElem?;intro i;simp only [List.getElem?_mapIdx,cQ,true_and,eJ,List.size_toArray,Nat.sub_zero];by_cases G:i<ys.length
   . have F:i<xs.length:=by omega
     rw [cK (by simpa [ints] using F),cK (by simpa [ints] using G)];simp [ints,dZ,bT G,bT F,G]
   . rw [cW (by simp [ints];omega),cW (by simp [ints];omega)];simp only [ints,List.length_map,L];cases zs[i-xs.length]? with
     | none=>rfl
     | some v=>rw [Option.map_some,As Ab]
 . refine ⟨rfl,rfl,rfl,by simp [Sort.putRow,Sort.mapBlock],fun k N M=>?_⟩;unfold Sort.putRow Sort.mapBlock;simp only [Array.getElem?_modify];rw [As (fun e=>M e.symm)]
def CloneR (xs:List Int) (w:wD):Ending->wD->Prop:=fun e w'=> ∃a c,e = .returned (.slice a xs.length c)/\OwnI w' w.heap.size (.slice a xs.length c) xs/\(∀k,(cY a xs.length c).ownBlock=some k->w.heap.size<=k/\k<w'.heap.size)/\Ext w w'
def CloneR.ret {xs:List Int} {w:wD} {e:Ending} {w':wD} (h:CloneR xs w e w') : ∃v,e = .returned v:=by
 obtain ⟨_,_,h,-⟩:=h;exact ⟨_,h⟩
def FY (xs:List Int) (Z:xs.length<=1000000) (a:oA) (c:Nat) (w:wD) (h:IntsAt w xs a):Calls prog 27 #[.slice a xs.length c] w (CloneR xs w):=by
 have key : ∀(v:Value) (w':wD),w'.ownsRow w.heap.size 3 1 v xs.length (ints xs)->Ext w w'->CloneR xs w (.returned v) w':=fun v w' F G=>by
  have F:OwnI w' w.heap.size v xs:=F;obtain ⟨N,O,rfl⟩:=F.shape;exact ⟨N,O,rfl,F,fun k U=>F.lt U,G⟩
 cases a with
 | none=>
  obtain rfl:xs=[]:=by
   rcases h with h|⟨b,o,h,-⟩
   . simpa [ints] using h
   . cases h
  have L:=Any.slices_Clone_int_nil Tryz.lays2n15 0 c w;refine dY L ?_;rintro e w' ⟨rfl,rfl⟩;exact key _ _ Own.nil (eU _)
 | some p=>
  by_cases M:xs=[]
  . subst M;have L:=Any.slices_Clone_int_zero Tryz.lays2n15 p c w;refine dY L ?_;rintro e w' ⟨v,rfl,F,-,G⟩;exact key _ _ F G
  . obtain ⟨b,o,V,X⟩:=h.get M;cases V;have L:=Any.slices_Clone_int Tryz.lays2n15 b o xs.length c xs w (cH _) Ab (fun j Y=>by
     have:=X.at (i:=j) (v:=.int .i64 (xs.getD j 0)) (by simp [ints,dZ,bT Y,cB]);exact this)
    refine dY L ?_;rintro e w' ⟨v,rfl,F,-,G⟩;rw [dB] at F;exact key _ _ F G
def PutR (v:Value) (ys:List Int) (B:Nat) (w:wD):Ending->wD->Prop:=fun e w'=> ∃a c,e = .returned (.slice a ys.length c)/\OwnI w' B (.slice a ys.length c) ys/\(∀k,(cY a ys.length c).ownBlock=some k->v.ownBlock=some k\/w.heap.size<=k)/\Fr (fun k=>v.ownBlock=some k) w w'
def PutR.ret {v:Value} {ys:List Int} {B:Nat} {w:wD} {e:Ending} {w':wD} (h:PutR v ys B w e w') : ∃u,e = .returned u:=by
 obtain ⟨_,_,h,-⟩:=h;exact ⟨_,h⟩
def LS {w:wD} {g:Nat} {vs:lV} {e:TypeId} (h:TB w g vs e):Row w ⟨g,0,none⟩ vs:=h.blk.row
def PX (xs:List Int) : ∀v∈ints xs,v.oneCell'=true:=fun v h=>by
 obtain ⟨x,-,rfl⟩:=List.mem_map.1 h;rfl
def Ia (xs ys:List Int):ints (xs++ys)=ints xs++ints ys:=by simp [ints]
def FZ:maxLen=9223372036854775807:=rfl
def LT (xs:List Int) (hx:xs.length<=1000000) (B:Nat) (v:Value) (x:Int) (O:Nat) (w:wD) (hB:B<=w.heap.size) (h:OwnI w B v xs) (hv:Row w ⟨O,0,none⟩ [.int .i64 x]) :
 Calls prog 199 #[v,.int .i64 xs.length,.slice (some ⟨O,0,none⟩) 1 1] w (PutR v (xs++[x]) B w):=by
 have X : ∀(j:Nat) (u:Value),[dM .i64 x][j]? = some u->w.cell? ⟨O,0+j,none⟩=some u:=fun j u G=>by
  have:=hv.at (i:=j) G;simpa using this
 have grow : ∀(a:oA) (c:Nat),v = .slice a xs.length c->c<xs.length+1->xs.length<=c->(a=none->xs.length=0)->(∀q,a=some q -> ∀(j:Nat) (u:Value),(ints xs)[j]? = some u->w.cell? (q.add j)=some u) ->
  Calls prog 199 #[v,.int .i64 xs.length,.slice (some ⟨O,0,none⟩) 1 1] w (PutR v (xs++[x]) B w):=fun a c ab h1 h2 U Y=>by
  subst ab;have hc:=Any2.slices_Insert_int_end_grow Tryz.lays2n21 a xs.length c O 0 1 1 (ints xs) [.int .i64 x] w AY h2 h1 Ab (by simp [ints]) rfl U Y X (by simp [Value.oneCell']);refine dY hc ?_;rintro e w' ⟨rfl,rfl⟩;change PutR _ _ _ _ (.returned (.slice (some ⟨w.heap.size,0,none⟩) (xs.length+1) (grownCap w (xs.length+1) c 3))) (w.drew.alloc (.cells ((ints xs++[dM .i64 x]).toArray++dR (dM .i64 0).cells (grownCap w (xs.length+1) c 3-(xs.length+1))) 3));have g1:=grownCap_ge w (xs.length+1) c 3;have g2:=grownCap_le_maxLen w (xs.length+1) c 3 (by rw [FZ];omega);generalize grownCap w (xs.length+1) c 3=F at *;have ez:(dR (dM .i64 0).cells (F-(xs.length+1))).toList.length=F-(xs.length+1):=by
   rw [Array.length_toList,size_zeroCells];show (F-(xs.length+1))*1=_;omega
  have hT:TB (w.drew.alloc (.cells ((ints xs++[dM .i64 x]).toArray++dR (dM .i64 0).cells (F-(xs.length+1))) 3)) w.heap.size (ints (xs++[x])++(dR (dM .i64 0).cells (F-(xs.length+1))).toList) 3:=by
   have:=Jv w.drew (ints (xs++[x])++(dR (dM .i64 0).cells (F-(xs.length+1))).toList) 3;rw [Ia];rw [Ia] at this;have e1:((ints xs++[dM .i64 x]).toArray++dR (dM .i64 0).cells (F-(xs.length+1)))=(ints xs++ints [x]++(dR (dM .i64 0).cells (F-(xs.length+1))).toList).toArray:=by
    apply Array.ext';simp [ints]
   rw [e1];exact this
  have Z:=OwnI.mk (B:=B) hB hT (by rw [ez,cP,List.length_singleton];omega);have L:(xs++[x]).length=xs.length+1:=by simp
  rw [ez,L,show xs.length+1+(F-(xs.length+1))=F by omega] at Z;refine ⟨some ⟨w.heap.size,0,none⟩,F,by rw [L],by rw [L];exact Z,fun k hk=>?_,.of_ext ((eU w).drew.alloc _)⟩;simp only [eR,cE] at hk;exact bX Ab
 rcases h.open with ⟨rfl,rfl⟩|⟨g,cap,zs,rfl,h2,U,Y,h5⟩
 . exact grow none 0 rfl AR AR (fun _=>rfl) (fun q hq=>by cases hq)
 . have hr : ∀q,some (⟨g,0,none⟩:Addr)=some q -> ∀(j:Nat) (u:Value),(ints xs)[j]? = some u->w.cell? (q.add j)=some u:=fun q hq j u G=>by
    cases hq;have ac:j<(ints xs).length:=by
     rcases cO j (ints xs).length with h'|h'
     . exact h'
     . rw [cI h'] at G;cases G
    exact LS U j u (by rw [cK ac];exact G)
   by_cases hc:cap<xs.length+1
   . exact grow _ cap rfl hc Ab (fun h=>by cases h) hr
   . obtain ⟨z,V,rfl⟩ : ∃z V,zs=z::V:=by
      cases zs with
      | nil=>simp at Y;omega
      | cons z V=>exact ⟨z,V,rfl⟩
     have M:w.cell? ⟨g,0+xs.length,none⟩=some z:=(LS U).at (i:=xs.length) (by rw [cW (by simp [ints])];simp [ints]);have ad : ∀j,j<1->(w.cell? ⟨g,0+xs.length+j,none⟩).isSome=true:=fun j G=>by
      obtain rfl:j=0:=by omega
      rw [Nat.add_zero,M];rfl
     have N:xs.length+1<=cap:=by omega
     have aa:cap<=9223372036854775807:=by rw [FZ] at h5;exact h5
     have ae : ∀j,j<1->w.frozen? ⟨g,0+xs.length+j,none⟩=false:=fun j G=>U.blk.free
     have af:=Any2.slices_Insert_int_end_room Tryz.lays2n21 g 0 xs.length cap O 0 1 1 [.int .i64 x] w AY N aa rfl ad ae X (by simp [Value.oneCell']);refine dY af ?_;rintro e w' ⟨rfl,rfl⟩;have e0:0+xs.length=(ints xs).length:=by simp [ints]
     rw [e0];have hT:=Eu [.int .i64 x] (ints xs) [z] V w rfl (by simpa using U);have hF:=Ev g [.int .i64 x] (ints xs).length w;rw [show ints xs++[dM .i64 x]=ints (xs++[x]) by simp [ints]] at hT;have Z:=OwnI.mk (B:=B) h2 hT (by simp at Y ⊢;omega);have L:(xs++[x]).length=xs.length+1:=by simp
     rw [L,show xs.length+1+V.length=cap by simp at Y;omega] at Z;exact ⟨some ⟨g,0,none⟩,cap,by rw [L],by rw [L];exact Z,fun k hk=>bW hk,hF.weaken fun b hb=>by subst hb;rfl⟩
def OA {w:wD} {g:Nat} {vs:lV} {e:TypeId} (h:TB w g vs e):TB w.drew g vs e:=h.ext (eU w).drew
def NB {w:wD} {b:Nat} {vs:lV} (h:Blk w b vs):(∃t,w.shape? b=some (t,vs.length)) /\ ∀o,w.frozen? ⟨b,o,none⟩=false:=by
 obtain ⟨ty,h⟩:=h;refine ⟨⟨ty,by unfold World.shape?;rw [h];simp⟩,fun o=>?_⟩;unfold World.frozen?;rw [h];simp
def PY (n:Nat):(dR (dM .i64 0).cells n).toList.length=n:=by
 rw [Array.length_toList,size_zeroCells];show n*1=_;omega
def RH (xs:List Int) (hx:xs.length<=1000000) (V:xs≠[]) (B:Nat) (v:Value) (x:Int) (O:Nat) (w:wD) (hB:B<=w.heap.size) (h:OwnI w B v xs) (hv:Blk w O [.int .i64 x]) (ac:v.ownBlock≠some O) :
 Calls prog 199 #[v,.int .i64 0,.slice (some ⟨O,0,none⟩) 1 1] w (PutR v (x::xs) B w):=by
 have X : ∀(j:Nat) (u:Value),[dM .i64 x][j]? = some u->w.cell? ⟨O,0+j,none⟩=some u:=fun j u U=>by
  have:=hv.row.at (i:=j) U;simpa using this
 have hn:0<xs.length:=by
  cases xs with
  | nil=>exact absurd rfl V
  | cons y ys=>simp
 have Y : ∀u∈[dM .i64 x],u.oneCell'=true:=by simp [Value.oneCell']
 have M:(x::xs).length=xs.length+1:=by simp
 rcases h.open with ⟨rfl,rfl⟩|⟨g,cap,zs,rfl,h2,h3,h4,h5⟩
 . exact absurd rfl V
 have aa : ∀(j:Nat) (u:Value),(ints xs)[j]? = some u->w.cell? ⟨g,0+j,none⟩=some u:=fun j u U=>by
  have ad:j<(ints xs).length:=by
   rcases cO j (ints xs).length with h'|h'
   . exact h'
   . rw [cI h'] at U;cases U
  exact (LS h3).at (i:=j) (by rw [cK ad];exact U)
 by_cases hc:cap<xs.length+1
 . have N:=Any2.slices_Insert_int_grow Tryz.lays2n21 g 0 xs.length cap 0 O 0 1 1 (ints xs) [.int .i64 x] w hn AY Ab hc Ab (by simp [ints]) rfl aa X (PX xs) Y;refine dY N ?_;rintro e w' ⟨rfl,rfl⟩;change PutR _ _ _ _ (.returned (.slice (some ⟨w.heap.size,0,none⟩) (xs.length+1) (grownCap w (xs.length+1) cap 3))) ((((w.alloc (.cells (((ints xs).take 0).toArray++dR (dM .i64 0).cells (xs.length+1-0)++dR (dM .i64 0).cells (grownCap w (xs.length+1) cap 3-(xs.length+1))) 3)).drew.setCells w.heap.size 0 [dM .i64 x]).drew).setCells w.heap.size (0+1) ((ints xs).drop 0));have g1:=grownCap_ge w (xs.length+1) cap 3;have g2:=grownCap_le_maxLen w (xs.length+1) cap 3 (by rw [FZ];omega);generalize grownCap w (xs.length+1) cap 3=L at *;have z1:=PY (xs.length+1-0);have z2:=PY (L-(xs.length+1));have ae:=Jv w ((dR (dM .i64 0).cells (xs.length+1-0)).toList++(dR (dM .i64 0).cells (L-(xs.length+1))).toList) 3;have ea:(((ints xs).take 0).toArray++dR (dM .i64 0).cells (xs.length+1-0)++dR (dM .i64 0).cells (L-(xs.length+1)))=((dR (dM .i64 0).cells (xs.length+1-0)).toList++(dR (dM .i64 0).cells (L-(xs.length+1))).toList).toArray:=by
    apply Array.ext';simp
   rw [ea];generalize (dR (dM .i64 0).cells (xs.length+1-0)).toList=Z1 at *;generalize (dR (dM .i64 0).cells (L-(xs.length+1))).toList=Z2 at *;obtain ⟨z,Z,rfl⟩ : ∃z Z,Z1=z::Z:=by
    cases Z1 with
    | nil=>simp at z1
    | cons z Z=>exact ⟨z,Z,rfl⟩
   have t1:=Eu [.int .i64 x] [] [z] (Z++Z2) _ rfl (OA (by simpa using ae));have t2:=Eu (ints xs) [.int .i64 x] Z Z2 _ (by simp [ints] at z1 ⊢;omega) (OA (by simpa using t1));rw [show [dM .i64 x]++ints xs=ints (x::xs) by simp [ints]] at t2;have hO:=OwnI.mk (B:=B) hB t2 (by rw [z2,M];omega);rw [z2,M,show xs.length+1+(L-(xs.length+1))=L by omega] at hO;have hw:w.heap.size<(w.alloc (.cells (z::Z++Z2).toArray 3)).heap.size:=by
    show w.heap.size<(w.heap.push _).size;simp
   have hF:Fr (fun k=>k=w.heap.size) w ((((w.alloc (.cells (z::Z++Z2).toArray 3)).drew.setCells w.heap.size 0 [dM .i64 x]).drew).setCells w.heap.size (0+1) (ints xs)):=
    (fE ((eU w).alloc _).drew).trans ((Ev _ _ _ _).trans ((fE (eU _).drew).trans (Ev _ _ _ _)))
   refine ⟨some ⟨w.heap.size,0,none⟩,L,by rw [M],by rw [M];exact hO,fun k hk=>?_,?_⟩
   . simp only [eR,cE] at hk;exact bX Ab
   . have hE:=(eU w).fr hF (fun k hk=>by omega);exact .of_ext hE
 . obtain ⟨z,G,rfl⟩ : ∃z G,zs=z::G:=by
    cases zs with
    | nil=>simp at h4;omega
    | cons z G=>exact ⟨z,G,rfl⟩
   obtain ⟨⟨tA,af⟩,ab⟩:=NB hv;obtain ⟨⟨tB,ag⟩,ah⟩:=NB h3.blk;have ai : ∀j,j<xs.length+1->(w.cell? ⟨g,0+j,none⟩).isSome=true:=fun j U=>by
    have hl:j<(ints xs++z::G).length:=by simp [ints];omega
    rw [(LS h3).at (i:=j) (bT hl)];rfl
   have ak:cap≠0:=by omega
   have N:=Any2.slices_Insert_int_shift Tryz.lays2n21 g 0 xs.length cap 0 O 0 1 1 (ints xs) [.int .i64 x] w hn AY Ab (by rw [FZ] at h5;exact h5) (fun e=>ac (by rw [e];rfl)) (by simp [ints]) rfl aa ai (fun j _=>ah _) X (PX xs) Y
    tA tB 1 (ints xs++z::G).length af ag AR (ab _) (ab _)
   refine dY N ?_;rintro e w' ⟨rfl,rfl⟩;change PutR _ _ _ _ (.returned (.slice (some ⟨g,0,none⟩) (xs.length+1) cap)) ((w.drew.setCells g 1 (ints xs)).setCells g 0 [dM .i64 x]);obtain ⟨a,F,hm,aj⟩ : ∃a F,ints xs++[z]=a::F/\F.length=(ints xs).length:=by
    cases hq:ints xs++[z] with
    | nil=>simp at hq
    | cons a F=>
     refine ⟨a,F,rfl,?_⟩;have h8:=congrArg List.length hq;rw [cP,List.length_singleton,cF] at h8;omega
   have t0:TB w.drew g ([a]++F++G) 3:=by
    have:=OA h3;rw [show ints xs++z::G=(ints xs++[z])++G by simp,hm] at this;simpa using this
   have t1:=Eu (ints xs) [a] F G _ aj.symm t0;have t2:=Eu [.int .i64 x] [] [a] (ints xs++G) _ rfl (by simpa using t1);rw [show []++[dM .i64 x]++(ints xs++G)=ints (x::xs)++G by simp [ints]] at t2;have hO:=OwnI.mk (B:=B) h2 t2 (by simp at h4 ⊢;omega);rw [M,show xs.length+1+G.length=cap by simp at h4;omega] at hO;have hF:Fr (fun k=>k=g) w ((w.drew.setCells g 1 (ints xs)).setCells g 0 [dM .i64 x]):=(fE (eU w).drew).trans ((Ev _ _ _ _).trans (Ev _ _ _ _));exact ⟨some ⟨g,0,none⟩,cap,by rw [M],by rw [M];exact hO,fun k hk=>bW hk,hF.weaken fun b hb=>by subst hb;rfl⟩
def NC (xs:List Int) (hx:xs.length<=1000000) (i:Nat) (G:i<xs.length) (B:Nat) (v:Value) (w:wD) (h:OwnI w B v xs) :
 Calls prog 198 #[v,.int .i64 i,.int .i64 ((i:Int)+1)] w (PutR v (xs.eraseIdx i) B w):=by
 rcases h.open with ⟨rfl,rfl⟩|⟨g,cap,zs,rfl,V,L,h4,N⟩
 . simp at G
 have X:Sort.Holds (dM .i64) w g 0 xs.toArray:=fun j F=>by
  have F:j<xs.length:=by simpa using F
  refine ⟨?_,L.blk.free⟩;have:=(LS L).at (i:=j) (v:=.int .i64 xs[j]) (by rw [cK (by simpa [ints] using F)];simp [ints,bT F]);rw [this];simp [F]
 have M:=Any.slices_Delete_int Tryz.lays2n23 g 0 cap i (i+1) xs w X Ab (by rw [FZ] at N;exact N) Ab Ab;refine dY M ?_;rintro e w' ⟨rfl,q,rfl⟩;have Y:xs.take i++xs.drop (i+1)++dJ (i+1-i) 0=xs.eraseIdx i++[0]:=by
  rw [show i+1-i=1 by omega,List.eraseIdx_eq_take_drop_succ];simp
 rw [Y];have Z:(xs.eraseIdx i++[0]).length=xs.length:=by
  rw [cP,List.length_eraseIdx_of_lt G,List.length_singleton];omega
 obtain ⟨O,f1⟩:=T9 (n:=0) (L.ext (NA w q)) Z;rw [Ia,dP] at O;have e2:(xs.eraseIdx i).length=xs.length-(i+1-i):=by rw [List.length_eraseIdx_of_lt G];omega
 have U:=OwnI.mk (B:=B) V O (by simp [ints];omega);have e3:(xs.eraseIdx i).length+(ints [0]++zs).length=cap:=by simp [ints];omega
 rw [e3] at U;refine ⟨some ⟨g,0,none⟩,cap,by rw [e2],U,fun k hk=>bW hk,?_⟩;exact ((fE (NA w q)).trans f1).weaken fun b hb=>by subst hb;rfl
def Vy (xs ys:List Int) (hx:xs.length<=1000000) (hy:ys.length<=1000000) (a L:oA) (c M:Nat) (w:wD) (h:IntsAt w xs a) (V:IntsAt w ys L) :
 Calls prog 42 #[.slice a xs.length c,.slice L ys.length M] w fun e w'=>e = .returned (.bool (decide (xs=ys)))/\Ext w w':=by
 by_cases F:xs=[]
 . subst F;have N:=Any.slices_Equal_int_empty Tryz.laysn111 a L c ys.length M w Ab;refine dY N ?_;rintro e w' ⟨rfl,rfl⟩;refine ⟨?_,eU _⟩;cases ys<;>simp
 . by_cases G:ys=[]
   . subst G;have X:=eU w;have hn:(xs.length:Int)≠0:=by
      cases xs with
      | nil=>exact absurd rfl F
      | cons z r=>simp;omega
     have Y:decide (xs=([]:List Int))=false:=decide_eq_false F;rw [Y];refine Ac func42 ntmps42 rfl rfl ?_;refine eK ?_;refine xR ?_;exact ⟨rfl,X⟩
   . obtain ⟨b,o,rfl,Z⟩:=h.get F;obtain ⟨b',o',rfl,O⟩:=V.get G;have N:=Any.slices_Equal_int Tryz.laysn111 b o xs.length c b' o' ys.length M xs ys w (cH _) (cH _) Ab Ab (fun j U=>Z.at (i:=j) (v:=.int .i64 (xs.getD j 0)) (by simp [ints,dZ,bT U,cB]))
      (fun j U=>O.at (i:=j) (v:=.int .i64 (ys.getD j 0)) (by simp [ints,dZ,bT U,cB]))
     refine dY N ?_;rintro e w' ⟨rfl,q,rfl⟩;rw [dB,dB];exact ⟨by rw [Jr],T8 w q⟩
inductive Rl where
 | none|cell (i:Nat)|items (i:Nat)|vars (j:Nat)|cels (j:Nat)|calls|store|tape|tin|tout|other (k:Nat)
 deriving DecidableEq
def Ro (ρ ρ':Nat->Rl) (w:wD):Prop:= ∀b,b<w.heap.size->ρ' b=ρ b
def Ro.refl (ρ:Nat->Rl) (w:wD):Ro ρ ρ w:=fun _ _=>rfl
def Ro.trans {ρ ρ' F:Nat->Rl} {w w':wD} (h:Ro ρ ρ' w) (G:Ro ρ' F w') (M:w.heap.size<=w'.heap.size):Ro ρ F w:=fun b L=>(G b Ab).trans (h b L)
def OwnR (ρ:Nat->Rl) (r:Rl) (w:wD) (v:Value) (xs:List Int):Prop:=OwnI w 0 v xs /\ ∀k,v.ownBlock=some k->ρ k=r
def OwnR.ext {ρ:Nat->Rl} {r:Rl} {w w':wD} {v:Value} {xs:List Int} (h:OwnR ρ r w v xs) (x:Ext w w'):OwnR ρ r w' v xs:=⟨h.1.ext x,h.2⟩
instance {ρ:Nat->Rl} {r:Rl} {w w':wD} {v:Value} {xs:List Int}:LfE w w' (OwnR ρ r w v xs) (OwnR ρ r w' v xs):=⟨fun x h=>Bk.OwnR.ext h x⟩
def OwnR.fr {ρ:Nat->Rl} {r:Rl} {S:nP} {w w':wD} {v:Value} {xs:List Int} (h:OwnR ρ r w v xs) (x:Fr S w w') (F : ∀k,S k->ρ k≠r):OwnR ρ r w' v xs:=
 ⟨h.1.fr x (fun k G L=>F k L (h.2 k G)),h.2⟩
instance {ρ:Nat->Rl} {r:Rl} {S:nP} {w w':wD} {v:Value} {xs:List Int}:LfF S w w' (OwnR ρ r w v xs) (∀k,S k->ρ k≠r) (OwnR ρ r w' v xs):=⟨fun x s h=>Bk.OwnR.fr h x s⟩
def OwnR.ro {ρ ρ':Nat->Rl} {r:Rl} {w w0:wD} {v:Value} {xs:List Int} (h:OwnR ρ r w v xs) (x:Ro ρ ρ' w0) (G:w.heap.size<=w0.heap.size):OwnR ρ' r w v xs:=
 ⟨h.1,fun k F=>by have:=(h.1.lt F).2;rw [x k Ab];exact h.2 k F⟩
def OwnR.ro' {ρ ρ':Nat->Rl} {r:Rl} {w w':wD} {v:Value} {xs:List Int} (h:OwnR ρ r w' v xs) (x:Ro ρ ρ' w) (G : ∀k,v.ownBlock=some k->k<w.heap.size):OwnR ρ' r w' v xs:=
 ⟨h.1,fun k F=>by rw [x k (G k F)];exact h.2 k F⟩
structure TapeAt (ρ:Nat->Rl) (w:wD) (tb:Nat) (ti to:List Int):Prop where
 role:ρ tb = .tape
 blk : ∃vi vo,Blk w tb [vi,vo]/\OwnR ρ .tin w vi ti/\OwnR ρ .tout w vo to
 li:ti.length<=4096
 lo:to.length<=4096
def TapeAt.ext {ρ:Nat->Rl} {w w':wD} {tb:Nat} {ti to:List Int} (h:TapeAt ρ w tb ti to) (x:Ext w w'):TapeAt ρ w' tb ti to:=by
 obtain ⟨F,G,L,M,N⟩:=h.blk;exact ⟨h.role,⟨F,G,L.ext x,M.ext x,N.ext x⟩,h.li,h.lo⟩
instance {ρ:Nat->Rl} {w w':wD} {tb:Nat} {ti to:List Int}:LfE w w' (TapeAt ρ w tb ti to) (TapeAt ρ w' tb ti to):=⟨fun x h=>Bk.TapeAt.ext h x⟩
def TapeAt.ro {ρ ρ':Nat->Rl} {w w0:wD} {tb:Nat} {ti to:List Int} (h:TapeAt ρ w tb ti to) (x:Ro ρ ρ' w0) (F:w.heap.size<=w0.heap.size):TapeAt ρ' w tb ti to:=by
 obtain ⟨L,M,G,N,O⟩:=h.blk;exact ⟨by rw [x tb (by have:=G.lt;omega)];exact h.role,⟨L,M,G,N.ro x F,O.ro x F⟩,h.li,h.lo⟩
def BP (ρ:Nat->Rl) (b:Nat):Prop:=ρ b = .tape\/ρ b = .tin\/ρ b = .tout
def IY (ρ:Nat->Rl) (w:wD) (r:Rl):Nat->Rl:=fun b=>if b<w.heap.size then ρ b else r
def DB (ρ:Nat->Rl) (w:wD) (r:Rl):Ro ρ (IY ρ w r) w:=fun b h=>by unfold IY;rw [AG h]
def Ua (ρ:Nat->Rl) (w:wD) (r:Rl) {b:Nat} (h:w.heap.size<=b):IY ρ w r b=r:=by unfold IY;rw [As Ab]
def PutR.own {ρ:Nat->Rl} {r:Rl} {v F:Value} {w1 L:wD} {ys:List Int} (h:OwnI L 0 F ys) (M : ∀k,v.ownBlock=some k->ρ k=r/\k<w1.heap.size) (N : ∀k,F.ownBlock=some k->v.ownBlock=some k\/w1.heap.size<=k):OwnR (IY ρ w1 r) r L F ys:=by
 refine ⟨h,fun k O=>?_⟩;rcases N k O with G|G
 . obtain ⟨U,V⟩:=M k G;unfold IY;rw [AG V];exact U
 . exact Ua _ _ _ G
def TapeR (ρ:Nat->Rl) (tb:Nat) (ti to:List Int) (r:Value) (w:wD):Ending->wD->Prop:=fun e w'=> ∃ ρ',e = .returned r/\Ro ρ ρ' w/\TapeAt ρ' w' tb ti to/\Fr (BP ρ) w w'
def TapeR.ret {ρ:Nat->Rl} {tb:Nat} {ti to:List Int} {r:Value} {w:wD} {e:Ending} {w':wD} (h:TapeR ρ tb ti to r w e w') : ∃v,e = .returned v:=by
 obtain ⟨_,h,-⟩:=h;exact ⟨_,h⟩
def Xs (ρ:Nat->Rl) (tb:Nat) (ti to:List Int) (i x:Int) (w:wD) (h:TapeAt ρ w tb ti to) (G:ti.length=4096) :
 Calls prog 193 #[.pointer (some ⟨tb,0,none⟩),.int .i64 i,.int .i64 x] w (TapeR ρ tb ti to (.int .i64 5) w):=by
 obtain ⟨L,M,N,F,O⟩:=h.blk;obtain ⟨a,c,rfl⟩:=F.1.shape;refine Ac func193 ntmps193 rfl rfl ?_;refine eK ?_;refine xR ?_;exact ⟨ρ,rfl,Ro.refl _ _,Ae,fC _ _⟩
def Xt (ρ:Nat->Rl) (tb:Nat) (ti to:List Int) (i x:Int) (w:wD) (h:TapeAt ρ w tb ti to) (G:to.length=4096) :
 Calls prog 193 #[.pointer (some ⟨tb,0+1,none⟩),.int .i64 i,.int .i64 x] w (TapeR ρ tb ti to (.int .i64 5) w):=by
 obtain ⟨L,M,N,O,F⟩:=h.blk;obtain ⟨a,c,rfl⟩:=F.1.shape;refine Ac func193 ntmps193 rfl rfl ?_;refine eK ?_;refine xR ?_;exact ⟨ρ,rfl,Ro.refl _ _,Ae,fC _ _⟩
def Xu (ρ:Nat->Rl) (tb:Nat) (ti to:List Int) (x:Int) (w:wD) (h:TapeAt ρ w tb ti to) (hf:ti.length<4096) :
 Calls prog 193 #[.pointer (some ⟨tb,0,none⟩),.int .i64 0,.int .i64 x] w (TapeR ρ tb (x::ti) to (.int .i64 0) w):=by
 obtain ⟨vi,vo,U,hi,N⟩:=h.blk;have L:=h.role;have ae:=h.lo;have am:=h.li;have af:=U.lt;have ag:=fun k O=>(N.1.lt (k:=k) O).2
 obtain ⟨a,c,rfl⟩:=hi.1.shape;have G:=fun k O=>And.intro (hi.2 k O) (hi.1.lt O).2
 obtain ⟨aa,an⟩:=hi;have F:=fC (BP ρ) w;have V : ∀(X:Nat) (w1:wD),OwnI w1 0 (.slice a ti.length c) ti->Blk w1 X [.int .i64 x]->w.heap.size<=X->Calls prog 199 #[.slice a ti.length c,.int .i64 0,.slice (some ⟨X,0,none⟩) 1 1] w1 (PutR (.slice a ti.length c) (x::ti) 0 w1):=fun X w1 h1 h2 h3=>by
  by_cases ab:ti=[]
  . subst ab;have:=LT [] AR 0 _ x X w1 (cQ _) h1 h2.row;simpa using this
  . exact RH ti Ab ab 0 _ x X w1 (cQ _) h1 h2 (fun e=>by have:=G X e;omega)
 have V:=bU V;have ac : ¬(cY a ti.length c).ownBlock=some tb:=fun e=>by have:=(G _ e).1;rw [L] at this;cases this
 have ah : ∀k,(cY a ti.length c).ownBlock=some k->ρ k≠.tout:=fun k e=>by have:=(G _ e).1;rw [this];exact fun h=>by cases h
 have ai : ∀k,(cY a ti.length c).ownBlock=some k->BP ρ k\/w.heap.size<=k:=fun k e=>bW (bX (bW (G k e).1))
 have aj : ∀k,k=tb->BP ρ k\/w.heap.size<=k:=fun k e=>bW (bW (by rw [e];exact L))
 have ak : ∀k,k=tb->ρ k≠.tout:=fun k e=>by rw [e,L];exact fun h=>by cases h
 clear h;refine Ac func193 ntmps193 rfl rfl ?_;refine eK ?_;refine AC (xS [_]) rfl ?_ aFh;rintro _ w2 ⟨b1,rfl,n3,t4⟩;have h5:=n3.blk;have x6:=n3.ext;have p7:=n3.pos;have z8:=n3.size;revert N U aa F;refine eE x6 ?_;intro N U aa F;refine eQ rfl (V.out _ _ Ae Ae Ab) ?_;rintro _ ao ⟨a9,⟨ap,⟨⟨⟩,⟨Y,⟨ad,M⟩⟩⟩⟩⟩;have aq:=M.size;have N:=OwnR.fr N M (ah);have U:=fB U M (ac);have F:=fJ F M (ai);refine C1 Pn (eV [_] [_,_] U ?_);intro ar al Z au;clear U;have Y:=OwnI.fr Y Z (fun k O e=>by subst e;rcases ad _ O with h|h;exact ac h;omega);have N:=OwnR.fr N Z (ak);have F:=fJ F Z (aj);refine eK ?_;refine xR ?_;exact ⟨IY ρ w .tin,rfl,DB _ _ _,⟨by rw [DB ρ w .tin tb af];exact L,⟨_,_,al,PutR.own Y G (fun k O=>(ad k O).imp id (fun h=>by omega)),N.ro' (DB _ _ _) ag⟩,by simp;omega,ae⟩,F⟩
def Xv (ρ:Nat->Rl) (tb:Nat) (ti to:List Int) (x:Int) (w:wD) (h:TapeAt ρ w tb ti to) (hf:to.length<4096) :
 Calls prog 193 #[.pointer (some ⟨tb,0+1,none⟩),.int .i64 to.length,.int .i64 x] w (TapeR ρ tb ti (to++[x]) (.int .i64 0) w):=by
 obtain ⟨vi,vo,U,N,ho⟩:=h.blk;have G:=h.role;have aj:=h.lo;have ab:=h.li;have ac:=U.lt;have ad:=fun k O=>(N.1.lt (k:=k) O).2
 obtain ⟨a,c,rfl⟩:=ho.1.shape;have L:=fun k O=>And.intro (ho.2 k O) (ho.1.lt O).2
 obtain ⟨Y,ak⟩:=ho;have F:=fC (BP ρ) w;have Z : ¬(cY a to.length c).ownBlock=some tb:=fun e=>by have:=(L _ e).1;rw [G] at this;cases this
 have ae : ∀k,(cY a to.length c).ownBlock=some k->ρ k≠.tin:=fun k e=>by have:=(L _ e).1;rw [this];exact fun h=>by cases h
 have af : ∀k,(cY a to.length c).ownBlock=some k->BP ρ k\/w.heap.size<=k:=fun k e=>bW (bX (bX (L k e).1))
 have ag : ∀k,k=tb->BP ρ k\/w.heap.size<=k:=fun k e=>bW (bW (by rw [e];exact G))
 have ah : ∀k,k=tb->ρ k≠.tin:=fun k e=>by rw [e,G];exact fun h=>by cases h
 clear h;refine Ac func193 ntmps193 rfl rfl ?_;refine eK ?_;refine AC (xS [_]) rfl ?_ aFh;rintro _ w2 ⟨b1,rfl,n3,t4⟩;have h5:=n3.blk;have x6:=n3.ext;have p7:=n3.pos;have z8:=n3.size;revert N U Y F;refine eE x6 ?_;intro N U Y F;refine eQ rfl (LT to Ab 0 _ x _ _ (cQ _) Ae (Blk.row Ae)) ?_;rintro _ al ⟨a9,⟨am,⟨⟨⟩,⟨V,⟨aa,M⟩⟩⟩⟩⟩;have an:=M.size;have N:=OwnR.fr N M (ae);have U:=fB U M (Z);have F:=fJ F M (af);refine C1 Pn (eV [_] [_,_] U ?_);intro ao ai X ap;clear U;have V:=OwnI.fr V X (fun k O e=>by subst e;rcases aa _ O with h|h;exact Z h;omega);have N:=OwnR.fr N X (ah);have F:=fJ F X (ag);refine eK ?_;refine xR ?_;exact ⟨IY ρ w .tout,rfl,DB _ _ _,⟨by rw [DB ρ w .tout tb ac];exact G,⟨_,_,ai,N.ro' (DB _ _ _) ad,PutR.own V L (fun k O=>(aa k O).imp id (fun h=>by omega))⟩,ab,by simp;omega⟩,F⟩
def Xw (ρ:Nat->Rl) (tb:Nat) (to:List Int) (i:Int) (w:wD) (h:TapeAt ρ w tb [] to) :
 Calls prog 192 #[.pointer (some ⟨tb,0,none⟩),.int .i64 i] w (TapeR ρ tb [] to (.tuple #[.int .i64 0,.int .i64 17]) w):=by
 obtain ⟨G,L,M,F,N⟩:=h.blk;obtain ⟨a,c,rfl⟩:=F.1.shape;refine Ac func192 ntmps192 rfl rfl ?_;refine eK ?_;refine xT ?_;exact ⟨ρ,rfl,Ro.refl _ _,Ae,fC _ _⟩
def Xx (ρ:Nat->Rl) (tb:Nat) (ti:List Int) (i:Int) (w:wD) (h:TapeAt ρ w tb ti []) :
 Calls prog 192 #[.pointer (some ⟨tb,0+1,none⟩),.int .i64 i] w (TapeR ρ tb ti [] (.tuple #[.int .i64 0,.int .i64 17]) w):=by
 obtain ⟨G,L,M,N,F⟩:=h.blk;obtain ⟨a,c,rfl⟩:=F.1.shape;refine Ac func192 ntmps192 rfl rfl ?_;refine eK ?_;refine xT ?_;exact ⟨ρ,rfl,Ro.refl _ _,Ae,fC _ _⟩
def Xy (ρ:Nat->Rl) (tb:Nat) (x:Int) (ti to:List Int) (w:World) (h:TapeAt ρ w tb (x::ti) to) :
 Calls prog 192 #[.pointer (some ⟨tb,0,none⟩),.int .i64 0] w (TapeR ρ tb ti to (.tuple #[.int .i64 x,.int .i64 0]) w):=by
 obtain ⟨vi,vo,N,hi,V⟩:=h.blk;have G:=h.role;have aa:=h.lo;have ai:=h.li;have ab:=N.lt
 have ac:=fun k O=>(V.1.lt (k:=k) O).2
 obtain ⟨a,c,rfl⟩:=hi.1.shape
 have L:=fun k O=>And.intro (hi.2 k O) (hi.1.lt O).2
 obtain ⟨X,aj⟩:=hi;have F:=fC (BP ρ) w
 have Y : ¬(cY a (x::ti).length c).ownBlock=some tb:=fun e=>by have:=(L _ e).1;rw [G] at this;cases this
 have ad : ∀k,(cY a (x::ti).length c).ownBlock=some k->ρ k≠.tout:=fun k e=>by have:=(L _ e).1;rw [this];exact fun h=>by cases h
 have ae : ∀k,(cY a (x::ti).length c).ownBlock=some k->BP ρ k\/w.heap.size<=k:=fun k e=>bW (bX (bW (L k e).1))
 have af : ∀k,k=tb->BP ρ k\/w.heap.size<=k:=fun k e=>bW (bW (by rw [e];exact G))
 have ag : ∀k,k=tb->ρ k≠.tout:=fun k e=>by rw [e,G];exact fun h=>by cases h
 have U : ∀(w1:World),OwnI w1 0 (.slice a (x::ti).length c) (x::ti)->Calls prog 198 #[.slice a (x::ti).length c,.int .i64 0,.int .i64 (0+1)] w1 (PutR (.slice a (x::ti).length c) ti 0 w1):=fun w1 h1=>by
  have:=NC (x::ti) Ab 0 AR 0 _ w1 h1
  simpa using this
 replace U:=bU U
 have ak:(x::ti).length=ti.length+1:=by simp
 obtain ⟨gb,go,rfl,hr⟩:=X.at.get AR;have r1:=IntsAt.at hr (i:=0) AR;rw [show (x::ti).getD 0 0=x from rfl] at r1;clear h hr;refine Ac func192 ntmps192 rfl rfl ?_
 refine cS (C1 Pa (C1 Pa (cT (Ai (cS (C1 Mv (C1 Pn (C1 (Pl N) (C1 Pz (C1 V1 (cT ?_)))))))))));refine Ds (Am (Ag (cS (C1 Mv (C1 Pn (C1 (Pl N) (C1 Mv (C1 Pi (C1 (Pw r1) (C1 Pa (cN ?_)))))))))));refine C1 Mv (C1 Mv (C1 Pn (C1 (Pl N) (C1 Mv (C1 Mv (C1 V7 ?_))))));refine eQ rfl (U.out _ Ae) ?_;rintro _ w6 ⟨a1,⟨c2,⟨⟨⟩,⟨h3,⟨h4,Z⟩⟩⟩⟩⟩;have z7:=Z.size;replace V:=OwnR.fr V Z (ad);replace F:=fJ F Z (ae);replace N:=fB N Z (Y);clear X r1 Z;refine C1 Pn ?_;refine eV [_] [_,_] N ?_;intro w8 ah M al;clear N;replace h3:=OwnI.fr h3 M (fun k O e=>by subst e;rcases h4 _ O with h|h;exact Y h;omega);replace V:=OwnR.fr V M (ag);replace F:=fJ F M (af);clear M;refine cN (C1 Mv (C1 Pa (C1 Pa (cT (AN (Be rfl rfl rfl ?_))))))
 exact ⟨IY ρ w .tin,rfl,DB _ _ _,⟨by rw [DB ρ w .tin tb ab];exact G,⟨_,_,ah,PutR.own h3 L (fun k O=>(h4 k O).imp id (fun h=>by omega)),V.ro' (DB _ _ _) ac⟩,Ab,aa⟩,F⟩
def Xz (ρ:Nat->Rl) (tb:Nat) (x:Int) (ti ys:List Int) (w:wD) (h:TapeAt ρ w tb ti (ys++[x])) :
 Calls prog 192 #[.pointer (some ⟨tb,0+1,none⟩),.int .i64 (((ys++[x]).length:Int)-1)] w (TapeR ρ tb ti ys (.tuple #[.int .i64 x,.int .i64 0]) w):=by
 obtain ⟨vi,vo,V,U,Z⟩:=h.blk;have G:=h.role;have aj:=h.lo;have aa:=h.li;have ab:=V.lt;have ac:=fun k M=>(U.1.lt (k:=k) M).2
 obtain ⟨a,c,rfl⟩:=Z.1.shape;have L:=fun k M=>And.intro (Z.2 k M) (Z.1.lt M).2
 obtain ⟨ad,ak⟩:=Z;have F:=fC (BP ρ) w;have X : ¬(cY a (ys++[x]).length c).ownBlock=some tb:=fun e=>by have:=(L _ e).1;rw [G] at this;cases this
 have ae : ∀k,(cY a (ys++[x]).length c).ownBlock=some k->ρ k≠.tin:=fun k e=>by have:=(L _ e).1;rw [this];exact fun h=>by cases h
 have af : ∀k,(cY a (ys++[x]).length c).ownBlock=some k->BP ρ k\/w.heap.size<=k:=fun k e=>bW (bX (bX (L k e).1))
 have ag : ∀k,k=tb->BP ρ k\/w.heap.size<=k:=fun k e=>bW (bW (by rw [e];exact G))
 have ah : ∀k,k=tb->ρ k≠.tin:=fun k e=>by rw [e,G];exact fun h=>by cases h
 have Y:(ys++[x]).length=ys.length+1:=by simp
 have N : ∀(w1:wD),OwnI w1 0 (.slice a (ys++[x]).length c) (ys++[x])->Calls prog 198 #[.slice a (ys++[x]).length c,.int .i64 (((ys++[x]).length:Int)-1),.int .i64 (((ys++[x]).length:Int)-1+1)] w1 (PutR (.slice a (ys++[x]).length c) ys 0 w1):=fun w1 h1=>by
  have h9:=NC (ys++[x]) Ab ys.length Ab 0 _ w1 h1;rw [show (ys++[x]).eraseIdx ys.length=ys by rw [List.eraseIdx_append_of_length_le (cH _)];simp] at h9;rw [Y] at h9 ⊢;rw [show (((ys.length+1:Nat):Int)-1)=(ys.length:Int) by omega];exact h9
 have N:=bU N;obtain ⟨gb,go,rfl,hr⟩:=ad.at.get AR;have r1:=IntsAt.at hr (i:=(((ys++[x]).length:Int)-1).toNat) Ab;rw [show (ys++[x]).getD (((ys++[x]).length:Int)-1).toNat 0=x by rw [Y,show (((ys.length+1:Nat):Int)-1).toNat=ys.length by omega];simp] at r1;clear h hr;generalize al:(ys++[x]).length=LL at *;refine Ac func192 ntmps192 rfl rfl ?_;refine eK ?_;refine eQ rfl (N.out _ Ae) ?_;rintro _ w6 ⟨a1,⟨c2,⟨⟨⟩,⟨h3,⟨h4,f5⟩⟩⟩⟩⟩;have z7:=f5.size;have U:=OwnR.fr U f5 (ae);have F:=fJ F f5 (af);have V:=fB V f5 (X);refine C1 Pn (eV [_] [_,_] V ?_);intro w8 ai O am;clear V;have h3:=OwnI.fr h3 O (fun k M e=>by subst e;rcases h4 _ M with h|h;exact X h;omega);have U:=OwnR.fr U O (ah);have F:=fJ F O (ag);refine eK ?_;refine xT ?_;exact ⟨IY ρ w .tout,rfl,DB _ _ _,⟨by rw [DB ρ w .tout tb ab];exact G,⟨_,_,ai,U.ro' (DB _ _ _) ac,PutR.own h3 L (fun k M=>(h4 k M).imp id (fun h=>by omega))⟩,aa,Ab⟩,F⟩
end Bk
