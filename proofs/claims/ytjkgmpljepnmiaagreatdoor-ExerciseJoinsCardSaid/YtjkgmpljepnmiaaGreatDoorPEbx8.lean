/- Texts that the proofs of ExerciseBack, ExerciseJoins need. No condition. (Part 8 of 10.) -/
import Derived.Test.YtjkgmpljepnmiaaGreatDoorPEbx7
set_option linter.unusedSimpArgs false
set_option linter.unusedVariables false
set_option linter.defProp false
set_option maxRecDepth 100000
set_option maxHeartbeats 4000000
open Go.Proofs.Tryz
open List renaming length_append->jy,length_cons->jz,getElem?_eq_getElem->jB,length_nil->jD,getElem_cons_succ->jE,getElem_mem->jH,set_cons_zero->jI,take_succ_eq_append_getElem->jK,cons_append->jP,take_length->jQ,mem_cons->jR,append_assoc->jS,not_mem_nil->jU,flatten_cons->jY,getElem?_eq_none->j4,replicate->ke,getElem?_append_left->kj,nil_append->km,length_take->kn,getElem?_append_right->kp,drop_eq_getElem_cons->kv,take_append_drop->kA,append_nil->kB,isEmpty_iff->kF,all_eq_true->kG,mem_cons_of_mem->kH,take_succ_cons->kK,map_cons->kN,mem_singleton->kP
open Bool renaming and_eq_true->jA,false_eq_true->kx
open Go.Lib renaming hid->jC,indexByte->ky
open Or renaming inl->jF,inr->jG
open Option.some renaming injEq->jJ,inj->jW
open Nat renaming le_refl->jL,zero_le->jN,blt->jT,lt_or_ge->jX,le_of_ble_eq_true->kg,le_trans->kz,eq_of_beq_eq_true->kD,ble->kJ,beq->kL
open Go.Result renaming andThen->jM,andThen_ok->kE
open Go.Sem renaming run_bind->jO,run_pure->jZ
open Go renaming Calls->jV
open Go.Region renaming ready->j6,binds->kO
open Go.IntWalk renaming i64_in->j7
open Go.Value.slice renaming injEq->j8
open List.cons renaming injEq->j9
open Prod.mk renaming injEq->kf
open Go.DataW renaming trod->kh
open Array renaming getElem?_eq_none->ki
open Go.Value renaming slice->kq,ownBlock->kC
open Go.Addr renaming add->kI
open Bk.Nd renaming size->kU,kind->kZ,name->lj,isExpr->lD,isPlace->lH
namespace Bk
open Go
def Gf {n:Int} (h:0<=n) (h1:n<=1000000000):Hs (Lib.itoa n)=(n,true):=by
 have f:=KT n.toNat;have E:=IY (Lib.decDigits n.toNat) f.2.2 f.2.1;rw [f.1,AH Aa] at E;have F:=Hy h;unfold Hs;rw [F,E];have L:((n.toNat:Nat):Int)=n:=by omega
 simp only [L];rw [AH ⟨⟨h,h1⟩,F⟩]
def FD {n:Int} (f:0<=n) : ∀c∈Lib.itoa n,B6 c=true:=by
 rw [Hy f];exact (KT n.toNat).2.1
def Hz {s:lB} (h : ∀c∈s,B6 c=true):(32:UInt8)∉s/\(10:UInt8)∉s:=
 ⟨fun e=>by have:=h _ e;revert this;decide,fun e=>by have:=h _ e;revert this;decide⟩
def JE {α:Type} {p:α->Bool} : ∀ {l:List α},(l.takeWhile p).length=l.length -> ∀c∈l,p c=true
 | [],_,_,h=>by cases h
 | x::l,h,c,f=>by
  rw [List.takeWhile_cons] at h;split at h
  . rename_i E;rcases jR.1 f with rfl|f
    . exact E
    . exact JE (by simpa using h) c f
  . simp at h
def PM {s:lB} (h:AU s=true) : ∀c∈s,FH c=true:=by
 simp only [AU,jA,beq_iff_eq] at h;obtain ⟨⟨⟨⟨h1,-⟩,f⟩,E⟩,-⟩:=h;cases s with
 | nil=>intro c L;cases L
 | cons x r=>
  by_cases F:CG x=true
  . have e:Aq (x::r)=(1,Er FH (x::r)):=by simp only [Aq,AH F]
    rw [e] at E;exact JE E
  . exfalso;simp only [Aq,At F] at f;split at f
    . cases f
    . split at f
      . cases f
      . split at f<;>cases f
def bS {s:lB} (h:AU s=true):(32:UInt8)∉s/\(10:UInt8)∉s:=
 ⟨fun e=>by have:=PM h _ e;revert this;decide,fun e=>by have:=PM h _ e;revert this;decide⟩
def PN : ∀(E:List lB),(∀x∈E,(10:UInt8)∉x)->(10:UInt8)∉Lib.join E [32]
 | [],_=>by simp [Lib.join_nil]
 | [x],h=>by rw [Lib.join_one];exact h x Bg
 | x::y::r,h=>by
  rw [JV];intro f;rcases List.mem_append.1 f with f|f
  . exact h x Bg f
  . rcases jR.1 f with f|f
    . revert f;decide
    . exact PN (y::r) (fun z F=>h z (kH _ F)) f
def SR (e:EX) (n:Int):EI e n=[[101,120,101,114,99,105,115,101],e.name,[112,111,105,110,116,115],Lib.itoa e.points,[102,117,101,108],Lib.itoa e.fuel,[118,97,108,117,101],Lib.itoa e.box.v,[108,101,110,103,116,104],Lib.itoa e.box.l,[105,110,112,117,116],Lib.itoa e.box.i,[108,105,110,101,115],Lib.itoa n]:=rfl
def SS {e:EX} {n:Int} (h:e.valid) (F:0<=n) : ∀x∈EI e n,(32:UInt8)∉x/\(10:UInt8)∉x:=by
 obtain ⟨⟨f,h1,N⟩,-,-,L,-⟩:=h;have M:=JT L;unfold BoxV.ok at M;rw [SR];intro x E;simp only [jR,List.mem_nil_iff,or_false] at E;rcases E with rfl|rfl|rfl|rfl|rfl|rfl|rfl|rfl|rfl|rfl|rfl|rfl|rfl|rfl
 . decide
 . exact bS f
 . decide
 . exact Hz (FD Aa)
 . decide
 . exact Hz (FD Aa)
 . decide
 . exact Hz (FD Aa)
 . decide
 . exact Hz (FD Aa)
 . decide
 . exact Hz (FD Aa)
 . decide
 . exact Hz (FD F)
def YR {e:EX} {n:Int} (h:e.valid) (f:0<=n) (r:lB):E5 (JA e n++r)=(Lib.join (EI e n) [32],r,true):=by
 unfold JA;rw [jS];exact YQ (PN _ (fun x E=>(SS h f x E).2))
def Uk {e:EX} {n:Int} (h:e.valid) (f:0<=n):B9 (Lib.join (EI e n) [32])=EI e n:=
 Ui (by rw [SR];simp) (fun x E=>(SS h f x E).1)
def bT {e:EX} {n:Int} (h:e.valid) (X:0<=n) (f:n<=1000000000):Pq (EI e n)/\YJ (EI e n) e.g=e/\DA (EI e n) 5=n:=by
 obtain ⟨⟨E,h1,h2⟩,-,-,Y,-⟩:=h;have Z:=JT Y;unfold BoxV.ok at Z;have i0:=Gf (n:=e.points) Aa Aa;have F:=Gf (n:=e.fuel) Aa Aa;have i2:=Gf (n:=e.box.v) Aa Aa;have i3:=Gf (n:=e.box.l) Aa Aa;have i4:=Gf (n:=e.box.i) Aa Aa;have i5:=Gf X f;have L:(EI e n).getD 3 []=Lib.itoa e.points:=rfl;have M:(EI e n).getD 5 []=Lib.itoa e.fuel:=rfl;have N:(EI e n).getD 7 []=Lib.itoa e.box.v:=rfl;have O:(EI e n).getD 9 []=Lib.itoa e.box.l:=rfl;have U:(EI e n).getD 11 []=Lib.itoa e.box.i:=rfl;have V:(EI e n).getD 13 []=Lib.itoa n:=rfl;refine ⟨⟨rfl,rfl,E,fun i hi=>?_⟩,?_,?_⟩
 . rcases (show i=0\/i=1\/i=2\/i=3\/i=4\/i=5 by omega) with rfl|rfl|rfl|rfl|rfl|rfl
   . exact ⟨rfl,by rw [show 3+2*0=3 from rfl,L,i0]⟩
   . exact ⟨rfl,by rw [show 3+2*1=5 from rfl,M,F]⟩
   . exact ⟨rfl,by rw [show 3+2*2=7 from rfl,N,i2]⟩
   . exact ⟨rfl,by rw [show 3+2*3=9 from rfl,O,i3]⟩
   . exact ⟨rfl,by rw [show 3+2*4=11 from rfl,U,i4]⟩
   . exact ⟨rfl,by rw [show 3+2*5=13 from rfl,V,i5]⟩
 . unfold YJ DA;rw [show 3+2*0=3 from rfl,show 3+2*1=5 from rfl,show 3+2*2=7 from rfl,show 3+2*3=9 from rfl,show 3+2*4=11 from rfl,L,M,N,O,U,i0,F,i2,i3,i4];rfl
 . unfold DA;rw [show 3+2*5=13 from rfl,V,i5]
def Ve (t:lB):Prop:=t=[] \/ ∃u,t=u++[10]
def PO : ∀(n:Nat) (u:lB),u.length=n -> ∃t v,u=t++v/\(10:UInt8)∉v/\Ve t
 | 0,u,h=>⟨[],[],by simp [List.length_eq_zero_iff.1 h],Bg,jF rfl⟩
 | n+1,u,h=>by
  have f:u≠[]:=by intro e;rw [e] at h;cases h
  obtain ⟨t,v,h1,M,N⟩:=PO n u.dropLast (by rw [List.length_dropLast];omega);have F:=(List.dropLast_concat_getLast f).symm;by_cases L:u.getLast f=10
  . rw [L] at F;exact ⟨u,[],Bg,Bg,jG ⟨_,F⟩⟩
  . refine ⟨t,v++[u.getLast f],?_,?_,N⟩
    . rw [<-jS,<-h1];exact F
    . intro E;rcases List.mem_append.1 E with E|E
      . exact M E
      . rw [kP] at E;exact L E.symm
def WQ (n:Nat) : ∀(t r:lB),t.length<=n->Ve t->JR (t++r) (Lib.countByte t 10)=some t.length:=by
 induction n with
 | zero=>
  intro t r h f;rcases f with rfl|⟨u,rfl⟩
  . rfl
  . simp at h
 | succ n E=>
  intro t r h f;rcases f with rfl|⟨u,rfl⟩
  . rfl
  obtain ⟨t,v,rfl,F,f⟩:=PO _ u rfl;have L:t.length<=n:=by simp only [jy,jz,jD] at h;omega
  have E:=E t (v++10::r) L f;have M:Lib.countByte (t++v++[10]) 10=Lib.countByte t 10+1:=by
   unfold Lib.countByte;rw [List.count_append,List.count_append,List.count_eq_zero.2 F];rfl
  have N:t++v++[10]++r=t++(v++10::r):=by simp
  rw [M,N,JR,E,Option.bind_some,List.drop_left,KR F,At Aa];simp only [Int.toNat_natCast,jy,jz,jD]
def Ul {t r:lB} (h:Ve t):E2 (t++r) (Lib.countByte t 10)=(t,r,true):=by
 unfold E2;rw [WQ _ t r (jL _) h];simp only [List.take_left,List.drop_left]
def iY:PS:=⟨0,0,0⟩
def fQ {ts:List Tok}:rem ts iY=Q1 ts:=rfl
def Vf (ts:List Tok):(Q1 ts).length=ts.length:=by simp [Q1]
def Nd.pcs:Nd->List Pc
 | .mk k n s l=>
  if k=1 then [.tk (Lib.itoa n)] else if k=2 then [.tk s]
  else if k=3 then match l with|[x]=>.tk s::.tk [91]::(x.pcs++[.tk [93]])|_=>[]
  else if k=4 then [.tk [116,111,112],.tk [40],.tk s,.tk [41]] else if k=5 then [.tk [115,105,122,101],.tk [40],.tk s,.tk [41]]
  else if k=6\/k=7 then match l with|[x]=>.tk (Cm k)::pw (CE x.kind) x.pcs|_=>[]
  else match l with
   | [x,y]=>pw (ET x.kind k) x.pcs++(.sp [32]::.tk (Cm k)::.sp [32]::pw (Fs y.kind k) y.pcs)
   | _=>[]
def YS (N:Nat) : ∀t:Nd,t.size<N->t.isExpr=true->Nice t.pcs:=by
 induction N with
 | zero=>intro t h;omega
 | succ N Z=>
  intro t hs f;obtain ⟨k,n,s,l⟩:=t;simp only [kU] at hs;unfold lD at f;unfold Nd.pcs;by_cases c1:k=1
  . rw [AH c1] at f ⊢;simp only [jA,decide_eq_true_eq] at f;obtain ⟨h1,V,h3⟩:=KT n.toNat;rw [Hy f.1.1];exact SQ (N0 h3 V).1 (bR (fun c E=>N3 (V c E))) (N2 (N0 h3 V).2)
  rw [At c1] at f ⊢;by_cases c2:k=2
  . rw [AH (jF c2)] at f;rw [AH c2];simp only [jA,named] at f;have M:=f.1.2;exact SQ (Cy M).1 (fun c E=>FW (GT M c E)) (Ek (Cy M).2)
  by_cases c4:k=4\/k=5
  . rw [AH (jG c4)] at f;simp only [jA,named] at f;have M:=f.1.2;have key : ∀kw:lB,TokT kw->(Aq kw).1=1->(∀c∈kw.head?,CG c=true)->Nice [.tk kw,.tk [40],.tk s,.tk [41]]:=by
     intro kw aa X ab;refine ⟨fun p U=>⟨aa,fun u F c E=>El (U u F) (FW (ab c E)),A6 Ao,fun u F c E=>?_,(Cy M).1,fun u F c E=>?_,A6 Ao,fun u F c E=>?_,trivial⟩,fun p=>⟨_,rfl,DM Ao⟩⟩
     . have:c=40:=by simpa using E.symm
       have:kw=u:=by simpa using F
       subst_vars
       exact ⟨fun _=>Ao,fun e=>(by rw [X] at e;cases e),fun e=>(by rw [X] at e;cases e)⟩
     . have:[40]=u:=by simpa using F
       rw [<-this];exact El Ao (FW (GT M c E))
     . have:c=41:=by simpa using E.symm
       have:s=u:=by simpa using F
       subst_vars
       exact (Ek (Cy M).2).1
    rw [At c2,At Aa];rcases c4 with c4|c4
    . rw [AH c4];exact key _ (A6 Ao) Ao (by simp;decide)
    . rw [At Aa,AH c4];exact key _ (A6 Ao) Ao (by simp;decide)
  rw [At Aa] at f;rw [At c2];by_cases c3:k=3
  . rw [AH c3] at f ⊢;simp only [jA,named] at f;obtain ⟨⟨-,M⟩,L⟩:=f;split at L
    . rename_i x;simp only [Ah] at hs;have Y:=Z x Aa L;refine ⟨fun p U=>⟨(Cy M).1,fun u F c E=>El (U u F) (FW (GT M c E)),A6 Ao,fun u F c E=>?_,?_⟩,fun p=>⟨[93],?_,DM Ao⟩⟩
      . have:c=91:=by simpa using E.symm
        have:s=u:=by simpa using F
        subst_vars
        exact ⟨fun _=>Ao,fun e=>(by rw [(Cy M).2] at e;cases e),fun e=>(by rw [(Cy M).2] at e;cases e)⟩
      . rw [DK];refine ⟨Y.wf _ (Ix Ao),?_⟩;obtain ⟨t,e,ct⟩:=Y.fin (some [91]);rw [e];exact ⟨A6 Ao,fun u F c E=>by
         have:c=93:=by simpa using E.symm
         have:t=u:=by simpa using F
         subst_vars;exact ct.2.1,trivial⟩
      . simp only [Ca,C6]
    . cases L
  rw [At c3] at f ⊢;rw [At Aa,At Aa];by_cases c6:k=6\/k=7
  . rw [AH c6] at f ⊢;simp only [jA] at f;obtain ⟨-,L⟩:=f;split at L
    . rename_i x;simp only [Ah] at hs;have Y:=(Z x Aa L).pw (CE x.kind);have O:=N4 (k:=k) Aa Aa;refine ⟨fun p U=>⟨O.1,fun u F c E=>El (U u F) ?_,Y.wf _ (Ix O.2)⟩,fun p=>Y.fin _⟩;rcases c6 with rfl|rfl
      . have:c=45:=by simpa [Cm,symbols] using E.symm
        subst this;decide
      . have:c=33:=by simpa [Cm,symbols] using E.symm
        subst this;decide
    . cases L
  rw [At c6] at f ⊢;by_cases c8:8<=k/\k<=23
  . rw [AH c8] at f;simp only [jA] at f;obtain ⟨-,L⟩:=f;split at L
    . rename_i x y;simp only [Ah] at hs;simp only [jA] at L;have h1:=(Z x Aa L.1).pw (ET x.kind k);have V:=(Z y Aa L.2).pw (Fs y.kind k);have O:=N4 (k:=k) Aa Aa;refine ⟨fun p U=>?_,fun p=>?_⟩
      . rw [DK];refine ⟨h1.wf p U,by simp;decide,O.1,?_,by simp;decide,?_⟩
        . intro u F;simp at F
        . exact V.wf _ (by intro u F;simp at F)
      . simp only [C6,Ca];exact V.fin _
    . cases L
  . rw [At c8] at f;cases f
def YT (N:Nat) : ∀t:Nd,t.size<N->t.isExpr=true->flat t.pcs=t.text:=by
 induction N with
 | zero=>intro t h;omega
 | succ N L=>
  intro t M f;obtain ⟨k,n,s,l⟩:=t;simp only [kU] at M;unfold lD at f;unfold Nd.pcs Nd.text;by_cases O:k=1
  . rw [AH O,AH O];simp [flat]
  rw [At O] at f ⊢;rw [At O];by_cases c2:k=2
  . rw [AH c2,AH c2];simp [flat]
  rw [At c2,At c2];by_cases c3:k=3
  . rw [At Aa,AH c3] at f;rw [AH c3,AH c3];simp only [jA] at f;obtain ⟨-,E⟩:=f;split at E
    . rename_i x;simp only [Ah] at M;simp only [flat,Br,L x Aa E];simp
    . cases E
  rw [At c3,At c3];by_cases c4:k=4
  . rw [AH c4,AH c4];simp [flat]
  rw [At c4,At c4];by_cases c5:k=5
  . rw [AH c5,AH c5];simp [flat]
  rw [At c5,At c5];rw [At Aa,At Aa] at f;by_cases F:k=6\/k=7
  . rw [AH F] at f;rw [AH F,AH F];simp only [jA] at f;obtain ⟨-,E⟩:=f;split at E
    . rename_i x;simp only [Ah] at M;simp only [flat,Vd,L x Aa E]
    . cases E
  rw [At F] at f;rw [At F,At F];by_cases U:8<=k/\k<=23
  . rw [AH U] at f;simp only [jA] at f;obtain ⟨-,E⟩:=f;split at E
    . rename_i x y;simp only [Ah] at M;simp only [jA] at E;simp only [Br,flat,Vd,L x Aa E.1,L y Aa E.2];simp
    . cases E
  . rw [At U] at f;cases f
def G.cl_mono {E F:Int} {x y:Nd} {b:CS} (h:G (.cl E x) b y) (N:F<=E):G (.cl F x) b y:=by
 generalize f:Nt.cl E x=O at h
 induction h generalizing x with
 | ex _ _=>cases f
 | cl0=>cases f;exact G.cl0
 | cl1 h1 U L M V _ i5=>cases f;exact G.cl1 h1 Aa L M (i5 rfl)
 | neg=>cases f
 | not=>cases f
 | num=>cases f
 | top=>cases f
 | size=>cases f
 | par=>cases f
 | place=>cases f
 | var=>cases f
 | item=>cases f
def G.ex_mono {f E:Int} {y:Nd} {b:CS} (h:G (.ex f) b y) (F:E<=f):G (.ex E) b y:=by
 cases h with
 | ex h1 L=>exact G.ex h1 (L.cl_mono F)
def G.un_ex {a:CS} {x:Nd} (h:G .un a x) (lv:Int):G (.ex lv) a x:=by
 have:=G.ex h (G.cl0 (lv:=lv));rwa [kB] at this
def G.cl_snoc {lv op:Int} {t:lB} {x y z:Nd} {b c:CS} (h:G (.cl lv x) b y) (L:Fd t=some op) (Z:Bv op=lv) (M:G (.ex (Bv op+1)) c z):G (.cl lv x) (b++t::c) (.mk op 0 [] [y,z]):=by
 generalize f:Nt.cl lv x=nt at h
 induction h generalizing x with
 | ex _ _=>cases f
 | @cl0 l F=>
  cases f;have:=G.cl1 (lv:=lv) (x:=F) L Aa M (fun u N=>by cases N) (G.cl0 (lv:=lv));rwa [kB] at this
 | @cl1 l o u a b F y0 z0 h1 O U V h5 _ i5=>
  cases f;have:=G.cl1 (lv:=lv) (x:=F) h1 O U (b:=b++t::c) ?_ (i5 rfl)
  . rw [show u::(a++(b++t::c))=u::(a++b)++t::c by simp] at this;exact this
  . cases b with
    | nil=>
     intro v X o' E;have:t=v:=by simpa using X
     subst this;rw [L] at E;cases E;omega
    | cons v r=>exact fun w Y=>V w (by simpa using Y)
 | neg=>cases f
 | not=>cases f
 | num=>cases f
 | top=>cases f
 | size=>cases f
 | par=>cases f
 | place=>cases f
 | var=>cases f
 | item=>cases f
def QV {k:Int} (f:8<=k) (h1:k<=23):Fd (Cm k)=some k:=by
 have:k=8\/k=9\/k=10\/k=11\/k=12\/k=13\/k=14\/k=15\/k=16\/k=17\/k=18\/k=19\/k=20\/k=21\/k=22\/k=23:=by omega
 rcases this with rfl|rfl|rfl|rfl|rfl|rfl|rfl|rfl|rfl|rfl|rfl|rfl|rfl|rfl|rfl|rfl<;>decide
structure Said (t:Nd):Prop where
 bin:CE t.kind=true->G (.ex (Bv t.kind)) (toks t.pcs) t
 un:CE t.kind=false->G .un (toks t.pcs) t
 pl:t.isPlace=true->G .pl (toks t.pcs) t
def Said.ex {t:Nd} (h:Said t) {lv:Int} (f:CE t.kind=true->lv<=Bv t.kind):G (.ex lv) (toks t.pcs) t:=by
 cases hb:CE t.kind
 . exact (h.un hb).un_ex lv
 . exact (h.bin hb).ex_mono (f hb)
def Lx {k:Int} (h:CE k=true):1<=Bv k:=by
 simp only [CE,jA,decide_eq_true_eq] at h;exact (XR h.1 h.2).1
def Said.par {t:Nd} (h:Said t):G .un (toks (pw true t.pcs)) t:=by
 rw [bQ];exact G.par (h.ex (fun f=>Lx f))
def Said.opd {t:Nd} (h:Said t) {lv:Int} {b:Bool} (f:b=false->CE t.kind=true->lv<=Bv t.kind):G (.ex lv) (toks (pw b t.pcs)) t:=by
 cases b
 . exact h.ex (f rfl)
 . exact h.par.un_ex lv
def ST (N:Nat) : ∀t:Nd,t.size<N->t.isExpr=true->t.wf->Said t:=by
 induction N with
 | zero=>intro t h;omega
 | succ N ih=>
  intro t hs he hw;obtain ⟨k,n,s,l⟩:=t;simp only [kU] at hs;have f:=he;unfold lD at he;have nb : ¬(8<=k/\k<=23)->CE k=false:=fun h=>by
   cases hb:CE k
   . rfl
   . simp only [CE,jA,decide_eq_true_eq] at hb;exact absurd hb h
  by_cases c1:k=1
  . rw [AH c1] at he;subst c1;simp only [jA,decide_eq_true_eq,kF] at he;obtain ⟨⟨h0,rfl⟩,rfl⟩:=he;obtain ⟨v1,v2,v3⟩:=KT n.toNat;have e:(Nd.mk 1 n [] []).pcs=[.tk (Lib.decDigits n.toNat)]:=by unfold Nd.pcs;rw [AH rfl,Hy h0]
    have hsd:BV (Lib.decDigits n.toNat)=true:=by
     cases hd:Lib.decDigits n.toNat with
     | nil=>exact absurd hd v3
     | cons c r=>simpa [BV] using v2 c (by rw [hd];simp)
    have hmax:n<=9223372036854775807:=hw.2.2.2.1;have hg:G .un [Lib.decDigits n.toNat] (.mk 1 (A8 (Lib.decDigits n.toNat)) [] []):=G.num hsd (by rw [v1];omega);rw [v1,show ((n.toNat:Nat):Int)=n by omega] at hg;refine ⟨fun h=>(by simp [CE,kZ] at h),fun _=>by rw [e];exact hg,fun h=>(by simp [lH,kZ] at h)⟩
  rw [At c1] at he;by_cases d:k=2\/k=4\/k=5
  . rw [AH d] at he;simp only [jA,named,beq_iff_eq,kF] at he;obtain ⟨⟨rfl,hn⟩,rfl⟩:=he;rcases d with rfl|rfl|rfl
    . have e:(Nd.mk 2 0 s []).pcs=[.tk s]:=by unfold Nd.pcs;rw [At Ao,AH rfl]
      refine ⟨fun h=>(by simp [CE,kZ] at h),fun _=>by rw [e];exact G.place (G.var hn),fun _=>by rw [e];exact G.var hn⟩
    . have e:(Nd.mk 4 0 s []).pcs=[.tk [116,111,112],.tk [40],.tk s,.tk [41]]:=by unfold Nd.pcs;rw [At Ao,At Ao,At Ao,AH rfl]
      refine ⟨fun h=>(by simp [CE,kZ] at h),fun _=>by rw [e];exact G.top hn,fun h=>(by simp [lH,kZ] at h)⟩
    . have e:(Nd.mk 5 0 s []).pcs=[.tk [115,105,122,101],.tk [40],.tk s,.tk [41]]:=by unfold Nd.pcs;rw [At Ao,At Ao,At Ao,At Ao,AH rfl]
      refine ⟨fun h=>(by simp [CE,kZ] at h),fun _=>by rw [e];exact G.size hn,fun h=>(by simp [lH,kZ] at h)⟩
  rw [At d] at he;by_cases c3:k=3
  . rw [AH c3] at he;subst c3;simp only [jA,named,beq_iff_eq] at he;obtain ⟨⟨rfl,hn⟩,hx⟩:=he;split at hx
    . rename_i x;simp only [Ah] at hs;have hi:=ih x Aa hx hw.2.2.2.2.2.2.1;have e:(Nd.mk 3 0 s [x]).pcs = .tk s::.tk [91]::(x.pcs++[.tk [93]]):=by
       conv=>lhs;unfold Nd.pcs
       rw [At Ao,At Ao,AH rfl]
      have hg:G .pl (toks (Nd.mk 3 0 s [x]).pcs) (.mk 3 0 s [x]):=by
       rw [e];simp only [toks,Bs];exact G.item hn (hi.ex (fun hb=>Lx hb))
      exact ⟨fun h=>(by simp [CE,kZ] at h),fun _=>G.place hg,fun _=>hg⟩
    . cases hx
  rw [At c3] at he;by_cases c6:k=6\/k=7
  . rw [AH c6] at he;simp only [jA,plain,beq_iff_eq,kF] at he;obtain ⟨⟨rfl,rfl⟩,hx⟩:=he;split at hx
    . rename_i x;simp only [Ah] at hs;have hi:=ih x Aa hx hw.2.2.2.2.2.2.1;have hu:G .un (toks (pw (CE x.kind) x.pcs)) x:=by
       cases hb:CE x.kind
       . exact hi.un hb
       . exact hi.par
      have e:(Nd.mk k 0 [] [x]).pcs = .tk (Cm k)::pw (CE x.kind) x.pcs:=by
       conv=>lhs;unfold Nd.pcs
       rw [At Aa,At Aa,At Aa,At Aa,At Aa,AH c6]
      refine ⟨fun h=>(by rw [show (Nd.mk k 0 [] [x]).kind=k from rfl,nb Aa] at h;cases h),fun _=>?_,fun h=>?_⟩
      . rw [e];simp only [toks];rcases c6 with rfl|rfl
        . exact G.neg hu
        . exact G.not hu
      . exfalso;simp only [lH,kZ,jA,Bool.or_eq_true,beq_iff_eq] at h;omega
    . cases hx
  rw [At c6] at he;by_cases c8:8<=k/\k<=23
  . rw [AH c8] at he;simp only [jA,plain,beq_iff_eq,kF] at he;obtain ⟨⟨rfl,rfl⟩,hx⟩:=he;split at hx
    . rename_i x y;simp only [Ah] at hs;simp only [jA] at hx;have h1:=ih x Aa hx.1 hw.2.2.2.2.2.2.1;have h2:=ih y Aa hx.2 hw.2.2.2.2.2.2.2.1;have hb:=QV c8.1 c8.2;have g1:G (.ex (Bv k)) (toks (pw (ET x.kind k) x.pcs)) x:=h1.opd (fun hp hb=>by
       simp only [ET,hb,Bool.true_and,decide_eq_false_iff_not] at hp;omega)
      have g2:G (.ex (Bv k+1)) (toks (pw (Fs y.kind k) y.pcs)) y:=h2.opd (fun hp hb=>by
       simp only [Fs,hb,Bool.true_and,decide_eq_false_iff_not] at hp;omega)
      have e:(Nd.mk k 0 [] [x,y]).pcs=pw (ET x.kind k) x.pcs++(.sp [32]::.tk (Cm k)::.sp [32]::pw (Fs y.kind k) y.pcs):=by
       conv=>lhs;unfold Nd.pcs
       rw [At Aa,At Aa,At Aa,At Aa,At Aa,At Aa]
      have hbk:CE k=true:=by simp only [CE,jA,decide_eq_true_eq];exact c8
      refine ⟨fun _=>?_,fun h=>(by rw [show (Nd.mk k 0 [] [x,y]).kind=k from rfl,hbk] at h;cases h),fun h=>?_⟩
      . rw [e];simp only [Bs,toks];show G (.ex (Bv k)) _ _;generalize toks (pw (ET x.kind k) x.pcs)=A at *;cases g1 with
        | @ex _ a b x0 _ gu gc=>
         rw [jS];exact G.ex gu (gc.cl_snoc hb rfl g2)
      . exfalso;simp only [lH,kZ,jA,Bool.or_eq_true,beq_iff_eq] at h;omega
    . cases hx
  . rw [At c8] at he;cases he
def GK (L:List Pc) (d:Nat):List Pc:=.sp [32]::.tk [123]::.sp [10]::(L++[.sp (CU d),.tk [125]])
def G7:List lB->List Pc
 | []=>[]
 | m::r=>.tk [44]::.sp [32]::.tk m::G7 r
def MB:List Nd->List Pc
 | []=>[]
 | x::r=>.tk x.name::G7 (r.map lj)
def Q2 (k:Int):lB:=
 if k=44 then [112,117,115,104] else if k=45 then [112,111,112] else if k=46 then [114,101,97,100] else if k=47 then [117,110,114,101,97,100] else if k=48 then [119,114,105,116,101] else if k=49 then [117,110,119,114,105,116,101]
 else if k=50 then [99,97,108,108] else if k=51 then [117,110,99,97,108,108] else if k=52 then [105,102] else if k=53 then [102,114,111,109] else [108,111,99,97,108]
def WR (k:Int):lB:=if k=52 then [101,108,115,101] else [108,111,111,112]
def SU (k:Int):lB:=if k=52 then [102,105] else [117,110,116,105,108]
mutual
def Nd.spcs:Nd->Nat->List Pc
 | .mk k _ s l,d=>
  if k=40\/k=41\/k=42\/k=56\/k=43 then match l with|[x,y]=>x.pcs++(.sp [32]::.tk (Cl k)::.sp [32]::y.pcs)|_=>[]
  else if k=44\/k=45 then match l with|[x]=>.tk (Q2 k)::.sp [32]::(x.pcs++[.tk [44],.sp [32],.tk s])|_=>[]
  else if 46<=k/\k<=49 then match l with|[x]=>.tk (Q2 k)::.sp [32]::x.pcs|_=>[]
  else if k=50\/k=51 then .tk (Q2 k)::.sp [32]::.tk s::.tk [40]::(MB l++[.tk [41]])
  else if k=52\/k=53 then match l with|[x,y,z,u]=>.tk (Q2 k)::.sp [32]::(x.pcs++(GK (y.lpcs (d+1)) d++(.sp [32]::.tk (WR k)::(GK (z.lpcs (d+1)) d++(.sp [32]::.tk (SU k)::.sp [32]::u.pcs)))))|_=>[]
  else if k=54 then match l with|[x,y,z]=>.tk [108,111,99,97,108]::.sp [32]::.tk s::.sp [32]::.tk [61]::.sp [32]::(x.pcs++(GK (y.lpcs (d+1)) d++(.sp [32]::.tk [100,101,108,111,99,97,108]::.sp [32]::z.pcs)))|_=>[]
  else if k=55 then match l with|[x]=>.tk [108,111,99,97,108]::.sp [32]::.tk [115,116,97,99,107]::.sp [32]::.tk s::GK (x.lpcs (d+1)) d|_=>[]
  else []
def Nd.lpcs:Nd->Nat->List Pc
 | .mk _ _ _ l,d=>Fo l d
def Fo:List Nd->Nat->List Pc
 | [],_=>[]
 | t::r,d=>.sp (CU d)::(t.spcs d++(.tk [59]::.sp [10]::Fo r d))
end
def PQ {p:Option lB} {s:lB} {r:List Pc} (E : ∀c∈s,Dn c=true) (f:s≠[]) (h:wf none r):wf p (.sp s::r):=by
 refine ⟨E,?_⟩;cases s with
 | nil=>exact absurd rfl f
 | cons c s=>exact h
def CJ {p:Option lB} {r:List Pc} (h:wf none r):wf p (.sp [32]::r):=PQ Ao Ao h
def bU {p:Option lB} {r:List Pc}:Ca p (.sp [32]::r)=Ca none r:=rfl
def Cw {t:lB} {r:List Pc} (f:TokT t) (h:wf (some t) r):wf none (.tk t::r):=⟨f,fun u E=>(by cases E),h⟩
def EF {t0 t:lB} {r:List Pc} (f:TokT t) (E : ∀c∈t.head?,Adj t0 c) (h:wf (some t) r):wf (some t0) (.tk t::r):=⟨f,fun u F=>by
 have:t0=u:=by simpa using F
 rw [<-this];exact E,h⟩
def WS (d:Nat) : ∀c∈CU d,Dn c=true:=fun c f=>by
 have:c=9:=(List.mem_replicate.1 f).2;subst this;decide
def Vg {d:Nat} {r:List Pc} (h:wf none r):wf none (.sp (CU d)::r):=by
 refine ⟨WS d,?_⟩;split<;>exact h
def SW {d:Nat} {r:List Pc}:Ca none (.sp (CU d)::r)=Ca none r:=by
 simp only [Ca];split<;>rfl
structure NiceL (L:List Pc):Prop where
 wf:wf none L
 fin:Ca none L=none
def NiceL.wf_b {L:List Pc} (h:NiceL L) (d:Nat) {r:List Pc} (f:Bk.wf (some [125]) r) (p:Option lB):Bk.wf p (GK L d++r):=by
 have E:TokT [123]:=A6 Ao;have F:TokT [125]:=A6 Ao;unfold GK;simp only [jP,jS];refine CJ (Cw E (PQ Ao Ao ?_));rw [DK,h.fin];exact ⟨h.wf,Vg (Cw F f)⟩
def NiceL.end_b {L:List Pc} (h:NiceL L) (d:Nat) (r:List Pc) (p:Option lB):Ca p (GK L d++r)=Ca (some [125]) r:=by
 unfold GK;simp only [jP,jS];rw [bU];simp only [Ca];show Ca none (L++_)=_;rw [C6,h.fin];simp only [jP,km];rw [SW];rfl
def Ly (L:List Pc) (d:Nat):flat (GK L d)=[32,123,10]++flat L++CU d++[125]:=by
 unfold GK;simp only [flat,Br];simp
def fR (L:List Pc) (d:Nat):toks (GK L d)=[123]::(toks L++[[125]]):=by
 unfold GK;simp only [toks,Bs]
structure NiceS (L:List Pc):Prop where
 wf:wf none L
 fin : ∃t,Ca none L=some t/\G6 t
def Nice.then_ {L r:List Pc} {p:Option lB} (h:Nice L) (f:N1 p) (E : ∀t,G6 t->Bk.wf (some t) r):Bk.wf p (L++r):=by
 rw [DK];obtain ⟨t,e,F⟩:=h.fin p;rw [e];exact ⟨h.wf p f,E t F⟩
def Nice.end_ {L r:List Pc} {p:Option lB} (h:Nice L) {q:Option lB} (f : ∀t,Ca (some t) r=q):Ca p (L++r)=q:=by
 rw [C6];obtain ⟨t,e,E⟩:=h.fin p;rw [e];exact f t
def Lz {t:lB} (h:G6 t) : ∀c∈([44]:lB).head?,Adj t c:=fun c f=>by
 have:c=44:=by simpa using f.symm
 subst this;exact h.2.2.2
def LA {t:lB} (h:G6 t) : ∀c∈([41]:lB).head?,Adj t c:=fun c f=>by
 have:c=41:=by simpa using f.symm
 subst this;exact h.1
def N5 {t:lB} (h:(Aq t).1=1) : ∀c∈([40]:lB).head?,Adj t c:=fun c f=>by
 have:c=40:=by simpa using f.symm
 subst this;exact ⟨fun _=>Ao,fun e=>(by rw [h] at e;cases e),fun e=>(by rw [h] at e;cases e)⟩
def N6 (k:Int):TokT (Q2 k)/\(Aq (Q2 k)).1=1:=by
 unfold Q2
 repeat' split
 all_goals exact ⟨A6 Ao,Ao⟩
def bW (k:Int):TokT (WR k):=by unfold WR;split<;>exact A6 Ao
def YU (k:Int):TokT (SU k):=by unfold SU;split<;>exact A6 Ao
def Vh {k:Int} (h:k=40\/k=41\/k=42\/k=56\/k=43):TokT (Cl k):=by
 rcases h with rfl|rfl|rfl|rfl|rfl<;>exact A6 Ao
def KU {x:Nd} (h:x.isVar=true):x=Jt x.name/\AU x.name=true/\x.text=x.name:=by
 obtain ⟨k,n,s,l⟩:=x;simp only [Nd.isVar,kZ,jA,beq_iff_eq] at h;obtain ⟨rfl,h⟩:=h;unfold lD at h;rw [At Ao,AH Ao] at h;simp only [jA,named,beq_iff_eq,kF] at h;obtain ⟨⟨rfl,f⟩,rfl⟩:=h;refine ⟨rfl,f,?_⟩;unfold Nd.text;rw [At Ao,AH rfl];rfl
def PR : ∀r:List Nd,(∀x∈r,x.isVar=true)->flat (G7 (r.map lj))=CY false r
 | [],_=>rfl
 | x::r,h=>by
  have f:=KU (h x Bg);simp only [kN,G7,flat,CY,PR r (fun y E=>h y (by simp [E])),f.2.2];simp
def PT : ∀f:List lB,toks (G7 f)=Ov f
 | []=>rfl
 | m::r=>by
  simp only [G7,toks,PT r];rfl
def Vi : ∀(h:List lB) (f:lB) (r:List Pc),(Aq f).1=1->(∀m∈h,AU m=true)->(∀m,(Aq m).1=1->wf (some m) r)->wf (some f) (G7 h++r)
 | [],f,r,E,_,F=>F f E
 | m::h,f,r,E,L,F=>by
  have M:=Cy (L m Bg);simp only [G7,jP];exact EF (A6 Ao) (Lz (Ek E)) (CJ (Cw M.1 (Vi h m r M.2 (fun x N=>L x (by simp [N])) F)))
def SX : ∀(f:List lB) (h:lB) (u:lB),Ca (some h) (G7 f++[.tk u])=some u
 | [],h,u=>rfl
 | m::f,h,u=>by
  simp only [G7,jP,Ca];exact SX f m u
def Dh {x:Nd} (h:x.isPlace=true):x.isExpr=true:=by
 simp only [lH,jA] at h;exact h.2
def FL {x:Nd} (h:x.isExpr=true):Nice x.pcs:=YS (x.size+1) x Aa h
def FM {x:Nd} (h:x.isExpr=true):flat x.pcs=x.text:=YT (x.size+1) x Aa h
def SY {x:Nd} (h:x.isExpr=true) (f:x.wf):G (.ex 1) (toks x.pcs) x:=(ST (x.size+1) x Aa h f).ex (fun E=>Lx E)
def SZ {x:Nd} (h:x.isPlace=true) (f:x.wf):G .pl (toks x.pcs) x:=(ST (x.size+1) x Aa (Dh h) f).pl h
structure SaidS (t:Nd) (d:Nat):Prop where
 flat:flat (t.spcs d)=t.stmtT d
 nice:NiceS (t.spcs d)
 gs:GS .st (toks (t.spcs d)) [t]
structure SaidL (t:Nd) (d:Nat):Prop where
 flat:flat (t.lpcs d)=t.linesT d
 nice:NiceL (t.lpcs d)
 gs:GS .ls (toks (t.lpcs d)) t.kids
def YV {t:Nd} {d:Nat} {A:List Pc} {B:lB} (e:t.spcs d=A) (f:t.stmtT d=B) (h:Bk.flat A=B/\NiceS A/\GS .st (toks A) [t]):SaidS t d:=by
 subst e f;exact ⟨h.1,h.2.1,h.2.2⟩
def PU (d:Nat) : ∀l:List Nd,(∀t∈l,SaidS t d)->flat (Fo l d)=BW l d/\NiceL (Fo l d)/\GS .ls (toks (Fo l d)) l
 | [],_=>⟨by simp [Fo,BW,flat],⟨by simp [Fo,wf],by simp [Fo,Ca]⟩,by simp only [Fo,toks];exact GS.ls0⟩
 | t::r,h=>by
  obtain ⟨h1,F,L⟩:=PU d r (fun x M=>h x (by simp [M]));have E:=h t Bg;obtain ⟨u,e,N⟩:=E.nice.fin;have f : ∀c∈([59]:lB).head?,Adj u c:=fun c O=>by
   have:c=59:=by simpa using O.symm
   subst this;exact N.2.2.1
  refine ⟨?_,⟨?_,?_⟩,?_⟩
  . simp only [Fo,BW,flat,Br,E.flat,h1];simp
  . simp only [Fo];refine Vg ?_;rw [DK,e];exact ⟨E.nice.wf,EF (A6 Ao) f (PQ Ao Ao F.wf)⟩
  . simp only [Fo];rw [SW,C6,e];simp only [Ca];exact F.fin
  . simp only [Fo,toks,Bs];exact GS.ls1 E.gs L
def SaidL.bl {y:Nd} {d:Nat} (h:SaidL y d) (f:y.isBlock=true) (e:Nat):GS .bl (toks (GK (y.lpcs d) e)) [y]:=by
 rw [fR];have:=GS.bl h.gs;obtain ⟨k,n,s,l⟩:=y;unfold Nd.isBlock at f;simp only [jA,plain,beq_iff_eq,kF] at f;obtain ⟨⟨rfl,rfl,rfl⟩,-⟩:=f;exact this
def S0 {k:Int} (h:k=40\/k=41\/k=42\/k=56):CC (Cl k)=k:=by
 rcases h with rfl|rfl|rfl|rfl<;>decide
def PV : ∀ {l:List Nd},Be l -> ∀x∈l,x.wf
 | [],_,x,f=>by cases f
 | t::r,h,x,f=>by
  rcases jR.1 f with rfl|f
  . exact h.1
  . exact PV h.2 x f
def Me : ∀ {l:List Nd} {x:Nd},x∈l->x.size<=Ah l
 | [],x,f=>by cases f
 | t::r,x,f=>by
  simp only [Ah];rcases jR.1 f with rfl|f
  . omega
  . have:=Me f;omega
def Mf : ∀ {l:List Nd},DR l=true -> ∀x∈l,x.isStmt=true
 | [],_,x,f=>by cases f
 | t::r,h,x,f=>by
  simp only [DR,jA] at h;rcases jR.1 f with rfl|f
  . exact h.1
  . exact Mf h.2 x f
def Um (N:Nat):(∀(t:Nd) (d:Nat),t.size<N->t.isStmt=true->t.wf->SaidS t d)/\(∀(t:Nd) (d:Nat),t.size<N->t.isBlock=true->t.wf->SaidL t d):=by
 induction N with
 | zero=>exact ⟨fun t d h=>by omega,fun t d h=>by omega⟩
 | succ N ih=>
  obtain ⟨iS,iB⟩:=ih;constructor
  . intro t d hs he hw;obtain ⟨k,n,s,l⟩:=t;simp only [kU] at hs;have hwl:=hw.2.2.2.2.2.2;unfold Nd.isStmt at he;by_cases c1:k=40\/k=41\/k=42\/k=56
    . rw [AH c1] at he;simp only [jA,plain,beq_iff_eq,kF] at he;obtain ⟨⟨rfl,rfl⟩,hx⟩:=he;split at hx
      . rename_i x y;simp only [jA] at hx;have c1':k=40\/k=41\/k=42\/k=56\/k=43:=by omega
        have e:(Nd.mk k 0 [] [x,y]).spcs d=x.pcs++(.sp [32]::.tk (Cl k)::.sp [32]::y.pcs):=by
         conv=>lhs;unfold Nd.spcs
         rw [AH c1']
        have et:(Nd.mk k 0 [] [x,y]).stmtT d=x.text++[32]++Cl k++[32]++y.text:=by
         conv=>lhs;unfold Nd.stmtT
         rw [AH c1']
        have nx:=FL (Dh hx.1);have ny:=FL hx.2;refine ⟨?_,⟨?_,?_⟩,?_⟩
        . rw [e,et];simp only [Br,flat,FM (Dh hx.1),FM hx.2];simp
        . rw [e];exact nx.then_ Dz (fun t ct=>CJ (Cw (Vh c1') (CJ (ny.wf none Dz))))
        . rw [e];obtain ⟨u,hu,cu⟩:=ny.fin none;exact ⟨u,nx.end_ (fun t=>hu),cu⟩
        . rw [e];simp only [Bs,toks];have:=GS.upd (t:=Cl k) (SZ hx.1 hwl.1) (by rw [S0 c1];omega) (SY hx.2 hwl.2.1);rwa [S0 c1] at this
      . cases hx
    rw [At c1] at he;by_cases c2:k=43
    . rw [AH c2] at he;subst c2;simp only [jA,plain,beq_iff_eq,kF] at he;obtain ⟨⟨rfl,rfl⟩,hx⟩:=he;split at hx
      . rename_i x y;simp only [jA] at hx;have e:(Nd.mk 43 0 [] [x,y]).spcs d=x.pcs++(.sp [32]::.tk (Cl 43)::.sp [32]::y.pcs):=by
         conv=>lhs;unfold Nd.spcs
         rw [AH Ao]
        have et:(Nd.mk 43 0 [] [x,y]).stmtT d=x.text++[32]++Cl 43++[32]++y.text:=by
         conv=>lhs;unfold Nd.stmtT
         rw [AH Ao]
        have nx:=FL (Dh hx.1);have ny:=FL (Dh hx.2);refine ⟨?_,⟨?_,?_⟩,?_⟩
        . rw [e,et];simp only [Br,flat,FM (Dh hx.1),FM (Dh hx.2)];simp
        . rw [e];exact nx.then_ Dz (fun t ct=>CJ (Cw (Vh Ao) (CJ (ny.wf none Dz))))
        . rw [e];obtain ⟨u,hu,cu⟩:=ny.fin none;exact ⟨u,nx.end_ (fun t=>hu),cu⟩
        . rw [e];simp only [Bs,toks];exact GS.swap (SZ hx.1 hwl.1) (SZ hx.2 hwl.2.1)
      . cases hx
    rw [At c2] at he;by_cases c3:k=44\/k=45
    . rw [AH c3] at he;simp only [jA,named,beq_iff_eq] at he;obtain ⟨⟨rfl,hn⟩,hx⟩:=he;split at hx
      . rename_i x;have e:(Nd.mk k 0 s [x]).spcs d = .tk (Q2 k)::.sp [32]::(x.pcs++[.tk [44],.sp [32],.tk s]):=by
         conv=>lhs;unfold Nd.spcs
         rw [At Aa,AH c3]
        have et:(Nd.mk k 0 s [x]).stmtT d=Bm k++x.text++[44,32]++s:=by
         conv=>lhs;unfold Nd.stmtT
         rw [At Aa,AH c3]
        have hk:Bm k=Q2 k++[32]:=by rcases c3 with rfl|rfl<;>decide
        have nx:=FL (Dh hx);have hnt:=Cy hn;refine ⟨?_,⟨?_,?_⟩,?_⟩
        . rw [e,et,hk];simp only [Br,flat,FM (Dh hx)];simp
        . rw [e];exact Cw (N6 k).1 (CJ (nx.then_ Dz (fun t ct=>EF (A6 Ao) (Lz ct) (CJ (Cw hnt.1 trivial)))))
        . rw [e];exact ⟨s,nx.end_ (p:=none) (fun t=>rfl),Ek hnt.2⟩
        . rw [e];simp only [Bs,toks];exact GS.stack (by rcases c3 with rfl|rfl<;>decide) (SZ hx hwl.1) hn
      . cases hx
    rw [At c3] at he;by_cases c4:46<=k/\k<=49
    . rw [AH c4] at he;simp only [jA,plain,beq_iff_eq,kF] at he;obtain ⟨⟨rfl,rfl⟩,hx⟩:=he;split at hx
      . rename_i x;have e:(Nd.mk k 0 [] [x]).spcs d = .tk (Q2 k)::.sp [32]::x.pcs:=by
         conv=>lhs;unfold Nd.spcs
         rw [At Aa,At Aa,AH c4]
        have et:(Nd.mk k 0 [] [x]).stmtT d=Bm k++x.text:=by
         conv=>lhs;unfold Nd.stmtT
         rw [At Aa,At Aa,AH c4]
        have hk:Bm k=Q2 k++[32]/\(Q2 k,k)∈Ja:=by
         have:k=46\/k=47\/k=48\/k=49:=by omega
         rcases this with rfl|rfl|rfl|rfl<;>decide
        have nx:=FL (Dh hx);refine ⟨?_,⟨?_,?_⟩,?_⟩
        . rw [e,et,hk.1];simp only [flat,FM (Dh hx)];simp
        . rw [e];exact Cw (N6 k).1 (CJ (nx.wf none Dz))
        . rw [e];exact nx.fin none
        . rw [e];simp only [toks];exact GS.tape hk.2 (SZ hx hwl.1)
      . cases hx
    rw [At c4] at he;by_cases c5:k=50\/k=51
    . rw [AH c5] at he;simp only [jA,named,beq_iff_eq,decide_eq_true_eq,kG] at he;obtain ⟨⟨⟨rfl,hn⟩,h8⟩,hv⟩:=he;have hnt:=Cy hn;have hk:Bm k=Q2 k++[32]/\(Q2 k,k)∈FC:=by rcases c5 with rfl|rfl<;>decide
      have e:(Nd.mk k 0 s l).spcs d = .tk (Q2 k)::.sp [32]::.tk s::.tk [40]::(MB l++[.tk [41]]):=by
       conv=>lhs;unfold Nd.spcs
       rw [At Aa,At Aa,At Aa,AH c5]
      have et:(Nd.mk k 0 s l).stmtT d=Bm k++s++[40]++CY true l++[41]:=by
       conv=>lhs;unfold Nd.stmtT
       rw [At Aa,At Aa,At Aa,AH c5]
      rw [hk.1] at et;refine YV e et ?_;cases l with
      | nil=>
       simp only [MB];refine ⟨?_,⟨?_,?_⟩,?_⟩
       . simp [flat,CY]
       . exact Cw (N6 k).1 (CJ (Cw hnt.1 (EF (A6 Ao) (N5 hnt.2) (EF (A6 Ao) (LA (DM Ao)) trivial))))
       . exact ⟨[41],rfl,DM Ao⟩
       . simp only [toks,km];exact GS.call0 hk.2 hn
      | cons x r=>
       have hx:=KU (hv x Bg);have hr : ∀y∈r,y.isVar=true:=fun y hy=>hv y (by simp [hy])
       have hrn : ∀m∈r.map lj,AU m=true:=fun m hm=>by
        obtain ⟨y,hy,rfl⟩:=List.mem_map.1 hm;exact (KU (hr y hy)).2.1
       have hxt:=Cy hx.2.1;simp only [MB];refine ⟨?_,⟨?_,?_⟩,?_⟩
       . simp only [jP,flat,Br,PR r hr,CY,hx.2.2];simp
       . simp only [jP];exact Cw (N6 k).1 (CJ (Cw hnt.1 (EF (A6 Ao) (N5 hnt.2) (EF hxt.1 (fun c hc=>El Ao (FW (GT hx.2.1 c hc)))
          (Vi _ _ _ hxt.2 hrn (fun m hm=>EF (A6 Ao) (LA (Ek hm)) trivial))))))
       . refine ⟨[41],?_,DM Ao⟩;simp only [jP,Ca];exact SX _ _ _
       . simp only [jP,toks,Bs,PT];have hg:=GS.call1 (kw:=Q2 k) (m:=s) (u:=x.name) (kd:=k) (l:=r.map lj) hk.2 hn hx.2.1 hrn (by simp only [List.length_map,jz] at h8 ⊢;omega);have hl:(x.name::r.map lj).map Jt=x::r:=by
          rw [kN,<-hx.1,List.map_map];congr 1
          conv=>rhs;rw [<-List.map_id r]
          refine List.map_congr_left (fun y hy=>?_);exact (KU (hr y hy)).1.symm
         rw [hl] at hg;exact hg
    rw [At c5] at he;by_cases c6:k=52\/k=53
    . rw [AH c6] at he;simp only [jA,plain,beq_iff_eq,kF] at he;obtain ⟨⟨rfl,rfl⟩,hx⟩:=he;split at hx
      . rename_i x y z u;simp only [jA] at hx;obtain ⟨⟨⟨a,f⟩,b⟩,g⟩:=hx;simp only [Ah] at hs;have by_:=iB y (d+1) Aa f hwl.2.1;have bz:=iB z (d+1) Aa b hwl.2.2.1;have e:(Nd.mk k 0 [] [x,y,z,u]).spcs d = .tk (Q2 k)::.sp [32]::(x.pcs++(GK (y.lpcs (d+1)) d++(.sp [32]::.tk (WR k)::(GK (z.lpcs (d+1)) d++(.sp [32]::.tk (SU k)::.sp [32]::u.pcs))))):=by
         conv=>lhs;unfold Nd.spcs
         rw [At Aa,At Aa,At Aa,At Aa,AH c6]
        have et:(Nd.mk k 0 [] [x,y,z,u]).stmtT d=Q2 k++[32]++x.text++([32,123,10]++y.linesT (d+1)++CU d++[125])++([32]++WR k)++([32,123,10]++z.linesT (d+1)++CU d++[125])++([32]++SU k++[32])++u.text:=by
         conv=>lhs;unfold Nd.stmtT
         rw [At Aa,At Aa,At Aa,At Aa];rcases c6 with rfl|rfl
         . rw [AH rfl];rfl
         . rw [At Ao,AH rfl];rfl
        have nx:=FL a;have nu:=FL g;refine ⟨?_,⟨?_,?_⟩,?_⟩
        . rw [e,et];simp only [flat,Br,Ly,FM a,FM g,by_.flat,bz.flat];simp
        . rw [e];refine Cw (N6 k).1 (CJ (nx.then_ Dz (fun t ct=>by_.nice.wf_b d ?_ _)));refine CJ (Cw (bW k) (bz.nice.wf_b d ?_ _));exact CJ (Cw (YU k) (CJ (nu.wf none Dz)))
        . rw [e];obtain ⟨v,hv,cv⟩:=nu.fin none;refine ⟨v,?_,cv⟩;show Ca none (x.pcs++_)=_;refine nx.end_ (fun t=>?_);rw [by_.nice.end_b];show Ca (some (WR k)) (GK _ _++_)=_;rw [bz.nice.end_b];exact hv
        . rw [e];simp only [toks,Bs];exact GS.branch (by rcases c6 with rfl|rfl<;>decide) (SY a hwl.1) (by_.bl f d) (bz.bl b d) (SY g hwl.2.2.2.1)
      . cases hx
    rw [At c6] at he;by_cases c7:k=54
    . rw [AH c7] at he;subst c7;simp only [jA,named,beq_iff_eq] at he;obtain ⟨⟨rfl,hn⟩,hx⟩:=he;split at hx
      . rename_i x y z;simp only [jA] at hx;obtain ⟨⟨a,f⟩,b⟩:=hx;simp only [Ah] at hs;have by_:=iB y (d+1) Aa f hwl.2.1;have e:(Nd.mk 54 0 s [x,y,z]).spcs d = .tk [108,111,99,97,108]::.sp [32]::.tk s::.sp [32]::.tk [61]::.sp [32]::(x.pcs++(GK (y.lpcs (d+1)) d++(.sp [32]::.tk [100,101,108,111,99,97,108]::.sp [32]::z.pcs))):=by
         conv=>lhs;unfold Nd.spcs
         rw [At Ao,At Ao,At Ao,At Ao,At Ao,AH rfl]
        have et:(Nd.mk 54 0 s [x,y,z]).stmtT d=[108,111,99,97,108,32]++s++[32,61,32]++x.text++([32,123,10]++y.linesT (d+1)++CU d++[125])++[32,100,101,108,111,99,97,108,32]++z.text:=by
         conv=>lhs;unfold Nd.stmtT
         rw [At Ao,At Ao,At Ao,At Ao,At Ao,At Ao,AH rfl];rfl
        have nx:=FL a;have nz:=FL b;have hnt:=Cy hn;refine ⟨?_,⟨?_,?_⟩,?_⟩
        . rw [e,et];simp only [flat,Br,Ly,FM a,FM b,by_.flat];simp
        . rw [e];refine Cw (A6 Ao) (CJ (Cw hnt.1 (CJ (Cw (A6 Ao) (CJ (nx.then_ Dz (fun t ct=>by_.nice.wf_b d ?_ _)))))));exact CJ (Cw (A6 Ao) (CJ (nz.wf none Dz)))
        . rw [e];obtain ⟨v,hv,cv⟩:=nz.fin none;refine ⟨v,?_,cv⟩;show Ca none (x.pcs++_)=_;refine nx.end_ (fun t=>?_);rw [by_.nice.end_b];exact hv
        . rw [e];simp only [toks,Bs];exact GS.local_ hn (SY a hwl.1) (by_.bl f d) (SY b hwl.2.2.1)
      . cases hx
    rw [At c7] at he;by_cases c8:k=55
    . rw [AH c8] at he;subst c8;simp only [jA,named,beq_iff_eq] at he;obtain ⟨⟨rfl,hn⟩,hx⟩:=he;split at hx
      . rename_i x;simp only [Ah] at hs;have bx:=iB x (d+1) Aa hx hwl.1;have e:(Nd.mk 55 0 s [x]).spcs d = .tk [108,111,99,97,108]::.sp [32]::.tk [115,116,97,99,107]::.sp [32]::.tk s::GK (x.lpcs (d+1)) d:=by
         conv=>lhs;unfold Nd.spcs
         rw [At Ao,At Ao,At Ao,At Ao,At Ao,At Ao,AH rfl]
        have et:(Nd.mk 55 0 s [x]).stmtT d=[108,111,99,97,108,32,115,116,97,99,107,32]++s++([32,123,10]++x.linesT (d+1)++CU d++[125]):=by
         conv=>lhs;unfold Nd.stmtT
         rw [At Ao,At Ao,At Ao,At Ao,At Ao,At Ao,At Ao,AH rfl];rfl
        have hnt:=Cy hn;refine ⟨?_,⟨?_,?_⟩,?_⟩
        . rw [e,et];simp only [flat,Ly,bx.flat];simp
        . rw [e];have:=bx.nice.wf_b d (r:=[]) trivial (some s);rw [kB] at this;exact Cw (A6 Ao) (CJ (Cw (A6 Ao) (CJ (Cw hnt.1 this))))
        . rw [e];refine ⟨[125],?_,DM Ao⟩;have:=bx.nice.end_b d [] (some s);rw [kB] at this;exact this
        . rw [e];simp only [toks];exact GS.lstack hn (bx.bl hx d)
      . cases hx
    . rw [At c8] at he;cases he
  . intro t d hs he hw;obtain ⟨k,n,s,l⟩:=t;simp only [kU] at hs;have hwl:=hw.2.2.2.2.2.2;unfold Nd.isBlock at he;simp only [jA] at he;have hr:=PU d l (fun t ht=>iS t d (by have:=Me ht;omega) (Mf he.2 t ht) (PV hwl t ht));have e:(Nd.mk k n s l).lpcs d=Fo l d:=by unfold Nd.lpcs;rfl
    have et:(Nd.mk k n s l).linesT d=BW l d:=by unfold Nd.linesT;rfl
    refine ⟨?_,?_,?_⟩
    . rw [e,et];exact hr.1
    . rw [e];exact hr.2.1
    . rw [e];exact hr.2.2
def N7 {t:Nd} (f:t.isBlock=true) (h:t.wf) (d:Nat):SaidL t d:=(Um (t.size+1)).2 t d Aa f h
inductive GV:CS->VD->Prop where
 | int {m:lB}:AU m=true->GV [[105,110,116],m] ⟨m,1,0⟩
 | stack {m:lB}:AU m=true->GV [[115,116,97,99,107],m] ⟨m,3,0⟩
 | array {m t:lB}:AU m=true->BV t=true->1<=A8 t->A8 t<=16->GV [[97,114,114,97,121],m,[91],t,[93]] ⟨m,2,(A8 t:Int)⟩
inductive GVs:CS->List VD->Prop where
 | nil:GVs [] []
 | cons {a b:CS} {v:VD} {l:List VD}:GV a v->GVs b l->GVs (a++b) (v::l)
inductive GC:CS->List VD->Prop where
 | nil:GC [] []
 | cons {a b:CS} {v:VD} {l:List VD}:GV a v->GC b l->GC ([44]::(a++b)) (v::l)
inductive GPr:CS->PD->Prop where
 | p0 {m:lB} {b:CS} {x:Nd}:AU m=true->GS .bl b [x]->GPr ([112,114,111,99]::m::[40]::[41]::b) ⟨m,[],x⟩
 | p1 {m:lB} {a c b:CS} {v:VD} {l:List VD} {x:Nd}:AU m=true->GV a v->GC c l->GS .bl b [x]->GPr ([112,114,111,99]::m::[40]::(a++(c++([41]::b)))) ⟨m,v::l,x⟩
inductive GPs:CS->List PD->Prop where
 | nil:GPs [] []
 | cons {a b:CS} {p:PD} {l:List PD}:GPr a p->GPs b l->GPs (a++b) (p::l)
inductive GPG:CS->PG->Prop where
 | mk {a b c:CS} {vs:List VD} {ps:List PD} {x:Nd}:GVs a vs->GPs b ps->GS .bl c [x]->GPG (a++(b++([109,97,105,110]::c))) ⟨vs,ps,x⟩
section
variable {ts:List Tok} {n:Int}
def GV.reads (V:A2 ts) {a:CS} {v:VD} (h:GV a v) {σ:PS} {rest:CS} (O:rem ts σ=a++rest) (E:σ.err=0):Bq ts n σ=(v,Df σ a.length):=by
 cases h with
 | @int m L=>
  have f:rem ts σ=[105,110,116]::(m::rest):=O;unfold Bq;rw [AH (by rw [A0 f E];decide),BE,Cx (AF f) E L,Bf];rfl
 | @stack m L=>
  have f:rem ts σ=[115,116,97,99,107]::(m::rest):=O;unfold Bq;rw [At (by rw [A0 f E];decide),AH (by rw [A0 f E];decide),BE,Cx (AF f) E L,Bf];rfl
 | @array m t L X h1 Z=>
  have f:rem ts σ=[97,114,114,97,121]::(m::[91]::t::[93]::rest):=O;have M:=AF f;have N:=AF M;have F:=AF N;have U:=AF F;unfold Bq;rw [At (by rw [A0 f E];decide),At (by rw [A0 f E];decide),AH (by rw [A0 f E];decide),BE,Cx M E L];simp only;rw [A7 N E];have Y:BN ts n 1 16 (Df (Df (Df σ 1) 1) 1)=((A8 t:Int),Df (Df (Df (Df σ 1) 1) 1) 1):=by
   unfold BN;rw [AH ((GF V F E).2 X),B8 F E,AH ⟨Aa,Aa,Aa⟩];rfl
  rw [Y];simp only;rw [A7 U E,Bf,Bf,Bf,Bf];rfl
def GV.head {a:CS} {v:VD} (h:GV a v) : ∃t r,a=t::r/\(t=[105,110,116]\/t=[97,114,114,97,121]\/t=[115,116,97,99,107])/\r≠[]:=by
 cases h<;>exact ⟨_,_,rfl,Bg,Bg⟩
def N8 {σ:PS} (f:σ.at_<=ts.length) (h:σ.err=0):Cd ts σ=(decide (((rem ts σ).head?).getD []=[105,110,116])||decide (((rem ts σ).head?).getD []=[97,114,114,97,121])||decide (((rem ts σ).head?).getD []=[115,116,97,99,107])):=by
 unfold Cd;rw [F8 f h,F8 f h,F8 f h]
def WT (V:A2 ts) {a:CS} {l:List VD} (h:GVs a l) : ∀(k:Nat) (acc:List VD) (σ:PS) (rest:CS),σ.at_<=ts.length->σ.err=0->rem ts σ=a++rest->(∀t∈rest.head?,t≠[105,110,116]/\t≠[97,114,114,97,121]/\t≠[115,116,97,99,107])->acc.length+l.length<=32->a.length+1<=k->Do ts n k acc σ=(acc++l,Df σ a.length):=by
 induction h with
 | nil=>
  intro k acc σ rest F E f L _ N;obtain ⟨k,rfl⟩ : ∃j,k=j+1:=⟨k-1,Aa⟩;rw [Do,At]
  . simp [Df]
  . rw [N8 F E,f,km];cases rest with
    | nil=>decide
    | cons t r=>
     obtain ⟨h1,X,Y⟩:=L t rfl;simp [h1,X,Y]
 | @cons a b v l O hl Z=>
  intro k acc σ rest F E f L M N;obtain ⟨k,rfl⟩ : ∃j,k=j+1:=⟨k-1,Aa⟩;rw [jS] at f;obtain ⟨t,r,U,ht,-⟩:=O.head;simp only [jz,jy] at M N ⊢;rw [Do,AH]
  . simp only;rw [At Aa,O.reads V f E];have aa:1<=a.length:=by rw [U];simp
    simp only;rw [Z k (acc++[v]) (Df σ a.length) rest (GG F f) E (Cv f) L (by simp only [jy,jz,jD];omega) Aa,Bf];simp
  . rw [N8 F E,f,U];rcases ht with rfl|rfl|rfl<;>simp
def S1 (U:A2 ts) {a:CS} {l:List VD} (h:GC a l) : ∀(k:Nat) (acc:List VD) (σ:PS) (rest:CS),σ.at_<=ts.length->σ.err=0->rem ts σ=a++rest->(∀t∈rest.head?,t≠[44])->acc.length+l.length<=8->a.length+1<=k->Bn ts n k acc σ=(acc++l,Df σ a.length):=by
 induction h with
 | nil=>
  intro k acc σ rest N F L M _ O;obtain ⟨k,rfl⟩ : ∃j,k=j+1:=⟨k-1,Aa⟩;rw [Bn,At]
  . simp [Df]
  . rw [F8 N F,L,km];cases rest with
    | nil=>decide
    | cons t r=>have:=M t rfl;simp [this]
 | @cons a b v l V Z X=>
  intro k acc σ rest N F L M Y O;obtain ⟨k,rfl⟩ : ∃j,k=j+1:=⟨k-1,Aa⟩
  have f:rem ts σ=[44]::(a++(b++rest)):=by rw [L];simp
  have E:=AF f;simp only [jz,jy] at Y O ⊢;rw [Bn,AH (by rw [A0 f F];decide)];simp only;rw [At Aa,BE,V.reads U E F];simp only;rw [X k (acc++[v]) (Df (Df σ 1) a.length) rest (GG (C5 f) E) F (Cv E) M (by simp only [jy,jz,jD];omega) Aa,Bf,Bf];refine Prod.ext Bg ?_;show Df σ _=Df σ _;congr 1;omega
def Vj {t u:lB} {r:CS} (h:u≠t) : ∀x∈(u::r).head?,x≠t:=fun x f=>by
 have:u=x:=by simpa using f
 rw [<-this];exact h
def LB (E:A2 ts) {b:CS} {x:Nd} (h:GS .bl b [x]) {σ:PS} {k:Nat} {rest:CS} (F:σ.at_<=ts.length) (f:σ.err=0) (L:rem ts σ=b++rest) (h1:x.depth<=80) (N:x.size<=2000) (M:4*b.length+4<=k):EZ ts n k σ=(x,Df σ b.length):=by
 have:=GI (h.reads (n:=n) E σ k rest F f L M);unfold EZ;rw [this];refine Prod.ext rfl ?_;show D5 x _ (Df σ b.length)=_;unfold D5;rw [At (by rw [bB,f];simp),At Aa,At Aa]
def GPr.head {a:CS} {p:PD} (h:GPr a p) : ∃r,a=[112,114,111,99]::r:=by
 cases h<;>exact ⟨_,rfl⟩
def WU (U:A2 ts) {a:CS} {p:PD} (h:GPr a p) {σ:PS} {k:Nat} {rest:CS} (hw:σ.at_<=ts.length) (E:σ.err=0) (Z:rem ts σ=a++rest) (h1:p.body.depth<=80) (h2:p.body.size<=2000) (h3:p.params.length<=8) (hk:4*a.length<=k):Dk ts n k σ=(p,Df σ a.length):=by
 cases h with
 | @p0 m b x V X=>
  have L:rem ts σ=[112,114,111,99]::(m::[40]::[41]::(b++rest)):=Z;have M:=AF L;have F:=AF M;have f:=AF F;have N:=AF f;simp only [jz] at hk ⊢;unfold Dk;rw [A7 L E,Cx M E V];simp only;rw [A7 F E,AH (by rw [A0 f E];decide)];simp only;rw [BE,LB U X (C5 f) E N h1 h2 Aa,Bf,Bf,Bf,Bf];refine Prod.ext rfl ?_;show Df σ _=Df σ _;congr 1;omega
 | @p1 m a c b v l x V hv hc X=>
  have L:rem ts σ=[112,114,111,99]::(m::[40]::(a++(c++([41]::(b++rest))))):=by rw [Z];simp
  have M:=AF L;have F:=AF M;have f:=AF F;have N:=Cv f;have O:=Cv N;have Y:=AF O;obtain ⟨t,r,ea,ht,-⟩:=hv.head;simp only [jz,jy] at hk h3 ⊢;unfold Dk;rw [A7 L E,Cx M E V];simp only;have w3:=C5 F;have w4:=GG w3 f;have w5:=GG w4 N;rw [A7 F E,At (by rw [F8 w3 E,f,ea];rcases ht with rfl|rfl|rfl<;>simp),hv.reads U f E];simp only;rw [S1 U hc k [v] _ _ w4 E N (Vj Ao) (by simp only [jz,jD];omega) Aa];simp only;rw [A7 O E,LB U X (C5 O) E Y h1 h2 Aa];simp only [Bf];refine Prod.ext rfl ?_;show Df σ _=Df σ _;congr 1;omega
def Un (X:A2 ts) {a:CS} {l:List PD} (h:GPs a l) : ∀(k:Nat) (acc:List PD) (σ:PS) (rest:CS),σ.at_<=ts.length->σ.err=0->rem ts σ=a++rest->(∀t∈rest.head?,t≠[112,114,111,99])->acc.length+l.length<=64->(∀p∈l,p.body.depth<=80/\p.body.size<=2000/\p.params.length<=8)->4*a.length+1<=k->B0 ts n k acc σ=(acc++l,Df σ a.length):=by
 induction h with
 | nil=>
  intro k acc σ rest F L E M _ _ O;obtain ⟨k,rfl⟩ : ∃j,k=j+1:=⟨k-1,Aa⟩;rw [B0,At]
  . simp [Df]
  . rw [F8 F L,E,km];cases rest with
    | nil=>decide
    | cons t r=>have:=M t rfl;simp [this]
 | @cons a b p l U hl Y=>
  intro k acc σ rest F L E M N f O;obtain ⟨k,rfl⟩ : ∃j,k=j+1:=⟨k-1,Aa⟩;rw [jS] at E;obtain ⟨r,V⟩:=U.head;obtain ⟨Z,q2,q3⟩:=f p Bg;have aa:1<=a.length:=by rw [V];simp
  simp only [jz,jy] at N O ⊢;rw [B0,AH (by rw [F8 F L,E,V];simp)];simp only;rw [At Aa,WU X U F L E Z q2 q3 Aa];simp only;rw [Y k (acc++[p]) (Df σ a.length) rest (GG F E) L (Cv E) M (by simp only [jy,jz,jD];omega) (fun q hq=>f q (by simp [hq])) Aa,Bf];simp
def QX (M:A2 ts) {a:CS} {g:PG} (h:GPG a g) (N:g.vars.length<=32/\g.procs.length<=64) (Y : ∀p∈g.procs,p.body.depth<=80/\p.body.size<=2000/\p.params.length<=8) (h1:g.main.depth<=80) (Z:g.main.size<=2000) {σ:PS} {k:Nat} (hw:σ.at_<=ts.length) (L:σ.err=0) (O:rem ts σ=a) (hk:4*a.length+1<=k):BD ts n k σ=(g,Df σ a.length):=by
 cases h with
 | @mk a b c vs ps x hv F hx=>
  simp only at N Y h1 Z;simp only [jy,jz] at hk ⊢;have f:=Cv O;have E:=Cv f;have U:=AF E;have w2:=GG hw O;have w3:=GG w2 f;unfold BD;rw [WT M hv k [] σ _ hw L O (fun t V=>by
   cases F with
   | nil=>
    have:[109,97,105,110]=t:=by simpa using V
    subst this;decide
   | cons X _=>
    obtain ⟨r,e⟩:=X.head;rw [e] at V;have:[112,114,111,99]=t:=by simpa using V
    subst this;decide) (by simp only [jD];omega) Aa]
  simp only [km];rw [Un M F k [] _ _ w2 L f (Vj Ao) (by simp only [jD];omega) Y Aa];simp only [km];rw [A7 E L,LB M hx (C5 E) L (by rw [U,kB]) h1 Z Aa];simp only [Bf];refine Prod.ext rfl ?_;show Df σ _=Df σ _;congr 1;omega
end
def WV {s:lB} {ts:List Tok} {g:PG} (M : ¬ 65536<s.length) (h:Bp s 0=(ts,none)) (N:GPG (Q1 ts) g) (E:g.vars.length<=32/\g.procs.length<=64) (O : ∀p∈g.procs,p.body.depth<=80/\p.body.size<=2000/\p.params.length<=8) (h1:g.main.depth<=80) (U:g.main.size<=2000):A9 s=(g,0,0):=by
 have f:=bN M (by rw [h]);rw [h] at f;simp only at f;have F:=FA s;have L:=Hp s;rw [f] at F L;simp only at F L;have V:=QX (n:=s.length) F N E O h1 U (σ:=⟨0,0,0⟩) (k:=Gm s) (jN _) rfl fQ (by rw [Vf];unfold Gm;omega);unfold A9;rw [f];simp only;rw [V];have X:DD ts s.length (Df ⟨0,0,0⟩ (Q1 ts).length)=Df ⟨0,0,0⟩ (Q1 ts).length:=by unfold DD;rw [At (by simp [Df,Vf])]
 simp only [X];rw [At (by simp [Df])]
def VD.pcs (v:VD):List Pc:=if v.kind=1 then [.tk [105,110,116],.sp [32],.tk v.name] else if v.kind=2 then [.tk [97,114,114,97,121],.sp [32],.tk v.name,.tk [91],.tk (Lib.itoa v.len),.tk [93]] else [.tk [115,116,97,99,107],.sp [32],.tk v.name]
def VD.shape {v:VD} (h:v.ok=true):AU v.name=true/\((v.kind=1/\v.len=0)\/(v.kind=3/\v.len=0)\/(v.kind=2/\1<=v.len/\v.len<=16)):=by
 simp only [VD.ok,jA] at h;refine ⟨h.1,?_⟩;have f:=h.2;split at f
 . rename_i c;have:v.len=0:=by simpa using f
   rcases c with c|c
   . exact jF ⟨c,this⟩
   . exact jG (jF ⟨c,this⟩)
 . split at f
   . rename_i c;simp only [jA,decide_eq_true_eq] at f;exact jG (jG ⟨c,f⟩)
   . cases f
def YW {t:lB} {c:UInt8} (h:(Aq t).1=1) (f:FH c=false):Adj t c:=⟨fun _=>f,fun e=>(by rw [h] at e;cases e),fun e=>(by rw [h] at e;cases e)⟩
def YX {c:UInt8} {l:lB} (h:c∈l.head?):c∈l:=by
 cases l with
 | nil=>cases h
 | cons x r=>
  have:x=c:=by simpa using h
  rw [this];simp
def QY {v:VD} (h:v.ok=true):flat v.pcs=v.text/\Nice v.pcs/\GV (toks v.pcs) v:=by
 obtain ⟨F,Y⟩:=VD.shape h;obtain ⟨m,k,len⟩:=v;simp only at F Y;have L:=Cy F;have kw : ∀t:lB,(t=[105,110,116]\/t=[115,116,97,99,107]) -> ∀p,N1 p->wf p [.tk t,.sp [32],.tk m]:=fun t h p M=>by
  have N:TokT t:=by rcases h with rfl|rfl<;>exact A6 Ao
  refine ⟨N,fun u O c f=>El (M u O) ?_,CJ (Cw L.1 trivial)⟩;rcases h with rfl|rfl
  . have:c=105:=by simpa using f.symm
    subst this;decide
  . have:c=115:=by simpa using f.symm
    subst this;decide
 rcases Y with ⟨rfl,rfl⟩|⟨rfl,rfl⟩|⟨rfl,h1,Z⟩
 . have e:VD.pcs ⟨m,1,0⟩=[.tk [105,110,116],.sp [32],.tk m]:=rfl;rw [e];exact ⟨by simp [flat,VD.text],⟨kw _ (jF rfl),fun p=>⟨m,rfl,Ek L.2⟩⟩,GV.int F⟩
 . have e:VD.pcs ⟨m,3,0⟩=[.tk [115,116,97,99,107],.sp [32],.tk m]:=rfl;rw [e];exact ⟨by simp [flat,VD.text],⟨kw _ (jG rfl),fun p=>⟨m,rfl,Ek L.2⟩⟩,GV.stack F⟩
 . have e:VD.pcs ⟨m,2,len⟩=[.tk [97,114,114,97,121],.sp [32],.tk m,.tk [91],.tk (Lib.itoa len),.tk [93]]:=rfl;rw [e,Hy Aa];obtain ⟨U,v2,v3⟩:=KT len.toNat;have E:=N0 v3 v2;refine ⟨by simp [flat,VD.text,Hy (show 0<=len by omega)],⟨fun p M=>?_,fun p=>⟨[93],rfl,DM Ao⟩⟩,?_⟩
   . refine ⟨A6 Ao,fun u O c f=>El (M u O) ?_,CJ (Cw L.1 (EF (A6 Ao) (fun c f=>?_) (EF E.1 (fun c f=>?_) (EF (A6 Ao) (fun c f=>?_) trivial))))⟩
     . have:c=97:=by simpa using f.symm
       subst this;decide
     . have:c=91:=by simpa using f.symm
       subst this;exact YW L.2 Ao
     . have V:=v2 c (YX f);exact El Ao (N3 V)
     . have:c=93:=by simpa using f.symm
       subst this;exact (N2 E.2).2.1
   . have X:BV (Lib.decDigits len.toNat)=true:=by
      cases hd:Lib.decDigits len.toNat with
      | nil=>exact absurd hd v3
      | cons c r=>simpa [BV] using v2 c (by rw [hd];simp)
     have:=GV.array (m:=m) (t:=Lib.decDigits len.toNat) F X (by rw [U];omega) (by rw [U];omega);rw [U,show ((len.toNat:Nat):Int)=len by omega] at this;exact this
def JW:List VD->List Pc
 | []=>[]
 | v::r=>v.pcs++(.sp [10]::JW r)
def PW:N1 none:=fun t f=>by cases f
def PX : ∀l:List VD,Dd l=true->flat (JW l)=JY VD.line l/\NiceL (JW l)/\GVs (toks (JW l)) l
 | [],_=>⟨rfl,⟨trivial,rfl⟩,GVs.nil⟩
 | v::r,h=>by
  unfold Dd at h;simp only [List.all_cons,jA] at h;obtain ⟨h1,f,E⟩:=QY h.1;obtain ⟨F,i2,i3⟩:=PX r h.2;refine ⟨?_,⟨?_,?_⟩,?_⟩
  . simp only [JW,Br,flat,h1,F];simp [JY,VD.line]
  . exact f.then_ PW (fun t _=>PQ Ao Ao i2.wf)
  . exact f.end_ (fun t=>by simp only [Ca];exact i2.fin)
  . simp only [JW,Bs,toks];exact GVs.cons E i3
def EN:List VD->List Pc
 | []=>[]
 | v::r=>.tk [44]::.sp [32]::(v.pcs++EN r)
def Mg : ∀l:List VD,Dd l=true->flat (EN l)=CV VD.text false l/\(∀(t:lB) (R:List Pc),G6 t->wf (some [41]) R->wf (some t) (EN l++.tk [41]::R))/\GC (toks (EN l)) l/\(∀(t:lB) (R:List Pc),Ca (some t) (EN l++.tk [41]::R)=Ca (some [41]) R)
 | [],_=>⟨rfl,fun t R f E=>EF (A6 Ao) (LA f) E,GC.nil,fun _ _=>rfl⟩
 | v::r,h=>by
  unfold Dd at h;simp only [List.all_cons,jA] at h;obtain ⟨h1,F,L⟩:=QY h.1;obtain ⟨M,i2,i3,i4⟩:=Mg r h.2;refine ⟨?_,fun t R f E=>?_,?_,fun t R=>?_⟩
  . simp only [EN,flat,Br,h1,M,CV];simp
  . simp only [EN,jP,jS];exact EF (A6 Ao) (Lz f) (CJ (F.then_ PW (fun u N=>i2 u R N E)))
  . simp only [EN,toks,Bs];exact GC.cons L i3
  . simp only [EN,jP,jS];simp only [Ca];exact F.end_ (fun u=>i4 u R)
def FX:List VD->List Pc
 | []=>[]
 | v::r=>v.pcs++EN r
def PD.pcs (p:PD):List Pc:=.tk [112,114,111,99]::.sp [32]::.tk p.name::.tk [40]::(FX p.params++(.tk [41]::(GK (p.body.lpcs 1) 0++[.sp [10]])))
def S3:N1 (some [40]):=Ix Ao
mutual
def PY : ∀(t:Nd) (d m:Int),0<=d->(t.lim d m).1=true->t.depth<=d
 | .mk _ _ s l,d,m,hd,h=>by
  simp only [Nd.lim] at h;split at h
  . simp at h
  . have:=KV l (d-1) (m-1) Aa h;simp only [Nd.depth];omega
def KV : ∀(l:List Nd) (d m:Int),0<=d->(Ct l d m).1=true->AV l<=d
 | [],d,m,hd,_=>by simp only [AV];exact hd
 | t::r,d,m,hd,h=>by
  simp only [Ct] at h;split at h
  . rename_i ht;have h1:=PY t d m hd ht;have h2:=KV r d _ hd h;simp only [AV];omega
  . simp at h
end
def Iy {t:Nd} (h:D7 t=true):t.isBlock=true/\t.depth<=80/\t.size<=2000:=by
 simp only [D7,jA] at h;have h1:=NL t 80 2000 Aa h.1;have f:=JP t 80 2000 Aa;exact ⟨h.2,PY t 80 2000 Aa h.1,Aa⟩
def Uo : ∀c∈([41]:lB).head?,Adj [40] c:=fun c f=>by
 have:c=41:=by simpa using f.symm
 subst this;exact El Ao Ao
def bX {p:PD} (h:p.ok=true) (Z:p.wf):flat p.pcs=p.text/\NiceL p.pcs/\GPr (toks p.pcs) p:=by
 simp only [PD.ok,jA] at h;obtain ⟨⟨⟨U,-⟩,F⟩,X⟩:=h;obtain ⟨V,b2,b3⟩:=Iy X;have E:=N7 V Z.body 1;have f:=Cy U;obtain ⟨m,ps,x⟩:=p;simp only at U F X V E f;have L:GS .bl (toks (GK (x.lpcs 1) 0)) [x]:=E.bl V 0;have M : ∀q,wf q (GK (x.lpcs 1) 0++[.sp [10]]):=fun q=>E.nice.wf_b 0 (PQ (r:=[]) Ao Ao trivial) q
 have N : ∀q,Ca q (GK (x.lpcs 1) 0++[.sp [10]])=none:=fun q=>by rw [E.nice.end_b];rfl
 have O : ∀c∈([40]:lB).head?,Adj m c:=N5 f.2;cases ps with
 | nil=>
  refine ⟨?_,⟨?_,?_⟩,?_⟩
  . simp only [PD.pcs,PD.text,flat,Br,FX,Ly,E.flat,CV];simp [CU]
  . exact Cw (A6 Ao) (CJ (Cw f.1 (EF (A6 Ao) O (EF (A6 Ao) (Uo) (M _)))))
  . simp only [PD.pcs,FX,km,Ca];exact N _
  . simp only [PD.pcs,toks,Bs,FX,km,kB];exact GPr.p0 U L
 | cons v r=>
  unfold Dd at F;simp only [List.all_cons,jA] at F;obtain ⟨h1,Y,h3⟩:=QY F.1;obtain ⟨i1,i2,i3,i4⟩:=Mg r F.2;refine ⟨?_,⟨?_,?_⟩,?_⟩
  . simp only [PD.pcs,PD.text,flat,Br,FX,Ly,E.flat,CV,h1,i1];simp [CU]
  . refine Cw (A6 Ao) (CJ (Cw f.1 (EF (A6 Ao) O ?_)));simp only [FX,jS];exact Y.then_ S3 (fun t ht=>i2 t _ ht (M _))
  . simp only [PD.pcs,FX,Ca,jS];exact Y.end_ (fun t=>by rw [i4];exact N _)
  . simp only [PD.pcs,toks,Bs,FX,kB,jS];exact GPr.p1 U h3 i3 L
def NiceL.app {A B:List Pc} (h:NiceL A) (k:NiceL B):NiceL (A++B):=⟨by rw [DK,h.fin];exact ⟨h.wf,k.wf⟩,by rw [C6,h.fin];exact k.fin⟩
def Iz:List PD->List Pc
 | []=>[]
 | p::r=>p.pcs++Iz r
def N9 : ∀l:List PD,l.all PD.ok=true->(∀p∈l,p.wf)->flat (Iz l)=JY PD.text l/\NiceL (Iz l)/\GPs (toks (Iz l)) l
 | [],_,_=>⟨rfl,⟨trivial,rfl⟩,GPs.nil⟩
 | p::r,h,f=>by
  simp only [List.all_cons,jA] at h;obtain ⟨h1,E,F⟩:=bX h.1 (f p Bg);obtain ⟨L,i2,i3⟩:=N9 r h.2 (fun q M=>f q (by simp [M]));refine ⟨?_,E.app i2,?_⟩
  . simp only [Iz,Br,h1,L];simp [JY]
  . simp only [Iz,Bs];exact GPs.cons F i3
def PG.pcs (g:PG):List Pc:=JW g.vars++(Iz g.procs++(.tk [109,97,105,110]::(GK (g.main.lpcs 1) 0++[.sp [10]])))
def bZ {g:PG} (h:g.ok=true) (E:g.wf):flat g.pcs=g.text/\wf none g.pcs/\GPG (toks g.pcs) g:=by
 simp only [PG.ok,jA,decide_eq_true_eq] at h;obtain ⟨⟨⟨⟨-,-⟩,M⟩,N⟩,O⟩:=h;obtain ⟨F,Y,Z⟩:=Iy O;have f:=N7 F E.main 1;obtain ⟨U,v2,v3⟩:=PX g.vars M;obtain ⟨V,L,X⟩:=N9 g.procs N E.procs;refine ⟨?_,?_,?_⟩
 . simp only [PG.pcs,PG.text,flat,Br,U,V,Ly,f.flat];simp [CU]
 . unfold PG.pcs;rw [DK,DK,v2.fin,L.fin];exact ⟨v2.wf,L.wf,Cw (A6 Ao) (f.nice.wf_b 0 (PQ (r:=[]) Ao Ao trivial) _)⟩
 . simp only [PG.pcs,toks,Bs,kB];exact GPG.mk v3 X (f.bl F 0)
def Ox {g:PG} (h:g.ok=true) (L:g.wf) (hl:g.text.length<=65536):A9 g.text=(g,0,0):=by
 obtain ⟨h1,M,N⟩:=bZ h L;obtain ⟨us,F,O⟩:=Lw _ none M;rw [h1] at F;simp only [PG.ok,jA,decide_eq_true_eq] at h;obtain ⟨⟨⟨⟨U,V⟩,-⟩,X⟩,Y⟩:=h;obtain ⟨-,Z,b3⟩:=Iy Y;refine WV Aa F (by rw [O];exact N) ⟨U,V⟩ (fun p E=>?_) Z b3;have f:=kG.1 X p E;simp only [PD.ok,jA,decide_eq_true_eq] at f;obtain ⟨-,c2,c3⟩:=Iy f.2;exact ⟨c2,c3,f.1.1.2⟩
def Up (g:PG):Ve g.text:=by
 refine jG ⟨JY VD.line g.vars++JY PD.text g.procs++[109,97,105,110,32,123,10]++g.main.linesT 1++[125],?_⟩;unfold PG.text;simp
def Oa {e:EX} (h:e.valid) (E:e.g.wf) (F:e.g.text.length<=65536) (r:lB):Hx (e.text++r) = .ok (e,r):=by
 have L:=KO e.g.text;have f:(0:Int)<=(Lib.countByte e.g.text 10:Nat):=by omega
 have h1:=YR h f (e.g.text++r);have M:=Uk h f;obtain ⟨N,O,U⟩:=bT h f Aa;have V:=Ul (r:=r) (Up e.g);have X:=Ox h.2.1.1 E F;have Y:e.text++r=JA e (Lib.countByte e.g.text 10:Nat)++(e.g.text++r):=by unfold EX.text;rw [jS]
 have Z:((Lib.countByte e.g.text 10:Nat):Int).toNat=Lib.countByte e.g.text 10:=Int.toNat_natCast _;unfold Hx;rw [Y,h1];simp only [M,U,Z,V,X,O];rw [At Ao,At (fun k=>k N),At Ao,At (fun k=>k trivial),At (fun k=>k trivial),At (fun k=>k h)]
def Vk (e:EX) (r:lB):e.text++r≠[]:=by
 unfold EX.text JA;simp
def Ob : ∀(l acc:List EX) (n line:Nat),(∀e∈l,e.valid/\e.g.wf/\e.g.text.length<=65536) -> ¬GB (acc++l)->acc.length+l.length<=100->l.length<n->DJ n acc line (Ch l)=(acc++l,0,0)
 | [],acc,n+1,line,_,_,_,_=>by
  rw [DJ,AH (show Ch []=[] from rfl),kB]
 | e::l,acc,n+1,line,h,f,E,F=>by
  obtain ⟨h1,L,M⟩:=h e Bg;have N:Ch (e::l)=e.text++Ch l:=rfl;have O:=Oa h1 L M (Ch l);simp only [jz] at E F;have U : ¬Ez acc e.name=true:=fun k=>f ⟨acc.length,Bg,e,Bg,by simpa using k⟩
  rw [N,DJ,At (Vk e _),At Aa,O];simp only;rw [At U,Ob l (acc++[e]) n _ (fun x V=>h x (kH _ V)) (by rw [jS];exact f) (by simp only [jy,jz,jD];omega) Aa];rw [jS];rfl
def Oc {l:List EX} (h : ∀e∈l,e.valid/\e.g.wf) (E : ¬GB l) (F:l.length<=100) (L : ¬ 65536<(Ch l).length):Iw (Ch l)=(l,0,0):=by
 unfold Iw;rw [At L];refine Ob l [] 101 1 (fun e f=>⟨(h e f).1,(h e f).2,?_⟩) E (by simpa using F) Aa;have h1:e.text.length<=(Ch l).length:=by
  obtain ⟨a,b,rfl⟩:=List.append_of_mem f;unfold Ch;rw [List.flatMap_append,List.flatMap_cons,jy,jy];omega
 have M:e.g.text.length<=e.text.length:=by unfold EX.text;rw [jy];omega
 omega
open Go.RowKit Go.Proofs
attribute [local irreducible] Go.Calls
def QZ (l:List EX):(ED l=(Ch l,0)/\(∀e∈l,e.valid) /\ ¬GB l/\l.length<=100 /\ ¬ 65536<(Ch l).length) \/ ∃k:Int,k≠0/\ED l=([],k):=by
 by_cases h1:100<l.length
 . exact jG ⟨5,Ao,L6 h1⟩
 by_cases f : ∀e∈l,e.valid
 . by_cases h:GB l
   . exact jG ⟨22,Ao,NO h1 f h⟩
   . by_cases E:65536<(Ch l).length
     . exact jG ⟨5,Ao,KN h1 f h E⟩
     . exact jF ⟨Lp h1 f h E,f,h,Aa,E⟩
 . simp only [Classical.not_forall] at f;obtain ⟨e,F,L⟩:=f;exact jG ⟨3,Ao,NN h1 e F L⟩
def JX (l:List EX) : ∃f h,ED l=(f,h)/\((h=0/\f=Ch l/\(∀e∈l,e.valid) /\ ¬GB l/\l.length<=100 /\ ¬ 65536<(Ch l).length)\/(h≠0/\f=[])):=by
 rcases QZ l with ⟨h1,E⟩|⟨k,h1,E⟩
 . exact ⟨_,_,h1,jF ⟨rfl,rfl,E⟩⟩
 . exact ⟨_,_,E,jG ⟨h1,rfl⟩⟩
def Fit (l:List EX):Prop:=l.length<=110 /\ ∀e∈l,e.g.vars.length<=40/\e.g.procs.length<=70
def GreatF (l:List EX) (w:wD):Ending->wD->Prop:=fun e w'=> ∃b:Bool,e = .returned (.bool b)/\(b=false->Fit l)/\Ext w w'
def GreatF.ret {l:List EX} {w w':wD} {e:Ending} (h:GreatF l w e w') : ∃v,e = .returned v:=by
 obtain ⟨_,h,-⟩:=h;exact ⟨_,h⟩
def Fit.wf {l:List EX} (h:Fit l) (E : ∀e∈l,e.name.length<=9223372036854775807/\e.g.wf) : ∀e∈l,e.wf:=fun e f=>⟨(E e f).1,(E e f).2,by have:=(h.2 e f).1;omega⟩
def fS (l:List EX) (aa:l.length<=9223372036854775807) (hw : ∀e∈l,e.name.length<=9223372036854775807/\e.g.wf) (S:nP) (a:oA) (c:Nat) (w:wD) (F:EXs S w l a) (L:Errs2 w) (f:TabsF w) :
 Calls prog 6 #[.slice a l.length c] w fun r w'=>r = .returned (.bool true)/\Ext w w':=by
 have X:=Ext.refl w;have al:=f.g;have F:=F.ltA;have HA:=jC (fun M h1 U=>PI M h1 U);have HG:Hid (∀M,EXs (· < w.heap.size) M l a->Calls prog 11 #[.slice a l.length c] M (GreatF l M)):=jC (fun M h=>Lu l aa (fun e V=>(hw e V).2) (· < w.heap.size) a c M h);have HW:=jC hw;clear hw;refine Ad func6 ntmps6 rfl rfl ?_
 focus
  refine eK ?_;refine cC rfl (HA.out _ Af Af) ?_;rintro _ w2 ⟨⟨⟩,x1⟩;revert L f X F;refine eY x1 ?_;intro z3 L f X F;refine eK ?_;refine eQ rfl (HG.out _ Af) ?_;rintro _ w7 ⟨b4,⟨⟨⟩,⟨h5,x6⟩⟩⟩;revert L f X F;refine eY x6 ?_;intro z8 L f X F;refine cT ?_;refine EO rfl (fun c9=>?_) (fun c9=>?_);refine eK ?_;refine xR ?_;rotate_left;refine Aw (Ag ?_);rotate_left
 . exact ⟨rfl,X⟩
 have hf:=(show _=false->Fit l by assumption) Af;have am:=hf.1;have HV:=jC (fun M h=>Jr l Aa (· < w.heap.size) a c M h);have HP:=jC (fun S a c hc M h1 U=>Jn l (hf.wf HW.out) S a c Aa hc M h1 U);obtain ⟨ps,pk,hp,hc⟩:=JX l;rw [hp] at HP;simp only at HP;clear hp hf HA HG;refine eK ?_;refine eQ rfl (HV.out _ Af) ?_;rintro _ an ⟨ao,⟨ap,⟨⟨⟩,⟨aq,⟨E,ab⟩⟩⟩⟩⟩;revert L f X F;refine eY ab ?_;intro ar L f X F;refine cC rfl (HP.out _ _ _ Af _ Af Af) ?_;rintro _ au ⟨⟨⟩,ac⟩;revert E L f X F;refine eY ac ?_;intro af E L f X F;refine C1 Mv (C1 Px (C1 Px (C1 Pa (C1 Pa (cT (Al ?_))))));clear HV HP;rcases hc with ⟨rfl,rfl,U,h3,h4,h5⟩|⟨hk,rfl⟩
 . have hb:=Oc (fun e V=>⟨U e V,(HW.out e V).2⟩) h3 h4 h5;have HR:=jC (fun M L f=>Ls (Ch l) Aa M L f);rw [hb] at HR;have HS:=jC (fun S S' a a' c c' M h1 ad=>Vb l Aa (fun e V=>KG (U e V).2.1.1) S S' a a' c c' M h1 ad);clear HW U h3 h5 hb;generalize Ch l=s at *;refine eK ?_;refine eQ rfl (HR.out _ Af Af) ?_;rintro _ av ⟨aw,⟨ax,⟨⟨⟩,⟨ay,⟨N,ae⟩⟩⟩⟩⟩;revert E L f X F;refine eY ae ?_;intro az E L f X F;refine C1 Mv (C1 Px (C1 Px (C1 Px (C1 Pa (C1 Pa (C1 Pa (cN (C1 Mv (C1 V1 (C1 Mv (Bd rfl rfl rfl (EA (rfl)) ?_)))))))))));refine C1 Mv (Bd rfl rfl rfl (EA (rfl)) (C1 V1 (C1 (Qy (rfl)) (C1 Mv (Bd rfl rfl rfl (EA (rfl)) (C1 Mv (Bd rfl rfl rfl (EA (rfl)) (C1 Mv (Bd rfl rfl rfl (EA (rfl)) (eQ rfl (Jr l Aa (· < w.heap.size) a c _ Af) ?_))))))))));rintro _ ag ⟨a0,⟨a1,⟨⟨⟩,⟨ah,⟨O,Y⟩⟩⟩⟩⟩;revert N E L f X F;refine eY Y ?_;intro ai N E L f X F;refine Bd rfl rfl rfl (EA (rfl)) (cC rfl (HS.out _ _ _ _ _ _ _ Af Af) ?_);rintro _ aj ⟨⟨⟩,Z⟩;revert O N E L f X F;refine eY Z ?_;intro ak O N E L f X F;refine C1 (Qy (rfl)) ?_;refine eK ?_;refine xR ?_;all_goals exact ⟨rfl,X⟩
 . clear HW;refine eK ?_;refine xR ?_;all_goals exact ⟨rfl,X⟩
def Ga:nP:=fun _=>True
def PZ (W:wD) (b o:Nat) : ∀(len i0:Nat),(∀i,i<len -> ∃(t:Nd) (f:oA) (E:Nat),t.wf/\W.cell? ⟨b,o+(i0+i)*4,none⟩=some (.int .u8 t.kind)/\W.cell? ⟨b,o+(i0+i)*4+1,none⟩=some (.int .i64 t.num)/\W.cell? ⟨b,o+(i0+i)*4+2,none⟩=some (str t.name)/\W.cell? ⟨b,o+(i0+i)*4+3,none⟩=some (.slice f t.kids.length E)/\t.sits Ga W f) ->
 ∃l:List Nd,l.length=len/\Be l/\rowSits Ga W l (some ⟨b,o+i0*4,none⟩)
 | 0,_,_=>⟨[],rfl,by simp [Be],by simp [rowSits]⟩
 | len+1,i0,h=>by
  obtain ⟨l,U,V,X⟩:=PZ W b o len (i0+1) (fun i Y=>by
   have:=h (i+1) Aa;rwa [show i0+(i+1)=i0+1+i from by omega] at this)
  obtain ⟨t,f,E,F,M,h1,N,O,L⟩:=h 0 Aa;rw [Nat.add_zero] at M h1 N O;refine ⟨t::l,by simp [U],by simp [Be,F,V],?_⟩;simp only [rowSits];refine ⟨b,o+i0*4,f,E,rfl,trivial,M,h1,N,O,L,?_⟩;rwa [show o+i0*4+4=o+(i0+1)*4 from by omega]
def fT {W:wD} {a:Addr} {cs:lV} (h:W.cells? 0 a 4=some cs) : ∃c0 f c2 c3,cs=[c0,f,c2,c3]/\W.cell? (a.add 0)=some c0/\W.cell? (a.add 1)=some f/\W.cell? (a.add 2)=some c2/\W.cell? (a.add 3)=some c3:=by
 unfold World.cells? at h;rw [AH (jN _)] at h;rw [show List.range 4=[0,1,2,3] from rfl] at h;cases e0:W.cell? (a.add 0)<;>simp [e0] at h
 cases e1:W.cell? (a.add 1)<;>simp [e1] at h
 cases e2:W.cell? (a.add 2)<;>simp [e2] at h
 cases e3:W.cell? (a.add 3)<;>simp [e3] at h
 exact ⟨_,_,_,_,h.symm,rfl,rfl,rfl,rfl⟩
def WW (b o n m:Nat):((⟨b,o,none⟩:Addr).add n).add m=⟨b,o+n+m,none⟩:=by
 unfold kI;by_cases f:n=0<;>by_cases h:m=0<;>simp [f,h]
def Js:prog.cellsOf 32=4:=by kernel_rfl
def YY:prog.cellsOf 5=1:=by kernel_rfl
def YZ:prog.cellsOf 3=1:=by kernel_rfl
def Uq:prog.cellsOf 9=1:=by kernel_rfl
def cB:prog.cellsOf 30=1:=by kernel_rfl
def KW {H:Type} (enc:TypeId×Value->H) (W:wD) (sp:Nat->Bool) (N:Nat) : ∀(E:Nat),E<N -> ∀(cs:lV) (x:DataW H×List MemPlace),kh enc prog W 0 sp true E 32 cs=some x ->
 ∃(t:Nd) (a:oA) (c:Nat),cs=[.int .u8 t.kind,.int .i64 t.num,str t.name,.slice a t.kids.length c]/\t.wf/\t.sits Ga W a:=by
 induction N with
 | zero=>intro E h;omega
 | succ N ih=>
  intro E hN cs x h;obtain ⟨xs,n,rfl,-,hl,ab,hf⟩:=DataW.trod_struct underlying32 h;rw [Js] at hl;obtain ⟨c0,V,c2,c3,rfl⟩ : ∃c0 V c2 c3,cs=[c0,V,c2,c3]:=by
   rcases cs with _|⟨c0,_|⟨V,_|⟨c2,_|⟨c3,_|⟨c4,cs⟩⟩⟩⟩⟩
   . simp at hl
   . simp at hl
   . simp at hl
   . simp at hl
   . exact ⟨_,_,_,_,rfl⟩
   . simp at hl
  obtain ⟨y0,y1,y2,y3,rfl⟩ : ∃y0 y1 y2 y3,xs=[y0,y1,y2,y3]:=by
   have f:xs.length=4:=ab;rcases xs with _|⟨c0,_|⟨V,_|⟨c2,_|⟨c3,_|⟨c4,cs⟩⟩⟩⟩⟩
   . simp at f
   . simp at f
   . simp at f
   . simp at f
   . exact ⟨_,_,_,_,rfl⟩
   . simp at f
  . have f0:kh enc prog W 0 sp true n 5 (([c0,V,c2,c3].drop 0).take (prog.cellsOf 5))=some y0:=hf 0 _ rfl;have f1:kh enc prog W 0 sp true n 3 (([c0,V,c2,c3].drop 1).take (prog.cellsOf 3))=some y1:=hf 1 _ rfl;have f2:kh enc prog W 0 sp true n 9 (([c0,V,c2,c3].drop 2).take (prog.cellsOf 9))=some y2:=hf 2 _ rfl;have f3:kh enc prog W 0 sp true n 30 (([c0,V,c2,c3].drop 3).take (prog.cellsOf 30))=some y3:=hf 3 _ rfl;simp only [YY,YZ,Uq,cB,List.drop_zero,List.drop_succ_cons,kK,List.take_zero] at f0 f1 f2 f3;obtain ⟨k,hk,-,wk⟩:=DataW.trod_int (show prog.underlying 5=some (.int .u8) by kernel_rfl) f0;obtain ⟨m,hm,-,wm⟩:=DataW.trod_int underlying3 f1;obtain ⟨s,hs,-,ws⟩:=DataW.trod_string (show prog.underlying 9=some .string by kernel_rfl) f2;simp only [j9,and_true] at hk hm hs;subst hk hm hs;have F:0<=k/\k<=255:=by simpa [Lit.wf,IntKind.min,IntKind.max,IntKind.signed,IntKind.bits] using wk
    have L : -9223372036854775808<=m/\m<=9223372036854775807:=by simpa [Lit.wf,IntKind.min,IntKind.max,IntKind.signed,IntKind.bits] using wm
    have Z:s.data.toList.length<=9223372036854775807:=by
     have:s.data.toList.length=s.size:=by rw [Array.length_toList];rfl
     unfold maxLen at ws;omega
    rcases DataW.trod_slice underlying30 f3 with ⟨hc,-⟩|⟨a,len,cap,M,rest,n',ai,hc,-,-,aj,ae,ak,hE,-⟩
    . simp only [j9,and_true] at hc;subst hc;exact ⟨.mk k m s.data.toList [],none,0,rfl,⟨F.1,F.2,L.1,L.2,Z,Bg,by simp [Be]⟩,by simp [Nd.sits,rowSits]⟩
    . simp only [j9,and_true] at hc;subst hc;rw [Js] at hE;rcases Nat.eq_zero_or_pos len with h0|ac
      . subst h0;exact ⟨.mk k m s.data.toList [],some a,cap,rfl,⟨F.1,F.2,L.1,L.2,Z,Bg,by simp [Be]⟩,by simp [Nd.sits,rowSits]⟩
      . have X : ∀i,i<len -> ∃(t:Nd) (a':oA) (c':Nat),t.wf/\W.cell? ((a.add (i*4)).add 0)=some (.int .u8 t.kind)/\W.cell? ((a.add (i*4)).add 1)=some (.int .i64 t.num)/\W.cell? ((a.add (i*4)).add 2)=some (str t.name)/\W.cell? ((a.add (i*4)).add 3)=some (.slice a' t.kids.length c')/\t.sits Ga W a':=by
         intro i hi;have O:=hE i hi;cases hc4:W.cells? 0 (a.add (i*4)) 4 with
         | none=>
          rw [hc4] at O;have hh:M[i]? = some M[i]:=jB Aa;rw [hh] at O;simp at O
         | some al=>
          rw [hc4,jB Aa] at O;obtain ⟨d0,d1,d2,d3,rfl,U,e1,e2,e3⟩:=fT hc4;obtain ⟨t,a',c',ad,hw,hs⟩:=ih n' Aa _ _ O;simp only [j9,and_true] at ad;obtain ⟨rfl,rfl,rfl,rfl⟩:=ad;exact ⟨t,a',c',hw,U,e1,e2,e3,hs⟩
        obtain ⟨b,o,Y⟩:=a;have aa:Y=none:=by
         obtain ⟨t,a',c',-,U,-⟩:=X 0 ac;simp only [Nat.zero_mul,kI,if_true] at U;unfold World.cell? at U;cases Y with
         | none=>rfl
         | some q=>simp at U;split at U<;>simp at U
        subst aa;obtain ⟨l,af,ag,ah⟩:=PZ W b o len 0 (fun i hi=>by
         obtain ⟨t,a',c',hw,U,e1,e2,e3,hs⟩:=X i hi;rw [WW] at U e1 e2 e3;rw [Nat.zero_add];exact ⟨t,a',c',hw,U,e1,e2,e3,hs⟩)
        subst af;refine ⟨.mk k m s.data.toList l,some ⟨b,o,none⟩,cap,rfl,⟨F.1,F.2,L.1,L.2,Z,by unfold maxLen at ae;omega,ag⟩,?_⟩;simpa [Nd.sits] using ah
def WX {W:wD} {p:Addr} {k:Nat} {cs:lV} (h:W.cells? 0 p k=some cs):Row W p cs/\cs.length=k:=by
 unfold World.cells? at h;rw [AH (jN _)] at h;refine ⟨fun i v f=>?_,by simpa using mapM_some_length h⟩;have L:cs.length=k:=by simpa using mapM_some_length h
 have E:i<k:=by
  rcases jX i cs.length with F|F
  . omega
  . rw [j4 F] at f;cases f
 have:=mapM_some_get h i i (by simp [E]);rw [f] at this;exact this
def Y0 (b o i:Nat):(⟨b,o,none⟩:Addr).add i=⟨b,o+i,none⟩:=by unfold kI;by_cases f:i=0<;>simp [f]
def Mh {α H:Type} (enc:TypeId×Value->H) (W:wD) (sp:Nat->Bool) {t e k:Nat} (ht:prog.underlying t=some (.slice e)) (hk:prog.cellsOf e=k) (aa:0<k) (G:lV->α->Prop)
 {E:Nat} (hG : ∀(n:Nat) (cs:lV) (x:DataW H×List MemPlace),n<E->kh enc prog W 0 sp true n e cs=some x -> ∃y,G cs y) {c:Value} {x:DataW H×List MemPlace} (h:kh enc prog W 0 sp true E t [c]=some x) :
 ∃(l:List α) (a:oA) (cap:Nat),c = .slice a l.length cap/\l.length<=9223372036854775807/\Arr Ga k (fun w b o y=> ∃cs,Row w ⟨b,o,none⟩ cs/\G cs y) W l a:=by
 rcases DataW.trod_slice ht h with ⟨N,-⟩|⟨a,len,cap,V,rest,n',ab,N,-,-,ac,X,ad,hE,-⟩
 . simp only [j9,and_true] at N;exact ⟨[],none,0,N,Bg,jF rfl⟩
 . simp only [j9,and_true] at N;rw [hk] at hE;unfold maxLen at X;rcases Nat.eq_zero_or_pos len with h0|O
   . subst h0;exact ⟨[],some a,cap,N,Bg,jF rfl⟩
   . have F : ∀i,i<len -> ∃y cs,Row W (a.add (i*k)) cs/\cs.length=k/\G cs y:=fun i Y=>by
      have f:=hE i Y;cases hc4:W.cells? 0 (a.add (i*k)) k with
      | none=>
       rw [hc4,jB Aa] at f;simp at f
      | some cs=>
       rw [hc4,jB Aa] at f;obtain ⟨r1,r2⟩:=WX hc4;obtain ⟨y,hy⟩:=hG n' cs _ Aa f;exact ⟨y,cs,r1,r2,hy⟩
     obtain ⟨b,o,U⟩:=a;have L:U=none:=by
      obtain ⟨y,cs,r,Z,-⟩:=F 0 O;simp only [Nat.zero_mul,kI,if_true] at r;cases cs with
      | nil=>simp at Z;omega
      | cons v vs=>
       have:=r 0 v rfl;simp only [kI,if_true] at this;exact Vn this
     subst L;have Z : ∃l:List α,l.length=len /\ ∀i y,l[i]? = some y -> ∃cs,Row W ⟨b,o+i*k,none⟩ cs/\G cs y:=by
      have key : ∀m,m<=len -> ∃l:List α,l.length=m /\ ∀i y,l[i]? = some y -> ∃cs,Row W ⟨b,o+i*k,none⟩ cs/\G cs y:=by
       intro m
       induction m with
       | zero=>intro _;exact ⟨[],rfl,Bg⟩
       | succ m ih=>
        intro hm;obtain ⟨l,h1,h2⟩:=ih Aa;obtain ⟨y,cs,r,-,hg⟩:=F m Aa;rw [Y0] at r;refine ⟨l++[y],by simp [h1],fun i z M=>?_⟩;rcases jX i m with Y|Y
        . rw [kj Aa] at M;exact h2 i z M
        . rw [kp Aa] at M;obtain rfl:i=m:=by
           rcases jX m i with h'|h'
           . rw [j4 (by simp;omega)] at M;cases M
           . omega
          simp [h1] at M;subst M;exact ⟨cs,r,hg⟩
      exact key len (jL _)
     obtain ⟨l,h1,h2⟩:=Z;subst h1;exact ⟨l,some ⟨b,o,none⟩,cap,N,Aa,jG ⟨b,o,rfl,trivial,h2⟩⟩
def iZ {cs:lV} (h:cs.length=3) : ∃a b c,cs=[a,b,c]:=by
 rcases cs with _|⟨a,_|⟨b,_|⟨c,_|⟨d,r⟩⟩⟩⟩<;>simp at h;exact ⟨a,b,c,rfl⟩
def cD {cs:lV} (h:cs.length=6) : ∃a b c d e f,cs=[a,b,c,d,e,f]:=by
 rcases cs with _|⟨a,_|⟨b,_|⟨c,_|⟨d,_|⟨e,_|⟨f,_|⟨g,r⟩⟩⟩⟩⟩⟩⟩<;>simp at h;exact ⟨a,b,c,d,e,f,rfl⟩
def BX {α:Type} {xs:List α} {n i:Nat} (h:xs.length=n) (f:i<n) : ∃y,xs[i]? = some y:=⟨xs[i],jB Aa⟩
def jj:prog.cellsOf 93=3:=by kernel_rfl
def hL:prog.cellsOf 28=1:=by kernel_rfl
def jk:prog.cellsOf 90=6:=by kernel_rfl
def jd:prog.cellsOf 29=1:=by kernel_rfl
def jw:prog.cellsOf 34=6:=by kernel_rfl
section
variable {H:Type} (enc:TypeId×Value->H) (W:wD) (sp:Nat->Bool)
def Ur {E:Nat} {cs:lV} {x:DataW H×List MemPlace} (h:kh enc prog W 0 sp true E 93 cs=some x) : ∃v:VD,cs=v.cells/\v.wf:=by
 obtain ⟨xs,n,rfl,-,U,f,M⟩:=DataW.trod_struct underlying93 h;rw [jj] at U;obtain ⟨c0,N,c2,rfl⟩:=iZ U;obtain ⟨y0,e0⟩:=BX (i:=0) f Ao;obtain ⟨y1,e1⟩:=BX (i:=1) f Ao;obtain ⟨y2,e2⟩:=BX (i:=2) f Ao;have V:kh enc prog W 0 sp true n 9 (([c0,N,c2].drop 0).take (prog.cellsOf 9))=some y0:=(M 0 _ rfl).trans e0;have X:kh enc prog W 0 sp true n 5 (([c0,N,c2].drop 1).take (prog.cellsOf 5))=some y1:=(M 1 _ rfl).trans e1;have Y:kh enc prog W 0 sp true n 3 (([c0,N,c2].drop 2).take (prog.cellsOf 3))=some y2:=(M 2 _ rfl).trans e2;simp only [YY,YZ,Uq,List.drop_zero,List.drop_succ_cons,kK,List.take_zero] at V X Y;obtain ⟨s,Z,-,ws⟩:=DataW.trod_string Fg V;obtain ⟨k,hk,-,wk⟩:=DataW.trod_int (show prog.underlying 5=some (.int .u8) by kernel_rfl) X;obtain ⟨m,hm,-,wm⟩:=DataW.trod_int underlying3 Y;simp only [j9,and_true] at hk hm Z;subst hk hm Z;have F:0<=k/\k<=255:=by simpa [Lit.wf,IntKind.min,IntKind.max,IntKind.signed,IntKind.bits] using wk
 have L : -9223372036854775808<=m/\m<=9223372036854775807:=by simpa [Lit.wf,IntKind.min,IntKind.max,IntKind.signed,IntKind.bits] using wm
 have O:s.data.toList.length<=9223372036854775807:=by
  have:s.data.toList.length=s.size:=by rw [Array.length_toList];rfl
  unfold maxLen at ws;omega
 exact ⟨⟨s.data.toList,k,m⟩,rfl,O,F.1,F.2,L.1,L.2⟩
end
def KX {α H:Type} (enc:TypeId×Value->H) (W:wD) (sp:Nat->Bool) {t e k:Nat} (M:prog.underlying t=some (.slice e)) (O:prog.cellsOf e=k) (F:0<k) (G:lV->α->Prop)
 {f:Nat} (U : ∀(n:Nat) (cs:lV) (x:DataW H×List MemPlace),n<f->kh enc prog W 0 sp true n e cs=some x -> ∃y,G cs y) {c:Value} {x:DataW H×List MemPlace} (h:kh enc prog W 0 sp true f t [c]=some x) :
 ∃(l:List α) (a:oA) (cap:Nat),c = .slice a l.length cap/\l.length<=9223372036854775807/\Arr Ga k (fun w b o y=> ∃cs,Row w ⟨b,o,none⟩ cs/\G cs y) W l a/\l.length<=cap:=by
 obtain ⟨l,a,cap,h1,V,X⟩:=Mh enc W sp M O F G U h;refine ⟨l,a,cap,h1,V,X,?_⟩;rcases DataW.trod_slice M h with ⟨E,-⟩|⟨a',len,N,L,rest,n',Y,E,-,-,Z,-⟩
 . simp only [j9,and_true] at E;rw [h1] at E;simp only [j8] at E;omega
 . simp only [j9,and_true] at E;rw [h1] at E;simp only [j8] at E;omega
section
variable {H:Type} (enc:TypeId×Value->H) (W:wD) (sp:Nat->Bool)
def KY {f:Nat} {c:Value} {x:DataW H×List MemPlace} (h:kh enc prog W 0 sp true f 28 [c]=some x) :
 ∃(l:List VD) (a:oA) (cap:Nat),c = .slice a l.length cap/\l.length<=9223372036854775807/\(∀v∈l,v.wf)/\VDs Ga W l a/\l.length<=cap:=by
 obtain ⟨l,a,cap,h1,L,E,M⟩:=KX (α:=VD) enc W sp underlying28 jj Ao (fun cs v=>cs=v.cells/\v.wf) (fun n cs x _ N=>Ur enc W sp N) h;refine ⟨l,a,cap,h1,L,fun v F=>?_,E.mono aFh (fun b o v _ _ ⟨cs,r,e,_⟩=>by subst e;exact r),M⟩;rcases E with rfl|⟨b,o,-,-,O⟩
 . cases F
 . obtain ⟨i,U,rfl⟩:=List.mem_iff_getElem.1 F;obtain ⟨cs,-,-,V⟩:=O i _ (jB U);exact V
def S4 {E:Nat} {cs:lV} {x:DataW H×List MemPlace} (h:kh enc prog W 0 sp true E 90 cs=some x) : ∃p:PD,(∃M N O U,cs=p.cells M N O U/\VDs Ga W p.params M/\p.body.sits Ga W O/\p.params.length<=N)/\p.wf:=by
 obtain ⟨xs,n,rfl,-,hl,f,V⟩:=DataW.trod_struct underlying90 h;rw [jk] at hl;obtain ⟨c0,X,c2,c3,c4,c5,rfl⟩:=cD hl;obtain ⟨y0,e0⟩:=BX (i:=0) f Ao;obtain ⟨y1,e1⟩:=BX (i:=1) f Ao;obtain ⟨y2,e2⟩:=BX (i:=2) f Ao;have f0:kh enc prog W 0 sp true n 9 (([c0,X,c2,c3,c4,c5].drop 0).take (prog.cellsOf 9))=some y0:=(V 0 _ rfl).trans e0;have f1:kh enc prog W 0 sp true n 28 (([c0,X,c2,c3,c4,c5].drop 1).take (prog.cellsOf 28))=some y1:=(V 1 _ rfl).trans e1;have f2:kh enc prog W 0 sp true n 32 (([c0,X,c2,c3,c4,c5].drop 2).take (prog.cellsOf 32))=some y2:=(V 2 _ rfl).trans e2;simp only [hL,Uq,Js,List.drop_zero,List.drop_succ_cons,kK,List.take_zero] at f0 f1 f2;obtain ⟨s,hs,-,ws⟩:=DataW.trod_string Fg f0;obtain ⟨l,M,N,hc,Y,Z,aa,ab⟩:=KY enc W sp f1;obtain ⟨t,O,U,F,hw,L⟩:=KW enc W sp (n+1) n Aa _ _ f2;simp only [j9,and_true] at hs F;obtain ⟨rfl,rfl,rfl,rfl⟩:=F;subst hs hc;have ac:s.data.toList.length<=9223372036854775807:=by
  have:s.data.toList.length=s.size:=by rw [Array.length_toList];rfl
  unfold maxLen at ws;omega
 exact ⟨⟨s.data.toList,l,t⟩,⟨M,N,O,U,rfl,aa,L,ab⟩,ac,Y,Z,hw⟩
def S5 {M:Nat} {cs:lV} {x:DataW H×List MemPlace} (h:kh enc prog W 0 sp true M 34 cs=some x) : ∃(g:PG) (Y:oA) (Z:Nat) (f:oA) (F:Nat) (ma:oA) (mc:Nat),cs=g.cells Y Z f F ma mc/\g.wf/\g.sits Ga W Y f ma/\PDsC Ga W g.procs f/\g.vars.length<=Z:=by
 obtain ⟨xs,n,rfl,-,hl,E,hf⟩:=DataW.trod_struct underlying34 h;rw [jw] at hl;obtain ⟨c0,c1,c2,c3,c4,c5,rfl⟩:=cD hl;obtain ⟨y0,e0⟩:=BX (i:=0) E Ao;obtain ⟨y1,e1⟩:=BX (i:=1) E Ao;obtain ⟨y2,e2⟩:=BX (i:=2) E Ao;have f0:kh enc prog W 0 sp true n 28 (([c0,c1,c2,c3,c4,c5].drop 0).take (prog.cellsOf 28))=some y0:=(hf 0 _ rfl).trans e0;have f1:kh enc prog W 0 sp true n 29 (([c0,c1,c2,c3,c4,c5].drop 1).take (prog.cellsOf 29))=some y1:=(hf 1 _ rfl).trans e1;have f2:kh enc prog W 0 sp true n 32 (([c0,c1,c2,c3,c4,c5].drop 2).take (prog.cellsOf 32))=some y2:=(hf 2 _ rfl).trans e2;simp only [hL,jd,Js,List.drop_zero,List.drop_succ_cons,kK,List.take_zero] at f0 f1 f2;obtain ⟨l,Y,Z,hc,aa,ab,ac,ad⟩:=KY enc W sp f0;obtain ⟨ps,f,F,hp,ae,N⟩:=Mh (α:=PD) enc W sp underlying29 jk Ao (fun cs p=>(∃f F L O,cs=p.cells f F L O/\VDs Ga W p.params f/\p.body.sits Ga W L/\p.params.length<=F)/\p.wf) (fun n cs x _ hx=>S4 enc W sp hx) f1;obtain ⟨t,L,O,U,hw,V⟩:=KW enc W sp (n+1) n Aa _ _ f2;simp only [j9,and_true] at U;obtain ⟨rfl,rfl,rfl,rfl⟩:=U;subst hc hp;have X:PDsC Ga W ps f:=N.mono aFh (fun b o p _ _ ⟨cs,r,⟨f,F,L,O,e,h1,h2,h3⟩,_⟩=>by
  subst e;exact ⟨f,F,L,O,r,h1,h2,h3⟩)
 refine ⟨⟨l,ps,t⟩,Y,Z,f,F,L,O,rfl,⟨aa,ae,ab,fun p hp=>?_,hw⟩,⟨ac,X.pds,V⟩,X,ad⟩;rcases N with rfl|⟨b,o,-,-,hh⟩
 . cases hp
 . obtain ⟨i,hi,rfl⟩:=List.mem_iff_getElem.1 hp;obtain ⟨cs,-,-,hw⟩:=hh i _ (jB hi);exact hw
end
section
variable {H:Type} (enc:TypeId×Value->H) (W:wD) (sp:Nat->Bool)
def Y1:prog.cellsOf 3=1:=by kernel_rfl
def cE:prog.cellsOf 9=1:=by kernel_rfl
def Y2:prog.cellsOf 38=3:=by kernel_rfl
def hO:prog.cellsOf 34=6:=by kernel_rfl
def dI:prog.cellsOf 40=12:=by kernel_rfl
def hX {cs:lV} (h:cs.length=3) : ∃a b c,cs=[a,b,c]:=by
 rcases cs with _|⟨a,_|⟨b,_|⟨c,_|⟨d,l⟩⟩⟩⟩<;>simp at h
 exact ⟨_,_,_,rfl⟩
def hZ {cs:lV} (h:cs.length=12) : ∃a b c d e f E F L M N O,cs=[a,b,c,d,e,f,E,F,L,M,N,O]:=by
 obtain ⟨a,b,c,d,e,f,h1⟩:=cD (cs:=cs.take 6) (by rw [kn];omega);obtain ⟨E,F,L,M,N,O,U⟩:=cD (cs:=cs.drop 6) (by rw [List.length_drop];omega);refine ⟨a,b,c,d,e,f,E,F,L,M,N,O,?_⟩;rw [<-kA 6 cs,h1,U];rfl
def FY {f:Nat} {c:Value} {x:DataW H×List MemPlace} (h:kh enc prog W 0 sp true f 3 [c]=some x) : ∃m:Int,c = .int .i64 m /\ -9223372036854775808<=m/\m<=9223372036854775807:=by
 obtain ⟨m,E,-,F⟩:=DataW.trod_int underlying3 h;simp only [j9,and_true] at E;exact ⟨m,E,by simpa [Lit.wf,IntKind.min,IntKind.max,IntKind.signed,IntKind.bits] using F⟩
def S6 {E:Nat} {cs:lV} {x:DataW H×List MemPlace} (h:kh enc prog W 0 sp true E 38 cs=some x) :
 ∃b:BoxV,cs=[.int .i64 b.v,.int .i64 b.l,.int .i64 b.i]/\(-9223372036854775808<=b.v/\b.v<=9223372036854775807)/\(-9223372036854775808<=b.l/\b.l<=9223372036854775807) /\ -9223372036854775808<=b.i/\b.i<=9223372036854775807:=by
 obtain ⟨xs,n,rfl,-,N,f,F⟩:=DataW.trod_struct underlying38 h;rw [Y2] at N;obtain ⟨c0,L,c2,rfl⟩:=hX N;obtain ⟨X,Y⟩:=BX (i:=0) f Ao;obtain ⟨Z,e1⟩:=BX (i:=1) f Ao;obtain ⟨y2,e2⟩:=BX (i:=2) f Ao;have O:kh enc prog W 0 sp true n 3 (([c0,L,c2].drop 0).take (prog.cellsOf 3))=some X:=(F 0 _ rfl).trans Y;have U:kh enc prog W 0 sp true n 3 (([c0,L,c2].drop 1).take (prog.cellsOf 3))=some Z:=(F 1 _ rfl).trans e1;have V:kh enc prog W 0 sp true n 3 (([c0,L,c2].drop 2).take (prog.cellsOf 3))=some y2:=(F 2 _ rfl).trans e2;simp only [Y1,List.drop_zero,List.drop_succ_cons,kK,List.take_zero] at O U V;obtain ⟨v,rfl,hv⟩:=FY enc W sp O;obtain ⟨l,rfl,M⟩:=FY enc W sp U;obtain ⟨i,rfl,hi⟩:=FY enc W sp V;exact ⟨⟨v,l,i⟩,rfl,hv,M,hi⟩
def S7 {E:Nat} {cs:lV} {x:DataW H×List MemPlace} (h:kh enc prog W 0 sp true E 40 cs=some x) :
 ∃(e:EX) (X:oA) (Y:Nat) (Z:oA) (pc:Nat) (ma:oA) (mc:Nat),cs=e.cells X Y Z pc ma mc/\(e.name.length<=9223372036854775807/\e.g.wf)/\e.rng/\e.sits Ga W X Z ma Y:=by
 obtain ⟨xs,n,rfl,-,hl,f,F⟩:=DataW.trod_struct underlying40 h;rw [dI] at hl;obtain ⟨c0,L,c2,c3,c4,c5,M,N,O,c9,ca,U,rfl⟩:=hZ hl;obtain ⟨y0,e0⟩:=BX (i:=0) f Ao;obtain ⟨y1,e1⟩:=BX (i:=1) f Ao;obtain ⟨y2,e2⟩:=BX (i:=2) f Ao;obtain ⟨y3,e3⟩:=BX (i:=3) f Ao;obtain ⟨y4,e4⟩:=BX (i:=4) f Ao;have f0:kh enc prog W 0 sp true n 9 (([c0,L,c2,c3,c4,c5,M,N,O,c9,ca,U].drop 0).take (prog.cellsOf 9))=some y0:=(F 0 _ rfl).trans e0;have f1:kh enc prog W 0 sp true n 3 (([c0,L,c2,c3,c4,c5,M,N,O,c9,ca,U].drop 1).take (prog.cellsOf 3))=some y1:=(F 1 _ rfl).trans e1;have f2:kh enc prog W 0 sp true n 3 (([c0,L,c2,c3,c4,c5,M,N,O,c9,ca,U].drop 2).take (prog.cellsOf 3))=some y2:=(F 2 _ rfl).trans e2;have f3:kh enc prog W 0 sp true n 38 (([c0,L,c2,c3,c4,c5,M,N,O,c9,ca,U].drop 3).take (prog.cellsOf 38))=some y3:=(F 3 _ rfl).trans e3;have f4:kh enc prog W 0 sp true n 34 (([c0,L,c2,c3,c4,c5,M,N,O,c9,ca,U].drop 6).take (prog.cellsOf 34))=some y4:=(F 4 _ rfl).trans e4;simp only [Y1,cE,Y2,hO,List.drop_zero,List.drop_succ_cons,kK,List.take_zero] at f0 f1 f2 f3 f4;obtain ⟨s,hs,-,ws⟩:=DataW.trod_string Fg f0;obtain ⟨po,rfl,hp⟩:=FY enc W sp f1;obtain ⟨fu,rfl,hu⟩:=FY enc W sp f2;obtain ⟨b,hb,aa,ab,ac⟩:=S6 enc W sp f3;obtain ⟨g,X,Y,Z,pc,ma,mc,hg,ad,V,ae,af⟩:=S5 enc W sp f4;simp only [j9,and_true] at hs hb;obtain ⟨rfl,rfl,rfl⟩:=hb;subst hs
 unfold PG.cells at hg;simp only [j9,and_true] at hg;obtain ⟨rfl,rfl,rfl,rfl,rfl,rfl⟩:=hg;have ag:s.data.toList.length<=9223372036854775807:=by
  have:s.data.toList.length=s.size:=by rw [Array.length_toList];rfl
  unfold maxLen at ws;omega
 exact ⟨⟨s.data.toList,po,fu,b,g⟩,X,Y,Z,pc,ma,mc,rfl,⟨ag,ad⟩,⟨hp,hu,aa,ab,ac⟩,⟨V,ae,af⟩⟩
end
def Q0 {H:Type} (enc:TypeId×Value->H) (W:wD) (sp:Nat->Bool) {f:Nat} {c:Value} {x:DataW H×List MemPlace} (h:kh enc prog W 0 sp true f 22 [c]=some x) :
 ∃(l:List EX) (a:oA) (cap:Nat),c = .slice a l.length cap/\l.length<=9223372036854775807/\l.length<=cap/\(∀e∈l,(e.name.length<=9223372036854775807/\e.g.wf)/\e.rng)/\EXs Ga W l a:=by
 obtain ⟨l,a,cap,h1,X,U,Y⟩:=KX (α:=EX) enc W sp underlying22 dI Ao (fun cs e=> ∃E F L N M O,cs=e.cells E F L N M O/\(e.name.length<=9223372036854775807/\e.g.wf)/\e.rng/\e.sits Ga W E L M F) (fun n cs x _ Z=>S7 enc W sp Z) h;refine ⟨l,a,cap,h1,X,Y,fun e V=>?_,U.mono aFh (fun b o e _ _ ⟨cs,r,E,F,L,N,M,O,k,_,_,s⟩=>by subst k;exact ⟨E,F,L,N,M,O,r,s⟩)⟩;rcases U with rfl|⟨b,o,-,-,hh⟩
 . cases V
 . obtain ⟨i,hi,rfl⟩:=List.mem_iff_getElem.1 V;obtain ⟨cs,-,E,F,L,N,M,O,-,k1,k2,-⟩:=hh i _ (jB hi);exact ⟨k1,k2⟩
def exs_of_trod {H:Type} (enc:TypeId×Value->H) (W:wD) {r:Reach} {F:Nat} {v:Value} {d:DataW H} {L:List MemPlace} {sp:Nat->Bool} (f:Value.okWide prog W r F 22 v) (h:DataW.Trod enc prog W 0 sp true 22 v d L) :
 ∃(l:List EX) (a:oA) (c:Nat),v = .slice a l.length c/\l.length<=9223372036854775807/\l.length<=c/\(∀e∈l,(e.name.length<=9223372036854775807/\e.g.wf)/\e.rng)/\EXs Ga W l a:=by
 obtain ⟨a0,len,cap,rfl⟩:=Go.WideShapes.okWide_slice underlying22 f;obtain ⟨E,M⟩:=h;exact Q0 enc W sp M
end Bk
namespace Bk
open Go Go.RowKit Go.Proofs Go.Lib
def Oy {H:Type} {enc:TypeId×Value->H} {P:Program} {w:wD} {E:Nat} {sp:Nat->Bool} {F:Bool} {f:Nat} {t e:TypeId} {n:Nat} {cs:lV} {M:List lB} {p:List MemPlace}
 (Y:P.underlying t=some (.array n e)) (Z:P.underlying e=some .string) (N:P.cellsOf e=1) (O:P.cellsOf t=n)
 (h:kh enc P w E sp F f t cs=some (.agg (M.map fun z=>.lit (.string z)),p)):cs=M.map str:=by
 cases f with
 | zero=>simp [kh] at h
 | succ f=>
  simp only [kh,Y,N,O,Nat.mul_one] at h;split at h
  . rename_i hl;obtain ⟨xs,X,hx⟩:=Option.map_eq_some_iff.1 h;have L:xs.map (·.1)=M.map fun z=>(DataW.lit (.string z):DataW H):=by
     have:=congrArg Prod.fst hx;simpa using this
    have aa:xs.length=n:=by simpa using mapM_length X
    have ab:M.length=n:=by
     have:=congrArg List.length L;simp at this;omega
    apply List.ext_getElem?;intro i;by_cases hi:i<n
    . obtain ⟨b,hb,hf⟩:=mapM_at X i i (by simp [hi]);obtain ⟨z,hc,rfl,_⟩:=DataW.trod_string Z hf;have h1:cs[i]? = some (.string z):=by
       have:=congrArg (·[0]?) hc;simpa [List.getElem?_take,List.getElem?_drop] using this
      have U:(xs.map (·.1))[i]? = some (DataW.lit (.string z.data.toList):DataW H):=by simp [hb]
      rw [L] at U;simp only [List.getElem?_map,Option.map_eq_some_iff,DataW.lit.injEq,Lit.string.injEq] at U;obtain ⟨z',V,rfl⟩:=U;simp [h1,V]
    . rw [j4 Aa,j4 (by simp;omega)]
  . cases h
def gSym47:prog.globalNamed "backstep/arith.symbols" = some 1:=by kernel_rfl
def gSymT47:(prog.globals[1]?).map (·.type)=some 252:=by kernel_rfl
def cF:prog.underlying 252=some (.array 43 9):=by kernel_rfl
def cG:prog.cellsOf 252=43:=by kernel_rfl
def fU:prog.underlying 9=some .string:=by kernel_rfl
def fV:prog.cellsOf 9=1:=by kernel_rfl
def gErr47:prog.globalNamed "strconv.ErrRange" = some 4:=by kernel_rfl
def gErrT47:(prog.globals[4]?).map (·.type)=some 72:=by kernel_rfl
def gSyn47:prog.globalNamed "strconv.ErrSyntax" = some 3:=by kernel_rfl
def gSynT47:(prog.globals[3]?).map (·.type)=some 72:=by kernel_rfl
def fW : ∃f,prog.underlying 72=some (.interface f):=⟨_,underlying72⟩
def gPow47:prog.globalNamed "internal/strconv.uint64pow10" = some 2:=by kernel_rfl
def gPowT47:(prog.globals[2]?).map (·.type)=some 261:=by kernel_rfl
def cH:prog.underlying 261=some (.array 20 240):=by kernel_rfl
def fX:prog.underlying 240=some (.int .u64):=by kernel_rfl
def fY:prog.cellsOf 240=1:=by kernel_rfl
def cI:prog.cellsOf 261=20:=by kernel_rfl
def WY:(YtjkgmpljepnmiaaGreatDoor.Rows.laid_backstep_arith_symbols:DataW Unit) = .agg (symbols.map fun z=>.lit (.string z)):=rfl
def WZ:(YtjkgmpljepnmiaaGreatDoor.Rows.laid_internal_strconv_uint64pow10:DataW Unit)=tabData .u64 pow10Tab:=rfl
abbrev Y3:List (String×DataW Unit):=[("backstep/arith.symbols",YtjkgmpljepnmiaaGreatDoor.Rows.laid_backstep_arith_symbols),("math/bits.deBruijn32tab",YtjkgmpljepnmiaaGreatDoor.Rows.laid_math_bits_deBruijn32tab),("math/bits.deBruijn64tab",YtjkgmpljepnmiaaGreatDoor.Rows.laid_math_bits_deBruijn64tab),("internal/strconv.uint64pow10",YtjkgmpljepnmiaaGreatDoor.Rows.laid_internal_strconv_uint64pow10),("unicode/utf8.acceptRanges",YtjkgmpljepnmiaaGreatDoor.Rows.laid_unicode_utf8_acceptRanges),("strconv.ErrRange",YtjkgmpljepnmiaaGreatDoor.Rows.laid_strconv_ErrRange),("strconv.ErrSyntax",YtjkgmpljepnmiaaGreatDoor.Rows.laid_strconv_ErrSyntax),("unicode/utf8.first",YtjkgmpljepnmiaaGreatDoor.Rows.laid_unicode_utf8_first)]
def tabs47_of_laid {W:wD} (h:laidMetH prog Y3 W) (U:W.ShapedOpen prog):TabsF W/\Errs2 W:=by
 have h':laidMet prog Y3 W:=h;obtain ⟨ps,⟨g1,t1,am,f1,p1,q1,V,X,E,F,⟨g2,t2,an,f2,p2,q2,ao,ap,Y,aq,⟨g3,t3,ar,f3,p3,q3,au,av,Z,aw,⟨g4,t4,ax,f4,p4,q4,aa,ab,L,M,⟨g5,t5,ay,f5,p5,q5,az,a0,ac,a1,⟨g6,t6,a2,f6,p6,q6,ad,ae,N,af,⟨g7,t7,a3,f7,p7,q7,ag,ah,O,ai,⟨g8,t8,a4,f8,p8,q8,a5,a6,aj,a7,-,-⟩,-⟩,-⟩,-⟩,-⟩,-⟩,-⟩,-⟩,-⟩:=h';have key : ∀(nm:String) (g:Nat) (v:_),prog.globalNamed nm=some g->W.var? prog nm=some v->g<W.heap.size:=by
  intro nm g v hg hv;rcases jX g W.heap.size with ak|al
  . exact ak
  . unfold World.var? at hv;rw [hg] at hv;simp [ki al] at hv
 have k1:=key _ 1 _ Bx E;have k2:=key _ 5 _ Bx Y;have k3:=key _ 6 _ Bx Z;have k4:=key _ 2 _ Bx L;have k5:=key _ 8 _ Bx ac;have k6:=key _ 4 _ Bx N;have k7:=key _ 3 _ Bx O;have k8:=key _ 7 _ Bx aj;have hn:prog.globals.size=9:=by kernel_rfl
 have hg:prog.globals.size<=W.heap.size:=by rw [hn];omega
 obtain rfl:=jW (gSym47.symm.trans V);obtain rfl:=jW (gSymT47.symm.trans X);rw [WY] at F;have e1:=Oy cF fU fV cG F;obtain rfl:=jW (gPow47.symm.trans aa);obtain rfl:=jW (gPowT47.symm.trans ab);rw [WZ] at M;have e4:=cells_of_tab cH fX fY cI M;obtain rfl:=jW (gErr47.symm.trans ad);obtain rfl:=jW (gErrT47.symm.trans ae);obtain rfl:=jW (gSyn47.symm.trans ag);obtain rfl:=jW (gSynT47.symm.trans ah);obtain ⟨ms,hu⟩:=fW;refine ⟨⟨⟨fun i hi=>?_,?_⟩,hg⟩,⟨⟨?_⟩,?_,?_⟩⟩
 . rw [World.var?_cell gSym47 E i,<-Array.getElem?_toList,e1,List.getElem?_map];have:symbols[i]? = some (symbols.getD i []):=by
    rw [List.getD_eq_getElem?_getD,jB (show i<symbols.length from hi)];rfl
   rw [this];rfl
 . unfold TabIs;rw [L,<-e4]
 . obtain ⟨f,u,v,hc,-,-⟩:=iface_of_trod hu af;refine ⟨u,v,?_⟩;rw [World.var?_cell gErr47 N 0,<-Array.getElem?_toList,hc];rfl
 . obtain ⟨f,u,v,hc,-,-⟩:=iface_of_trod hu ai;refine ⟨u,v,?_⟩;rw [World.var?_cell gSyn47 O 0,<-Array.getElem?_toList,hc];rfl
 . exact Go.Proofs.cell_of_shapedOpen_int (zero:= #[.int .i64 0]) (t:=3) U (of_decide_eq_true Bx) Bx rfl Bx Bx underlying3
end Bk
