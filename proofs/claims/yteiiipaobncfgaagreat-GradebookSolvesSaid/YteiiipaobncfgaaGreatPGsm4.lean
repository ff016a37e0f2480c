/- Texts that the proofs of GradebookSolves need. No condition. (Part 4 of 7.) -/
import Derived.Test.YteiiipaobncfgaaGreatPGsm3
set_option linter.unusedSimpArgs false
set_option linter.unusedVariables false
set_option linter.defProp false
set_option maxRecDepth 100000
set_option maxHeartbeats 4000000
open Go.Proofs.Tryz
open Or renaming inl->gP,inr->gQ
open Go.Result renaming andThen->gY
open Except renaming bind->ir
open Go renaming Calls->iv
open Go.Value renaming slice->iD,int->iW,ownBlock->jB
open Nat renaming blt->iE,ble->jr,beq->jv
open Go.Region renaming ready->iH,binds->jh
open List renaming replicate->iL,range->jj
open Go.Builtin renaming zeroCells->i9
open Go.IntKind renaming wrap->jo
open Array renaming replicate->jt
open Go.Oper renaming wp->jy
open Go.Addr renaming add->jA
open Go.Sem renaming run->jP
namespace Bk
abbrev m5:=@PDsC.fr
end Bk
open Bk.Stp renaming transfer->md,setCur->mp,items->mx,move->mC,leaves->mG,enters->mI
open Bk.Value renaming one->mq
open Bk.Nd renaming kind->mz
open Bk.EX renaming cells->mE
namespace Bk
open Go Go.RowKit Go.Proofs
variable {n m i e sb:Nat} {xs:List Int} {w w':wD} {v:Value} {l:List (Int×Int)} {S:wD->Prop} {x:Operand} {ty:TypeId} {κ:Nat->Nat} {P:Program} {k:Int} {M:nP} {es:List EX} {vs:List VD} {s:lB} {cs:lV} {st:Stp} {α:Type} {q:Bool} {t:Nd} {f:Frm} {p:oA} {z:BJ} {r:Rn}
def EN (o:List BJ) (x:BJ):List BJ:=if x∈o then o else o++[x]
def On {k n:BJ} (h:n≠k) (o:List BJ):EN (k::o) n=k::EN o n:=by
 unfold EN;by_cases G:n∈o
 . rw [AH G,AH (iU _ G)]
 . rw [At G,At (λe=>(io.1 e).elim h G),jC]
def SZ {o:List BJ} (h:o.Nodup) (n:BJ):(EN o n).Nodup:=by
 unfold EN;split
 . exact h
 . rename_i M;rw [List.nodup_append];exact ⟨h,AK,λx N y G e=>M (by simp only [iu] at G;rw [<-G,<-e];exact N)⟩
def mem_addN {o:List BJ} {n:BJ}:z∈EN o n↔z∈o\/z=n:=by
 unfold EN;split
 . rename_i h;exact ⟨gP,λe=>e.elim id (λe=>e▸h)⟩
 . simp
def Rf (L:List AtV) (s:BJ):List BJ:=L.foldl (λo a=>if a.s=s then EN o a.n else o) []
def Gy (L:List AtV) (a:AtV) (s:BJ):Rf (L++[a]) s=if a.s=s then EN (Rf L s) a.n else Rf L s:=by simp [Rf,List.foldl_append]
def Lx (L:List AtV) (a:AtV):Bo (L++[a])=EN (Bo L) a.s:=by
 unfold Bo EN;rw [List.foldl_append,List.foldl_cons,List.foldl_nil]
def Kf (L:List AtV):(Bo L).Nodup:=(FH L [] List.nodup_nil).1
def Kg {p:List α->Prop} (h:p []) (G:∀l x,p l->p (l++[x])) (l:List α):p l:=by
 have:∀m:List α,p m.reverse:=λm=>by
  induction m with
  | nil=>exact h
  | cons x m M=>rw [jR];exact G _ _ M
 simpa using this l.reverse
def Oo (L:List AtV) (s:BJ):(Rf L s).Nodup:=by
 refine Kg (p:=λL=>(Rf L s).Nodup) (by simp [Rf]) (λL a h=>?_) L;rw [Gy];split
 . exact SZ h _
 . exact h
def EO (L:List AtV) (a:AtV) (s n:BJ):DV (L++[a]) s n=DV L s n+if a.s=s/\a.n=n then 1 else 0:=by
 unfold DV;rw [List.countP_append,List.countP_singleton];by_cases h:a.s=s<;>by_cases G:a.n=n<;>simp [h,G]
def Fm (L:List AtV) (a:AtV) (s n:BJ):Ce (L++[a]) s n=(Ce L s n||(decide (a.s=s)&&(decide (a.n=n)&&a.ok))):=by
 unfold Ce;rw [List.any_append,List.any_cons,List.any_nil,Bool.or_false]
def Vs (L:List AtV) (a:AtV) (s:BJ):D6 (L++[a]) s=D6 L s+if a.s=s then 1 else 0:=by
 unfold D6;rw [List.countP_append,List.countP_singleton];by_cases h:a.s=s<;>simp [h]
def KR (L:List AtV) (s n:BJ):n∉Rf L s->DV L s n=0/\Ce L s n=false:=by
 refine Kg (p:=λL=>n∉Rf L s->DV L s n=0/\Ce L s n=false) (λ_=>⟨rfl,rfl⟩) (λL a h G=>?_) L;rw [Gy] at G;rw [EO,Fm];by_cases M:a.s=s
 . rw [AH M,mem_addN,not_or] at G;obtain ⟨N,O⟩:=h G.1;have U:¬a.n=n:=λe=>G.2 e.symm
   simp [N,O,U]
 . rw [At M] at G;obtain ⟨N,O⟩:=h G;simp [N,O,M]
def MS {L:List AtV} {s:BJ} (h:s∉Bo L):Rf L s=[]:=by
 revert h;refine Kg (p:=λL=>s∉Bo L->Rf L s=[]) (λ_=>rfl) (λL a M G=>?_) L;rw [Lx,mem_addN,not_or] at G;rw [Gy,At (λe=>G.2 e.symm),M G.1]
def Zl (L:List AtV) (s:BJ):((Rf L s).map λn=>DV L s n).sum=D6 L s:=by
 have V:∀(o:List BJ) (f:BJ->Nat) (n:BJ),o.Nodup->(∀m,m∉o->f m=0)->((EN o n).map λm=>f m+if n=m then 1 else 0).sum=(o.map f).sum+1:=by
  intro o f n hn hf;have X:∀l:List BJ,n∉l->(l.map λm=>f m+if n=m then 1 else 0)=l.map f:=λl hl=>List.map_congr_left λm M=>by rw [At (λe=>hl (by rw [e];exact M))];rfl
  induction o with
  | nil=>simp [EN,hf]
  | cons k o Y=>
   obtain ⟨g1,g2⟩:=List.nodup_cons.1 hn;by_cases U:n=k
   . subst U;have:EN (n::o) n=n::o:=by unfold EN;simp
     rw [this,iR,X o g1,List.sum_cons,iR,List.sum_cons];simp only [if_true];omega
   . rw [On U,iR,List.sum_cons,iR,List.sum_cons,At U];by_cases G:n∈o
     . have Z:EN o n=o:=by unfold EN;rw [AH G]
       have key:∀l:List BJ,l.Nodup->n∈l->(l.map λm=>f m+if n=m then 1 else 0).sum=(l.map f).sum+1:=by
        intro l
        induction l with
        | nil=>intro _ h;cases h
        | cons x l il=>
         intro hx M;obtain ⟨x1,x2⟩:=List.nodup_cons.1 hx;by_cases N:n=x
         . subst N;rw [iR,X l x1,List.sum_cons,iR,List.sum_cons];simp only [if_true];omega
         . rw [iR,List.sum_cons,iR,List.sum_cons,At N,il x2 ((io.1 M).resolve_left N)];omega
       rw [Z,key o g2 G];omega
     . have Z:EN o n=o++[n]:=by unfold EN;rw [At G]
       have e2:f n=0:=hf n (by simp [G,U]);rw [Z,jm,List.sum_append,X o G];simp [e2];omega
 refine Kg (p:=λL=>((Rf L s).map λn=>DV L s n).sum=D6 L s) (by simp [Rf,D6]) (λL a Y=>?_) L;rw [Gy,Vs];by_cases O:a.s=s
 . rw [AH O,AH O,<-Y,<-V (Rf L s) (λn=>DV L s n) a.n (Oo L s) (λm M=>(KR L s m M).1)];congr 1;refine List.map_congr_left λm _=>?_
   rw [EO];by_cases M:a.n=m<;>simp [O,M]
 . rw [At O,At O,<-Y,jT];congr 1;refine List.map_congr_left λm _=>?_
   rw [EO,At (λe=>O e.1),jT]
def Hz (L:List AtV) (s n:BJ):Value:=.agg #[.int .i64 (DV L s n),.bool (Ce L s n)]
def G1 (L:List AtV) (s:BJ):List (lB×Value):=(Rf L s).map λn=>(n,Hz L s n)
def FI (f:BJ->Value) (n:BJ):∀o:List BJ,Ez (o.map λk=>(k,f k)) n=if n∈o then some (f n) else none
 | []=>rfl
 | k::o=>by
  rw [iR,Ez];by_cases h:n=k
  . subst h;simp
  . rw [At h,FI f n o];simp [h]
def MT {f g:BJ->Value} {n:BJ} (G:∀k,k≠n->f k=g k):∀o:List BJ,o.Nodup->Gm (o.map λk=>(k,f k)) n (g n)=(EN o n).map λk=>(k,g k)
 | [],_=>by simp [Gm,EN]
 | k::o,M=>by
  obtain ⟨N,O⟩:=List.nodup_cons.1 M;rw [iR,Gm];by_cases h:n=k
  . subst h;rw [AH rfl];have:EN (n::o) n=n::o:=by unfold EN;simp
    rw [this,iR];congr 1;exact List.map_congr_left λm U=>by rw [G m (λe=>N (e▸U))]
  . rw [At h,On h,iR,MT G o O,G k (λe=>h e.symm)]
def PN (L:List AtV) (s n:BJ):CI (Ez (G1 L s) n) (.agg #[.int .i64 0,.bool false]) false=Hz L s n:=by
 unfold G1;rw [FI (λn=>Hz L s n)];split
 . rfl
 . rename_i h;obtain ⟨G,M⟩:=KR L s n h;simp [CI,Hz,G,M]
def Ud (L:List AtV) (s n:BJ) (ok:Bool):Gm (G1 L s) n (Hz (L++[⟨s,n,ok⟩]) s n)=G1 (L++[⟨s,n,ok⟩]) s:=by
 unfold G1;rw [Gy,AH rfl];refine MT (f:=λk=>Hz L s k) (g:=λk=>Hz (L++[⟨s,n,ok⟩]) s k) (λk h=>?_) _ (Oo L s);have:¬n=k:=λe=>h e.symm
 simp [Hz,EO,Fm,this]
def Vt (L:List AtV) {s t n:BJ} (h:t≠s) (ok:Bool):G1 (L++[⟨t,n,ok⟩]) s=G1 L s:=by
 unfold G1;rw [Gy,At h];refine List.map_congr_left λk _=>?_
 simp [Hz,EO,Fm,h]
def Rg (L:List AtV) (s n:BJ) (ok:Bool) (h:Ce L s n=false):Hz (L++[⟨s,n,ok⟩]) s n = .agg #[.int .i64 ((DV L s n:Int)+1),.bool ok]:=by
 simp [Hz,EO,Fm,h]
def RecAt (M:nP) (w:wD) (r:Nat) (L:List AtV):Prop:= ∃bf:BJ->Nat,MapB w r ((Bo L).map λs=>(s,.map (some (bf s))))/\M r /\
 (∀s∈Bo L,M (bf s)/\bf s≠r/\MapB w (bf s) (G1 L s)) /\ ∀s∈Bo L,∀t∈Bo L,bf s=bf t->s=t
def RecAt.ext {M:nP} {w w':wD} {r:Nat} {L:List AtV} (h:RecAt M w r L) (x:Ext w w'):RecAt M w' r L:=by
 obtain ⟨bf,O,U,G,V⟩:=h;exact ⟨bf,O.ext x,U,λs N=>⟨(G s N).1,(G s N).2.1,(G s N).2.2.ext x⟩,V⟩
instance {r:Nat} {L:List AtV}:LfE w w' (RecAt M w r L) (RecAt M w' r L):=⟨λx h=>Bk.RecAt.ext h x⟩
def RecAt.fr {M:nP} {S:nP} {w w':wD} {r:Nat} {L:List AtV} (h:RecAt M w r L) (x:Fr S w w') (O:∀k,M k -> ¬S k):RecAt M w' r L:=by
 obtain ⟨bf,V,U,G,X⟩:=h;exact ⟨bf,V.fr x (O _ U),U,λs N=>⟨(G s N).1,(G s N).2.1,(G s N).2.2.fr x (O _ (G s N).1)⟩,X⟩
instance {S:nP} {r:Nat} {L:List AtV}:LfF S w w' (RecAt M w r L) (∀k,M k -> ¬S k) (RecAt M w' r L):=⟨λx s h=>Bk.RecAt.fr h x s⟩
section
variable {l:Sl} {tab:Tab}
def MapZ (w:wD) (m:Option Nat) (kvs:List (lB×Value)):Prop:=(m=none/\kvs=[]) \/ ∃r,m=some r/\MapIs w r kvs
def Rh {y:Operand} {t O U:Nat} {m:Option Nat} {c:Bool} {k:lB} {z:Value} {kvs:List (lB×Value)} (T:TabOk P tab) (Z:AB tab t=some (.map sb e,O)) (G:AB tab sb=some (.str,U)) (N:((P.info? e).bind (·.zero))=some z)
 (hx:ev l x=some (.map m)) (hy:ev l y=some (str k)) (hm:∀w,S w->MapZ w m kvs):Br P n l S (.lookup t x y c) ty (CI (Ez kvs k) z c):=by
 cases m with
 | some r=>
  refine L1 T Z G N hx hy λw hw=>?_
  rcases hm w hw with ⟨h,-⟩|⟨r',h,V⟩
  . cases h
  . obtain rfl:=gZ h;exact V
 | none=>
  unfold Br;intro a w aa pos after g ha hS;have X:kvs=[]:=by
   rcases hm w hS with ⟨-,h⟩|⟨r',h,-⟩
   . exact h
   . cases h
  subst X;have hu:P.underlying t=some (.map sb e):=(T _ _ _ Z).under;have hk:P.underlying sb=some .string:=(T _ _ _ G).under;obtain ⟨i0,z1,z2⟩:∃i,P.info? e=some i/\i.zero=some z:=by
   cases hi:P.info? e with
   | none=>rw [hi] at N;cases N
   | some i=>exact ⟨i,rfl,by simpa [hi] using N⟩
  obtain ⟨o,h1,V,-⟩:=run_findKey hk (k:=k) (es:=[]) (kvs:=[]) rfl w;have Y:(zeroValue e).run P w = .ok z w:=by simp [zeroValue,typeInfo,program,jP,z1,z2,bind,Sem.bind,pure]
  have e1:(Instr.lookup t (.map none) (str k) c).run P w = .ok (CI (Ez [] k) z c) w:=by
   simp only [Instr.lookup,ij,AD hu,gY,iC,run_checkKey hk,h1];rw [<-V];cases o with
   | none=>simp [Y,CI]
   | some q=>simp [CI]
  simp only [execOp,ha.ev hx,ha.ev hy,ij,e1,gY,iC]
def MU {t h sz:Nat} {m:Option Nat} (T:TabOk P tab) (M:AB tab t=some (.map h e,sz)) (N:ev l x=some (.map m)) (O:m.isNone=q):Br P n l S (.binOp .eql t x (.const (.map none)) i) ty (.bool q):=by
 subst O;unfold Br;intro G w U pos after g V _;have X:P.underlying t=some (.map h e):=(T _ _ _ M).under;have Y:(eqGuard .eql t x (.const (.map none)) (.map m) (.map none)).run P w = .ok () w:=by unfold eqGuard;simp
 have Z:=run_equal_map_nil (P:=P) w t h e m X;have hn:G.eval (.const (.map none)) = .map none:=rfl;simp [execOp,V.ev N,hn,Y,Z,binOp]
def Xg {t sz:Nat} (T:TabOk P tab) (G:AB tab t=some (.ptr e,sz)) (M:ev l x=some (.pointer p)) (N:p.isNone=q):Br P n l S (.binOp .eql t x (.const (.pointer none)) m) ty (.bool q):=by
 subst N;unfold Br;intro h w O pos after g U _;have V:P.underlying t=some (.pointer e):=(T _ _ _ G).under;have X:(eqGuard .eql t x (.const (.pointer none)) (.pointer p) (.pointer none)).run P w = .ok () w:=by unfold eqGuard;simp
 have Y:(Op.equal t (.pointer p) (.pointer none)).run P w = .ok p.isNone w:=by
  show (Op.equalIn (9999+1) t (.pointer p) (.pointer none)).run P w=_;unfold Op.equalIn;cases p<;>simp [AD V,gY]
 have Z:h.eval (.const (.pointer none)) = .pointer none:=rfl;simp [execOp,U.ev M,Z,X,Y,binOp]
def Fo {t sz:Nat} {p:Addr} (T:TabOk P tab) (h:AB tab t=some (.ptr e,sz)) (G:ev l x=some (.pointer (some p))):Br P n l S (.binOp .eql t x (.const (.pointer none)) m) ty (.bool false):=Xg T h G rfl
def Zm {t h sz:Nat} {r:Nat} (T:TabOk P tab) (G:AB tab t=some (.map h e,sz)) (M:ev l x=some (.map (some r))):Br P n l S (.binOp .eql t x (.const (.map none)) m) ty (.bool false):=MU T G M rfl
def Zn {t h sz:Nat} (T:TabOk P tab) (G:AB tab t=some (.map h e,sz)) (M:ev l x=some (.map none)):Br P n l S (.binOp .eql t x (.const (.map none)) m) ty (.bool true):=MU T G M rfl
end
attribute [local irreducible] Go.Calls
def PDsC.move {S S':nP} {w w':wD} {l:List PD} {a:oA} (h:PDsC S w l a) (G:∀b,S b->S' b) (M:∀b o v,S b->w.cell? ⟨b,o,none⟩=some v->w'.cell? ⟨b,o,none⟩=some v):PDsC S' w' l a:=
 h.mono G (λb _ _ _ N ⟨O,pc,ba,bc,h1,h2,h3,h4⟩=>⟨O,pc,ba,bc,Mg h1 (λo v=>M b o v N),h2.move G M,Nd.sits_mono G M _ ba h3,h4⟩)
def EX.sits.move {S S':nP} {w w':wD} {e:EX} {O U G:oA} {vc:Nat} (h:e.sits S w O U G vc) (M:∀b,S b->S' b) (N:∀b o v,S b->w.cell? ⟨b,o,none⟩=some v->w'.cell? ⟨b,o,none⟩=some v):e.sits S' w' O U G vc:=
 have V:=h.p.move M N
 ⟨⟨h.g.vars.move M N,V.pds,Nd.sits_mono M N _ G h.g.main⟩,V,h.room⟩
def EX.sits.wide {S S':nP} {w:wD} {e:EX} {G M N:oA} {vc:Nat} (h:e.sits S w G M N vc) (O:∀b,S b->S' b):e.sits S' w G M N vc:=⟨h.g.wide O,h.p.wide O,h.room⟩
def EX.sits.lt2 {S:nP} {w:wD} {e:EX} {M N G:oA} {vc:Nat} (h:e.sits S w M N G vc):e.sits (λb=>S b/\b<w.heap.size) w M N G vc:=
 have O:=h.p.lt2
 ⟨⟨h.g.vars.lt2,O.pds,Gq _ G h.g.main⟩,O,h.room⟩
def fZ (S:nP) (w:wD) (b o:Nat) (e:EX):Prop:= ∃va vc pa pc ma mc,Row w ⟨b,o,none⟩ (e.cells va vc pa pc ma mc)/\e.sits S w va pa ma vc
def EXs (S:nP) (w:wD) (l:List EX) (a:oA):Prop:=Arr S 12 (fZ S) w l a
def EXs.ext {S:nP} {w w':wD} {l:List EX} {a:oA} (h:EXs S w l a) (x:Ext w w'):EXs S w' l a:=
 h.mono aFh (λ_ _ _ _ _ ⟨G,vc,pa,pc,ma,mc,h1,h2⟩=>⟨G,vc,pa,pc,ma,mc,h1.ext x,h2.ext x⟩)
instance {S:nP} {l:List EX} {a:oA}:LfE w w' (EXs S w l a) (EXs S w' l a):=⟨λx h=>Bk.EXs.ext h x⟩
def EXs.fr {S T:nP} {w w':wD} {l:List EX} {a:oA} (h:EXs S w l a) (x:Fr T w w') (G:∀b,S b -> ¬T b):EXs S w' l a:=
 h.mono aFh (λb _ _ _ M ⟨N,vc,pa,pc,ma,mc,h1,h2⟩=>⟨N,vc,pa,pc,ma,mc,h1.fr x (G b M),h2.fr x G⟩)
instance {S T:nP} {l:List EX} {a:oA}:LfF T w w' (EXs S w l a) (∀b,S b -> ¬T b) (EXs S w' l a):=⟨λx s h=>Bk.EXs.fr h x s⟩
def EXs.ltA {S:nP} {w:wD} {l:List EX} {a:oA} (h:EXs S w l a):EXs (· < w.heap.size) w l a:=by
 rcases h with h|⟨b,o,X,h2,G⟩
 . exact gP h
 . cases l with
   | nil=>exact gP rfl
   | cons p r=>
    obtain ⟨M,vc,N,O,U,V,Y,-⟩:=G 0 p rfl;refine gQ ⟨b,o,X,Cs (Y.at0 rfl),λi v Z=>?_⟩;obtain ⟨M,vc,N,O,U,V,k1,k2⟩:=G i v Z;exact ⟨M,vc,N,O,U,V,k1,k2.ltA⟩
def Kh:Shape EX where
 sz:=12
 rep:=λw S e cs=> ∃va vc pa pc ma mc,cs=e.cells va vc pa pc ma mc/\e.sits S w va pa ma vc
 len:=λ⟨_,_,_,_,_,_,h,_⟩=>by rw [h];rfl
 one:=λ⟨_,_,_,_,_,_,h,_⟩=>by rw [h];rfl
 mono:=λ⟨va,vc,pa,pc,ma,mc,h,h1⟩ hS hc=>⟨va,vc,pa,pc,ma,mc,h,h1.move hS hc⟩
 lt:=λ⟨va,vc,pa,pc,ma,mc,h,h1⟩=>⟨va,vc,pa,pc,ma,mc,h,h1.lt2⟩
def OwnQ.exs {R:nP} {B:Nat} {a:oA} {len cap:Nat} {xs:List EX} {S:nP} (h:OwnQ Kh w R B e (.slice a len cap) xs) (U:∀b,R b->S b) (V:∀b,B<=b->b<w.heap.size->S b):EXs S w xs a:=by
 by_cases M:xs=[]
 . exact gP M
 . obtain ⟨g,N,O,X,Y,G⟩:=h.rows M;simp only [iK] at O;obtain ⟨rfl,-,-⟩:=O;refine gQ ⟨g,0,rfl,V g X Y,λi x Z=>?_⟩;obtain ⟨cs,hr,va,vc,pa,pc,ma,mc,rfl,h2⟩:=G i x Z;exact ⟨va,vc,pa,pc,ma,mc,by simpa [Kh] using hr,h2.wide U⟩
def MapZ.ext {w w':wD} {m:Option Nat} {kvs:List (lB×Value)} (h:MapZ w m kvs) (x:Ext w w'):MapZ w' m kvs:=h.imp id λ⟨r,h1,h2⟩=>⟨r,h1,h2.ext x⟩
instance {m:Option Nat} {kvs:List (lB×Value)}:LfE w w' (MapZ w m kvs) (MapZ w' m kvs):=⟨λx h=>Bk.MapZ.ext h x⟩
def MapZ.fr {S:nP} {w w':wD} {m:Option Nat} {kvs:List (lB×Value)} (h:MapZ w m kvs) (x:Fr S w w') (G:∀r,m=some r -> ¬S r):MapZ w' m kvs:=h.imp id λ⟨r,h1,h2⟩=>⟨r,h1,h2.fr x (G r h1)⟩
instance {S:nP} {m:Option Nat} {kvs:List (lB×Value)}:LfF S w w' (MapZ w m kvs) (∀r,m=some r -> ¬S r) (MapZ w' m kvs):=⟨λx s h=>Bk.MapZ.fr h x s⟩
def BkAt (M X:nP) (w:wD) (bb:Nat) (es:List EX) (L:List AtV):Prop:= ∃ea ec r,Blk w bb [.slice ea es.length ec,.map (some r)]/\X bb/\EXs X w es ea/\RecAt M w r L/\(∀k,X k -> ¬M k/\k<w.heap.size) /\ ∀k,M k->k<w.heap.size
def BkAt.ext {M X:nP} {w w':wD} {G:Nat} {es:List EX} {L:List AtV} (h:BkAt M X w G es L) (x:Ext w w'):BkAt M X w' G es L:=by
 obtain ⟨U,V,r,Y,Z,h3,h4,O,h6⟩:=h;have:=x.size;exact ⟨U,V,r,Y.ext x,Z,h3.ext x,h4.ext x,λk N=>⟨(O k N).1,by have:=(O k N).2;omega⟩,λk N=>by have:=h6 k N;omega⟩
instance {X:nP} {L:List AtV}:LfE w w' (BkAt M X w n es L) (BkAt M X w' n es L):=⟨λx h=>Bk.BkAt.ext h x⟩
def BkAt.fr {M X T:nP} {w w':wD} {N:Nat} {es:List EX} {L:List AtV} (h:BkAt M X w N es L) (x:Fr T w w') (O:∀k,X k\/M k -> ¬T k):BkAt M X w' N es L:=by
 obtain ⟨Y,Z,r,h1,U,h3,h4,V,h6⟩:=h;have:=x.size;exact ⟨Y,Z,r,h1.fr x (O _ (gP U)),U,h3.fr x (λk G=>O k (gP G)),h4.fr x (λk G=>O k (gQ G)),λk G=>⟨(V k G).1,by have:=(V k G).2;omega⟩,λk G=>by have:=h6 k G;omega⟩
instance {X T:nP} {N:Nat} {L:List AtV}:LfF T w w' (BkAt M X w N es L) (∀k,X k\/M k -> ¬T k) (BkAt M X w' N es L):=⟨λx s h=>Bk.BkAt.fr h x s⟩
def RecAt.look {r:Nat} {L:List AtV} (h:RecAt M w r L) (s:BJ):∃kvs m,MapIs w r kvs/\CI (Ez kvs s) (.map none) false = .map m/\MapZ w m (G1 L s)/\(m.isNone=decide (s∉Bo L)):=by
 obtain ⟨bf,N,U,O,-⟩:=h;by_cases G:s∈Bo L
 . refine ⟨_,some (bf s),N.is,?_,gQ ⟨_,rfl,(O s G).2.2.is⟩,by simp [G]⟩;rw [FI (λs=>.map (some (bf s))),AH G];rfl
 . refine ⟨_,none,N.is,?_,gP ⟨rfl,?_⟩,by simp [G]⟩
   . rw [FI (λs=>.map (some (bf s))),At G];rfl
   . unfold G1;rw [MS G];rfl
section
variable {l:Sl} {tab:Tab}
def Da {y:Operand} {t N h r:Nat} {c:Bool} {k:lB} {z:Value} {kvs:List (lB×Value)} (T:TabOk P tab) (O:AB tab t=some (.map N e,h)) (M:AB tab N=some (.str,m)) (U:((P.info? e).bind (·.zero))=some z)
 (V:ev l x=some (.map (some r))) (X:ev l y=some (str k)) (Y:CI (Ez kvs k) z c=v) (Z:∀w,S w->MapIs w r kvs):Br P n l S (.lookup t x y c) ty v:=by
 rw [<-Y];exact L1 T O M U V X Z
def Fv {y:Operand} {t N h:Nat} {m:Option Nat} {c:Bool} {k:lB} {z:Value} {kvs:List (lB×Value)} (T:TabOk P tab) (O:AB tab t=some (.map N e,h)) (M:AB tab N=some (.str,i)) (U:((P.info? e).bind (·.zero))=some z)
 (V:ev l x=some (.map m)) (X:ev l y=some (str k)) (Y:CI (Ez kvs k) z c=v) (Z:∀w,S w->MapZ w m kvs):Br P n l S (.lookup t x y c) ty v:=by
 rw [<-Y];exact Rh T O M U V X Z
end
def Jj (M X:nP) (N:Nat) (es:List EX) (L:List AtV) (s n:BJ) (w:wD) (U:BkAt M X w N es L) :
 Calls prog 17 #[pt N,str s,str n] w λe w'=>e = .returned (.int .i64 (DV L s n))/\Ext w w':=by
 have V:=Ne w;obtain ⟨ea,ec,r,h1,-,-,Y,-,-⟩:=U;obtain ⟨kvs,m,q1,Z,q3,-⟩:=Y.look s;have O:=PN L s n;unfold Hz at O;refine Ad func17 ntmps17 rfl rfl (eK ?_);refine C1 (Fo Ac rfl rfl) (eK ?_);refine C1 (Da Ac rfl rfl rfl rfl rfl Z (λh G=>by rw [show h=_ from G];assumption)) (C1 Mv (C1 (Fv Ac rfl rfl rfl rfl rfl O (λh G=>by rw [show h=_ from G];assumption)) (C1 (KB Ac rfl rfl rfl rfl rfl rfl) (kR ?_))));exact ⟨rfl,V⟩
def Ri (L:List AtV) (s:BJ):∀a b:List (BJ×Int),CG L s (a++b)=CG L s a+CG L s b
 | [],b=>by simp [CG]
 | x::a,b=>by rw [jC,CG,CG,Ri L s a b,Int.add_assoc]
def Ki (es:List EX):List (BJ×Int):=es.map λe=>(e.name,e.points)
def aV (L:List AtV) (s:BJ):∀es:List EX,(∀e∈es,0<=e.points/\e.points<=1000)->0<=CG L s (Ki es)/\CG L s (Ki es)<=1000*es.length
 | [],_=>by simp [Ki,CG]
 | e::es,h=>by
  have N:=aV L s es (λx G=>h x (iU _ G));have O:=h e je;have M:Ki (e::es)=(e.name,e.points)::Ki es:=rfl;rw [M,CG,gV];simp only;split<;>omega
def H7 (M X:nP) (bb:Nat) (es:List EX) (he:es.length<=1000) (hp:∀e∈es,0<=e.points/\e.points<=1000) (L:List AtV) (s:BJ) (w:wD) (hb:BkAt M X w bb es L) :
 Calls prog 16 #[pt bb,str s] w λe w'=>e = .returned (.int .i64 (CG L s (Ki es)))/\Ext w w':=by
 have O:=Ne w;obtain ⟨ea,ec,r,h,-,G,h4,-,-⟩:=hb;obtain ⟨kvs,m,N,q2,U,-⟩:=h4.look s;have G:=G.ltA;have hv:=λn=>PN L s n
 unfold Hz at hv;have HP:=gO hp;clear h4 hp;refine Ad func16 ntmps16 rfl rfl ?_;refine eK ?_;refine C1 (Fo Ac rfl rfl) (cT (Ba rfl (Ao (Ai (cS (C1 Pa (cT (Aj (cS (C1 Mv (C1 Pn ?_)))))))))));refine C1 Pg (C1 (Pl h) (C1 Pz (C1 Mv (cT ?_))));refine Au ?_;refine AQ (ι:=Nat) (λj=>[(0,pt bb),(1,str s),(5,.int .i64 (CG L s (Ki (es.take j)))),(13,.slice ea es.length ec),(14,.int .i64 es.length),(15,.int .i64 j)])
  (λj w'=>j<=es.length/\Blk w' bb [.slice ea es.length ec,.map (some r)]/\EXs (· < w.heap.size) w' es ea/\MapIs w' r kvs/\MapZ w' m (G1 L s)/\Ext w w') (λj=>es.length-j) 0 sB ⟨ii _,h,G,N,U,O⟩ ?_
 clear h G N U O;rintro j w1 ⟨hj,h,G,N,U,O⟩;by_cases af:j<es.length
 . obtain ⟨kb,ko,rfl,-,hk⟩:=mw G Ab;obtain ⟨va,vc,pa,pc,ma,mc,rx,-⟩:=hk j _ (gN af);have aw:=HP.out _ (ig af);have ax:=aV L s (es.take j) (λe he=>HP.out e (jz he));have av:(es.take j).length<=1000:=by rw [iO];omega
   have ab:CG L s (Ki (es.take (j+1)))=CG L s (Ki (es.take j))+if Ce L s es[j].name then es[j].points else 0:=by
    unfold Ki;rw [gS af,jm,Ri];simp [CG]
   clear hk HP;generalize CG L s (Ki (es.take j))=sm at *;generalize es[j]=x at *;unfold mE at rx;by_cases hs:Ce L s x.name=true
   . have Y:=hv x.name;rw [hs] at Y;rw [AH hs] at ab;refine eK ?_;refine xA [_,_,_,_,_,_,_,_,_,_,_,_] ?_;intro ay az am;refine eI [_,_,_,_,_,_,_,_,_,_,_,_] am ?_;intro ai ac an _ _;revert N U O h G;refine eE an ?_;intro N U O h G;refine eK ?_;refine Aq (λV=>Ext ai V) 8 (.pure 0 (.pure 1 (.pure 2 (.pure 3 (.pure 4 (.pure 5 (.pure 6 (.pure 7 .tail)))))))) mixed AU (Aa (Af (Aa (Aa (Af (Aa Ag)))))) ?_;intro ao ad _;have Z:(λV=>Ext ai V) ao:=ad;simp only at Z;have ag:=ac;have aj:=N;have ak:=h;revert ac N U O h G;refine eE ad ?_;intro ac N U O h G;refine ⟨Z,?_⟩;refine eT ?_;refine Tq rfl (Da Ac rfl rfl rfl rfl rfl q2 (λV hz=>MapIs.ext Ae hz)) (Tq rfl Pg (Tq rfl (Db ag) ?_));refine Ar rfl (C1 (Fv Ac rfl rfl rfl rfl rfl Y (λV hz=>by rw [show V=_ from hz];assumption)) (C1 (KB Ac rfl rfl rfl rfl rfl rfl) (cT (BO rfl (Al (C1 Mv (C1 Pf (C1 (Pl ac) (C1 V7 (C1 Pa (Ak ?_)))))))))));refine Ah (Ai (Al (C1 V7 (C1 Mv (Ak ?_)))));exact AA (j+1) (by rw [ab];(refine An rfl ?_;refine An rfl ?_;refine An rfl ?_;refine An rfl ?_;refine An rfl ?_;refine An rfl ?_;exact BK)) ⟨Ab,h,G,N,U,O⟩ Ab
   . rw [At hs,Int.add_zero] at ab;have Y:=hv x.name;rw [Bool.not_eq_true] at hs;rw [hs] at Y;refine eK ?_;refine xA [_,_,_,_,_,_,_,_,_,_,_,_] ?_;intro a0 a1 ap;refine eI [_,_,_,_,_,_,_,_,_,_,_,_] ap ?_;intro al aq ar _ _;revert N U O h G;refine eE ar ?_;intro N U O h G;refine eK ?_;refine Aq (λV=>Ext al V) 8 (.pure 0 (.pure 1 (.pure 2 (.pure 3 (.pure 4 (.pure 5 (.pure 6 (.pure 7 .tail)))))))) mixed AU (Aa (Af (Aa (Aa (Af (Aa Ag)))))) ?_;intro au ae _;have aa:(λV=>Ext al V) au:=ae;simp only at aa;have ah:=aq;have aj:=N;have ak:=h;revert N U O h G;refine eE ae ?_;intro N U O h G;refine ⟨aa,?_⟩;refine eT ?_;refine Tq rfl (Da Ac rfl rfl rfl rfl rfl q2 (λV hz=>MapIs.ext Ae hz)) (Tq rfl Pg (Tq rfl (Db ah) ?_));refine Ar rfl (C1 (Fv Ac rfl rfl rfl rfl rfl Y (λV hz=>by rw [show V=_ from hz];assumption)) (C1 (KB Ac rfl rfl rfl rfl rfl rfl) (cT (Ba rfl (Ao (Ah (Ai (Al (C1 V7 (C1 Mv (Ak ?_)))))))))));exact AA (j+1) (by rw [ab];(refine An rfl ?_;refine An rfl ?_;refine An rfl ?_;refine An rfl ?_;refine An rfl ?_;refine An rfl ?_;exact BK)) ⟨Ab,h,G,N,U,O⟩ Ab
 . obtain rfl:j=es.length:=by omega
   rw [im] at *;refine kR ?_;exact ⟨rfl,O⟩
def Gi:∀x y:lB,Op.bytesLess x y=decide (x<y)
 | [],[]=>by simp [Op.bytesLess]
 | [],b::y=>by simp [Op.bytesLess]
 | a::x,[]=>by simp [Op.bytesLess]
 | a::x,b::y=>by
  simp only [Op.bytesLess,Gi x y,List.cons_lt_cons_iff];by_cases h:a<b
  . simp [h]
  . by_cases G:a=b
    . simp [G]
    . simp [h,G]
section
variable {l:Sl} {t t':TypeId} {y:Operand} {a b:lB}
def Kj (G:ev l x=some (str a)) (M:ev l y=some (str b)):Br P n l S (.binOp .lss t x y t') ty (.bool (decide (a<b))):=by
 unfold Br;intro N w O pos after g h _;have e:=Gi a b;simp only [execOp,h.ev G,h.ev M,ij,EY,gY,binOp_string_lss,iC,GG,e]
def Rj (O:ev l x=some (str a)) (U:ev l y=some (str b)):Br P n l S (.binOp .gtr t x y t') ty (.bool (decide (b<a))):=by
 unfold Br;intro V w X pos after g N _;have e:=Gi a b;have Y:(!(Op.bytesLess a b||a==b))=decide (b<a):=by
  rw [e];by_cases h:b<a
  . have M:¬a<b:=λG=>List.lt_irrefl _ (List.lt_trans h G)
    have G:¬a=b:=λG=>List.lt_irrefl b (G▸h)
    simp [h,M,G]
  . by_cases M:a=b
    . subst M;simp [List.lt_irrefl]
    . have:a<b:=Decidable.by_contra λG=>M (List.le_antisymm (List.not_lt.1 h) (List.not_lt.1 G))
      simp [h,this]
 simp only [execOp,N.ev O,N.ev U,ij,EY,gY,binOp_string_gtr,iC,GG,Y]
end
def S0 (es:List EX) (n:BJ):Option Nat:=es.findIdx? (λe=>decide (e.name=n))
def Ia (es:List EX) (n:BJ):Int:=match S0 es n with
 | some i=>(i:Int)
 | none=> -1
def Zo (e:EX) (M N O:oA) (vc U V h:Nat) (s:BJ) (w:wD) (G:Blk w h [str s]):Calls prog 57 #[.agg (e.cells M vc N U O V).toArray,pt h] w λr w'=>r = .returned (.bool (decide (e.name=s)))/\Ext w w':=by
 have X:=Ne w;unfold mE;refine Ad func57 ntmps57 rfl rfl (cS (eB [_,_,_,_,_,_,_,_,_,_,_,_] ?_));intro Z w2 h4 Y _ _;revert G X;refine eE Y ?_;intro G X;refine kR ?_;exact ⟨rfl,X⟩
def Xh (l:List EX) (hl:l.length<=1000000) (s:BJ) (S:nP) (a:oA) (c N:Nat) (w:wD) (G:EXs S w l a) (O:Blk w N [str s]) :
 Calls prog 56 #[.slice a l.length c,.func (.func 57) #[] #[pt N]] w λe w'=>e = .returned (.int .i64 (Ia l s))/\Ext w w':=by
 have X:=Ne w;have G:=G.ltA;refine Ad func56 ntmps56 rfl rfl (cS (C1 Pa (cT (Aj (cS (C1 Mv (C1 Pz (C1 Mv (cT ?_)))))))));refine Au ?_;refine AQ (ι:=Nat) (λj=>[(0,.slice a l.length c),(1,.func (.func 57) #[] #[pt N]),(6,.slice a l.length c),(7,.int .i64 l.length),(8,.int .i64 j)])
  (λj w'=>j<=l.length/\EXs (· < w.heap.size) w' l a/\Blk w' N [str s]/\Ext w w'/\(l.take j).findIdx? (λp=>decide (p.name=s))=none)
  (λj=>l.length-j) 0 sB ⟨ii _,G,O,X,rfl⟩ ?_
 rintro j w1 ⟨hj,G,O,X,M⟩;by_cases U:j<l.length
 . obtain ⟨kb,ko,rfl,-,hk⟩:=mw G Ab;obtain ⟨va,vc,pa,pc,ma,mc,ry,-⟩:=hk j l[j] (gN U);have V:=IU U M;have Y:l[j].name=s->Ia l s=j:=λh=>by
    rw [AH (by simpa using h)] at V;rw [Ia,S0,IV V]
   have HX:=gO (λw1 h=>Zo l[j] va pa ma vc pc mc N s w1 h);generalize l[j]=y at *;unfold mE at *
   focus
    refine eK ?_;refine Ax (A8 (fi:=[]) (ca:=[pt N]) AU rfl rfl (HX.out _ Ae) (λ_ _ h=>⟨_,h.1⟩)) rfl ?_ aFh;rintro _ ab ⟨⟨⟩,Z⟩;revert O X G;refine eE Z ?_;intro O X G;refine cT (Ay rfl (λaa=>?_) (λaa=>?_));refine kR ?_;rotate_left;refine Ao (Ah (Ai (Al (C1 V7 (C1 Mv (Ak ?_))))));rotate_left
   . exact ⟨by rw [Y Ae],X⟩
   . exact AA (j+1) sB ⟨Ab,G,O,X,V.trans (At (by simpa using Ae))⟩ Ab
 . obtain rfl:j=l.length:=by omega
   rw [im] at M;have he:Ia l s = -1:=by rw [Ia,S0,M]
   rw [he];refine kR ?_;exact ⟨rfl,X⟩
def PO (M:Nat) (es:List EX) (V:es.length<=1000000) (s:BJ) (S:nP) (G:oA) (N:Nat) (m:Value) (w:wD) (O:Blk w M [.slice G es.length N,m]) (U:mq m=true) (h:EXs S w es G) :
 Calls prog 30 #[pt M,str s] w λe w'=>e = .returned (.int .i64 (Ia es s))/\Ext w w':=by
 have X:=Ne w;have h:=h.ltA;have Y:=gO (λZ w1 U h2=>Xh es V s (· < w.heap.size) G N Z w1 U h2);refine Ad func30 ntmps30 rfl rfl (cS (eB [_] ?_));intro b1 w2 h4 x5 _ _;revert O X h;refine eE x5 ?_;intro O X h;refine eK ?_;refine C1 (B6 rfl) (cC rfl (Y.out _ _ Ae Ae) ?_);rintro _ w9 ⟨⟨⟩,x8⟩;have X:=X.ext x8;refine kR ?_;exact ⟨rfl,X⟩
def Oq:∀(l:List Nat) (j:Nat) (x:Nat),l[j]? = some x->(l.eraseIdx j).sum+x=l.sum
 | [],j,x,h=>by simp at h
 | y::l,0,x,h=>by
  simp only [iw,gU] at h;simp [h,lx]
 | y::l,j+1,x,h=>by
  have:=Oq l j x (by simpa using h);simp only [List.eraseIdx_cons_succ,List.sum_cons];omega
def KS {α β:Type} (f:α->β):∀(l:List α) (j:Nat),(l.map f).eraseIdx j=(l.eraseIdx j).map f
 | [],_=>by simp
 | x::l,0=>by simp
 | x::l,j+1=>by simp [KS f l j]
def Zp (M X:nP) (bb:Nat) (es:List EX) (L:List AtV) (hL:L.length<=1000000) (s:BJ) (hs:s∈Bo L) (w:wD) (hb:BkAt M X w bb es L) :
 Calls prog 39 #[pt bb,str s] w λe w'=>e = .returned (.int .i64 (D6 L s))/\Ext w w':=by
 have N:=Ne w;obtain ⟨ea,ec,r,h1,-,h3,⟨bf,g1,-,g3,-⟩,-,-⟩:=hb;obtain ⟨-,-,g4⟩:=g3 s hs;have hv:CI (Ez ((Bo L).map λs=>(s,Value.map (some (bf s)))) s) (.map none) false = .map (some (bf s)):=by
  rw [FI (λs=>.map (some (bf s))),AH hs];rfl
 have ak:=g1.is;have V:=Zl L s;have al:D6 L s<=1000000:=jg (List.countP_le_length ..) hL;unfold G1 at g4;generalize bf s=b2 at *;refine Ad func39 ntmps39 rfl rfl (eK ?_);refine C1 (Da Ac rfl rfl rfl rfl rfl hv (λwz hz=>by rw [show wz=_ from hz];assumption)) (Ax (Lv Ac rfl rfl Ae) rfl ?_ aFh);rintro _ w6 ⟨r1,rfl,h2,h3,h4,x5⟩;have N:=N.ext x5;refine cT ?_;refine Au ?_;refine AQ (ι:=List BJ×Nat) (λx=>[(5,.int .i64 x.2),(14,pt r1)])
  (λx w'=> ∃cur,ItM w' r1 b2 (x.1.map λn=>(n,Hz L s n)) cur/\x.2+(x.1.map λn=>DV L s n).sum=D6 L s/\Ext w w') (λx=>x.1.length) (Rf L s,0) sB ⟨none,h4,by simpa using V,N⟩ ?_
 rintro ⟨ns,sm⟩ w7 ⟨cur,h4,h,N⟩;simp only at h4 h;refine mK (m:=[(5,.int .i64 sm),(14,pt r1)]) ?_ sB;cases ns with
 | nil=>
  simp only [ky,List.sum_nil,jT] at h h4;subst h;refine cS (Ax (Lw rfl Ae) rfl ?_ aFh);rintro _ am ⟨rfl,rfl⟩;refine kR ?_;exact ⟨rfl,N⟩
 | cons n0 aa=>
  generalize ab:n0::aa=ns at *;have ac:(ns.map λn=>(n,Hz L s n))≠[]:=by rw [<-ab];simp
  refine cS (Ax (MR rfl Ae ac) rfl ?_ aFh);rintro _ ao ⟨O,ap,Y,rfl,G,ad⟩;have N:=N.fr ad Ab;refine C1 Px (cT (Aj (BO rfl (Ao (Ai (Au ?_))))));rw [iJ] at Y;obtain ⟨U,Z,rfl⟩:=lu.1 Y;rw [KS] at G;have ae:=Oq (ns.map λn=>DV L s n) O (DV L s U) (by rw [iJ,Z];rfl);rw [KS] at ae;have af:Hz L s U = .agg #[.int .i64 (DV L s U),.bool (Ce L s U)]:=rfl;have aq:=(List.getElem?_eq_some_iff.1 Z).1;have ag:(ns.eraseIdx O).length<ns.length:=by rw [List.length_eraseIdx];split<;>omega
  rw [af] at G;generalize DV L s U=an at *;generalize Ce L s U=sv at *;refine cS (C1 (Om rfl (λwz hz=>by rw [show wz=_ from hz];assumption)) (C1 Px (xA [_,_] ?_)));intro ar au ah;refine eI [_,_] ah ?_;intro av ai aj _ _;revert N G;refine eE aj ?_;intro N G;refine cT (Al (C1 Mv (C1 Pg (C1 (Pl ai) (C1 V7 (C1 Pa (Ak (Ah ?_))))))));exact AA (ns.eraseIdx O,sm+an) sB ⟨_,G,by simp only;omega,N⟩ ag
def KT {α:Type} (lt:α->α->Bool) (x y:α):Int:=if lt x y then -1 else if lt y x then 1 else 0
def Zq (x y:Int):Bool:=decide (x<y)
def Os (L:List AtV) (ps:List (BJ×Int)) (s t:BJ):Int:=
 if KT Zq (CG L t ps) (CG L s ps)≠0 then KT Zq (CG L t ps) (CG L s ps)
 else if KT Zq (D6 L s) (D6 L t)≠0 then KT Zq (D6 L s) (D6 L t) else KT JB s t
def Xi (L:List AtV) (ps:List (BJ×Int)) (s t:BJ):decide (Os L ps s t<0)=SY L ps s t:=by
 unfold Os SY KT Zq JB;refine decide_eq_decide.2 ?_;simp only [decide_eq_true_eq];have X:¬(s<t/\t<s):=λh=>List.lt_irrefl _ (List.lt_trans h.1 h.2)
 rcases Int.lt_trichotomy (CG L t ps) (CG L s ps) with h|h|h
 . simp [h]
 . have G:¬CG L t ps<CG L s ps:=by omega
   have M:¬CG L s ps<CG L t ps:=by omega
   simp only [G,M,if_false,ne_eq,not_true_eq_false,false_or,h,true_and];rcases kn (D6 L s) (D6 L t) with g|g|g
   . simp [g]
   . simp only [g,Nat.lt_irrefl,Int.lt_irrefl,if_false,not_true_eq_false,false_or,true_and];by_cases k:s<t
     . simp [k]
     . simp only [k,if_false,iff_false];split<;>omega
   . have N:¬(D6 L s:Int)<D6 L t:=by omega
     have O:(D6 L t:Int)<D6 L s:=by omega
     have U:¬D6 L s<D6 L t:=by omega
     have V:¬D6 L s=D6 L t:=by omega
     simp [N,O,U,V]
 . have G:¬CG L t ps<CG L s ps:=by omega
   have M:¬CG L s ps=CG L t ps:=by omega
   simp [h,G,M]
def Xj (x:Int) (w:wD):Calls prog 66 #[.int .i64 x] w λe w'=>e = .returned (.bool false)/\Ext w w':=by
 have X:=Ne w;refine Ad func66 ntmps66 rfl rfl (kR ?_);exact ⟨AK,X⟩
def Jk (x:BJ) (w:wD):Calls prog 67 #[str x] w λe w'=>e = .returned (.bool false)/\Ext w w':=by
 have X:=Ne w;refine Ad func67 ntmps67 rfl rfl (kR ?_);exact ⟨AK,X⟩
def Xk (x y:Int) (w:wD):Calls prog 38 #[.int .i64 x,.int .i64 y] w λe w'=>e = .returned (.int .i64 (KT Zq x y))/\Ext w w':=by
 have X:=Ne w;unfold KT Zq;refine Ad func38 ntmps38 rfl rfl ?_
 focus
  refine kC (Xj _ _) ?_;rintro _ O ⟨⟨⟩,h⟩;have X:=X.ext h;refine kC (Xj _ _) ?_;rintro _ U ⟨⟨⟩,G⟩;have X:=X.ext G;refine eK ?_;refine Ay rfl (λM=>?_) (λM=>?_);refine kR ?_;rotate_left;refine eK ?_;refine Ay rfl (λN=>?_) (λN=>?_);refine kR ?_;rotate_left;refine kR ?_;rotate_left
 all_goals exact ⟨by simp [*],X⟩
def cB (x y:BJ) (w:wD):Calls prog 40 #[str x,str y] w λe w'=>e = .returned (.int .i64 (KT JB x y))/\Ext w w':=by
 have X:=Ne w;unfold KT JB;by_cases h1:x<y
 . refine Ad func40 ntmps40 rfl rfl ?_;refine kC (Jk _ _) ?_;rintro _ w2 ⟨⟨⟩,O⟩;have X:=X.ext O;refine kC (Jk _ _) ?_;rintro _ w5 ⟨⟨⟩,U⟩;have X:=X.ext U;refine eK ?_;refine C1 (Kj rfl rfl) (kR ?_);exact ⟨by simp [*],X⟩
 . by_cases h2:y<x
   . refine Ad func40 ntmps40 rfl rfl ?_;refine kC (Jk _ _) ?_;rintro _ V ⟨⟨⟩,h⟩;have X:=X.ext h;refine kC (Jk _ _) ?_;rintro _ Y ⟨⟨⟩,G⟩;have X:=X.ext G;refine eK ?_;refine C1 (Kj rfl rfl) (eK ?_);refine C1 (Rj rfl rfl) (kR ?_);exact ⟨by simp [*],X⟩
   . refine Ad func40 ntmps40 rfl rfl ?_;refine kC (Jk _ _) ?_;rintro _ Z ⟨⟨⟩,M⟩;have X:=X.ext M;refine kC (Jk _ _) ?_;rintro _ aa ⟨⟨⟩,N⟩;have X:=X.ext N;refine eK ?_;refine C1 (Kj rfl rfl) (eK ?_);refine C1 (Rj rfl rfl) (kR ?_);exact ⟨by simp [*],X⟩
def Jl (l:List EX):Int:=if 100<l.length then 5 else if ∀e∈l,e.valid then (if (l.map (·.name)).Nodup then 0 else 22) else 3
def gg (l:List EX) (w:wD):Ending->wD->Prop:=λe w'=> ∃p k,e = .returned (.tuple #[.pointer p,.int .i64 k])/\k=Jl l/\Ext w w'/\((p=none/\k≠0)\/(k=0 /\ ∃bb M X,p=some ⟨bb,0,none⟩/\BkAt M X w' bb l [] /\ ∀k,X k\/M k->w.heap.size<=k))
def exIV_mem {n:BJ}:0<=Ia es n↔n∈es.map (·.name):=by
 unfold Ia S0;cases h:es.findIdx? (λe=>decide (e.name=n)) with
 | none=>
  rw [List.findIdx?_eq_none_iff] at h;simp only [List.mem_map];constructor
  . intro G;omega
  . rintro ⟨e,M,rfl⟩;have:=h e M;simp at this
 | some i=>
  obtain ⟨N,G,-⟩:=List.findIdx?_eq_some_iff_getElem.1 h;simp only [List.mem_map];exact ⟨λ_=>⟨_,ig N,by simpa using G⟩,λ_=>by omega⟩
def Xl {n:BJ} (h:n∉es.map (·.name)):Ia es n = -1:=by
 have G:=λM=>h (exIV_mem.1 M)
 unfold Ia at G ⊢;split at G
 . exact absurd (Int.natCast_nonneg _) G
 . rfl
def S5 {l:List α} {x:α} (h:l.Nodup) (M:x∉l):(l++[x]).Nodup:=by
 rw [List.nodup_append];exact ⟨h,AK,λa N b G e=>M (by simp only [iu] at G;rw [<-G,<-e];exact N)⟩
set_option maxHeartbeats 8000000 in
def aW (l:List EX) (hw:∀e∈l,e.wf) (hl:l.length<=1000000) (S:nP) (a:oA) (c:Nat) (w:wD) (M:EXs S w l a) :
 Calls prog 13 #[.slice a l.length c] w (gg l w):=by
 have X:=Ne w;have M:=M.ltA;by_cases af:100<l.length
 . have hv:Jl l=5:=AH af;refine Ad func13 ntmps13 rfl rfl ?_;refine kT ?_;exact ⟨_,_,rfl,hv.symm,X,gP ⟨rfl,Ab⟩⟩
 have HV:=gO (λe he S va pa ma vc pc mc w1 h=>KO e (hw e he) S va vc pa pc ma mc w1 h);refine Ad func13 ntmps13 rfl rfl ?_;refine cS (C1 Pa (C1 Pa (cT (Aj (cS (C1 Mv (C1 Pz (C1 V5 (cT (Dz (Ao ?_)))))))))));refine Ai (Aj (cS (C1 Mv (C1 Pz (C1 Mv (cT ?_))))));refine Au ?_;refine AQ (ι:=Nat) (λj=>[(0,.slice a l.length c),(12,.slice a l.length c),(13,.int .i64 l.length),(14,.int .i64 j)])
  (λj w'=>j<=l.length/\(∀e∈l.take j,e.valid)/\EXs (· < w.heap.size) w' l a/\Ext w w') (λj=>l.length-j) 0 sB ⟨ii _,AK,M,X⟩ ?_
 clear M X;rintro j w1 ⟨hj,ai,M,X⟩;by_cases ab:j<l.length
 . obtain ⟨kb,ko,rfl,-,Y⟩:=mw M Ab;obtain ⟨va,vc,pa,pc,ma,mc,rx,sx⟩:=Y j l[j] (gN ab);have am:=gO (λ(S:nP) w1 (h:l[j].sits S w1 va pa ma vc)=>HV.out l[j] (ig ab) S va pa ma vc pc mc w1 h);have bd:l[j].valid -> ∀e∈l.take (j+1),e.valid:=λh e he=>by
    rw [gS ab,i6,iu] at he;rcases he with he|rfl
    . exact ai e he
    . exact h
   have be:¬l[j].valid->Jl l=3:=λh=>by
    unfold Jl;rw [At af,At (λh2=>h (h2 _ (ig ab)))]
   clear Y ai HV;generalize l[j]=x at *;unfold mE at *;by_cases hv:x.valid
   . rw [decide_eq_true hv] at am;refine eK ?_;refine xA [_,_,_,_,_,_,_,_,_,_,_,_] ?_;intro cv cw bf;refine eI [_,_,_,_,_,_,_,_,_,_,_,_] bf ?_;intro cx bg bh _ _;revert X M sx;refine eE bh ?_;intro X M sx;refine cN (A1 [_,_,_,_,_,_,_,_,_,_,_,_] Ac rfl rfl rfl bg rfl rfl rfl (cC rfl (am.out _ _ Ae) ?_));rintro _ b4 ⟨⟨⟩,bi⟩;revert X M;refine eE bi ?_;intro X M;refine C1 Pt (cT (Ba rfl (Ao (Ah (Ai (Al (C1 V7 (C1 Mv (Ak ?_)))))))));exact AA (j+1) sB ⟨Ab,bd hv,M,X⟩ Ab
   . rw [decide_eq_false hv] at am;refine eK ?_;refine xA [_,_,_,_,_,_,_,_,_,_,_,_] ?_;intro cy cz bj;refine eI [_,_,_,_,_,_,_,_,_,_,_,_] bj ?_;intro c0 bk bl _ _;revert X sx;refine eE bl ?_;intro X sx;refine cN (A1 [_,_,_,_,_,_,_,_,_,_,_,_] Ac rfl rfl rfl bk rfl rfl rfl (cC rfl (am.out _ _ Ae) ?_));rintro _ b5 ⟨⟨⟩,bm⟩;have X:=X.ext bm;refine kT ?_;exact ⟨_,_,rfl,(be hv).symm,X,gP ⟨rfl,Ab⟩⟩
 . obtain rfl:j=l.length:=by omega
   rw [im] at ai;clear HV;have c1:=X.size;refine eK ?_;refine Ax (IZ) rfl ?_ aFh;rintro _ c2 ⟨ah,rfl,c3,an,bn,c4⟩;revert M X;refine eE bn ?_;intro M X;refine C1 (xB [_,_]) (eB [_,_] ?_);intro O c5 aj a1 b6 b7;revert an M X;refine eE a1 ?_;intro an M X;refine C1 Pa (cT (Aj (cS (C1 Mv (C1 Pz (C1 Mv (cT ?_)))))));have ao:=gO ai;have ap:=aj.lt;refine Au ?_;refine AQ (ι:=Nat×oA×Nat) (λy=>[(6,pt O),(25,.slice a l.length c),(26,.int .i64 l.length),(27,.int .i64 y.1)])
    (λy w'=>y.1<=l.length/\((l.take y.1).map (·.name)).Nodup/\Blk w' O [.slice y.2.1 (l.take y.1).length y.2.2,.map (some ah)]/\OwnQ Kh w' (λb=>O<b) (O+1) 36 (.slice y.2.1 (l.take y.1).length y.2.2) (l.take y.1)/\MapB w' ah []/\EXs (· < w.heap.size) w' l a/\Ext w w'/\O<w'.heap.size) (λy=>l.length-y.1) (0,none,0) sB ⟨ii _,AK,aj,mP,an,M,X,ap⟩ ?_
   clear M X aj an ap ai;rintro ⟨j,ra,rc⟩ w3 ⟨hj,aq,U,G,hm,M,X,ap⟩;simp only at hj aq U G;refine mK (m:=[(6,pt O),(25,.slice a l.length c),(26,.int .i64 l.length),(27,.int .i64 j)]) ?_ sB;have ac:∀q,(iD ra (l.take j).length rc).ownBlock=some q->O<q/\q<w3.heap.size:=λq hq=>⟨G.ge hq,G.lt hq⟩
   have bo:(l.take j).length<=1000000:=by rw [iO];omega
   have G:=G.ltR;by_cases ab:j<l.length
   . obtain ⟨kb,ko,rfl,-,Y⟩:=mw M Ab;obtain ⟨va,vc,pa,pc,ma,mc,rx,sx⟩:=Y j l[j] (gN ab);have az:=gO (λw1 (h1:Blk w1 O [.slice ra (l.take j).length rc,.map (some ah)]) (h2:OwnQ Kh w1 (λb=>O<b/\b<w3.heap.size) (O+1) 36 (.slice ra (l.take j).length rc) (l.take j))=>PO O (l.take j) bo l[j].name (λb=>O<b) ra rc (.map (some ah)) w1 h1 rfl (h2.exs (λb h=>h.1) (λb h1 h2=>h1)));have ad:=exIV_mem (es:=l.take j) (n:=l[j].name);have a2:=ao.out _ (ig ab);have a3:=gO (λ(S:nP) va vc pa pc ma mc w1 (h:l[j].g.sits S w1 va pa ma)=>Xe l[j].g (LU a2.2.1.1) S va vc pa pc ma mc w1 h);have ae:l.take j++[l[j]]=l.take (j+1):=(gS ab).symm;have a0:¬(l.map (·.name)).Nodup\/l[j].name∉(l.take j).map (·.name):=by
      by_cases h:l[j].name∈(l.take j).map (·.name)
      . left;intro hn;rw [<-iX j l,jm,List.nodup_append] at hn;exact hn.2.2 _ h _ (List.mem_map.2 ⟨l[j],iF (i:=0) (by rw [List.getElem?_drop];simp [ab]),rfl⟩) rfl
      . exact gQ h
     have a4:¬(l.map (·.name)).Nodup->Jl l=22:=λh=>by
      unfold Jl;rw [At af,AH ao.out,At h]
     have ar:=sx.g;clear Y sx a2 ao;generalize l[j]=x at *;generalize c6:l.take j=ys at *;by_cases hd:x.name∈ys.map (·.name)
     . have c7:0<=Ia ys x.name:=ad.2 hd;have bp:=a4 (a0.resolve_right (λh=>h hd));clear ad a0 a3;generalize Ia ys x.name=ix at *;unfold mE at *;refine eK ?_;refine xA [_,_,_,_,_,_,_,_,_,_,_,_] ?_;intro c8 c9 bq;refine eI [_,_,_,_,_,_,_,_,_,_,_,_] bq ?_;intro da db br _ _;revert X U G;refine eE br ?_;intro X U G;refine kC (az.out _ Ae Ae) ?_;rintro _ b8 ⟨⟨⟩,bs⟩;have X:=X.ext bs;refine kT ?_;exact ⟨_,_,rfl,bp.symm,X,gP ⟨rfl,Ab⟩⟩
     . have a5:=Xl hd;have a6:((ys++[x]).map (·.name)).Nodup:=by rw [jm];exact S5 aq hd
       rw [a5] at az;have dc:=X.size;clear ad a0 a5 a4 hd aq;unfold mE at *;refine eK ?_;refine xA [_,_,_,_,_,_,_,_,_,_,_,_] ?_;intro dd de bt;refine eI [_,_,_,_,_,_,_,_,_,_,_,_] bt ?_;intro df ak bu dg dh;revert hm X M ar U G;refine eE bu ?_;intro hm X M ar U G;refine kC (az.out _ Ae Ae) ?_;rintro _ b9 ⟨⟨⟩,bv⟩;revert ak hm X M ar U G;refine eY bv ?_;intro ca ak hm X M ar U G;refine kQ (a3.out _ _ _ _ _ _ _ _ Ae) ?_;rintro _ cb ⟨bw,bx,bz,b0,b1,b2,⟨⟩,Z,aa,cc,a7⟩;revert ak hm X M U G;refine eY a7 ?_;intro cd ak hm X M U G;refine C1 Pf (eV [_,_,_,_,_,_] [_,_,_,_,_,_,_,_,_,_,_,_] ak ?_);intro av a8 al ce;revert Z aa hm X M;refine eF al ?_;intro Z aa hm X M;clear rx;have U:=U.fr al Ab;have G:=mS G al (λk Y=>⟨by (try dsimp only at Y);omega,λe=>by have:=ac _ e;(try dsimp only at Y);omega⟩);refine cT (Aq (λwz=>Fr ((iD ra ys.length rc).ownBlock=some ·) av wz) 8 (.pure 0 (.pure 1 (.pure 2 (.pure 3 (.pure 4 (.pure 5 (.fork 6 (.fork 7 .tail .none) .none))))))) mixed AU (Af (Aa (Aa (Af (Aa Ag))))) ?_);intro a9 aw _;have N:(λwz=>Fr ((iD ra ys.length rc).ownBlock=some ·) av wz) a9:=lX aw;simp only at N;have au:=a8;have ba:=U;revert Z aa hm X M U G;refine eY aw ?_;intro cf Z aa hm X M U G;refine ⟨N,?_⟩;refine eT ?_;refine Tq rfl (Ap Ac rfl rfl rfl (λwz hz=>l7 (lY ba hz (λe=>by have:=ac _ e;omega)) rfl)) (Tq rfl (xL [_,_,_,_,_,_,_,_,_,_,_,_] (λwz hz=>(lY au hz (λe=>by have:=ac _ e;omega)))) ?_);refine AE rfl (xS [_,_,_,_,_,_,_,_,_,_,_,_]) rfl ?_ aFh AC;rintro _ cg ⟨ch,rfl,ag,ci⟩;have cj:=ag.blk;have bb:=ag.ext;have ck:=ag.pos;have cl:=ag.size;revert N Z aa hm X M U G;refine eE bb ?_;intro N Z aa hm X M U G;refine ⟨N,?_⟩;refine AE rfl (GV (R:=λb=>O<b) (sh:=Kh) (z:=x) Ac CJ rfl rfl rfl rfl AU rfl rfl rfl Ae (λ_ h=>by exact h.1) (mi Ae) ⟨_,_,_,_,_,_,rfl,PG.sits.wide Ae (λb h=>⟨Ab,λe=>by have:=ac _ e;omega⟩),PDsC.wide Ae (λb h=>⟨Ab,λe=>by have:=ac _ e;omega⟩),Ae⟩ Ab Ab) rfl ?_ aFh AC
       rintro _ cm ⟨cn,bc,rfl,ax,co,cp,V⟩;have cq:=V.size;have N:=l8 N V (λk Y=>gP Y);have hm:=MapB.fr hm V (λe=>by have:=ac _ e;omega);have X:=me X V (λk Y=>by have:=ac _ Y;omega);have M:=EXs.fr M V (λb U hT=>by have:=ac _ hT;(try dsimp only at U);omega);have U:=lY U V (λe=>by have:=ac _ e;omega);clear G V;refine ⟨N,?_⟩;refine Ar rfl ?_;refine eK ?_;refine eV [_] [_,_] U ?_;intro cr ct ay cu;clear U;have ax:=mS ax ay (λk Y=>⟨λh=>by (try dsimp only at Y h);omega,λe=>by have:=OwnQ.ge Ae e;(try dsimp only at Y);omega⟩);revert hm X M;refine eF ay ?_;intro hm X M;refine Ak (Ah (Ai (Al (C1 V7 (C1 Mv (Ak ?_))))));exact AA (j+1,some ⟨_,0,none⟩,_) sB ⟨by (try dsimp only);omega,by dsimp only;rw [<-ae];exact a6,by dsimp only;rw [<-ae];assumption,by dsimp only;rw [<-ae];assumption,Ae,Ae,Ae,Ab⟩ (by (try dsimp only);omega)
   . obtain rfl:j=l.length:=by omega
     rw [im] at *;refine kT ?_;have b3:Jl l=0:=by
      unfold Jl;rw [At af,AH ao.out,AH aq]
     refine ⟨_,_,rfl,b3.symm,X,gQ ⟨rfl,O,λk=>k=ah,λk=>O<=k/\k<w3.heap.size,rfl,⟨ra,rc,ah,U,⟨ip _,ap⟩,G.exs (λb h=>⟨Ab,h.2⟩) (λb h1 h2=>⟨Ab,h2⟩),⟨λ_=>0,hm,rfl,λs M=>by simp [Bo] at M,λs M=>by simp [Bo] at M⟩,λk Y=>⟨λe=>by omega,Y.2⟩,λk e=>by omega⟩,λk Y=>?_⟩⟩;rcases Y with Y|Y
     . omega
     . omega
def Cx (r:Int):Int:=if r<0 then 0 else if r%2=1 then r/2+1 else -(r/2)
def Bx (h:Int):List (Int×Int)->Int×Int
 | []=>(0,0)
 | p::l=>((Bx h l).1+p.1,(Bx h l).2+p.2*h)
def Rk (h:Int) (r:Int×Int) (k left:Int):Int:=max 0 (left-1-k*h-r.2)
def aX (h:Int) (r:Int×Int) (k left:Int):Int:=min (h-1) (left-1-k-r.1)
def Ib (h:Int) (r:Int×Int):Nat->Int->List (List Int×Int)
 | 0,left=>[([],left)]
 | k+1,left=>(jj (aX h r k left-Rk h r k left+1).toNat).flatMap λ(m:Nat)=>(Ib h r k (left-1-Rk h r k left-m)).map λp=>(Cx (Rk h r k left+m)::p.1,p.2)
def dU (h:Int) (r:Int×Int) (p:Int×Int) (left:Int):Int:=max p.1 ((left-r.2+h-1).tdiv h)
def eO (r:Int×Int) (p:Int×Int) (left:Int):Int:=min p.2 (left-r.1)
def FJ (h:Int):List (Int×Int)->Int->List (List (List Int))
 | [],_=>[[]]
 | p::l,left=>(jj (eO (Bx h l) p left-dU h (Bx h l) p left+1).toNat).flatMap λ(m:Nat)=>
  (Ib h (Bx h l) (dU h (Bx h l) p left+m).toNat left).flatMap λq=>(FJ h l q.2).map λs=>q.1::s
def II (s:List (List Int)):SV:=⟨s.dropLast,s.getLastD [],[]⟩
def Vu (h:Int) (l:List (Int×Int)):List (List (List Int)):=(jj ((Bx h l).2-(Bx h l).1+1).toNat).flatMap λ(m:Nat)=>FJ h l ((Bx h l).1+m)
def LM (vs:List VD) (b:BoxV):List SV:=if b.ok/\C3 vs then (Vu (2*b.v+1) (CV vs b)).map II else []
def Rm (h:Int) (r:Int×Int):∀(k:Nat) (left:Int),∀q∈Ib h r k left,q.1.length=k
 | 0,_,q,G=>by
  simp only [Ib,iu] at G;simp [G]
 | k+1,left,q,G=>by
  simp only [Ib,List.mem_flatMap,List.mem_map] at G;obtain ⟨m,-,p,M,rfl⟩:=G;simp [Rm h r k _ p M]
def Rp:List (Int×Int)->List (List Int)->Prop
 | [],s=>s=[]
 | p::l,s=> ∃x r,s=x::r/\p.1<=x.length/\(x.length:Int)<=p.2/\Rp l r
def Ot (h:Int):∀(l:List (Int×Int)) (left:Int),(∀p∈l,0<=p.1) -> ∀s∈FJ h l left,Rp l s
 | [],_,_,s,G=>by
  simp only [FJ,iu] at G;exact G
 | p::l,left,M,s,G=>by
  simp only [FJ,List.mem_flatMap,List.mem_map,kp] at G;obtain ⟨m,V,q,N,r,O,rfl⟩:=G;have X:=Rm _ _ _ _ q N;have Y:=M p je;have Z:p.1<=dU h (Bx h l) p left:=by unfold dU;omega
  have h4:eO (Bx h l) p left<=p.2:=by unfold eO;omega
  exact ⟨q.1,r,rfl,Ab,Ab,Ot h l q.2 (λx U=>M x (by simp [U])) r O⟩
def Ou:∀ {l:List (Int×Int)} {s:List (List Int)},Rp l s->s.length=l.length
 | [],s,h=>by
  have:s=[]:=h;simp [this]
 | p::l,s,⟨x,r,h,_,_,G⟩=>by rw [h];simp [Ou G]
def KU:∀ {l:List (Int×Int)} {s:List (List Int)},Rp l s -> ∀(i:Nat) (p:Int×Int) (x:List Int),l[i]? = some p->s[i]? = some x->p.1<=x.length/\(x.length:Int)<=p.2
 | [],_,_,i,p,x,N,_=>by simp at N
 | p::l,s,⟨y,r,h,O,U,V⟩,i,q,x,M,G=>by
  rw [h] at G;cases i with
  | zero=>
   simp only [iw,gU] at M G;subst M G;exact ⟨O,U⟩
  | succ i=>
   simp only [kI] at M G;exact KU V i q x M G
def Xm {h:Int} (M:∀p∈l,0<=p.1):∀s∈Vu h l,Rp l s:=by
 intro s G;unfold Vu at G;rw [List.mem_flatMap] at G;obtain ⟨m,-,G⟩:=G;exact Ot h l _ M s G
def Ov {b:BoxV}:∀s∈LM vs b,FitsP vs s:=by
 intro s G;unfold LM at G;split at G
 . rename_i M;obtain ⟨U,M⟩:=M;rw [List.mem_map] at G;obtain ⟨t,ht,rfl⟩:=G;have V:=Xm (λp hp=>(Pq U M p hp).1) t ht;have X:=Ou V;rw [KI] at X;have hL:(II t).cells=t.take vs.length:=by
    unfold II;simp only;rw [List.dropLast_eq_take,X];rfl
   refine ⟨M,?_,?_,ii _,λi v x Y hx=>?_⟩
   . rw [hL,iO];omega
   . have h4:t[vs.length]? = some (t.getLastD []):=by
      rw [List.getLastD_eq_getLast?,List.getLast?_eq_getElem?,X];simp only [Nat.add_sub_cancel];rw [gN Ab];rfl
     have h:=KU V vs.length (0,b.i) _ (by simp [CV]) h4;obtain ⟨-,-,-,O⟩:=U;show (t.getLastD []).length<=4096;simp only at h;omega
   . have N:=(List.getElem?_eq_some_iff.1 Y).1;rw [hL,List.getElem?_take_of_lt N] at hx;have h:=KU V i (JT b v) x (by simp [CV,gW,N,iJ,(List.getElem?_eq_some_iff.1 Y).2]) hx;have O:=WO U (M.2 v (iF Y));unfold Mq;unfold JT at h O;split
     . rename_i Z;rw [AH Z] at h O;simp only at h O;omega
     . rename_i Z;rw [At Z] at h;simp only at h;omega
 . simp at G
inductive Rl where
 | none|cell (i:Nat)|items (i:Nat)|vars (j:Nat)|cels (j:Nat)|calls|store|tape|tin|tout|other (k:Nat)
 deriving DecidableEq
variable {c g b:Nat} {ρ:Nat->Rl} {l:List (Int×Int)} {ys:List Int} {vv:Value} {T:TypeId} {y:Operand} {us:lV} {β:Type} {w:wD} {p:oA}
def Ro (ρ ρ':Nat->Rl) (w:wD):Prop:= ∀b,b<w.heap.size->ρ' b=ρ b
def Ro.refl (ρ:Nat->Rl) (w:wD):Ro ρ ρ w:=λ_ _=>rfl
def Ro.trans {ρ ρ' G:Nat->Rl} {w w':wD} (h:Ro ρ ρ' w) (M:Ro ρ' G w') (O:w.heap.size<=w'.heap.size):Ro ρ G w:=λb N=>(M b Ab).trans (h b N)
def OwnR (ρ:Nat->Rl) (r:Rl) (w:wD) (v:Value) (xs:List Int):Prop:=OwnI w 0 v xs /\ ∀k,v.ownBlock=some k->ρ k=r
def OwnR.ext {ρ:Nat->Rl} {r:Rl} {w w':wD} {v:Value} {xs:List Int} (h:OwnR ρ r w v xs) (x:Ext w w'):OwnR ρ r w' v xs:=⟨h.1.ext x,h.2⟩
instance {r:Rl}:LfE w w' (OwnR ρ r w v xs) (OwnR ρ r w' v xs):=⟨λx h=>Bk.OwnR.ext h x⟩
def OwnR.fr {ρ:Nat->Rl} {r:Rl} {S:nP} {w w':wD} {v:Value} {xs:List Int} (h:OwnR ρ r w v xs) (x:Fr S w w') (G:∀k,S k->ρ k≠r):OwnR ρ r w' v xs:=
 ⟨h.1.fr x (λk M N=>G k N (h.2 k M)),h.2⟩
instance {r:Rl} {S:nP}:LfF S w w' (OwnR ρ r w v xs) (∀k,S k->ρ k≠r) (OwnR ρ r w' v xs):=⟨λx s h=>Bk.OwnR.fr h x s⟩
def OwnR.ro {ρ':Nat->Rl} {r:Rl} (h:OwnR ρ r w v xs) (x:Ro ρ ρ' w') (M:w.heap.size<=w'.heap.size):OwnR ρ' r w v xs:=
 ⟨h.1,λk G=>by have:=(h.1.lt G).2;rw [x k Ab];exact h.2 k G⟩
def OwnR.ro' {ρ':Nat->Rl} {r:Rl} (h:OwnR ρ r w' v xs) (x:Ro ρ ρ' w) (M:∀k,v.ownBlock=some k->k<w.heap.size):OwnR ρ' r w' v xs:=
 ⟨h.1,λk G=>by rw [x k (M k G)];exact h.2 k G⟩
structure TapeAt (ρ:Nat->Rl) (w:wD) (tb:Nat) (ti to:List Int):Prop where
 role:ρ tb = .tape
 blk:∃vi vo,Blk w tb [vi,vo]/\OwnR ρ .tin w vi ti/\OwnR ρ .tout w vo to
 li:ti.length<=4096
 lo:to.length<=4096
def TapeAt.ext {ρ:Nat->Rl} {w w':wD} {tb:Nat} {ti to:List Int} (h:TapeAt ρ w tb ti to) (x:Ext w w'):TapeAt ρ w' tb ti to:=by
 obtain ⟨G,M,N,O,U⟩:=h.blk;exact ⟨h.role,⟨G,M,N.ext x,O.ext x,U.ext x⟩,h.li,h.lo⟩
instance {tb:Nat} {ti to:List Int}:LfE w w' (TapeAt ρ w tb ti to) (TapeAt ρ w' tb ti to):=⟨λx h=>Bk.TapeAt.ext h x⟩
def TapeAt.ro {ρ ρ':Nat->Rl} {w w0:wD} {tb:Nat} {ti to:List Int} (h:TapeAt ρ w tb ti to) (x:Ro ρ ρ' w0) (G:w.heap.size<=w0.heap.size):TapeAt ρ' w tb ti to:=by
 obtain ⟨N,O,M,U,V⟩:=h.blk;exact ⟨by rw [x tb (by have:=M.lt;omega)];exact h.role,⟨N,O,M,U.ro x G,V.ro x G⟩,h.li,h.lo⟩
def BX (ρ:Nat->Rl) (b:Nat):Prop:=ρ b = .tape\/ρ b = .tin\/ρ b = .tout
def I0 (ρ:Nat->Rl) (w:wD) (r:Rl):Nat->Rl:=λb=>if b<w.heap.size then ρ b else r
def Dn (ρ:Nat->Rl) (w:wD) (r:Rl):Ro ρ (I0 ρ w r) w:=λb h=>by unfold I0;rw [AH h]
def Vv (ρ:Nat->Rl) (w:wD) (r:Rl) (h:w.heap.size<=b):I0 ρ w r b=r:=by unfold I0;rw [At Ab]
def PutR.own {r:Rl} {N:wD} (h:OwnI N 0 vv ys) (O:∀k,v.ownBlock=some k->ρ k=r/\k<w.heap.size) (U:∀k,vv.ownBlock=some k->v.ownBlock=some k\/w.heap.size<=k):OwnR (I0 ρ w r) r N vv ys:=by
 refine ⟨h,λk V=>?_⟩;rcases U k V with M|M
 . obtain ⟨X,Y⟩:=O k M;unfold I0;rw [AH Y];exact X
 . exact Vv _ _ _ M
def TapeR (ρ:Nat->Rl) (tb:Nat) (ti to:List Int) (r:Value) (w:wD):Ending->wD->Prop:=λe w'=> ∃ ρ',e = .returned r/\Ro ρ ρ' w/\TapeAt ρ' w' tb ti to/\Fr (BX ρ) w w'
def TapeR.ret {tb:Nat} {ti to:List Int} {r:Value} {e:Ending} (h:TapeR ρ tb ti to r w e w'):∃v,e = .returned v:=by
 obtain ⟨_,h,-⟩:=h;exact ⟨_,h⟩
def Zr (ρ:Nat->Rl) (tb:Nat) (ti to:List Int) (i x:Int) (w:wD) (h:TapeAt ρ w tb ti to) (M:ti.length=4096) :
 Calls prog 243 #[pt tb,.int .i64 i,.int .i64 x] w (TapeR ρ tb ti to (.int .i64 5) w):=by
 obtain ⟨N,O,U,G,V⟩:=h.blk;obtain ⟨a,c,rfl⟩:=G.1.shape;refine Ad func243 ntmps243 rfl rfl (kR ?_);exact ⟨ρ,rfl,Ro.refl _ _,Ae,lZ _ _⟩
def Zs (ρ:Nat->Rl) (tb:Nat) (ti to:List Int) (i x:Int) (w:wD) (h:TapeAt ρ w tb ti to) (M:to.length=4096) :
 Calls prog 243 #[.pointer (some ⟨tb,0+1,none⟩),.int .i64 i,.int .i64 x] w (TapeR ρ tb ti to (.int .i64 5) w):=by
 obtain ⟨N,O,U,V,G⟩:=h.blk;obtain ⟨a,c,rfl⟩:=G.1.shape;refine Ad func243 ntmps243 rfl rfl (kR ?_);exact ⟨ρ,rfl,Ro.refl _ _,Ae,lZ _ _⟩
def Zt (ρ:Nat->Rl) (tb:Nat) (ti to:List Int) (x:Int) (w:wD) (h:TapeAt ρ w tb ti to) (hf:ti.length<4096) :
 Calls prog 243 #[pt tb,.int .i64 0,.int .i64 x] w (TapeR ρ tb (x::ti) to (.int .i64 0) w):=by
 obtain ⟨vi,vo,hb,hi,N⟩:=h.blk;have M:=h.role;have ae:=h.lo;have am:=h.li;have af:=hb.lt;have ag:=λk O=>(N.1.lt (k:=k) O).2
 obtain ⟨a,c,rfl⟩:=hi.1.shape;have G:=λk O=>And.intro (hi.2 k O) (hi.1.lt O).2
 obtain ⟨aa,an⟩:=hi;have F:=lZ (BX ρ) w;have U:∀(V:Nat) (w1:wD),OwnI w1 0 (.slice a ti.length c) ti->Blk w1 V [.int .i64 x]->w.heap.size<=V->Calls prog 247 #[.slice a ti.length c,.int .i64 0,.slice (some ⟨V,0,none⟩) 1 1] w1 (PutR (.slice a ti.length c) (x::ti) 0 w1):=λV w1 h1 h2 h3=>by
  by_cases ab:ti=[]
  . subst ab;have:=Mo [] AK 0 _ x V w1 (ii _) h1 h2.row;simpa using this
  . exact Sy ti Ab ab 0 _ x V w1 (ii _) h1 h2 (λe=>by have:=G V e;omega)
 have U:=gO U;have ac:¬(iD a ti.length c).ownBlock=some tb:=λe=>by have:=(G _ e).1;rw [M] at this;cases this
 have ah:∀k,(iD a ti.length c).ownBlock=some k->ρ k≠.tout:=λk e=>by have:=(G _ e).1;rw [this];exact λh=>by cases h
 have ai:∀k,(iD a ti.length c).ownBlock=some k->BX ρ k\/w.heap.size<=k:=λk e=>gP (gQ (gP (G k e).1))
 have aj:∀k,k=tb->BX ρ k\/w.heap.size<=k:=λk e=>gP (gP (by rw [e];exact M))
 have ak:∀k,k=tb->ρ k≠.tout:=λk e=>by rw [e,M];exact λh=>by cases h
 refine Ad func243 ntmps243 rfl rfl (eK ?_);refine Ax (xS [_]) rfl ?_ aFh;rintro _ w2 ⟨b1,rfl,n3,t4⟩;have h5:=n3.blk;have x6:=n3.ext;have p7:=n3.pos;have z8:=n3.size;revert N hb aa F;refine eE x6 ?_;intro N hb aa F;refine eQ rfl (U.out _ _ Ae Ae Ab) ?_;rintro _ ao ⟨a9,ap,⟨⟩,X,ad,Y⟩;have N:=OwnR.fr N Y (ah);have hb:=lY hb Y (ac);have F:=l8 F Y (ai);refine C1 Pn (eV [_] [_,_] hb ?_);intro aq al Z _;have X:=mM X Z (λk O e=>by subst e;rcases ad _ O with h|h;exact ac h;omega);have N:=OwnR.fr N Z (ak);have F:=l8 F Z (aj);refine kR ?_;exact ⟨I0 ρ w .tin,rfl,Dn _ _ _,⟨by rw [Dn ρ w .tin tb af];exact M,⟨_,_,al,PutR.own X G (λk O=>(ad k O).imp id (λh=>by omega)),N.ro' (Dn _ _ _) ag⟩,by simp;omega,ae⟩,F⟩
def Zu (ρ:Nat->Rl) (tb:Nat) (ti to:List Int) (x:Int) (w:wD) (h:TapeAt ρ w tb ti to) (hf:to.length<4096) :
 Calls prog 243 #[.pointer (some ⟨tb,0+1,none⟩),.int .i64 to.length,.int .i64 x] w (TapeR ρ tb ti (to++[x]) (.int .i64 0) w):=by
 obtain ⟨vi,vo,Y,N,ho⟩:=h.blk;have G:=h.role;have ac:=h.li;have ad:=Y.lt;have ae:=λk O=>(N.1.lt (k:=k) O).2
 obtain ⟨a,c,rfl⟩:=ho.1.shape;have M:=λk O=>And.intro (ho.2 k O) (ho.1.lt O).2
 obtain ⟨Z,ak⟩:=ho;have F:=lZ (BX ρ) w;have aa:¬(iD a to.length c).ownBlock=some tb:=λe=>by have:=(M _ e).1;rw [G] at this;cases this
 have af:∀k,(iD a to.length c).ownBlock=some k->ρ k≠.tin:=λk e=>by have:=(M _ e).1;rw [this];exact λh=>by cases h
 have ag:∀k,(iD a to.length c).ownBlock=some k->BX ρ k\/w.heap.size<=k:=λk e=>gP (gQ (gQ (M k e).1))
 have ah:∀k,k=tb->BX ρ k\/w.heap.size<=k:=λk e=>gP (gP (by rw [e];exact G))
 have ai:∀k,k=tb->ρ k≠.tin:=λk e=>by rw [e,G];exact λh=>by cases h
 refine Ad func243 ntmps243 rfl rfl (eK ?_);refine Ax (xS [_]) rfl ?_ aFh;rintro _ w2 ⟨b1,rfl,n3,t4⟩;have h5:=n3.blk;have x6:=n3.ext;have p7:=n3.pos;have z8:=n3.size;revert N Y Z F;refine eE x6 ?_;intro N Y Z F;refine eQ rfl (Mo to Ab 0 _ x _ _ (ii _) Ae (mi Ae)) ?_;rintro _ al ⟨a9,am,⟨⟩,U,ab,V⟩;have N:=OwnR.fr N V (af);have Y:=lY Y V (aa);have F:=l8 F V (ag);refine C1 Pn (eV [_] [_,_] Y ?_);intro an aj X _;have U:=mM U X (λk O e=>by subst e;rcases ab _ O with h|h;exact aa h;omega);have N:=OwnR.fr N X (ai);have F:=l8 F X (ah);refine kR ?_;exact ⟨I0 ρ w .tout,rfl,Dn _ _ _,⟨by rw [Dn ρ w .tout tb ad];exact G,⟨_,_,aj,N.ro' (Dn _ _ _) ae,PutR.own U M (λk O=>(ab k O).imp id (λh=>by omega))⟩,ac,by simp;omega⟩,F⟩
def Zv (ρ:Nat->Rl) (tb:Nat) (to:List Int) (i:Int) (w:wD) (h:TapeAt ρ w tb [] to) :
 Calls prog 242 #[pt tb,.int .i64 i] w (TapeR ρ tb [] to (.tuple #[.int .i64 0,.int .i64 17]) w):=by
 obtain ⟨M,N,O,G,U⟩:=h.blk;obtain ⟨a,c,rfl⟩:=G.1.shape;refine Ad func242 ntmps242 rfl rfl (kT ?_);exact ⟨ρ,rfl,Ro.refl _ _,Ae,lZ _ _⟩
def Zw (ρ:Nat->Rl) (tb:Nat) (ti:List Int) (i:Int) (w:wD) (h:TapeAt ρ w tb ti []) :
 Calls prog 242 #[.pointer (some ⟨tb,0+1,none⟩),.int .i64 i] w (TapeR ρ tb ti [] (.tuple #[.int .i64 0,.int .i64 17]) w):=by
 obtain ⟨M,N,O,U,G⟩:=h.blk;obtain ⟨a,c,rfl⟩:=G.1.shape;refine Ad func242 ntmps242 rfl rfl (kT ?_);exact ⟨ρ,rfl,Ro.refl _ _,Ae,lZ _ _⟩
def Zx (ρ:Nat->Rl) (tb:Nat) (x:Int) (ti to:List Int) (w:World) (h:TapeAt ρ w tb (x::ti) to) :
 Calls prog 242 #[pt tb,.int .i64 0] w (TapeR ρ tb ti to (.tuple #[.int .i64 x,.int .i64 0]) w):=by
 obtain ⟨vi,vo,O,Z,X⟩:=h.blk;have G:=h.role;have aa:=h.lo;have aj:=h.li;have ab:=O.lt
 have ac:=λk N=>(X.1.lt (k:=k) N).2
 obtain ⟨a,c,rfl⟩:=Z.1.shape
 have M:=λk N=>And.intro (Z.2 k N) (Z.1.lt N).2
 obtain ⟨ad,ak⟩:=Z;have F:=lZ (BX ρ) w
 have Y:¬(iD a (x::ti).length c).ownBlock=some tb:=λe=>by have:=(M _ e).1;rw [G] at this;cases this
 have ae:∀k,(iD a (x::ti).length c).ownBlock=some k->ρ k≠.tout:=λk e=>by have:=(M _ e).1;rw [this];exact λh=>by cases h
 have af:∀k,(iD a (x::ti).length c).ownBlock=some k->BX ρ k\/w.heap.size<=k:=λk e=>gP (gQ (gP (M k e).1))
 have ag:∀k,k=tb->BX ρ k\/w.heap.size<=k:=λk e=>gP (gP (by rw [e];exact G))
 have ah:∀k,k=tb->ρ k≠.tout:=λk e=>by rw [e,G];exact λh=>by cases h
 have U:∀(w1:World),OwnI w1 0 (.slice a (x::ti).length c) (x::ti)->Calls prog 246 #[.slice a (x::ti).length c,.int .i64 0,.int .i64 (0+1)] w1 (PutR (.slice a (x::ti).length c) ti 0 w1):=λw1 h1=>by
  have:=N9 (x::ti) Ab 0 AK 0 _ w1 h1
  simpa using this
 replace U:=gO U
 have al:(x::ti).length=ti.length+1:=by simp
 obtain ⟨gb,go,rfl,hr⟩:=ad.at.get AK;have r1:=mZ hr (i:=0) AK;rw [show (x::ti).getD 0 0=x from rfl] at r1;refine Ad func242 ntmps242 rfl rfl ?_
 refine cS (C1 Pa (C1 Pa (cT (Aj (cS (C1 Mv (C1 Pn (C1 (Pl O) (C1 Pz (C1 V1 (cT (Dz (Ao (Ai (cS (C1 Mv (C1 Pn (C1 (Pl O) (C1 Mv (C1 Pi (C1 (Pw r1) (C1 Pa (cN (C1 Mv (C1 Mv (C1 Pn (C1 (Pl O) (C1 Mv (C1 Mv (C1 V7 (eQ rfl (U.out _ Ae) ?_)))))))))))))))))))))))))))))));rintro _ w6 ⟨a1,c2,⟨⟩,h3,h4,f5⟩;replace X:=OwnR.fr X f5 (ae);replace F:=l8 F f5 (af);replace O:=lY O f5 (Y);refine C1 Pn (eV [_] [_,_] O ?_);intro w8 ai V _;replace h3:=mM h3 V (λk N e=>by subst e;rcases h4 _ N with h|h;exact Y h;omega);replace X:=OwnR.fr X V (ah);replace F:=l8 F V (ag);refine cN (C1 Mv (C1 Pa (C1 Pa (cT (AR (Bc rfl rfl rfl ?_))))))
 exact ⟨I0 ρ w .tin,rfl,Dn _ _ _,⟨by rw [Dn ρ w .tin tb ab];exact G,⟨_,_,ai,PutR.own h3 M (λk N=>(h4 k N).imp id (λh=>by omega)),X.ro' (Dn _ _ _) ac⟩,Ab,aa⟩,F⟩
def Zy (ρ:Nat->Rl) (tb:Nat) (x:Int) (ti ys:List Int) (w:wD) (h:TapeAt ρ w tb ti (ys++[x])) :
 Calls prog 242 #[.pointer (some ⟨tb,0+1,none⟩),.int .i64 (((ys++[x]).length:Int)-1)] w (TapeR ρ tb ti ys (.tuple #[.int .i64 x,.int .i64 0]) w):=by
 obtain ⟨vi,vo,Z,V,ho⟩:=h.blk;have G:=h.role;have aj:=h.lo;have aa:=h.li;have ab:=Z.lt;have ac:=λk N=>(V.1.lt (k:=k) N).2
 obtain ⟨a,c,rfl⟩:=ho.1.shape;have M:=λk N=>And.intro (ho.2 k N) (ho.1.lt N).2
 obtain ⟨ad,ak⟩:=ho;have F:=lZ (BX ρ) w;have X:¬(iD a (ys++[x]).length c).ownBlock=some tb:=λe=>by have:=(M _ e).1;rw [G] at this;cases this
 have ae:∀k,(iD a (ys++[x]).length c).ownBlock=some k->ρ k≠.tin:=λk e=>by have:=(M _ e).1;rw [this];exact λh=>by cases h
 have af:∀k,(iD a (ys++[x]).length c).ownBlock=some k->BX ρ k\/w.heap.size<=k:=λk e=>gP (gQ (gQ (M k e).1))
 have ag:∀k,k=tb->BX ρ k\/w.heap.size<=k:=λk e=>gP (gP (by rw [e];exact G))
 have ah:∀k,k=tb->ρ k≠.tin:=λk e=>by rw [e,G];exact λh=>by cases h
 have Y:(ys++[x]).length=ys.length+1:=by simp
 have O:∀(w1:wD),OwnI w1 0 (.slice a (ys++[x]).length c) (ys++[x])->Calls prog 246 #[.slice a (ys++[x]).length c,.int .i64 (((ys++[x]).length:Int)-1),.int .i64 (((ys++[x]).length:Int)-1+1)] w1 (PutR (.slice a (ys++[x]).length c) ys 0 w1):=λw1 h1=>by
  have h9:=N9 (ys++[x]) Ab ys.length Ab 0 _ w1 h1;rw [show (ys++[x]).eraseIdx ys.length=ys by rw [List.eraseIdx_append_of_length_le (ip _)];simp] at h9;rw [Y] at h9 ⊢;rw [show (((ys.length+1:Nat):Int)-1)=(ys.length:Int) by omega];exact h9
 have O:=gO O;obtain ⟨gb,go,rfl,hr⟩:=ad.at.get AK;have r1:=mZ hr (i:=(((ys++[x]).length:Int)-1).toNat) Ab;rw [show (ys++[x]).getD (((ys++[x]).length:Int)-1).toNat 0=x by rw [Y,show (((ys.length+1:Nat):Int)-1).toNat=ys.length by omega];simp] at r1;generalize al:(ys++[x]).length=LL at *;refine Ad func242 ntmps242 rfl rfl (kQ (O.out _ Ae) ?_);rintro _ w6 ⟨a1,c2,⟨⟩,h3,h4,f5⟩;have V:=OwnR.fr V f5 (ae);have F:=l8 F f5 (af);have Z:=lY Z f5 (X);refine C1 Pn (eV [_] [_,_] Z ?_);intro w8 ai U _;have h3:=mM h3 U (λk N e=>by subst e;rcases h4 _ N with h|h;exact X h;omega);have V:=OwnR.fr V U (ah);have F:=l8 F U (ag);refine kT ?_;exact ⟨I0 ρ w .tout,rfl,Dn _ _ _,⟨by rw [Dn ρ w .tout tb ab];exact G,⟨_,_,ai,V.ro' (Dn _ _ _) ac,PutR.own h3 M (λk N=>(h4 k N).imp id (λh=>by omega))⟩,aa,Ab⟩,F⟩
def Kk {l:Sl} {op:Op} (h:Br P n l (· = w) op ty v):BE P n l op ty w (λr w'=>match r with|some u=>u=v/\w=w'|none=>False):=by
 unfold BE;unfold Br at h;intro a dst pos after g next Q ha k k0;unfold jy;rw [h a w dst pos after g ha rfl];exact k v w ⟨rfl,rfl⟩
def Ro.low {ρ':Nat->Rl} (h:Ro ρ ρ' w') (G:w.heap.size<=w'.heap.size):Ro ρ ρ' w:=λb M=>h b Ab
def Xo (ρ:Nat->Rl) (tb:Nat) (to:List Int) (w:wD) (h:TapeAt ρ w tb [] to):Calls prog 235 #[pt tb] w (TapeR ρ tb [] to (.tuple #[.int .i64 0,.int .i64 17]) w):=by
 have F:=lZ (BX ρ) w;have G:=gO (λw1 h=>Zv ρ tb to 0 w1 h);refine Ad func235 ntmps235 rfl rfl (eK ?_);refine C1 (A2 Ac rfl rfl) (kQ (G.out _ Ae) ?_);rintro _ U ⟨M,⟨⟩,V,X,N⟩;have F:=l8 F N (λk O=>gP O);refine kT ?_;exact ⟨_,rfl,Ro.low Ae Ab,Ae,F⟩
def Zz (ρ:Nat->Rl) (tb:Nat) (x:Int) (ti to:List Int) (w:wD) (h:TapeAt ρ w tb (x::ti) to):Calls prog 235 #[pt tb] w (TapeR ρ tb ti to (.tuple #[.int .i64 x,.int .i64 0]) w):=by
 have F:=lZ (BX ρ) w;have G:=gO (λw1 h=>Zx ρ tb x ti to w1 h);refine Ad func235 ntmps235 rfl rfl (eK ?_);refine C1 (A2 Ac rfl rfl) (kQ (G.out _ Ae) ?_);rintro _ U ⟨M,⟨⟩,V,X,N⟩;have F:=l8 F N (λk O=>gP O);refine kT ?_;exact ⟨_,rfl,Ro.low Ae Ab,Ae,F⟩
def S6 (ρ:Nat->Rl) (tb:Nat) (x:Int) (ti to:List Int) (w:wD) (h:TapeAt ρ w tb ti to) (G:ti.length=4096):Calls prog 236 #[pt tb,.int .i64 x] w (TapeR ρ tb ti to (.int .i64 5) w):=by
 have F:=lZ (BX ρ) w;have M:=gO (λw1 h=>Zr ρ tb ti to 0 x w1 h G);refine Ad func236 ntmps236 rfl rfl (eK ?_);refine C1 (A2 Ac rfl rfl) (kQ (M.out _ Ae) ?_);rintro _ V ⟨N,⟨⟩,X,Y,O⟩;have F:=l8 F O (λk U=>gP U);refine kR ?_;exact ⟨_,rfl,Ro.low Ae Ab,Ae,F⟩
def Ow (ρ:Nat->Rl) (tb:Nat) (x:Int) (ti to:List Int) (w:wD) (h:TapeAt ρ w tb ti to) (G:ti.length<4096):Calls prog 236 #[pt tb,.int .i64 x] w (TapeR ρ tb (x::ti) to (.int .i64 0) w):=by
 have F:=lZ (BX ρ) w;have M:=gO (λw1 h=>Zt ρ tb ti to x w1 h G);refine Ad func236 ntmps236 rfl rfl (eK ?_);refine C1 (A2 Ac rfl rfl) (kQ (M.out _ Ae) ?_);rintro _ V ⟨N,⟨⟩,X,Y,O⟩;have F:=l8 F O (λk U=>gP U);refine kR ?_;exact ⟨_,rfl,Ro.low Ae Ab,Ae,F⟩
def Rq (ρ:Nat->Rl) (tb:Nat) (ti:List Int) (w:wD) (h:TapeAt ρ w tb ti []):Calls prog 237 #[pt tb] w (TapeR ρ tb ti [] (.tuple #[.int .i64 0,.int .i64 17]) w):=by
 have F:=lZ (BX ρ) w;have O:=gO (λw1 h=>Zw ρ tb ti ((([]:List Int).length:Int)-1) w1 h);have U:=h.lo;obtain ⟨vi,vo,M,V,N⟩:=h.blk;obtain ⟨a,c,rfl⟩:=N.1.shape;clear V N;refine Ad func237 ntmps237 rfl rfl ?_;refine eK ?_;refine C1 (A2 Ac rfl rfl) ?_;refine eK ?_;refine Aq (λ_=>True) 12 (.pure 0 (.pure 1 (.pure 2 (.pure 3 (.pure 4 (.pure 5 (.fork 6 (.pure 7 (.pure 8 (.fork 9 (.pure 10 (.pure 11 .tail)) .none))) .none))))))) mixed AU (Aa Ag) ?_;intro w1 X _;revert h F M;refine eY X ?_;intro z4 h F M;refine ⟨trivial,?_⟩;refine eT ?_;refine AE rfl (Kk (Ap Ac rfl rfl rfl (λwz Y=>by subst Y;exact l7 M rfl))) rfl ?_ aFh AC;rintro _ _ ⟨rfl,rfl⟩;refine ⟨trivial,?_⟩;refine Tq rfl Pz (Tq rfl (AL rfl rfl (gX _ Ab)) ?_);refine AE rfl (AN AU rfl (O.out _ Ae) (λ_ _ h=>h.ret)) rfl ?_ aFh AC;rintro _ Z ⟨aa,⟨⟩,h8,h9,G⟩;clear h;replace F:=l8 F G (λk hk=>gP hk);clear M G;refine ⟨trivial,?_⟩;refine Tq rfl Px (Tq rfl Px (Ar rfl ?_));refine eK ?_;refine Bc rfl rfl rfl ?_;exact ⟨_,rfl,Ro.low Ae Ab,Ae,F⟩
def S7 (ρ:Nat->Rl) (tb:Nat) (x:Int) (ti ys:List Int) (w:wD) (h:TapeAt ρ w tb ti (ys++[x])):Calls prog 237 #[pt tb] w (TapeR ρ tb ti ys (.tuple #[.int .i64 x,.int .i64 0]) w):=by
 have F:=lZ (BX ρ) w;have O:=gO (λw1 h=>Zy ρ tb x ti ys w1 h);have U:=h.lo;obtain ⟨vi,vo,M,V,N⟩:=h.blk;obtain ⟨a,c,rfl⟩:=N.1.shape;clear V N;refine Ad func237 ntmps237 rfl rfl ?_;refine eK ?_;refine C1 (A2 Ac rfl rfl) ?_;refine eK ?_;refine Aq (λ_=>True) 12 (.pure 0 (.pure 1 (.pure 2 (.pure 3 (.pure 4 (.pure 5 (.fork 6 (.pure 7 (.pure 8 (.fork 9 (.pure 10 (.pure 11 .tail)) .none))) .none))))))) mixed AU (Aa Ag) ?_;intro w1 X _;revert h F M;refine eY X ?_;intro z4 h F M;refine ⟨trivial,?_⟩;refine eT ?_;refine AE rfl (Kk (Ap Ac rfl rfl rfl (λwz Y=>by subst Y;exact l7 M rfl))) rfl ?_ aFh AC;rintro _ _ ⟨rfl,rfl⟩;refine ⟨trivial,?_⟩;refine Tq rfl Pz (Tq rfl (AL rfl rfl (gX _ Ab)) ?_);refine AE rfl (AN AU rfl (O.out _ Ae) (λ_ _ h=>h.ret)) rfl ?_ aFh AC;rintro _ Z ⟨aa,⟨⟩,h8,h9,G⟩;clear h;replace F:=l8 F G (λk hk=>gP hk);clear M G;refine ⟨trivial,?_⟩;refine Tq rfl Px (Tq rfl Px (Ar rfl ?_));refine eK ?_;refine Bc rfl rfl rfl ?_;exact ⟨_,rfl,Ro.low Ae Ab,Ae,F⟩
def Vw (ρ:Nat->Rl) (tb:Nat) (x:Int) (ti to:List Int) (w:wD) (h:TapeAt ρ w tb ti to) (O:to.length=4096):Calls prog 238 #[pt tb,.int .i64 x] w (TapeR ρ tb ti to (.int .i64 5) w):=by
 have F:=lZ (BX ρ) w;have U:=gO (λw1 h=>Zs ρ tb ti to to.length x w1 h O);obtain ⟨vi,vo,G,V,M⟩:=h.blk;obtain ⟨a,c,rfl⟩:=M.1.shape;clear V M;refine Ad func238 ntmps238 rfl rfl ?_;refine eK ?_;refine C1 (A2 Ac rfl rfl) ?_;refine eK ?_;refine Aq (λ_=>True) 9 (.pure 0 (.pure 1 (.pure 2 (.pure 3 (.pure 4 (.pure 5 (.pure 8 (.fork 6 (.pure 7 .tail) .none)))))))) mixed AU (Aa Ag) ?_;intro w1 X _;revert h F G;refine eY X ?_;intro z4 h F G;refine ⟨trivial,?_⟩;refine eT ?_;refine AE rfl (Kk (Ap Ac rfl rfl rfl (λwz Y=>by subst Y;exact l7 G rfl))) rfl ?_ aFh AC;rintro _ _ ⟨rfl,rfl⟩;refine ⟨trivial,?_⟩;refine Tq rfl Pz (Ar rfl (eQ rfl (U.out _ Ae) ?_));rintro _ Z ⟨aa,⟨⟩,h7,h8,N⟩;clear h;replace F:=l8 F N (λk hk=>gP hk);clear G N;refine eK ?_;refine AT rfl rfl ?_;exact ⟨_,rfl,Ro.low Ae Ab,Ae,F⟩
def Rr (ρ:Nat->Rl) (tb:Nat) (x:Int) (ti to:List Int) (w:wD) (h:TapeAt ρ w tb ti to) (O:to.length<4096):Calls prog 238 #[pt tb,.int .i64 x] w (TapeR ρ tb ti (to++[x]) (.int .i64 0) w):=by
 have F:=lZ (BX ρ) w;have U:=gO (λw1 h=>Zu ρ tb ti to x w1 h O);obtain ⟨vi,vo,G,V,M⟩:=h.blk;obtain ⟨a,c,rfl⟩:=M.1.shape;clear V M;refine Ad func238 ntmps238 rfl rfl ?_;refine eK ?_;refine C1 (A2 Ac rfl rfl) ?_;refine eK ?_;refine Aq (λ_=>True) 9 (.pure 0 (.pure 1 (.pure 2 (.pure 3 (.pure 4 (.pure 5 (.pure 8 (.fork 6 (.pure 7 .tail) .none)))))))) mixed AU (Aa Ag) ?_;intro w1 X _;revert h F G;refine eY X ?_;intro z4 h F G;refine ⟨trivial,?_⟩;refine eT ?_;refine AE rfl (Kk (Ap Ac rfl rfl rfl (λwz Y=>by subst Y;exact l7 G rfl))) rfl ?_ aFh AC;rintro _ _ ⟨rfl,rfl⟩;refine ⟨trivial,?_⟩;refine Tq rfl Pz (Ar rfl (eQ rfl (U.out _ Ae) ?_));rintro _ Z ⟨aa,⟨⟩,h7,h8,N⟩;clear h;replace F:=l8 F N (λk hk=>gP hk);clear G N;refine eK ?_;refine AT rfl rfl ?_;exact ⟨_,rfl,Ro.low Ae Ab,Ae,F⟩
def eP (ρ:Nat->Rl) (tb:Nat) (ti to:List Int) (w:wD) (h:TapeAt ρ w tb ti to):Calls prog 163 #[pt tb] w (CloneR ti w):=by
 have X:=Ne w;have M:=h.li;obtain ⟨U,V,Y,G,Z⟩:=h.blk;obtain ⟨a,c,rfl⟩:=G.1.shape;have N:=G.1.at;refine Ad func163 ntmps163 rfl rfl (eK ?_);refine C1 (A2 Ac rfl rfl) (kQ (FC ti Ab _ _ _ Ae) ?_);rintro _ w6 ⟨a1,c2,⟨⟩,h3,h4,O⟩;have X:=X.ext O;refine kR ?_;exact ⟨_,_,rfl,Ae,Ae,X⟩
def cD (ρ:Nat->Rl) (tb:Nat) (ti to:List Int) (w:wD) (h:TapeAt ρ w tb ti to):Calls prog 164 #[pt tb] w (CloneR to w):=by
 have X:=Ne w;have M:=h.lo;obtain ⟨U,V,Y,Z,G⟩:=h.blk;obtain ⟨a,c,rfl⟩:=G.1.shape;have N:=G.1.at;refine Ad func164 ntmps164 rfl rfl (eK ?_);refine C1 (A2 Ac rfl rfl) (kQ (FC to Ab _ _ _ Ae) ?_);rintro _ w6 ⟨a1,c2,⟨⟩,h3,h4,O⟩;have X:=X.ext O;refine kR ?_;exact ⟨_,_,rfl,Ae,Ae,X⟩
def TNewR (ρ:Nat->Rl) (ti to:List Int) (w:wD):Ending->wD->Prop:=λe w'=> ∃tb ρ',e = .returned (.tuple #[.pointer (some ⟨tb,0,none⟩),.int .i64 0])/\Ro ρ ρ' w/\w.heap.size<=tb/\TapeAt ρ' w' tb ti to/\Ext w w'
def TNewR.ret {ti to:List Int} {e:Ending} (h:TNewR ρ ti to w e w'):∃v,e = .returned v:=by
 obtain ⟨_,_,h,-⟩:=h;exact ⟨_,h⟩
def cE (ρ:Nat->Rl) (ti to:List Int) (hi:ti.length<=4096) (ho:to.length<=4096) (a b:oA) (c d:Nat) (w:wD) (h:IntsAt w ti a) (h':IntsAt w to b):Calls prog 157 #[.slice a ti.length c,.slice b to.length d] w (TNewR ρ ti to w):=by
 have X:=Ne w;refine Ad func157 ntmps157 rfl rfl (kQ (FC ti Ab _ _ _ h) ?_);rintro _ w6 ⟨a1,c2,⟨⟩,M,h4,x5⟩;revert h' X;refine eY x5 ?_;intro z7 h' X;refine C1 Mv (eQ rfl (FC to Ab _ _ _ Ae) ?_);rintro _ N ⟨a8,c9,⟨⟩,G,O,U⟩;revert M X;refine eY U ?_;intro aa M X;refine C1 (xB [_,_]) (eB [_,_] ?_);intro ab ac V Y ad ae;revert G M X;refine eE Y ?_;intro G M X;refine kT ?_;refine ⟨_,λb=>if b<w.heap.size then ρ b else if b<w6.heap.size then .tin else if b<N.heap.size then .tout else .tape,rfl,λb hb=>AH hb,Ab,⟨?_,⟨_,_,V,⟨M.low (λ_ _=>ii _),λk Z=>?_⟩,G.low (λ_ _=>ii _),λk Z=>?_⟩,hi,ho⟩,X⟩
 . (try dsimp only)
   rw [At Ab,At Ab,At Ab]
 . have:=h4 k Z
   (try dsimp only);rw [At Ab,AH Ab]
 . have:=O k Z
   (try dsimp only);rw [At Ab,At Ab,AH Ab]
def Win (w:wD) (b o:Nat) (vs pre post:lV) (T:TypeId):Prop:=TB w b (pre++vs++post) T/\pre.length=o
section
variable {ρ':Nat->Rl} {κ':Nat->Nat} {r:Rl} {S:nP} {w0:wD} {o:Nat} {vs pre post:lV} {sz:Nat}
def Win.ext (h:Win w b o vs pre post T) (x:Ext w w'):Win w' b o vs pre post T:=⟨h.1.ext x,h.2⟩
instance  : LfE w w' (Win w b o vs pre post T) (Win w' b o vs pre post T):=⟨λx h=>Bk.Win.ext h x⟩
def Win.fr (h:Win w b o vs pre post T) (x:Fr S w w') (G:¬S b):Win w' b o vs pre post T:=⟨h.1.fr x G,h.2⟩
instance  : LfF S w w' (Win w b o vs pre post T) (¬S b) (Win w' b o vs pre post T):=⟨λx s h=>Bk.Win.fr h x s⟩
def Win.blk (h:Win w b o vs pre post T):Row w ⟨b,o,none⟩ vs:=by
 have:=Blk.sub h.1.blk o vs.length;obtain ⟨-,rfl⟩:=h;simpa [iI] using this
def Ly:∀(us pre vs post:lV) (i:Nat),i+us.length<=vs.length->A7 (pre++vs++post) (pre.length+i) us=pre++A7 vs i us++post
 | [],_,_,_,_,_=>rfl
 | u::r,pre,vs,post,i,h=>by
  simp only [gV] at h;simp only [A7];rw [show (pre++vs++post).set (pre.length+i) u=pre++vs.set i u++post by
   rw [iI,km _ _ Ab,show pre.length+i-pre.length=i by omega,List.set_append_left _ _ Ab,<-iI]]
  exact Ly r pre (vs.set i u) post (i+1) (by simp;omega)
def CA {l:Sl} {tab:Tab} {t:Nat} {s:Sk} (b o i:Nat) (vs':lV) (TT:TabOk P tab) (ht:AB tab t=some (s,sz)) (hx:ev l x=some (.pointer (some ⟨b,o+i,none⟩))) (hy:ev l y=some v)
 (hv:v.cells=us.toArray) (hl:us.length=sz) (h1:us.all mq=true) (hb:Win w b o vs pre post T) (ho:jr (i+us.length) vs.length=true) (he:A7 vs i us=vs') :
 BE P m l (.store t x y) ty w (GR λw'=>Win w' b o vs' pre post T/\Fr (· = b) w w'/\w'.heap.size=w.heap.size):=by
 unfold BE;intro a dst pos after g next Q ha _ hn;rw [lJ] at ho;obtain ⟨hb,rfl⟩:=hb;obtain ⟨w1,e1,e2,e3⟩:=Fc (P:=P) us w b (pre.length+i) 0 _ hb (by simp only [iq];omega) h1;have e:(execOp a.eval ⟨dst,.store t x y,ty,pos,after,g⟩).run P w = .ok .skip w1:=by
  have hcs:v.cells.toList=us:=by rw [hv]
  have hsz:v.cells.size=sz:=by rw [hv];simpa using hl
  simp only [execOp,ha.ev hx,ha.ev hy,Instr.storeAt,Instr.sureAddr,ij,iC,gY,storeVar,Ca (TT _ _ _ ht),hsz,hcs,e1];simp only [ne_eq,not_true,if_false,ij,iC,gY,e1]
 unfold jy;rw [e];refine hn _ ⟨⟨?_,rfl⟩,e2.fr,e2.size⟩;rw [jT,Ly us pre vs post i ho,he] at e3;exact e3
def Fp {l:Sl} {tab:Tab} {t:Nat} {s:Sk} (b o:Nat) (h:lV) (G:TabOk P tab) (M:AB tab t=some (s,sz)) (N:ev l x=some (.pointer (some ⟨b,o,none⟩))) (O:ev l y=some v)
 (U:v.cells=us.toArray) (V:us.length=sz) (X:us.all mq=true) (Y:Win w b o vs pre post T) (Z:jr us.length vs.length=true) (he:A7 vs 0 us=h) :
 BE P m l (.store t x y) ty w (GR λw'=>Win w' b o h pre post T/\Fr (· = b) w w'/\w'.heap.size=w.heap.size):=
 CA b o 0 h G M N O U V X Y (by rw [iY];exact Z) he
def OwnP (ρ:Nat->Rl) (r:Rl) (w:wD) (e sz:Nat) (v:Value) (n:Nat) (cs:lV):Prop:=Own w 0 e sz v n cs /\ ∀k,v.ownBlock=some k->ρ k=r
def OwnP.ext (h:OwnP ρ r w e sz v n cs) (x:Ext w w'):OwnP ρ r w' e sz v n cs:=⟨h.1.ext x,h.2⟩
instance  : LfE w w' (OwnP ρ r w e sz v n cs) (OwnP ρ r w' e sz v n cs):=⟨λx h=>Bk.OwnP.ext h x⟩
def OwnP.fr (h:OwnP ρ r w e sz v n cs) (x:Fr S w w') (G:∀k,S k->ρ k≠r):OwnP ρ r w' e sz v n cs:=⟨h.1.fr x (λk M N=>G k N (h.2 k M)),h.2⟩
instance  : LfF S w w' (OwnP ρ r w e sz v n cs) (∀k,S k->ρ k≠r) (OwnP ρ r w' e sz v n cs):=⟨λx s h=>Bk.OwnP.fr h x s⟩
def OwnP.ro (h:OwnP ρ r w e sz v n cs) (x:Ro ρ ρ' w0) (M:w.heap.size<=w0.heap.size):OwnP ρ' r w e sz v n cs:=
 ⟨h.1,λk G=>by have:=(h.1.blk G).2;rw [x k Ab];exact h.2 k G⟩
def OwnP.move (h:OwnP ρ r w e sz v n cs) (x:Fr S w w') (G:∀k,S k->ρ k≠r) (M:Ro ρ ρ' w):OwnP ρ' r w' e sz v n cs:=
 ⟨(h.fr x G).1,(h.ro M (ip _)).2⟩
def OwnR.move (h:OwnR ρ r w v xs) (x:Fr S w w') (G:∀k,S k->ρ k≠r) (M:Ro ρ ρ' w):OwnR ρ' r w' v xs:=
 ⟨(h.fr x G).1,(h.ro M (ip _)).2⟩
abbrev Kz (κ:Nat->Nat) (c:Nat):Value:=.pointer (some ⟨κ c,0,none⟩)
structure FrameOk (ρ:Nat->Rl) (κ:Nat->Nat) (w:wD) (j:Nat) (f:Frm) (vv vc:Value):Prop where
 v:OwnP ρ (.vars j) w 77 3 vv f.vars.length (f.vars.flatMap VD.cells)
 c:OwnP ρ (.cels j) w 234 1 vc f.cells.length (f.cells.map (Kz κ))
variable {j:Nat} {vc:Value}
def FrameOk.ext (h:FrameOk ρ κ w j f vv vc) (x:Ext w w'):FrameOk ρ κ w' j f vv vc:=⟨h.v.ext x,h.c.ext x⟩
instance  : LfE w w' (FrameOk ρ κ w j f vv vc) (FrameOk ρ κ w' j f vv vc):=⟨λx h=>Bk.FrameOk.ext h x⟩
def FrameOk.fr (h:FrameOk ρ κ w j f vv vc) (x:Fr S w w') (M:∀k,S k->ρ k≠.vars j/\ρ k≠.cels j):FrameOk ρ κ w' j f vv vc:=⟨h.v.fr x (λk G=>(M k G).1),h.c.fr x (λk G=>(M k G).2)⟩
instance  : LfF S w w' (FrameOk ρ κ w j f vv vc) (∀k,S k->ρ k≠.vars j/\ρ k≠.cels j) (FrameOk ρ κ w' j f vv vc):=⟨λx s h=>Bk.FrameOk.fr h x s⟩
def FrameOk.move (h:FrameOk ρ κ w j f vv vc) (x:Fr S w w') (M:∀k,S k->ρ k≠.vars j/\ρ k≠.cels j) (N:Ro ρ ρ' w) (G:∀c∈f.cells,κ' c=κ c):FrameOk ρ' κ' w' j f vv vc:=
 ⟨h.v.move x (λk G=>(M k G).1) N,by
  have:=h.c.move x (λk G=>(M k G).2) N;rw [show f.cells.map (Kz κ')=f.cells.map (Kz κ) from List.map_congr_left λc O=>by simp only [Kz,G c O]];exact this⟩
def FramesOk (ρ:Nat->Rl) (κ:Nat->Nat) (w:wD):Nat->List Frm->lV->Prop
 | _,[],cs=>cs=[]
 | j,f::r,cs=> ∃vv vc cs',cs=[vv,vc,.int .i64 f.locals]++cs'/\FrameOk ρ κ w j f vv vc/\FramesOk ρ κ w (j+1) r cs'
def FramesOk.move {S:nP} (x:Fr S w w') (N:Ro ρ ρ' w):∀(l:List Frm) (j:Nat) (cs:lV),FramesOk ρ κ w j l cs->(∀k,S k -> ∀i,j<=i->i<j+l.length->ρ k≠.vars i/\ρ k≠.cels i)->(∀f∈l,∀c∈f.cells,κ' c=κ c)->FramesOk ρ' κ' w' j l cs
 | [],_,_,h,_,_=>h
 | f::l,j,cs,⟨vv,vc,G,O,U,Y⟩,V,X=>⟨vv,vc,G,O,U.move x (λk M=>V k M j (ip _) AK) N (X f AK),FramesOk.move x N l (j+1) G Y (λk M i O U=>V k M i Ab (by simp only [gV];omega)) (λf Z=>X f (by simp [Z]))⟩
def FramesOk.snoc:∀(l:List Frm) (j:Nat) (f:Frm) (cs:lV),FramesOk ρ κ w j (l++[f]) cs ↔ ∃h vv vc,cs=h++[vv,vc,.int .i64 f.locals]/\FramesOk ρ κ w j l h/\FrameOk ρ κ w (j+l.length) f vv vc
 | [],j,f,cs=>by
  constructor
  . rintro ⟨vv,vc,N,rfl,O,X⟩;obtain rfl:N=[]:=X;exact ⟨[],vv,vc,rfl,rfl,O⟩
  . rintro ⟨h,vv,vc,rfl,Z,O⟩;obtain rfl:h=[]:=Z;exact ⟨vv,vc,[],rfl,O,rfl⟩
 | g::l,j,f,cs=>by
  constructor
  . rintro ⟨vv,vc,N,rfl,O,X⟩;obtain ⟨h,G,M,rfl,Y,V⟩:=(FramesOk.snoc l (j+1) f N).1 X;exact ⟨[vv,vc,.int .i64 g.locals]++h,G,M,AK,⟨vv,vc,h,rfl,O,Y⟩,by rw [gV,show j+(l.length+1)=j+1+l.length by omega];exact V⟩
  . rintro ⟨h,G,M,rfl,⟨vv,vc,U,rfl,O,Y⟩,V⟩;refine ⟨vv,vc,U++[G,M,.int .i64 f.locals],AK,O,(FramesOk.snoc l (j+1) f _).2 ⟨U,G,M,rfl,Y,?_⟩⟩;rw [gV,show j+(l.length+1)=j+1+l.length by omega] at V;exact V
def FramesOk.len:∀(l:List Frm) (j:Nat) (cs:lV),FramesOk ρ κ w j l cs->cs.length=l.length*3
 | [],_,_,h=>by obtain rfl:_=[]:=h;rfl
 | f::l,j,cs,⟨vv,vc,G,M,O,N⟩=>by
  have:=FramesOk.len l (j+1) G N;rw [M];simp only [iq,gV,iG];omega
def CellAt (ρ:Nat->Rl) (κ:Nat->Nat) (w:wD) (c:Nat) (xs:List Int):Prop:=ρ (κ c) = .cell c /\ ∃v,Blk w (κ c) [v]/\OwnR ρ (.items c) w v xs
def CellAt.move {c:Nat} {xs:List Int} (h:CellAt ρ κ w c xs) (x:Fr S w w') (N:∀k,S k->ρ k≠.cell c/\ρ k≠.items c) (O:Ro ρ ρ' w) (G:κ' c=κ c):CellAt ρ' κ' w' c xs:=by
 obtain ⟨U,v,V,X⟩:=h;have M:=V.lt;refine ⟨by rw [G,O _ M,U],v,?_,X.move x (λk G=>(N k G).2) O⟩;rw [G];exact V.fr x (λY=>(N _ Y).1 U)
def Fresh (ρ:Nat->Rl) (w:wD):Prop:= ∀b,w.heap.size<=b->ρ b = .none
def Fresh.ext (h:Fresh ρ w) (x:Ext w w'):Fresh ρ w':=λb G=>h b (by have:=x.size;omega)
instance  : LfE w w' (Fresh ρ w) (Fresh ρ w'):=⟨λx h=>Bk.Fresh.ext h x⟩
def Fresh.mv (h:Fresh ρ w) (x:Fr S w w'):Fresh ρ w':=λb G=>h b (by have:=x.size;omega)
structure StoreAt (ρ:Nat->Rl) (κ:Nat->Nat) (w:wD) (sb:Nat) (st:Stp):Prop where
 role:ρ sb = .store
 fresh:Fresh ρ w
 frs:∃bv bc cv tb cs,Blk w sb [bv,bc,.int .i64 st.base.locals,cv,.pointer (some ⟨tb,0,none⟩)]/\FrameOk ρ κ w 0 st.base bv bc/\OwnP ρ .calls w 229 3 cv st.calls.length cs/\FramesOk ρ κ w 1 st.calls cs/\TapeAt ρ w tb st.tin st.tout
 cells:∀c xs,st.heap[c]? = some xs->CellAt ρ κ w c xs
def MV:Rl->Prop
 | .none | .other _=>False
 | _=>True

def TapeAt.move {tb:Nat} {ti to:List Int} (h:TapeAt ρ w tb ti to) (x:Fr S w w') (G:∀k,S k->ρ k≠.tape/\ρ k≠.tin/\ρ k≠.tout) (M:Ro ρ ρ' w):TapeAt ρ' w' tb ti to:=by
 obtain ⟨U,⟨X,Y,V,Z,h4⟩,h5,h6⟩:=h;have N:=V.lt;exact ⟨by rw [M _ N,U],⟨X,Y,V.fr x (λhS=>(G _ hS).1 U),Z.move x (λk O=>(G k O).2.1) M,h4.move x (λk O=>(G k O).2.2) M⟩,h5,h6⟩
def StoreAt.move (h:StoreAt ρ κ w sb st) (x:Fr S w w') (Y:∀k,S k -> ¬MV (ρ k)) (N:Ro ρ ρ' w) (O:Fresh ρ' w'):StoreAt ρ' κ w' sb st:=by
 obtain ⟨V,-,⟨Z,bc,cv,tb,cs,X,h3,h4,h5,h6⟩,h7⟩:=h;have U:=X.lt;have M:∀ {r:Rl},MV r -> ∀k,S k->ρ k≠r:=λN k G e=>Y k G (by rw [e];exact N)
 exact ⟨by rw [N _ U,V],O,⟨Z,bc,cv,tb,cs,X.fr x (λhS=>M (r:=.store) trivial _ hS V),h3.move x (λk G=>⟨M (by exact trivial) k G,M (by exact trivial) k G⟩) N (λ_ _=>rfl),h4.move x (M (by exact trivial)) N,FramesOk.move x N _ _ _ h5 (λk G i _ _=>⟨M (by exact trivial) k G,M (by exact trivial) k G⟩) (λ_ _ _ _=>rfl),h6.move x (λk G=>⟨M (by exact trivial) k G,M (by exact trivial) k G,M (by exact trivial) k G⟩) N⟩,
  λc xs hc=>(h7 c xs hc).move x (λk G=>⟨M (by exact trivial) k G,M (by exact trivial) k G⟩) N rfl⟩
def Fr.none {w w':wD} (x:Ext w w'):Fr (λ_=>False) w w':=.of_ext x
def StoreAt.ext (h:StoreAt ρ κ w sb st) (x:Ext w w'):StoreAt ρ κ w' sb st:=h.move (Fr.none x) (λ_ h=>h.elim) (Ro.refl _ _) (h.fresh.ext x)
instance  : LfE w w' (StoreAt ρ κ w sb st) (StoreAt ρ κ w' sb st):=⟨λx h=>Bk.StoreAt.ext h x⟩
def StoreAt.fr (h:StoreAt ρ κ w sb st) (x:Fr S w w') (G:∀k,S k -> ¬MV (ρ k)):StoreAt ρ κ w' sb st:=h.move x G (Ro.refl _ _) (h.fresh.mv x)
instance  : LfF S w w' (StoreAt ρ κ w sb st) (∀k,S k -> ¬MV (ρ k)) (StoreAt ρ κ w' sb st):=⟨λx s h=>Bk.StoreAt.fr h x s⟩
def CurP (w:wD) (sb fb fo n:Nat):Prop:= ∃x y z a c tp,Blk w sb [x,y,z,.slice a n c,tp]/\((n=0/\fb=sb/\fo=0)\/(0<n/\a=some ⟨fb,0,none⟩/\fo=(n-1)*3))
def CurP.ext {G M:Nat} (h:CurP w sb G M n) (x:Ext w w'):CurP w' sb G M n:=by
 obtain ⟨N,O,a3,a4,a5,U,V,X⟩:=h;exact ⟨N,O,a3,a4,a5,U,V.ext x,X⟩
instance:LfE w w' (CurP w sb m i n) (CurP w' sb m i n):=⟨λx h=>Bk.CurP.ext h x⟩
def Fq (ρ:Nat->Rl) (j fb k:Nat):Prop:=k=fb\/ρ k = .vars j\/ρ k = .cels j
def Rs (ρ:Nat->Rl) (κ:Nat->Nat) (w:wD) (sb:Nat) (st:Stp) (fb fo:Nat) (pre post:lV) (T:TypeId):Prop:=
 ∀(ρ':Nat->Rl) (κ':Nat->Nat) (w':wD) (f':Frm) (vv' vc':Value),Ro ρ ρ' w->Fresh ρ' w'->(∀f∈st.base::st.calls,∀c∈f.cells,κ' c=κ c)->(∀c,c<st.heap.length->κ' c=κ c)->Fr (Fq ρ st.calls.length fb) w w'->Win w' fb fo [vv',vc',.int .i64 f'.locals] pre post T->FrameOk ρ' κ' w' st.calls.length f' vv' vc'->StoreAt ρ' κ' w' sb (st.setCur f')
def StoreAt.open (h:StoreAt ρ κ w sb st):∃fb fo pre post T vv vc,CurP w sb fb fo st.calls.length/\(ρ fb = .store\/ρ fb = .calls)/\Win w fb fo [vv,vc,.int .i64 st.cur.locals] pre post T/\FrameOk ρ κ w st.calls.length st.cur vv vc/\Rs ρ κ w sb st fb fo pre post T:=by
 obtain ⟨Z,-,⟨bv,bc,cv,tb,cs,⟨Ts,h2⟩,h3,h4,h5,h6⟩,h7⟩:=h;have ak:∃a c,cv = .slice a st.calls.length c:=by
  rcases h4.1.row with ⟨rfl,V,-⟩|⟨g,cap,rfl,-⟩
  . exact ⟨none,0,by rw [V]⟩
  . exact ⟨_,_,rfl⟩
 obtain ⟨ca,cc,rfl⟩:=ak;have ag:=Blk.lt ⟨Ts,h2⟩;rcases i8 st.calls with N|⟨l,f,N⟩
 . have M:st.cur=st.base:=by unfold Stp.cur;rw [N];rfl
   refine ⟨sb,0,[],[.slice ca st.calls.length cc,pt tb],Ts,bv,bc,⟨_,_,_,_,_,_,⟨Ts,h2⟩,gP ⟨by rw [N];rfl,rfl,rfl⟩⟩,gP Z,⟨by rw [M];exact h2,rfl⟩,by rw [M,N];exact h3,?_⟩;intro ρ' κ' w' f' aa ab X ad G ae x hw hf;have hS:∀k,Fq ρ st.calls.length sb k->ρ k = .store\/ρ k = .vars 0\/ρ k = .cels 0:=λk G=>by
    rcases G with rfl|h|h
    . exact gP Z
    . exact gQ (gP (by rw [h,N];rfl))
    . exact gQ (gQ (by rw [h,N];rfl))
   have O:∀ {r:Rl},r≠.store->r≠.vars 0->r≠.cels 0 -> ∀k,Fq ρ st.calls.length sb k->ρ k≠r:=λn1 n2 n3 k G e=>by
    rcases hS k G with h|h|h
    . exact n1 (by rw [<-e,h])
    . exact n2 (by rw [<-e,h])
    . exact n3 (by rw [<-e,h])
   have af:st.setCur f'={ st with base:=f' }:=by unfold mp;rw [AH N]
   rw [af];refine ⟨by rw [X _ ag,Z],ad,⟨aa,ab,.slice ca st.calls.length cc,tb,cs,⟨Ts,hw.1⟩,?_,h4.move x (O AK AK AK) X,?_,h6.move x (λk G=>⟨O AK AK AK k G,O AK AK AK k G,O AK AK AK k G⟩) X⟩,λc xs hx=>(h7 c xs hx).move x (λk G=>⟨O AK AK AK k G,O AK AK AK k G⟩) X (ae c (by
    rcases it c st.heap.length with h|h
    . exact h
    . rw [ic h] at hx;cases hx))⟩
   . rw [N] at hf;exact hf
   . show FramesOk ρ' κ' w' 1 st.calls cs;rw [N] at h5 ⊢;exact h5
 . have M:st.cur=f:=by unfold Stp.cur;rw [N];simp
   have V:st.calls.length=l.length+1:=by rw [N];simp
   rw [N,jp] at h5;obtain ⟨U,vv,vc,rfl,h8,h9⟩:=(FramesOk.snoc l 1 f cs).1 h5;have ac:=FramesOk.len _ _ _ h8;obtain ⟨al,am⟩:=h4;obtain ⟨o1,⟨o2,-⟩|⟨g,cap,cur,o2,o3,o4,o5,o6,o7,o8⟩⟩:=al
   . simp [V] at o2
   . obtain ⟨rfl,rfl⟩:ca=some ⟨g,0,none⟩/\cc=cap:=by simpa using o2
     have hg:=am g rfl;have an:sb≠g:=λe=>by rw [e,hg] at Z;cases Z
     have Y:cur.toList=U++[vv,vc,.int .i64 f.locals]++cur.toList.drop (st.calls.length*3):=by rw [<-o8,iX]
     have ah:TB w g (U++[vv,vc,.int .i64 f.locals]++cur.toList.drop (st.calls.length*3)) 229:=by
      unfold TB;rw [o4,<-Y]
     refine ⟨g,(st.calls.length-1)*3,U,cur.toList.drop (st.calls.length*3),229,vv,vc,⟨_,_,_,_,_,_,⟨Ts,h2⟩,gQ ⟨Ab,rfl,rfl⟩⟩,gQ hg,⟨by rw [M];exact ah,by rw [ac,V];rfl⟩,by rw [M,V,lx];exact h9,?_⟩;intro ρ' κ' w' f' aa ab X ad G ae x hw hf;have O:∀ {r:Rl},r≠.calls->r≠.vars st.calls.length->r≠.cels st.calls.length -> ∀k,Fq ρ st.calls.length g k->ρ k≠r:=λn1 n2 n3 k G e=>by
      rcases G with rfl|h|h
      . exact n1 (by rw [<-e,hg])
      . exact n2 (by rw [<-e,h])
      . exact n3 (by rw [<-e,h])
     have af:st.setCur f'={ st with calls:=l++[f'] }:=by
      unfold mp;rw [At (by rw [N];simp),N];simp
     have ai:∀i,i<st.calls.length -> ∀k,Fq ρ st.calls.length g k->ρ k≠.vars i/\ρ k≠.cels i:=λi hi k G=>⟨O AK (by simp;omega) AK k G,O AK AK (by simp;omega) k G⟩
     have ao:g<w.heap.size:=ah.blk.lt;rw [af];refine ⟨by rw [X _ ag,Z],ad,⟨bv,bc,.slice (some ⟨g,0,none⟩) (l++[f']).length cc,tb,U++[aa,ab,.int .i64 f'.locals],?_,h3.move x (ai 0 Ab) X (G _ AK),⟨?_,λk G=>?_⟩,(FramesOk.snoc l 1 f' _).2 ⟨U,aa,ab,rfl,FramesOk.move x X l 1 U h8 (λk G i Z h2=>ai i Ab k G) (λf hf=>G f (by rw [N];simp [hf])),?_⟩,h6.move x (λk G=>⟨O AK AK AK k G,O AK AK AK k G,O AK AK AK k G⟩) X⟩,λc xs hx=>(h7 c xs hx).move x (λk G=>⟨O AK AK AK k G,O AK AK AK k G⟩) X (ae c (by
      rcases it c st.heap.length with h|h
      . exact h
      . rw [ic h] at hx;cases hx))⟩
     . have:(l++[f']).length=st.calls.length:=by rw [V];simp
       rw [this];exact lY ⟨Ts,h2⟩ x (λh=>by
        rcases h with h|h|h
        . exact an h
        . rw [Z] at h;cases h
        . rw [Z] at h;cases h)
     . have ap:(l++[f']).length=st.calls.length:=by rw [V];simp
       rw [ap];have aj:=hw.1;unfold TB at aj;refine ⟨by simp [ac,V];omega,gQ ⟨g,cc,_,rfl,ii _,aj,o5,o6,?_,?_⟩⟩
       . have:=congrArg List.length Y;simp only [ju] at this;simp only [lk];rw [o7] at this;simp only [iq,gV,iG] at this ⊢;omega
       . simp only [List.toList_toArray];rw [List.take_append_of_le_length (by simp [ac,V];omega)];rw [ki (by simp [ac,V];omega)]
     . simp only [jB,gU] at G;rw [<-G,X _ ao,hg]
     . rw [V,lx] at hf;exact hf
end
def LeX {α β:Type} (f g:α->Except Int β):Prop:= ∀a,f a≠.error (-1)->g a=f a
def LeX.refl (f:α->Except Int β):LeX f f:=λ_ _=>rfl
def LeX.trans {f g h:α->Except Int β} (M:LeX f g) (N:LeX g h):LeX f h:=λa G=>by
 have e:=M a G;rw [N a (by rw [e];exact G),e]
def LeX.bind {α β γ:Type} {f f':α->Except Int β} {k N:β->Except Int γ} (h:LeX f f') (O:LeX k N):LeX (λa=>(f a).bind k) (λa=>(f' a).bind N):=λa M=>by
 cases e:f a with
 | error x=>
  have G:f a≠.error (-1):=λU=>by
   apply M;simp only [U,ir]
  simp only [h a G,e,ir]
 | ok v=>
  have G:f a≠.error (-1):=by rw [e];simp
  simp only [e,ir] at M;simp only [h a G,e,ir];exact O v M
def LeX.row {f g:Nd->Rn->Except Int Rn}:∀(l:List Nd),(∀t∈l,LeX (f t) (g t))->LeX (Eh f l) (Eh g l)
 | [],_=>LeX.refl _
 | t::l,h=>LeX.bind (f:=f t) (h t AK) (LeX.row l (λx G=>h x (by simp [G])))
def LeX.loop {O U M G:Rn->Except Int Rn} {test entry:Nd} (V:LeX O M) (X:LeX U G):∀(m m':Nat),m<=m'->LeX (Ch O U test entry m) (Ch M G test entry m')
 | 0,_,_=>λa h=>absurd rfl h
 | m+1,0,h=>by omega
 | m+1,m'+1,h=>by
  refine LeX.bind (f:=O) V (LeX.bind (f:=BI test) (LeX.refl _) λp N=>?_);cases hq:p.1
  . simp only [hq,iS,if_false] at N ⊢;exact LeX.bind (f:=λp:Bool×Rn=>U p.2) (f':=λp:Bool×Rn=>G p.2) (λp N=>X p.2 N) (LeX.bind (f:=Bj entry false) (LeX.refl _) (LeX.loop V X m m' Ab)) p N
  . simp only [if_true]
def LeX.block {f g:Bool->Nd->Rn->Except Int Rn} (h:∀b t,LeX (f b t) (g b t)) (b:Bool) (t:Nd):LeX (AG f b t) (AG g b t):=by
 unfold AG;exact LeX.row _ (λx _=>h b x)
def Ru (ps:List PD):∀(d:Nat) (b:Bool) (t:Nd),LeX (Aw ps d b t) (Aw ps (d+1) b t)
 | 0,b,t=>λr h=>absurd (by simp [Aw]) h
 | d+1,b,.mk k n s l=>by
  have IH:=Ru ps d;have HB:∀b t,LeX (AG (Aw ps d) b t) (AG (Aw ps (d+1)) b t):=λb t=>LeX.block IH b t
  intro r
  conv=>lhs;unfold Aw
  conv=>rhs;lhs;unfold Aw
  conv=>rhs;rhs;unfold Aw
  revert r;by_cases c1:k=52
  . simp only [AH c1];refine LeX.bind (f:=BI _) (LeX.refl _) λp=>?_
    exact LeX.bind (f:=λp:Bool×Rn=>AG (Aw ps d) b (if p.1=true then Bu l 1 else Bu l 2) p.2) (f':=λp:Bool×Rn=>AG (Aw ps (d+1)) b (if p.1=true then Bu l 1 else Bu l 2) p.2) (λp hp=>HB b _ p.2 hp) (LeX.refl (Bj _ p.1)) p
  simp only [At c1];by_cases c2:k=53
  . simp only [AH c2];exact LeX.bind (f:=Bj _ true) (LeX.refl _) (LeX.loop (HB b _) (HB b _) d (d+1) Ab)
  simp only [At c2];by_cases c3:k=54
  . simp only [AH c3];refine LeX.bind (f:=A4) (LeX.refl _) λr=>?_
    refine LeX.bind (f:=λr=>BD _ r) (f':=λr=>BD _ r) (LeX.refl _) (λv=>?_) r;refine LeX.bind (f:=λv=>Cy (·.opens ⟨s,1,0⟩ v) r) (f':=λv=>Cy (·.opens ⟨s,1,0⟩ v) r) (LeX.refl _) ?_ v;exact LeX.bind (HB b _) (LeX.refl _)
  simp only [At c3];by_cases c4:k=55
  . simp only [AH c4];exact LeX.bind (f:=A4) (LeX.refl _) (LeX.bind (f:=Cy (·.opens ⟨s,3,0⟩ 0)) (LeX.refl _) (LeX.bind (HB b _) (LeX.refl _)))
  simp only [At c4];by_cases c5:k=50\/k=51
  . simp only [AH c5];exact LeX.bind (f:=A4) (LeX.refl _) (LeX.bind (f:=Cy _) (LeX.refl _) (LeX.bind (HB _ _) (LeX.refl _)))
  . simp only [At c5];exact λ_ _=>trivial
def KV (ps:List PD) (b:Bool) (t:Nd) {d:Nat} (h:d<=n):LeX (Aw ps d b t) (Aw ps n b t):=by
 induction h with
 | refl=>exact LeX.refl _
 | step _ M=>exact M.trans (Ru ps _ b t)
def LeX.blockN {ps:List PD} {d:Nat} (h:d<=n) (b:Bool) (t:Nd):LeX (AG (Aw ps d) b t) (AG (Aw ps n) b t):=LeX.block (λb t=>KV ps b t h) b t
def Dec (f:Rn->Except Int Rn):Prop:= ∀r r',f r = .ok r'->r'.rem<=r.rem
def AM {x:Except Int α} {k:α->Except Int β} {v:β} (h:x.bind k = .ok v):∃a,x = .ok a/\k a = .ok v:=by
 cases x with
 | error e=>simp [ir] at h
 | ok a=>exact ⟨a,rfl,h⟩
def B8 {G:Rn} (h:A4 r = .ok G):0<r.rem/\G=⟨r.st,r.rem-1⟩:=by
 unfold A4 at h;split at h
 . cases h
 . cases h;exact ⟨Ab,rfl⟩
def Dw {f:Stp->Int×Stp} {G:Rn} (h:Cy f r = .ok G):(f r.st).1=0/\G=⟨(f r.st).2,r.rem⟩:=by
 unfold Cy at h;split at h
 . cases h
 . cases h;exact ⟨Ab,rfl⟩
def MX {v:Int} (h:BD t r = .ok v):AW r.st.look t=(v,0):=by
 unfold BD at h;split at h
 . cases h
 . cases h;rename_i h;exact Prod.ext rfl Ab
def Er {p:Bool×Rn} (h:BI t r = .ok p):0<r.rem/\p.2=⟨r.st,r.rem-1⟩ /\ ∃v,AW r.st.look t=(v,0)/\p.1=decide (v≠0):=by
 obtain ⟨O,G,h⟩:=AM h;obtain ⟨v,M,h⟩:=AM h;cases h;obtain ⟨N,rfl⟩:=B8 G;exact ⟨N,rfl,v,MX M,rfl⟩
def Dc {G:Rn} (h:Bj t q r = .ok G):0<r.rem/\G=⟨r.st,r.rem-1⟩ /\ ∃v,AW r.st.look t=(v,0)/\q=decide (v≠0):=by
 obtain ⟨p,M,h⟩:=AM h;obtain ⟨N,O,v,U,V⟩:=Er M;split at h
 . cases h
 . cases h;rename_i X;exact ⟨N,O,v,U,by rw [<-V];simpa using (Decidable.not_not.1 X).symm⟩
def Dec.row {f:Nd->Rn->Except Int Rn}:∀(l:List Nd),(∀t,Dec (f t))->Dec (Eh f l)
 | [],_,r,G,h=>by cases h;exact ip _
 | t::l,M,r,G,h=>by
  obtain ⟨a,N,O⟩:=AM h;have:=M t r a N;have:=Dec.row l M a G O;omega
def Dec.block {f:Bool->Nd->Rn->Except Int Rn} (h:∀b t,Dec (f b t)) (b:Bool) (t:Nd):Dec (AG f b t):=Dec.row _ (h b)
def Dec.loop {G M:Rn->Except Int Rn} {test entry:Nd} (N:Dec G) (O:Dec M):∀m,Dec (Ch G M test entry m)
 | 0,r,Y,h=>by cases h
 | m+1,r,Y,h=>by
  obtain ⟨a,k1,h⟩:=AM h;obtain ⟨p,Z,h⟩:=AM h;have e1:=N r a k1;obtain ⟨e2,U,-⟩:=Er Z;split at h
  . cases h;rw [U];simp only;omega
  . obtain ⟨c,k3,h⟩:=AM h;obtain ⟨e,k4,h⟩:=AM h;have V:=O _ _ k3;obtain ⟨e5,e6,-⟩:=Dc k4;have X:=Dec.loop N O m _ _ h;rw [U] at V;rw [e6] at X;simp only at V X;omega
def Ic (ps:List PD):∀(d:Nat) (b:Bool) (t:Nd),Dec (Aw ps d b t)
 | 0,b,t,r,r',h=>by simp [Aw] at h
 | d+1,b,.mk k n s l,r,r',h=>by
  have M:∀b t,Dec (AG (Aw ps d) b t):=Dec.block (Ic ps d);unfold Aw at h;by_cases c1:k=52
  . simp only [AH c1] at h;obtain ⟨p,k1,h⟩:=AM h;obtain ⟨c,V,h⟩:=AM h;obtain ⟨X,e2,-⟩:=Er k1;have G:=M _ _ _ _ V;obtain ⟨Y,Z,-⟩:=Dc h;rw [e2] at G;rw [Z];simp only at G ⊢;omega
  simp only [At c1] at h;by_cases c2:k=53
  . simp only [AH c2] at h;obtain ⟨c,V,h⟩:=AM h;obtain ⟨Y,Z,-⟩:=Dc V;have e6:=Dec.loop (M b _) (M b _) d _ _ h;rw [Z] at e6;simp only at e6;omega
  simp only [At c2] at h;by_cases c3:k=54
  . simp only [AH c3] at h;obtain ⟨a1,k1,h⟩:=AM h;obtain ⟨a2,V,h⟩:=AM h;obtain ⟨a3,N,h⟩:=AM h;obtain ⟨a4,O,h⟩:=AM h;obtain ⟨a5,U,h⟩:=AM h;obtain ⟨a6,k6,h⟩:=AM h;obtain ⟨X,rfl⟩:=B8 k1;obtain ⟨-,rfl⟩:=Dw N;have G:=M _ _ _ _ O;obtain ⟨Y,rfl⟩:=B8 U;obtain ⟨-,rfl⟩:=Dw h;simp only at G ⊢;omega
  simp only [At c3] at h;by_cases c4:k=55
  . simp only [AH c4] at h;obtain ⟨a1,k1,h⟩:=AM h;obtain ⟨a3,N,h⟩:=AM h;obtain ⟨a4,O,h⟩:=AM h;obtain ⟨a5,U,h⟩:=AM h;obtain ⟨X,rfl⟩:=B8 k1;obtain ⟨-,rfl⟩:=Dw N;have G:=M _ _ _ _ O;obtain ⟨Y,rfl⟩:=B8 U;obtain ⟨-,rfl⟩:=Dw h;simp only at G ⊢;omega
  simp only [At c4] at h;by_cases c5:k=50\/k=51
  . simp only [AH c5] at h;obtain ⟨a1,k1,h⟩:=AM h;obtain ⟨a3,N,h⟩:=AM h;obtain ⟨a4,O,h⟩:=AM h;obtain ⟨a5,U,h⟩:=AM h;obtain ⟨X,rfl⟩:=B8 k1;obtain ⟨-,rfl⟩:=Dw N;have G:=M _ _ _ _ O;obtain ⟨Y,rfl⟩:=B8 U;obtain ⟨-,rfl⟩:=Dw h;simp only at G ⊢;omega
  . simp only [At c5] at h;obtain ⟨a1,k1,h⟩:=AM h;obtain ⟨X,rfl⟩:=B8 k1;obtain ⟨-,rfl⟩:=Dw h;simp only;omega
def Xp (k x y:Int):0<=(EG k x y).2:=by
 have h:∀(c:Prop) [Decidable c] (a b:Int×Int),0<=a.2->0<=b.2->0<=(if c then a else b).2:=λc _ a b G M=>by split<;>assumption
 unfold EG UG
 repeat' (first|apply h|exact Int.le_refl _|decide)
def Xq (k x:Int):0<=(EH k x).2:=by
 unfold EH
 repeat' split
 all_goals simp
def aY (at_:lB->Option (List Int)):∀(N:Nat) (t:Nd),t.size<N->0<=(AW at_ t).2
 | 0,_,h=>by omega
 | N+1,.mk k n s l,h=>by
  have G:∀x∈l,0<=(AW at_ x).2:=λx Y=>by
   have:=DI Y;simp only [Nd.size] at h;exact aY at_ N x Ab
  unfold AW;by_cases M:k=1
  . simp [M]
  rw [At M];by_cases O:k=2
  . rw [AH O];split
    . simp
    . split<;>simp
  rw [At O];by_cases U:k=3
  . rw [AH U];split
    . simp
    . split
      . have:=G _ (iu.2 rfl);split
        . exact this
        . split<;>simp
      . simp
  rw [At U];by_cases V:k=4
  . rw [AH V];split
    . simp
    . split<;>simp
  rw [At V];by_cases X:k=5
  . rw [AH X];split<;>simp
  rw [At X];split
  . have:=G _ (iu.2 rfl);split
    . exact this
    . exact Xq _ _
  . rename_i x y;have Z:=G x AK;have h2:=G y AK;split
    . exact Z
    . split
      . exact h2
      . exact Xp _ _ _
  . simp
def S8 (at_:lB->Option (List Int)) (t:Nd):0<=(AW at_ t).2:=aY at_ _ t (Nat.lt_succ_self _)
def Rw (at_:lB->Option (List Int)) (t:Nd):0<=(Bf at_ t).2:=by
 unfold Bf;split
 . simp
 . split
   . exact S8 _ _
   . simp
def cF (v:List VD) (s:lB) (k:Int):0<=Ek v s k:=by
 unfold Ek;split
 . simp
 . split<;>simp
mutual
def Xr (v:List VD):∀t:Nd,0<=t.bad v
 | .mk k n s l=>by
  unfold Nd.bad;split
  . exact cF _ _ _
  . exact Ox v l
def Ox (v:List VD):∀l:List Nd,0<=Fe v l
 | []=>by simp [Fe]
 | t::r=>by
  unfold Fe;split
  . exact Xr v t
  . exact Ox v r
end
def ZA (st:Stp) (k:Int) (s:lB) (l:List Nd):0<=(st.exec k s l).1:=by
 unfold Stp.exec;simp only;have h:=Rw st.look (l.getD 0 (.mk 0 0 [] []));have G:0<=(if k=43 then Bf st.look (l.getD 1 (.mk 0 0 [] [])) else if 40<=k/\k<=42 then AW st.look (l.getD 1 (.mk 0 0 [] [])) else (0,0)).2:=by
  split
  . exact Rw _ _
  . split
    . exact S8 _ _
    . simp
 generalize (if k=43 then Bf st.look (l.getD 1 (.mk 0 0 [] [])) else if 40<=k/\k<=42 then AW st.look (l.getD 1 (.mk 0 0 [] [])) else (0,0))=r at *;generalize Bf st.look (l.getD 0 (.mk 0 0 [] []))=a at *;split
 . exact h
 split
 . exact G
 unfold mC md
 repeat' split
 all_goals simp
def ZB (st:Stp) (k n:Int) (s:lB) (l:List Nd):0<=(st.run1 k n s l).1:=by
 unfold Stp.run1;split
 . simp
 split
 . exact Xr _ _
 . exact ZA _ _ _ _
def Rx (st:Stp) (v:VD) (x:Int):0<=(st.opens v x).1:=by unfold Stp.opens;split<;>simp
def Oy (st:Stp) (s:lB) (x:Int):0<=(st.closes s x).1:=by
 unfold Stp.closes;simp only
 repeat' split
 all_goals simp
def Ry (f:Frm):∀(ps:List VD) (h:List lB),0<=(BQ f ps h).1
 | [],_=>by simp [BQ]
 | _::_,[]=>by simp [BQ]
 | v::r,s::q=>by
  unfold BQ;split
  . simp
  . split
    . simp
    . exact Ry f r q
def Vx (st:Stp) (ps:List VD) (h:List lB):0<=(st.enters ps h).1:=by
 unfold mI;split
 . simp
 split
 . exact Ry _ _ _
 . split<;>simp
def Vy (st:Stp):0<=(st.leaves).1:=by unfold mG;split<;>simp
def Fine {α β:Type} (f:α->Except Int β):Prop:= ∀a,f a≠.error (-1)
def Ef:Fine A4:=λr=>by unfold A4;split<;>simp
def G2 {f:Stp->Int×Stp} (h:∀st,0<=(f st).1):Fine (Cy f):=λr=>by
 unfold Cy;have:=h r.st;split
 . simp only [ne_eq,Except.error.injEq];omega
 . simp
def Jm (t:Nd):Fine (BD t):=λr=>by
 unfold BD;have:=S8 r.st.look t;split
 . simp only [ne_eq,Except.error.injEq];omega
 . simp
def Fine.bind {α β γ:Type} {f:α->Except Int β} {k:β->Except Int γ} (h:Fine f) (G:Fine k):Fine (λa=>(f a).bind k):=λa=>by
 cases e:f a with
 | error x=>have:=h a;rw [e] at this;simpa [ir,e] using this
 | ok v=>simpa [ir,e] using G v
def Jn (t:Nd):Fine (BI t):=λr=>by
 unfold BI;exact Fine.bind Ef (λr=>Fine.bind (Jm t) (λv=>by simp) r) r
def Id (t:Nd) (q:Bool):Fine (Bj t q):=Fine.bind (Jn t) (λp=>by split<;>simp)
def DO {x:Except Int α} {k:α->Except Int β} (h:x≠.error (-1)) (G:∀v,x = .ok v->k v≠.error (-1)):x.bind k≠.error (-1):=by
 cases x with
 | error e=>simpa [ir] using h
 | ok v=>simpa [ir] using G v rfl
def Oz {F:Nat->Nd->Rn->Except Int Rn} (M:∀d V t,d<=V->LeX (F d t) (F V t)) (G:∀d t,Dec (F d t)) (m:Nat):∀(l:List Nd),(∀t∈l,∀r,r.rem<=m -> ∃d,F d t r≠.error (-1)) -> ∀r:Rn,r.rem<=m -> ∃d,Eh (F d) l r≠.error (-1)
 | [],_,r,_=>⟨0,by simp [Eh]⟩
 | t::l,h,r,Z=>by
  obtain ⟨N,U⟩:=h t AK r Z;cases e:F N t r with
  | error x=>
   refine ⟨N,?_⟩;simp only [Eh,e,ir];rw [e] at U;simpa using U
  | ok X=>
   obtain ⟨O,Y⟩:=Oz M G m l (λx hx=>h x (by simp [hx])) X (by have:=G _ _ _ _ e;omega);refine ⟨max N O,?_⟩;simp only [Eh];rw [M N (max N O) t Ab r U,e];simp only [ir];rw [LeX.row l (λx _=>M O (max N O) x Ab) X Y];exact Y
def Lz {F:Nat->Bool->Nd->Rn->Except Int Rn} (N:∀d M b t,d<=M->LeX (F d b t) (F M b t)) (G:∀d b t,Dec (F d b t)) (m:Nat) (b:Bool) (t:Nd) (h:∀x∈t.kids,∀r,r.rem<=m -> ∃d,F d b x r≠.error (-1)) (r:Rn) (U:r.rem<=m):∃d,AG (F d) b t r≠.error (-1):=by
 unfold AG;exact Oz (F:=λd=>F d b) (λd M t h=>N d M b t h) (λd t=>G d b t) m _ (λx O=>h x (by split at O<;>simpa using O)) r U
def MY {B1 B2:Nat->Rn->Except Int Rn} {test entry:Nd} (U:∀d X,d<=X->LeX (B1 d) (B1 X)) (V:∀d X,d<=X->LeX (B2 d) (B2 X)) (Y:∀d,Dec (B1 d)) (Z:∀d,Dec (B2 d)) (m:Nat)
 (h1:∀r,r.rem<=m -> ∃d,B1 d r≠.error (-1)) (h2:∀r,r.rem<=m -> ∃d,B2 d r≠.error (-1)):∀(q:Nat) (r:Rn),r.rem<=q->r.rem<=m -> ∃d,Ch (B1 d) (B2 d) test entry d r≠.error (-1)
 | q,r,hq,hr=>by
  obtain ⟨G,k1⟩:=h1 r hr;have key:∀d,G<=d->B1 d r=B1 G r:=λd h=>U G d h r k1
  cases e1:B1 G r with
  | error x=>
   refine ⟨G+1,?_⟩;rw [e1] at k1;simp only [Ch,key (G+1) Ab,e1,ir];simpa using k1
  | ok a=>
   have s1:=Y _ _ _ e1;cases e2:BI test a with
   | error x=>
    refine ⟨G+1,?_⟩;have:=Jn test a;rw [e2] at this;simp only [Ch,key (G+1) Ab,e1,e2,ir];simpa using this
   | ok p=>
    obtain ⟨s2,s3,-⟩:=Er e2;have s4:p.2.rem<r.rem:=by rw [s3];simp only;omega
    cases hp:p.1 with
    | true=>
     refine ⟨G+1,?_⟩;simp only [Ch,key (G+1) Ab,e1,e2,ir,hp,if_true];simp
    | false=>
     obtain ⟨M,k2⟩:=h2 p.2 Ab;have N:∀d,M<=d->B2 d p.2=B2 M p.2:=λd h=>V M d h _ k2
     cases e3:B2 M p.2 with
     | error x=>
      refine ⟨max G M+1,?_⟩;rw [e3] at k2;simp only [Ch,key (max G M+1) Ab,e1,e2,ir,hp,N (max G M+1) Ab,e3];simpa using k2
     | ok c=>
      have s5:=Z _ _ _ e3;cases e4:Bj entry false c with
      | error x=>
       refine ⟨max G M+1,?_⟩;have:=Id entry false c;rw [e4] at this;simp only [Ch,key (max G M+1) Ab,e1,e2,ir,hp,N (max G M+1) Ab,e3,e4];simpa using this
      | ok g=>
       obtain ⟨s6,s7,-⟩:=Dc e4;have s8:g.rem<r.rem:=by rw [s7];simp only;omega
       match q,hq with
       | 0,hq=>omega
       | q+1,hq=>
        obtain ⟨O,k3⟩:=MY U V Y Z m h1 h2 q g Ab Ab;refine ⟨max (max G M) O+1,?_⟩;simp only [Ch,key (max (max G M) O+1) Ab,e1,e2,ir,hp,N (max (max G M) O+1) Ab,e3,e4];have:=LeX.loop (test:=test) (entry:=entry) (U O (max (max G M) O+1) Ab) (V O (max (max G M) O+1) Ab) O (max (max G M) O) Ab g k3;simp only [iS,if_false];rw [this];exact k3
def DP {x:Except Int α} {K:Nat->α->Except Int Rn} (h:x≠.error (-1)) (G:∀v,x = .ok v -> ∃d,K d v≠.error (-1)):∃d,x.bind (K d)≠.error (-1):=by
 cases x with
 | error e=>exact ⟨0,by simpa [ir] using h⟩
 | ok v=>exact G v rfl
def S9 (ps:List PD):∀(m:Nat) (b:Bool) (t:Nd) (r:Rn),r.rem<=m -> ∃d,Aw ps d b t r≠.error (-1):=by
 intro m
 induction m with
 | zero=>
  intro b t r h;refine ⟨1,?_⟩;obtain ⟨k,n,s,l⟩:=t;have e:A4 r = .error 18:=by unfold A4;rw [AH Ab]
  unfold Aw;simp only [BI,Bj,e,ir]
  repeat' split
  all_goals simp
 | succ m IH=>
  intro b t r h;obtain ⟨k,n,s,l⟩:=t;have X:∀(b:Bool) (t:Nd) (r:Rn),r.rem<=m -> ∃d,AG (Aw ps d) b t r≠.error (-1):=λb t r O=>
   Lz (F:=λd=>Aw ps d) (λd d' b t h=>KV ps b t h) (λd b t=>Ic ps d b t) m b t (λx _ r O=>IH b x r O) r O
  have U:∀G,A4 r = .ok G->G.rem<=m:=λG V=>by
   obtain ⟨-,rfl⟩:=B8 V;simp only;omega
  by_cases Y:k=52
  . obtain ⟨d,M⟩:=DP (K:=λd (p:Bool×Rn)=>(AG (Aw ps d) b (if p.1 then Bu l 1 else Bu l 2) p.2).bind (Bj (if b then Bu l 0 else Bu l (l.length-1)) p.1)) (Jn (if b then Bu l (l.length-1) else Bu l 0) r) (λp hp=>by
     obtain ⟨-,N,-⟩:=Er hp;obtain ⟨d,M⟩:=X b (if p.1 then Bu l 1 else Bu l 2) p.2 (by rw [N];simp only;omega);exact ⟨d,DO M (λv _=>Id _ _ v)⟩)
    exact ⟨d+1,by simp only [Aw,AH Y];exact M⟩
  by_cases Z:k=53
  . obtain ⟨d,M⟩:=DP (K:=λd (p:Rn)=>Ch (AG (Aw ps d) b (Bu l 1)) (AG (Aw ps d) b (Bu l 2)) (if b then Bu l 0 else Bu l (l.length-1)) (if b then Bu l (l.length-1) else Bu l 0) d p) (Id (if b then Bu l (l.length-1) else Bu l 0) true r) (λp hp=>by
     obtain ⟨-,N,-⟩:=Dc hp;exact MY (B1:=λd=>AG (Aw ps d) b (Bu l 1)) (B2:=λd=>AG (Aw ps d) b (Bu l 2)) (λd d' h=>LeX.blockN h b _) (λd d' h=>LeX.blockN h b _) (λd=>Dec.block (Ic ps d) b _) (λd=>Dec.block (Ic ps d) b _) m (λr O=>X b _ r O) (λr O=>X b _ r O) p.rem p (ip _) (by rw [N];simp only;omega))
    exact ⟨d+1,by simp only [Aw,At Y,AH Z];exact M⟩
  by_cases c3:k=54
  . obtain ⟨d,M⟩:=DP (K:=λd (r:Rn)=>(BD (if b then Bu l (l.length-1) else Bu l 0) r).bind λv=>(Cy (·.opens ⟨s,1,0⟩ v) r).bind λr=>(AG (Aw ps d) b (Bu l 1) r).bind λr=>
     (A4 r).bind λr=>(BD (if b then Bu l 0 else Bu l (l.length-1)) r).bind λv=>Cy (·.closes s v) r) (Ef r) (λG V=>by
     have hm:=U G V;refine DP (K:=λd v=>(Cy (·.opens ⟨s,1,0⟩ v) G).bind λr=>(AG (Aw ps d) b (Bu l 1) r).bind λr=>
      (A4 r).bind λr=>(BD (if b then Bu l 0 else Bu l (l.length-1)) r).bind λv=>Cy (·.closes s v) r) (Jm _ G) (λv _=>?_)
     refine DP (K:=λd r=>(AG (Aw ps d) b (Bu l 1) r).bind λr=>(A4 r).bind λr=>(BD (if b then Bu l 0 else Bu l (l.length-1)) r).bind λv=>Cy (·.closes s v) r) (G2 (λst=>Rx st _ _) G) (λr2 N=>?_);obtain ⟨-,rfl⟩:=Dw N;obtain ⟨d,M⟩:=X b (Bu l 1) ⟨(G.st.opens ⟨s,1,0⟩ v).2,G.rem⟩ hm;exact ⟨d,DO M (λv _=>DO (Ef v) (λu _=>DO (Jm _ u) (λx _=>G2 (λst=>Oy st _ _) u)))⟩)
    exact ⟨d+1,by simp only [Aw,At Y,At Z,AH c3];exact M⟩
  by_cases c4:k=55
  . obtain ⟨d,M⟩:=DP (K:=λd (r:Rn)=>(Cy (·.opens ⟨s,3,0⟩ 0) r).bind λr=>(AG (Aw ps d) b (Bu l 0) r).bind λr=>(A4 r).bind (Cy (·.closes s 0))) (Ef r) (λG V=>by
     have hm:=U G V;refine DP (K:=λd r=>(AG (Aw ps d) b (Bu l 0) r).bind λr=>(A4 r).bind (Cy (·.closes s 0))) (G2 (λst=>Rx st _ _) G) (λr2 N=>?_);obtain ⟨-,rfl⟩:=Dw N;obtain ⟨d,M⟩:=X b (Bu l 0) ⟨(G.st.opens ⟨s,3,0⟩ 0).2,G.rem⟩ hm;exact ⟨d,DO M (λv _=>DO (Ef v) (λu _=>G2 (λst=>Oy st _ _) u))⟩)
    exact ⟨d+1,by simp only [Aw,At Y,At Z,At c3,AH c4];exact M⟩
  by_cases c5:k=50\/k=51
  . obtain ⟨d,M⟩:=DP (K:=λd (r:Rn)=>(Cy (·.enters (ps.getD ((Cg ps s).getD 0) ⟨[],[],.mk 0 0 [] []⟩).params (l.map Nd.name)) r).bind λr=>(AG (Aw ps d) (b != decide (k=51)) (ps.getD ((Cg ps s).getD 0) ⟨[],[],.mk 0 0 [] []⟩).body r).bind λr=>(A4 r).bind (Cy (·.leaves))) (Ef r) (λG V=>by
     have hm:=U G V;refine DP (K:=λd r=>(AG (Aw ps d) (b != decide (k=51)) (ps.getD ((Cg ps s).getD 0) ⟨[],[],.mk 0 0 [] []⟩).body r).bind λr=>(A4 r).bind (Cy (·.leaves))) (G2 (λst=>Vx st _ _) G) (λr2 N=>?_);obtain ⟨-,rfl⟩:=Dw N;obtain ⟨d,M⟩:=X (b != decide (k=51)) (ps.getD ((Cg ps s).getD 0) ⟨[],[],.mk 0 0 [] []⟩).body ⟨(G.st.enters (ps.getD ((Cg ps s).getD 0) ⟨[],[],.mk 0 0 [] []⟩).params (l.map Nd.name)).2,G.rem⟩ hm;exact ⟨d,DO M (λv _=>DO (Ef v) (λu _=>G2 Vy u))⟩)
    exact ⟨d+1,by simp only [Aw,At Y,At Z,At c3,At c4,AH c5];exact M⟩
  . refine ⟨1,?_⟩;simp only [Aw,At Y,At Z,At c3,At c4,At c5];exact DO (Ef r) (λu _=>G2 (λst=>ZB st _ _ _ _) u)
def cellOk (x:Int×Int) (xs:List Int):Prop:=(x.1=1/\xs.length=1)\/(x.1=2/\(xs.length:Int)=x.2/\xs.length<=1000000)\/(x.1=3/\xs.length<=1000)
def cellOk.le {x:Int×Int} (h:cellOk x xs):xs.length<=1000000:=by
 rcases h with ⟨-,h⟩|⟨-,h⟩|⟨-,h⟩<;>omega
structure FrmWF (K:List (Int×Int)) (f:Frm):Prop where
 len:f.vars.length=f.cells.length
 loc:f.locals<=f.vars.length
 kind:∀(i:Nat) (v:VD) (c:Nat),f.vars[i]? = some v->f.cells[i]? = some c->K[c]? = some (v.kind,v.len)
structure Stp.WF (K:List (Int×Int)) (m:Nat) (st:Stp):Prop where
 len:st.heap.length=K.length
 base:FrmWF K st.base
 calls:∀f∈st.calls,FrmWF K f
 cell:∀(c:Nat) (x:Int×Int),K[c]? = some x->cellOk x (st.items c)
 nc:st.calls.length<=100
 vb:∀f∈st.base::st.calls,f.vars.length<=m
def DX {l:List α} {x:α} (h:x∈l.dropLast):x∈l:=(List.dropLast_sublist l).subset h
def Ix (st:Stp):st.cur∈st.base::st.calls:=by
 unfold Stp.cur;rcases i8 st.calls with h|⟨l,f,h⟩<;>rw [h]<;>simp
def FrmWF.lt {K:List (Int×Int)} (h:FrmWF K f) (N:c∈f.cells):c<K.length:=by
 obtain ⟨i,M,rfl⟩:=List.getElem_of_mem N;have:=h.kind i _ _ (gN (by rw [h.len];exact M)) (gN M);rcases it f.cells[i] K.length with G|G
 . exact G
 . rw [ic G] at this;cases this
section
variable {K:List (Int×Int)}
def Stp.WF.all' (h:st.WF K m):∀f∈st.base::st.calls,FrmWF K f:=λf G=>by
 rcases io.1 G with rfl|G
 . exact h.base
 . exact h.calls f G
def Stp.WF.cur (h:st.WF K m):FrmWF K st.cur:=h.all' _ (Ix st)
def Stp.WF.curm (h:st.WF K m):st.cur.vars.length<=m:=h.vb _ (Ix st)
def DY {s:lB}:∀ {l:List VD} {i:Nat},BP s l=some i->i<l.length
 | [],i,h=>by cases h
 | v::r,i,h=>by
  unfold BP at h;split at h
  . rename_i j G;cases h;have:=DY G;simp only [gV];omega
  . split at h
    . cases h;simp
    . cases h
def Jo (s:lB):∀l:List VD,Ea l s=(BP s l).bind (l[·]?)
 | []=>rfl
 | v::r=>by
  have G:=Jo s r;unfold Ea at G ⊢;unfold BP;rw [jR,lP,G];cases h:BP s r with
  | none=>by_cases M:v.name=s<;>simp [M]
  | some i=>simp [gN (DY h)]
def Dj {s:lB}:∀ {l:List VD} {i:Nat},BP s l=some i -> ∃v,l[i]? = some v/\v.name=s
 | [],i,h=>by cases h
 | v::r,i,h=>by
  unfold BP at h;split at h
  . rename_i j G;cases h;obtain ⟨x,M,N⟩:=Dj G;exact ⟨x,by simpa using M,N⟩
  . split at h
    . rename_i O;cases h;exact ⟨v,rfl,O⟩
    . cases h
def Ta {v:List VD} (h:Ek v s k=0):∃i x,BP s v=some i/\v[i]? = some x/\x.kind=k:=by
 unfold Ek at h;rw [Jo] at h;cases e:BP s v with
 | none=>rw [e] at h;simp at h
 | some i=>
  rw [e] at h;obtain ⟨x,G,-⟩:=Dj e;simp only [jZ,G] at h;refine ⟨i,x,rfl,G,?_⟩;split at h
  . assumption
  . cases h
def Stp.WF.use (h:st.WF K m) (Y:Ek st.cur.vars s k=0):∃i c x,BP s st.cur.vars=some i/\st.cur.cells[i]? = some c/\st.cellD s=c/\st.look s=some (st.items c)/\c<st.heap.length/\K[c]? = some x/\x.1=k/\cellOk x (st.items c):=by
 obtain ⟨i,x,M,O,Z⟩:=Ta Y;have hi:=DY M;have N:=h.cur;have G:i<st.cur.cells.length:=by rw [<-N.len];exact hi
 have U:=gN G;have V:=N.kind i x _ O U;have X:st.cur.cell s=some st.cur.cells[i]:=by unfold Frm.cell;rw [M];simp [O]
 refine ⟨i,st.cur.cells[i],(x.kind,x.len),M,U,?_,?_,?_,V,Z,h.cell _ _ V⟩
 . unfold Stp.cellD;rw [X];rfl
 . unfold Stp.look;rw [X];rfl
 . rw [h.len];exact N.lt (ig G)
def Stp.WF.look_le (h:st.WF K m) (G:st.look s=some xs):xs.length<=1000000:=by
 unfold Stp.look at G;cases e:st.cur.cell s with
 | none=>rw [e] at G;cases G
 | some c=>
  rw [e] at G;cases G;unfold Frm.cell at e;cases e1:BP s st.cur.vars with
  | none=>rw [e1] at e;cases e
  | some i=>
   rw [e1] at e;simp only [jZ] at e;obtain ⟨x,M,-⟩:=Dj e1;exact (h.cell _ _ (h.cur.kind i x c M e)).le
def Stp.WF.same {st':Stp} (h:st.WF K m) (N:st'.heap.length=st.heap.length) (M:st'.base=st.base) (G:st'.calls=st.calls) (O:∀c x,K[c]? = some x->cellOk x (st'.items c)):st'.WF K m:=
 ⟨N.trans h.len,M▸h.base,G▸h.calls,O,G▸h.nc,by rw [M,G];exact h.vb⟩
def cellOk.len {x:Int×Int} (h:cellOk x xs) (e:ys.length=xs.length):cellOk x ys:=by unfold cellOk at h ⊢;rw [e];exact h
def CO (st:Stp) (c:Nat) (xs:List Int) (h:Nat):(st.all c xs).items h=if h=c/\c<st.heap.length then xs else st.items h:=by
 unfold Stp.all mx;simp only [gT];by_cases G:h=c
 . subst G;by_cases M:h<st.heap.length
   . simp [M]
   . simp [M]
 . simp [G,iV (lw G)]
def F7 (st:Stp) (c i:Nat) (v:Int) (G:Nat):((st.put c i v).items G).length=(st.items G).length:=by
 unfold Stp.put;rw [CO];split
 . rename_i h;rw [h.1];simp
 . rfl
def Stp.WF.put (h:st.WF K m) (c i:Nat) (v:Int):(st.put c i v).WF K m:=
 h.same (by simp [Stp.put,Stp.all]) rfl rfl (λG x M=>(h.cell G x M).len (F7 st c i v G))
def Stp.WF.tapes (h:st.WF K m) (a b:List Int):({ st with tin:=a,tout:=b }:Stp).WF K m:=h.same rfl rfl rfl h.cell
def Stp.WF.all (h:st.WF K m) {c:Nat} {x:Int×Int} {xs:List Int} (M:K[c]? = some x) (N:cellOk x xs):(st.all c xs).WF K m:=
 h.same (by simp [Stp.all]) rfl rfl (λO U G=>by
  rw [CO];split
  . rename_i e;rw [e.1,M] at G;cases G;exact N
  . exact h.cell O U G)
def Stp.WF.transfer (h:st.WF K m) (k:Int) (c i:Nat):(st.transfer k c i).2.WF K m:=by
 have G:=λv=>h.put c i v
 unfold md
 repeat' split
 all_goals first|exact h|exact (G _).tapes _ _
def Stp.WF.move (h:st.WF K m) {d:Nat} {x:Int×Int} (G:K[d]? = some x) (M:x.1=3) (k:Int) (c i:Nat):(st.move k c i d).2.WF K m:=by
 have O:=h.cell d x G;have U:(st.items d).length<=1000:=by rcases O with ⟨N,-⟩|⟨N,-⟩|⟨-,N⟩<;>omega
 unfold mC;split
 . split
   . exact h
   . exact (h.all G (gQ (gQ ⟨M,by simp;omega⟩))).put _ _ _
 . split
   . exact h
   . split
     . exact h
     . exact (h.put _ _ _).all G (gQ (gQ ⟨M,by simp;omega⟩))
def Stp.WF.exec (h:st.WF K m) {k:Int} {s:lB} (l:List Nd) (G:(k=44\/k=45)->Ek st.cur.vars s 3=0):(st.exec k s l).2.WF K m:=by
 unfold Stp.exec;simp only;generalize (if k=43 then Bf st.look (l.getD 1 (.mk 0 0 [] [])) else if 40<=k/\k<=42 then AW st.look (l.getD 1 (.mk 0 0 [] [])) else (0,0))=r;split
 . exact h
 split
 . exact h
 split
 . exact h
 split
 . exact h.put _ _ _
 split
 . split
   . exact h
   . exact (h.put _ _ _).put _ _ _
 split
 . rename_i M;obtain ⟨i,c,x,-,-,N,-,-,O,U,-⟩:=h.use (G M);rw [N];exact h.move O U _ _ _
 . exact h.transfer _ _ _
def Kl {v:List VD} {n:Int} {l:List Nd} (h:(Nd.mk k n s l).bad v=0):(CF k≠0->Ek v s (CF k)=0)/\Fe v l=0:=by
 unfold Nd.bad at h;by_cases G:CF k≠0/\Ek v s (CF k)≠0
 . rw [AH G] at h;exact absurd h G.2
 . rw [At G] at h;exact ⟨λN=>by
    by_cases M:Ek v s (CF k)=0
    . exact M
    . exact absurd ⟨N,M⟩ G,h⟩
def Cp {v:List VD} {l:List Nd} (h:Fe v (t::l)=0):t.bad v=0/\Fe v l=0:=by
 unfold Fe at h;by_cases G:t.bad v≠0
 . rw [AH G] at h;exact absurd h G
 . rw [At G] at h;exact ⟨Ab,h⟩
def Stp.WF.run1 (h:st.WF K m) (k n:Int) (s:lB) (l:List Nd):(st.run1 k n s l).2.WF K m:=by
 unfold Stp.run1;split
 . exact h
 split
 . exact h
 . rename_i G;have:=(Kl (n:=n) (Decidable.not_not.1 G)).1;refine h.exec l (λM=>?_);have e:CF k=3:=by unfold CF;rcases M with rfl|rfl<;>decide
   rw [e] at this;exact this B7
def MZ {st:Stp} {g:Frm} (h:g∈(st.setCur f).base::(st.setCur f).calls):g=f\/g∈st.base::st.calls:=by
 unfold mp at h;split at h
 . rcases io.1 h with h|h
   . exact gP h
   . exact gQ (iU _ h)
 . rcases io.1 h with h|h
   . exact gQ (by simp only at h;rw [h];simp)
   . rcases i6.1 h with h|h
     . exact gQ (iU _ (DX h))
     . exact gP (by simpa using h)
def Stp.WF.setCur (h:st.WF K m) {f:Frm} (U:FrmWF K f) {m':Nat} (V:f.vars.length<=m') (M:m<=m'):(st.setCur f).WF K m':=by
 have key:∀g∈(st.setCur f).base::(st.setCur f).calls,FrmWF K g/\g.vars.length<=m':=λg G=>by
  rcases MZ G with rfl|G
  . exact ⟨U,V⟩
  . exact ⟨h.all' g G,jg (h.vb g G) M⟩
 have N:(st.setCur f).calls.length=st.calls.length:=by
  unfold mp;split
  . rfl
  . rename_i X;have:=List.length_pos_iff.2 X;simp only [iq,kv,gV,iG];omega
 have O:(st.setCur f).heap=st.heap:=by unfold mp;split<;>rfl
 refine ⟨by rw [O];exact h.len,(key _ AK).1,λg G=>(key g (by simp [G])).1,λc x Y=>?_,by rw [N];exact h.nc,λg G=>(key g G).2⟩;have:(st.setCur f).items c=st.items c:=by unfold mx;rw [O]
 rw [this];exact h.cell c x Y
def FrmWF.more (h:FrmWF K f) (x:Int×Int):FrmWF (K++[x]) f:=⟨h.len,h.loc,λi v c M G=>by
 have:=h.kind i v c M G;have N:c<K.length:=h.lt (iF G);rw [gW N];exact this⟩
def Stp.WF.more (h:st.WF K m) {x:Int×Int} {xs:List Int} (N:cellOk x xs):({ st with heap:=st.heap++[xs] }:Stp).WF (K++[x]) m:=by
 refine ⟨by simp [h.len],h.base.more x,λf O=>(h.calls f O).more x,λc y G=>?_,h.nc,h.vb⟩;unfold mx;simp only [gT];rcases kn c K.length with M|M|M
 . rw [gW M] at G;rw [gW (by rw [h.len];exact M)];have:=h.cell c y G;unfold mx at this;simpa only [gT] using this
 . subst M;rw [ik (ip _)] at G;rw [ik (by rw [h.len];exact ip _)];simp only [jw,iw,gU] at G;subst G;rw [h.len];simpa using N
 . rw [ic (by simp;omega)] at G;cases G
def Stp.WF.opens (h:st.WF K m) {v:VD} (N:v.kind=1\/v.kind=3) (x:Int):∃X,(st.opens v x).2.WF X (m+1):=by
 unfold Stp.opens;split
 . exact ⟨K,h.len,h.base,h.calls,h.cell,h.nc,λf V=>Nat.le_succ_of_le (h.vb f V)⟩
 . have M:=h.cur;have Y:cellOk (v.kind,v.len) (if v.kind=1 then [x] else []):=by
    rcases N with N|N
    . rw [AH N];exact gP ⟨N,rfl⟩
    . rw [At Ab];exact gQ (gQ ⟨N,AK⟩)
   have Z:=h.more Y;have V:FrmWF (K++[(v.kind,v.len)]) ⟨st.cur.vars++[v],st.cur.cells++[st.heap.length],st.cur.locals+1⟩:=by
    refine ⟨by simp [M.len],by have:=M.loc;simp;omega,λi u c G O=>?_⟩;simp only at G O;rcases kn i st.cur.vars.length with U|U|U
    . rw [gW U] at G;rw [gW (by rw [<-M.len];exact U)] at O;exact (M.more _).kind i u c G O
    . subst U;rw [ik (ip _)] at G;rw [ik (by rw [M.len];exact ip _),M.len] at O;simp only [jw,iw,gU] at G O;subst G O;rw [h.len,ik (ip _)];simp
    . rw [ic (by simp;omega)] at G;cases G
   have G:=Z.setCur V (m':=m+1) (by have:=h.curm;simp;omega) Ab;refine ⟨K++[(v.kind,v.len)],?_⟩;have e:({ st.setCur ⟨st.cur.vars++[v],st.cur.cells++[st.heap.length],st.cur.locals+1⟩ with heap:=st.heap++[if v.kind=1 then [x] else []] }:Stp)=({ st with heap:=st.heap++[if v.kind=1 then [x] else []] }:Stp).setCur ⟨st.cur.vars++[v],st.cur.cells++[st.heap.length],st.cur.locals+1⟩:=by
    generalize (if v.kind=1 then [x] else [])=q;unfold mp;by_cases M:st.calls=[]<;>simp [M]
   rw [e];exact G
def Stp.WF.closes (h:st.WF K m) (s:lB) (x:Int):(st.closes s x).2.WF K m:=by
 unfold Stp.closes;simp only;split
 . exact h
 split
 . exact h
 . rename_i O U;have N:=h.cur;refine h.setCur ⟨by simp [N.len],by have:=N.loc;simp;omega,λi v c G M=>?_⟩ (by have:=h.curm;simp;omega) (ip _);simp only [kk] at G M;split at G
   . split at M
     . exact N.kind i v c G M
     . cases M
   . cases G
def Rz {f:Frm}:∀(ps:List VD) (G:List lB),ps.length=G.length->(BQ f ps G).1=0->(BQ f ps G).2.length=ps.length /\ ∀(i:Nat) (v:VD) (c:Nat),ps[i]? = some v->(BQ f ps G).2[i]? = some c -> ∃(j:Nat) (u:VD),f.vars[j]? = some u/\f.cells.getD j 0=c/\u.kind=v.kind/\u.len=v.len
 | [],_,_,_=>⟨by simp [BQ],λi v c h=>by simp at h⟩
 | _::_,[],h,_=>by cases h
 | v::r,s::q,V,h=>by
  unfold BQ at h ⊢;cases e:BP s f.vars with
  | none=>rw [e] at h;cases h
  | some j=>
   rw [e] at h;simp only at h ⊢;by_cases M:(f.vars.getD j ⟨[],0,0⟩).kind≠v.kind\/(f.vars.getD j ⟨[],0,0⟩).len≠v.len
   . rw [AH M] at h;cases h
   . rw [At M] at h ⊢;obtain ⟨k1,X⟩:=Rz r q (by simpa using V) h;obtain ⟨u,U,-⟩:=Dj e;refine ⟨by simp [k1],λi w c N O=>?_⟩;cases i with
     | zero=>
      simp only [iw,gU] at N O;subst N O;have Y:f.vars.getD j ⟨[],0,0⟩=u:=by rw [gT,U];rfl
      rw [Y] at M;refine ⟨j,u,U,rfl,?_,?_⟩<;>omega
     | succ i=>exact X i w c (by simpa using N) (by simpa using O)
def Stp.WF.enters (h:st.WF K m) {ps:List VD} (Z:ps.length<=m) (O:List lB):(st.enters ps O).2.WF K m:=by
 unfold mI;split
 . exact h
 split
 . exact h
 split
 . exact h
 . rename_i h1 h2 h3;obtain ⟨k1,k2⟩:=Rz (f:=st.cur) ps O Ab Ab;have Y:=h.cur;have hf:FrmWF K ⟨ps,(BQ st.cur ps O).2,0⟩:=⟨k1.symm,ii _,λi v c G N=>by
    obtain ⟨j,u,U,h7,h8,h9⟩:=k2 i v c G N;have hj:j<st.cur.cells.length:=by
     rw [<-Y.len];rcases it j st.cur.vars.length with V|V
     . exact V
     . rw [ic V] at U;cases U
    have X:st.cur.cells[j]? = some c:=by rw [<-h7,gT,gN hj];rfl
    rw [<-h8,<-h9];exact Y.kind j u c U X⟩
   refine ⟨h.len,h.base,λf M=>?_,h.cell,by simp;omega,λf M=>?_⟩
   . rcases i6.1 M with G|G
     . exact h.calls f G
     . rw [iu.1 G];exact hf
   . rcases io.1 M with G|G
     . exact h.vb f (by simp only at G;rw [G];simp)
     . rcases i6.1 G with N|N
       . exact h.vb f (by simp [N])
       . rw [iu.1 N];exact Z
def Stp.WF.leaves (h:st.WF K m):(st.leaves).2.WF K m:=by
 unfold mG;split
 . exact h
 . exact ⟨h.len,h.base,λf M=>h.calls f (DX M),h.cell,by have:=h.nc;simp;omega,λf M=>h.vb f (by
    rcases io.1 M with G|G
    . simp only at G;rw [G];simp
    . simp only at G;simp [DX G])⟩
end
def M0 {α β:Type} {f:α->List β} {k:Nat} (G:∀x,(f x).length=k):∀(l:List α) (i:Nat) (x:α),l[i]? = some x->((l.flatMap f).drop (i*k)).take k=f x
 | [],i,x,h=>by simp at h
 | y::r,0,x,h=>by
  simp only [iw,gU] at h;subst h;rw [jU,kZ,jE,List.take_append_of_le_length (by rw [G];exact ip _),ki (by rw [G];exact ip _)]
 | y::r,i+1,x,h=>by
  rw [jU,show (i+1)*k=(f y).length+i*k by rw [G,jQ];omega,<-List.drop_drop,List.drop_left];exact M0 G r i x (by simpa using h)
def G3 {e:TypeId} {l:List VD} {S:nP} (h:Own w 0 e 3 v l.length (l.flatMap VD.cells)) (M:∀k,v.ownBlock=some k->S k):∃a c,v = .slice a l.length c/\VDs S w l a:=by
 rcases h.row with ⟨rfl,G,-⟩|⟨g,cap,rfl,-,N,O⟩
 . exact ⟨none,0,by rw [G],gP (List.length_eq_zero_iff.1 G)⟩
 . refine ⟨_,cap,rfl,gQ ⟨g,0,rfl,M g N,λi x U=>?_⟩⟩;have:=O.sub (i*3) 3;rw [M0 (f:=VD.cells) (k:=3) (λ_=>rfl) l i x U] at this;exact this
def Ptrs (κ:Nat->Nat) (w:wD) (l:List Nat) (a:oA):Prop:=l=[] \/ ∃g,a=some ⟨g,0,none⟩/\Row w ⟨g,0,none⟩ (l.map (Kz κ))
def M1 {e:TypeId} {l:List Nat} (h:Own w 0 e 1 v l.length (l.map (Kz κ))):∃a c,v = .slice a l.length c/\Ptrs κ w l a:=by
 rcases h.row with ⟨rfl,G,-⟩|⟨g,cap,rfl,-,N,M⟩
 . exact ⟨none,0,by rw [G],gP (List.length_eq_zero_iff.1 G)⟩
 . exact ⟨_,cap,rfl,gQ ⟨g,rfl,M⟩⟩
def Ptrs.get {l:List Nat} {a:oA} (h:Ptrs κ w l a) (G:l[i]? = some c):∃g,a=some ⟨g,0,none⟩/\Row w ⟨g,0+i*1,none⟩ [Kz κ c]:=by
 rcases h with rfl|⟨g,rfl,O⟩
 . simp at G
 . refine ⟨g,rfl,?_⟩;have:=O.sub (i*1) 1;rw [kh] at this ⊢;have M:i<l.length:=by
    rcases it i l.length with N|N
    . exact N
    . rw [ic N] at G;cases G
   have e:((l.map (Kz κ)).drop i).take 1=[Kz κ c]:=by
    rw [iB (by simpa using M)];have:l[i]=c:=by rw [gN M] at G;exact gZ G
    simp [this]
   rw [e] at this;exact this
def CU (l:List VD) (s:lB):Int:=match BP s l with
 | some i=>(i:Int)
 | none=> -1
def Jp (s:lB) (v:VD):∀l:List VD,BP s (l++[v])=if v.name=s then some l.length else BP s l
 | []=>by simp only [jJ,BP,iG]
 | u::r=>by
  rw [jC];unfold BP;rw [Jp s v r];by_cases h:v.name=s
  . simp [h]
  . simp [h]
def RA {l:List VD} {j:Nat} (G:j<l.length) (s:lB):CU (l.take (j+1)) s=if l[j].name=s then (j:Int) else CU (l.take j) s:=by
 have e:l.take (j+1)=l.take j++[l[j]]:=by rw [List.take_add_one,gN G];rfl
 unfold CU;rw [e,Jp];by_cases h:l[j].name=s
 . rw [AH h,AH h];simp;omega
 . rw [At h,At h]
def M2 (l:List VD) (hl:l.length<=1000000) (s:lB) (S:nP) (a:oA) (c:Nat) (vc Z:Value) (O U:Nat) (w:wD) (hr:Row w ⟨O,U,none⟩ [.slice a l.length c,vc,Z]) (M:VDs S w l a) :
 Calls prog 211 #[.pointer (some ⟨O,U,none⟩),str s] w λe w'=>e = .returned (.int .i64 (CU l s))/\Ext w w':=by
 have X:=Ne w;have M:=M.ltV;refine Ad func211 ntmps211 rfl rfl (eK ?_);refine C1 (AL rfl rfl (gX _ Ab)) (C1 Pa (cT ?_));refine Au ?_;refine AQ (ι:=Nat) (λj=>[(0,.pointer (some ⟨O,U,none⟩)),(1,str s),(5,.int .i64 ((j:Int)-1))])
  (λj w'=>j<=l.length/\VDs (· < w.heap.size) w' l a/\Row w' ⟨O,U,none⟩ [.slice a l.length c,vc,Z]/\Ext w w'/\CU l s=CU (l.take j) s)
  (λj=>j) l.length sB ⟨ip _,M,hr,X,by rw [im]⟩ ?_
 rintro j w1 ⟨hj,M,hb,X,h⟩;cases j with
 | zero=>
  have e0:CU l s = -1:=by rw [h];rfl
  rw [e0];refine kR ?_;exact ⟨rfl,X⟩
 | succ j=>
  have G:j<l.length:=by omega
  obtain ⟨kb,ko,rfl,kS,N⟩:=M.get (by intro e;subst e;simp at G);have r0:=N j l[j] (gN G);rw [RA G s] at h;generalize l[j]=v at *;have V:(((j+1:Nat):Int)-1)=(j:Int):=by omega
  obtain ⟨vn,vk,vl⟩:=v;replace r0:Row w1 ⟨kb,ko+j*3,none⟩ [str vn,.int .u8 vk,.int .i64 vl]:=r0;dsimp only at h;rw [V]
  focus
   refine eK ?_;refine Ay rfl (λY=>?_) (λY=>?_);refine kR ?_;rotate_left;refine eK ?_;refine C1 (AL rfl rfl (gX _ Ab)) (C1 Pa (Ak ?_));rotate_left
  . rw [AH Ae] at h;rw [h];exact ⟨rfl,X⟩
  . rw [At Ae] at h;exact AA j sB ⟨Ab,M,hb,X,h⟩ Ab
def EP (G M n sb:Nat) (N:n<=1000) (w:wD) (h:CurP w sb G M n) :
 Calls prog 210 #[pt sb] w λe w'=>e = .returned (.pointer (some ⟨G,M,none⟩))/\Ext w w':=by
 have X:=Ne w;obtain ⟨x,y,z,a,c,O,U,⟨rfl,rfl,rfl⟩|⟨V,rfl,rfl⟩⟩:=h
 . refine Ad func210 ntmps210 rfl rfl ?_;refine kR ?_;exact ⟨rfl,X⟩
 . refine Ad func210 ntmps210 rfl rfl ?_;refine eK ?_;refine C1 (AL rfl rfl (gX _ Ab)) (kR ?_);refine ⟨?_,X⟩;rw [show (0+((n:Int)-1).toNat*3)=(n-1)*3 by omega]
def ZC (k:Int) (w:wD):Calls prog 222 #[.int .u8 k] w λe w'=>e = .returned (.int .u8 (CF k))/\Ext w w':=by
 have X:=Ne w;refine Ad func222 ntmps222 rfl rfl ?_
 focus
  refine eK ?_;refine Ay rfl (λh=>?_) (λh=>?_);refine kR ?_;rotate_left;refine eK ?_;refine Ay rfl (λG=>?_) (λG=>?_);refine kR ?_;rotate_left;refine eK ?_;refine Ay rfl (λM=>?_) (λM=>?_);refine kR ?_;rotate_left;refine eK ?_;refine Ay rfl (λN=>?_) (λN=>?_);refine kR ?_;rotate_left;refine eK ?_;refine Ay rfl (λO=>?_) (λO=>?_);refine kR ?_;rotate_left;refine eK ?_;refine Ay rfl (λU=>?_) (λU=>?_);refine kR ?_;rotate_left;refine kR ?_;rotate_left
 all_goals (refine ⟨?_,X⟩;unfold CF)
 . rw [AH Ab]
 . rw [At Ab,AH Ab]
 . rw [At Ab,At Ab,AH Ab]
 . rw [At Ab,At Ab,AH Ab]
 . rw [At Ab,At Ab,AH Ab]
 . rw [At Ab,At Ab,AH Ab]
 . rw [At Ab,At Ab,At Ab]
section
variable {K:List (Int×Int)}
def EQ {st:Stp} (h:c<st.heap.length):st.heap[c]? = some (st.items c):=by
 unfold mx;rw [gT,gN h];rfl
def Vz (h:BP s st.cur.vars=none):st.look s=none:=by unfold Stp.look Frm.cell;rw [h];rfl
def VA (h:BP s st.cur.vars=some i) (G:st.cur.cells[i]? = some c):st.look s=some (st.items c)/\st.cellD s=c:=by
 have e:st.cur.cell s=some c:=by unfold Frm.cell;rw [h];simpa using G
 exact ⟨by unfold Stp.look;rw [e];rfl,by unfold Stp.cellD;rw [e];rfl⟩
def StoreAt.at (h:StoreAt ρ κ w sb st) (O:st.WF K m) (V:BP s st.cur.vars=some i):∃c M N,st.cur.cells[i]? = some c/\c<st.heap.length/\st.look s=some (st.items c)/\st.cellD s=c/\Blk w (κ c) [.slice M (st.items c).length N]/\OwnR ρ (.items c) w (.slice M (st.items c).length N) (st.items c)/\ρ (κ c) = .cell c:=by
 have U:=DY V;have G:i<st.cur.cells.length:=by rw [<-O.cur.len];exact U
 have X:=gN G;obtain ⟨e1,e2⟩:=VA V X;have Y:st.cur.cells[i]<st.heap.length:=by rw [O.len];exact O.cur.lt (ig G)
 obtain ⟨h1,v,h2,Z⟩:=h.cells _ _ (EQ Y);obtain ⟨M,N,rfl⟩:=Z.1.shape;exact ⟨_,M,N,X,Y,e1,e2,h2,Z,h1⟩
def RB (Y:st.WF K m) (hm:m<=1000000) (s:lB) (w:wD) (h:StoreAt ρ κ w sb st) :
 Calls prog 224 #[pt sb,str s] w (LookR ((st.look s).getD []) (st.look s).isSome w):=by
 have X:=Ne w;have af:=Y.curm;have ag:=Y.nc;obtain ⟨fb,fo,pre,post,T,vv,vc,ah,-,U,hf,-⟩:=h.open;obtain ⟨av,cv,rfl,N⟩:=G3 (S:=λ_=>True) hf.v.1 (λ_ _=>trivial);obtain ⟨ac,cc,rfl,aa⟩:=M1 hf.c.1;have G:=U.blk;have HC:=gO (λw1 h=>EP fb fo st.calls.length sb Ab w1 h);cases hl:BP s st.cur.vars with
 | none=>
  have O:=λw1 h1 h2=>M2 st.cur.vars Ab s (λ_=>True) av cv (.slice ac st.cur.cells.length cc) (.int .i64 st.cur.locals) fb fo w1 h1 h2
  rw [show CU st.cur.vars s = -1 by unfold CU;rw [hl]] at O;have O:=gO O;rw [Vz hl];generalize st.cur.cells.length=n2 at *;generalize st.cur.vars=vs at *;generalize st.calls.length=nc at *;refine Ad func224 ntmps224 rfl rfl (kC (HC.out _ Ae) ?_);rintro _ w2 ⟨⟨⟩,x1⟩;revert X N G;refine eE x1 ?_;intro X N G;refine kC (O.out _ Ae Ae) ?_;rintro _ w5 ⟨⟨⟩,x4⟩;have X:=X.ext x4;refine kT ?_;exact ⟨none,0,rfl,gP rfl,AK,X⟩
 | some i=>
  have O:=λw1 h1 h2=>M2 st.cur.vars Ab s (λ_=>True) av cv (.slice ac st.cur.cells.length cc) (.int .i64 st.cur.locals) fb fo w1 h1 h2
  rw [show CU st.cur.vars s=(i:Int) by unfold CU;rw [hl]] at O;have O:=gO O;obtain ⟨c,a',c',e1,e2,e3,e4,Z,ho,-⟩:=h.at Y hl;have ab:=Y.look_le e3;obtain ⟨g,rfl,r1⟩:=aa.get e1;have ai:i<st.cur.cells.length:=by
   rcases it i st.cur.cells.length with h'|h'
   . exact h'
   . rw [ic h'] at e1;cases e1
  have V:Row w ⟨g,0+(i:Int).toNat*1,none⟩ [Kz κ c]:=r1;have M:=ho.1.at;rw [e3];unfold Kz at V;generalize κ c=cb at *;generalize st.items c=xs at *;generalize st.cur.cells.length=n2 at *;generalize st.cur.vars=vs at *;generalize st.calls.length=nc at *;refine Ad func224 ntmps224 rfl rfl (kC (HC.out _ Ae) ?_);rintro _ aj ⟨⟨⟩,ad⟩;revert X V M Z N G;refine eE ad ?_;intro X V M Z N G;refine kC (O.out _ Ae Ae) ?_;rintro _ ak ⟨⟨⟩,ae⟩;revert X V M Z G;refine eE ae ?_;intro X V M Z G;refine eK ?_;refine C1 (Pw G) (kT ?_);exact ⟨_,_,rfl,M,ab,X⟩
def cG (M:st.WF K m) (N:m<=1000000) (s:lB) (w:wD) (h:StoreAt ρ κ w sb st) :
 Calls prog 220 #[pt sb,str s] w (LookR ((st.look s).getD []) (st.look s).isSome w):=by
 have X:=Ne w;have O:=gO (RB M N s w h);generalize (st.look s).isSome=q at *;generalize (st.look s).getD []=xs at *;refine Ad func220 ntmps220 rfl rfl (eK ?_);refine C1 (A2 Ac rfl rfl) (kQ (O.out) ?_);rintro _ w6 ⟨a1,c2,⟨⟩,h3,h4,U⟩;have X:=X.ext U;refine kQ (FC xs Ab _ _ _ Ae) ?_;rintro _ V ⟨a8,c9,⟨⟩,Y,Z,G⟩;have X:=X.ext G;refine kT ?_;exact ⟨_,_,rfl,OwnI.at Ae,Ab,X⟩
def M3 (Z:st.WF K m) (hm:m<=1000000) (s:lB) (hl:BP s st.cur.vars=some i) (w:wD) (h:StoreAt ρ κ w sb st) :
 Calls prog 225 #[pt sb,str s] w λe w'=>e = .returned (.pointer (some ⟨κ (st.cellD s),0,none⟩))/\Ext w w':=by
 have X:=Ne w;have aa:=Z.curm;have ab:=Z.nc;obtain ⟨fb,fo,pre,post,T,vv,vc,ad,-,U,hf,-⟩:=h.open;obtain ⟨av,cv,rfl,N⟩:=G3 (S:=λ_=>True) hf.v.1 (λ_ _=>trivial);obtain ⟨ac,cc,rfl,Y⟩:=M1 hf.c.1;have G:=U.blk;have HC:=gO (λw1 h=>EP fb fo st.calls.length sb Ab w1 h);have hF:=λw1 h1 h2=>M2 st.cur.vars Ab s (λ_=>True) av cv (.slice ac st.cur.cells.length cc) (.int .i64 st.cur.locals) fb fo w1 h1 h2
 rw [show CU st.cur.vars s=(i:Int) by unfold CU;rw [hl]] at hF;have hF:=gO hF;obtain ⟨c,a',c',e1,e2,e3,e4,-⟩:=h.at Z hl;obtain ⟨g,rfl,r1⟩:=Y.get e1;have ae:i<st.cur.cells.length:=by
  rcases it i st.cur.cells.length with h'|h'
  . exact h'
  . rw [ic h'] at e1;cases e1
 have V:Row w ⟨g,0+(i:Int).toNat*1,none⟩ [Kz κ c]:=r1;rw [e4];clear h hf U Y Z r1 e1 e2 e3 e4;unfold Kz at V;generalize κ c=cb at *;generalize st.cur.cells.length=n2 at *;generalize st.cur.vars=vs at *;generalize st.calls.length=nc at *;refine Ad func225 ntmps225 rfl rfl ?_;refine kC (HC.out _ Ae) ?_;rintro _ w2 ⟨⟨⟩,x1⟩;revert X V N G;refine eE x1 ?_;intro X V N G;refine eK ?_;refine Aq (λwz=>Ext w2 wz) 7 (.pure 0 (.pure 1 (.pure 2 (.pure 3 (.pure 4 (.pure 5 (.fork 6 .tail .none))))))) mixed AU (Aa Ag) ?_;intro w4 x5 _;have M:(λwz=>Ext w2 wz) w4:=x5;simp only at M;have O:=G;revert X V N G;refine eE x5 ?_;intro X V N G;refine ⟨M,?_⟩;refine eT ?_;refine Tq rfl (Dr O) (Tq rfl Mv (Tq rfl Mv ?_));refine tC rfl rfl (hF.out _ Ae Ae) ?_;rintro _ af ⟨⟨⟩,x9⟩;revert M X V;refine eE x9 ?_;intro M X V;refine ⟨M,?_⟩;refine Ar rfl ?_;refine kR ?_;exact ⟨rfl,X⟩
end
def ZD (vs:List VD) (hv:vs.length<=1000000) (av:oA) (cv:Nat) (vc nl:Value) (fb fo:Nat) (N:Nat):∀(t:Nd) (S S':nP) (a:oA) (c:Nat) (w:wD),t.size<N->t.size<=1000000000->t.sits S w a->Row w ⟨fb,fo,none⟩ [.slice av vs.length cv,vc,nl]->VDs S' w vs av ->
 Calls prog 216 #[.pointer (some ⟨fb,fo,none⟩),t.val a c] w λe w'=>e = .returned (.int .i64 (t.bad vs))/\Ext w w':=by
 induction N with
 | zero=>intro t S S' a c w h;omega
 | succ N ih=>
  rintro ⟨k,n,s,l⟩ S S' a c w hN hM O U M;have IH:=gO ih;clear ih;simp only [Nd.sits] at O;simp only [Nd.size] at hN hM;have X:=Ne w;have hl:=Cz l;have O:=Ci _ _ O;have M:=M.ltV;have bk:fb<w.heap.size:=Cs (U.at0 rfl);have HF:=gO (λw1 h1=>PF vs hv s (· < w.heap.size) av cv w1 h1);rw [Nd.bad];change Calls prog _ #[.pointer (some ⟨fb,fo,none⟩),.agg #[.int .u8 k,.int .i64 n,str s,.slice a l.length c]] w _;generalize hq:(Ea vs s).isSome=q at HF;generalize hz:(Ea vs s).getD W7=z at HF;obtain ⟨zn,zk,zl⟩:=z;have hu:Ek vs s (CF k)=if q=false then 6 else if zk=CF k then 0 else 7:=by
   unfold Ek;cases hf:Ea vs s with
   | none=>rw [hf] at hq;subst hq;rfl
   | some v=>rw [hf] at hq hz;subst hq;simp only [kf] at hz;rw [hz];rfl
  rw [hu];clear hq hz hu;generalize hn:CF k=nk at *;have HN:=ZC k;rw [hn] at HN;have HN:=gO HN;refine Ad func216 ntmps216 rfl rfl ?_;refine cS (eB [_,_,_,_] ?_);intro b1 w2 V x5 p6 z7;revert U X O M;refine eE x5 ?_;intro U X O M;refine kC (HN.out _) ?_;rintro _ w9 ⟨⟨⟩,x8⟩;revert V U X O M;refine eY x8 ?_;intro bl V U X O M;refine C1 Pa (cT ?_);refine DD (ι:=Unit) (λ_=>[(0,.pointer (some ⟨fb,fo,none⟩)),(3,pt b1)]) (λ_ w'=>Row w' ⟨fb,fo,none⟩ [.slice av vs.length cv,vc,nl]/\VDs (· < w.heap.size) w' vs av/\rowSits (· < w.heap.size) w' l a/\Blk w' b1 [.int .u8 k,.int .i64 n,str s,.slice a l.length c]/\Ext w w' /\ ¬(nk≠0/\(if q=false then (6:Int) else if zk=nk then 0 else 7)≠0)) ?_ ?_
  . focus
     refine eK ?_;refine BS rfl (λay=>?_) (λay=>?_);refine Aj (Aq (λwz=>Ext w9 wz) 12 (.pure 0 (.pure 1 (.pure 2 (.pure 3 (.pure 4 (.pure 5 (.fork 6 (.pure 7 (.pure 8 (.pure 9 (.fork 10 (.fork 11 .tail .none) .none)))) (.fork 10 (.fork 6 (.pure 7 (.pure 8 (.pure 9 (.fork 11 .tail .none)))) .none) .none)))))))) mixed AU (Aa (Aa Ag)) ?_);intro az ah _;have G:(λwz=>Ext w9 wz) az:=ah;simp only at G;have ai:=V;have aj:=U;revert V U X O M;refine eY ah ?_;intro bm V U X O M;refine ⟨G,?_⟩;refine eT ?_;refine Tq rfl (Ap Ac rfl rfl rfl (λwz hz=>mb (l5 aj hz) rfl)) (Tq rfl Pf (Tq rfl (Db ai) ?_));refine AE rfl (AN AU rfl (HF.out _ Ae) (λ_ _ h=>⟨_,h.1⟩)) rfl ?_ aFh ?kra6;rintro _ bn ⟨⟨⟩,a0⟩;revert G V U X O M;refine eY a0 ?_;intro bo G V U X O M;refine ⟨G,?_⟩;refine eT ?_;refine AE rfl (Bb CJ rfl) rfl ?_ aFh AC;rintro _ a5 ⟨a6,rfl,Z⟩;have ae:=Z.blk;dsimp only at ae;have ak:=Z.ext;have a7:=Z.pos;have a8:=Z.size;revert G V U X O M;refine eE ak ?_;intro G V U X O M;refine ⟨G,?_⟩;refine Dm [_,_,_] [_,_,_] rfl Ac rfl rfl rfl rfl rfl rfl ae rfl rfl ?_ AC;intro a9 ac;have ba:=ac.blk;have al:=ac.fr;have bb:=ac.size;revert G V U X O M;refine eF al ?_;intro G V U X O M;refine ⟨G,?_⟩;refine Ar rfl (C1 Pa (cT (Aj (cS (C1 Mv (C1 Pt (cT ?_)))))));refine JG rfl (λam=>?_) (λam=>?_);refine kR ?_;rotate_left;refine eK ?_;refine BS rfl (λan=>?_) (λan=>?_);refine kR ?_;rotate_left;refine Ao ?_;rotate_left;refine AE rfl (Bb CJ rfl) rfl ?_ aFh AC;rintro _ bc ⟨bd,rfl,aa⟩;have ab:=aa.blk;dsimp only at ab;have ao:=aa.ext;have be:=aa.pos;have bf:=aa.size;revert G V U X O M;refine eE ao ?_;intro G V U X O M;refine ⟨G,?_⟩;refine tC rfl rfl (HF.out _ Ae) ?_;rintro _ bg ⟨⟨⟩,ap⟩;revert ab G V U X O M;refine eE ap ?_;intro ab G V U X O M;refine ⟨G,?_⟩;refine eT ?_;refine Dm [_,_,_] [_,_,_] rfl Ac rfl rfl rfl rfl rfl rfl ab rfl rfl ?_ AC;intro bh af;have bi:=af.blk;have aq:=af.fr;revert G V U X O M;refine eF aq ?_;intro G V U X O M;refine ⟨G,?_⟩;refine Ar rfl (C1 Pa (cT (Aj (cS (C1 Mv (C1 Pt (cT ?_)))))))
     refine JG rfl (λar=>?_) (λar=>?_);refine kR ?_;rotate_left;refine eK ?_;refine BS rfl (λau=>?_) (λau=>?_);refine kR ?_;rotate_left;refine Ao ?_;rotate_left;refine Ao ?_;rotate_left
    all_goals first
     | exact ⟨by rw [AH (show q=false by assumption),AH ⟨Ae,B7⟩],X⟩
     | exact ⟨by rw [At (show ¬q=false by simp [*]),At (show ¬zk=nk by assumption),AH ⟨Ae,B7⟩],X⟩
     | exact BY () sB ⟨Ae,Ae,Ae,Ae,X,λh=>h.1 Ae⟩
     | exact BY () sB ⟨Ae,Ae,Ae,Ae,X,λh=>h.2 (by rw [At (show ¬q=false by simp [*]),AH (show zk=nk by assumption)])⟩
  clear O U M X HF HN;rintro-w1 ⟨U,M,O,hb,X,aw⟩;rw [At aw];clear aw hn;refine Aj (cS (C1 Pf (C1 (Pl hb) (C1 Pz (C1 Mv (cT ?_))))));clear V hb;refine Au ?_;refine AQ (ι:=Nat) (λj=>[(0,.pointer (some ⟨fb,fo,none⟩)),(33,.slice a l.length c),(34,.int .i64 l.length),(35,.int .i64 j)])
   (λj w'=>j<=l.length/\Row w' ⟨fb,fo,none⟩ [.slice av vs.length cv,vc,nl]/\VDs (· < w.heap.size) w' vs av/\rowSits (· < w.heap.size) w' l a/\Ext w w'/\Fe vs l=Fe vs (l.drop j))
   (λj=>l.length-j) 0 sB ⟨ii _,U,M,O,X,rfl⟩ ?_
  clear U M O X;rintro j w1 ⟨hj,U,M,O,X,Y⟩;by_cases ad:j<l.length
  . obtain ⟨kb,ko,rfl,bp,ag⟩:=BG O (by intro e;subst e;simp at ad);obtain ⟨xa,xc,rx,sx⟩:=ag j l[j] (gN ad);have bq:=Ei (ig ad);rw [iB ad,Fe] at Y;clear ag;generalize l[j]=x at *;have HX:=gO (IH.out x (· < w.heap.size) (· < w.heap.size) xa xc);generalize a1:x.bad vs=xb at *;obtain ⟨xk,xn,xs,xl⟩:=x;replace rx:Row w1 ⟨kb,ko+j*4,none⟩ [.int .u8 xk,.int .i64 xn,str xs,.slice xa xl.length xc]:=rx;clear a1
    focus
     refine eK ?_;refine xA [_,_,_,_] ?_;intro br bs a2;refine eI [_,_,_,_] a2 ?_;intro bt bu a3 _ _;revert U M X O sx;refine eE a3 ?_;intro U M X O sx;refine kC (HX.out _ Ab Ab Ae Ae Ae) ?_;rintro _ bj ⟨⟨⟩,a4⟩;revert U M X O;refine eE a4 ?_;intro U M X O;refine eK ?_;refine BS rfl (λax=>?_) (λax=>?_);refine kR ?_;rotate_left;refine Ao (Ah (Ai (Al (C1 V7 (C1 Mv (Ak ?_))))));rotate_left
    . exact ⟨by rw [Y,AH Ae],X⟩
    . refine AA (j+1) sB ⟨Ab,U,M,O,X,?_⟩ Ab;rw [Y,At (λh=>h Ae)]
  . have:j=l.length:=by omega
    subst this;rw [kA] at Y;rw [Y];refine kR ?_;exact ⟨rfl,X⟩
def ZE (k:Int) (hk:40<=k/\k<=49) (w:wD):Calls prog 215 #[.int .u8 k] w λe w'=>e = .returned (.bool true)/\Ext w w':=by
 have X:=Ne w;refine Ad func215 ntmps215 rfl rfl ?_
 focus
  refine eK ?_;refine Ay rfl (λh=>?_) (λh=>?_);refine kR ?_;rotate_left;refine eK ?_;refine Ay rfl (λG=>?_) (λG=>?_);refine kR ?_;rotate_left;refine eK ?_;refine Ay rfl (λM=>?_) (λM=>?_);refine kR ?_;rotate_left;refine eK ?_;refine Ay rfl (λN=>?_) (λN=>?_);refine kR ?_;rotate_left;refine eK ?_;refine Ay rfl (λO=>?_) (λO=>?_);refine kR ?_;rotate_left;refine eK ?_;refine Ay rfl (λU=>?_) (λU=>?_);refine kR ?_;rotate_left;refine eK ?_;refine Ay rfl (λV=>?_) (λV=>?_);refine kR ?_;rotate_left;refine eK ?_;refine Ay rfl (λY=>?_) (λY=>?_);refine kR ?_;rotate_left;refine eK ?_;refine Ay rfl (λZ=>?_) (λZ=>?_);refine kR ?_;rotate_left;refine kR ?_;rotate_left
 all_goals first
  | exact ⟨rfl,X⟩
  | (exfalso;omega)
def VB (k:Int) (Z:¬(k=50\/k=51)) (w:wD):Calls prog 214 #[.int .u8 k] w λe w'=>e = .returned (.int .u8 (A9 k))/\Ext w w':=by
 have X:=Ne w;refine Ad func214 ntmps214 rfl rfl ?_
 focus
  refine eK ?_;refine Ay rfl (λh=>?_) (λh=>?_);refine kR ?_;rotate_left;refine eK ?_;refine Ay rfl (λG=>?_) (λG=>?_);refine kR ?_;rotate_left;refine eK ?_;refine Ay rfl (λM=>?_) (λM=>?_);refine kR ?_;rotate_left;refine eK ?_;refine Ay rfl (λN=>?_) (λN=>?_);refine kR ?_;rotate_left;refine eK ?_;refine Ay rfl (λO=>?_) (λO=>?_);refine kR ?_;rotate_left;refine eK ?_;refine Ay rfl (λU=>?_) (λU=>?_);refine kR ?_;rotate_left;refine eK ?_;refine Ay rfl (λV=>?_) (λV=>?_);refine kR ?_;rotate_left;refine eK ?_;refine Ay rfl (λY=>?_) (λY=>?_);refine kR ?_;rotate_left;refine kR ?_;rotate_left
 all_goals (refine ⟨?_,X⟩;unfold A9)
 all_goals first
  | (subst k;rfl)
  | (repeat rw [At Ab])
def VC (ρ:Nat->Rl) (w w':wD) (r:Rl):Nat->Rl:=λb=>if w.heap.size<=b/\b<w'.heap.size then r else ρ b
def Xs (ρ:Nat->Rl) (w w':wD) (r:Rl):Ro ρ (VC ρ w w' r) w:=λb h=>At Ab
def Ue (ρ:Nat->Rl) (r:Rl) (h:w.heap.size<=b) (G:b<w'.heap.size):VC ρ w w' r b=r:=AH ⟨h,G⟩
def OA {r:Rl} (h:Fresh ρ w) (G:w.heap.size<=w'.heap.size):Fresh (VC ρ w w' r) w':=λb M=>by
 unfold VC;rw [At Ab];exact h b Ab
section
variable {l:Sl} {tab:Tab} {zt:Ey}
def Fs {t sz k cap:Nat} {sE:Sk} {zs:lV} {p:Addr} (T:TabOk P tab) (Z:Ct P zt) (ht:AB tab t=some (.slice e,i)) (hE:AB tab e=some (sE,sz)) (hz:CP zt e=some zs) (hzl:zs.length=sz)
 (hby:Dt P e=true) (hsz:iE 0 sz=true) (hx:ev l x=some v) (hy:ev l y=some (.slice (some p) m cap)) (hown:Own w b e sz v k cs) (hr:Row w p us) (hul:us.length=m*sz) (hu:us.all mq=true) (hkm:k+m<=100000000000) (hm0:0<k+m) (hb:b<=w.heap.size) :
 BE P n l (.call ⟨.builtin .append,#[x,y],#[t,t]⟩) ty w (Gd λo w'=> ∃g cap,o = .slice (some ⟨g,0,none⟩) (k+m) cap/\Own w' b e sz (.slice (some ⟨g,0,none⟩) (k+m) cap) (k+m) (cs++us)/\Fr (λk=>v.ownBlock=some k) w w'/\(v.ownBlock=some g\/w.heap.size<=g)/\g<w'.heap.size):=by
 have hd:=D9 (P:=P) (n:=n) (l:=l) (ty:=ty) T Z ht hE hz hzl hby hsz hx hy hown hr hul hu hkm hm0 hb;unfold BE at hd ⊢;intro a dst pos after g next Q ha hn c;refine hd a dst pos after g next Q ha (λv' w' hG=>?_) (λw' hG=>hG.elim);obtain ⟨g1,g2,g,cap',g3,g4⟩:=hG;exact hn v' w' ⟨g,cap',g3,g3▸g1,g2,g4,(g1.blk (k:=g) (by rw [g3];rfl)).2⟩
end
section
variable {j:Nat}
def AddR (ρ:Nat->Rl) (κ:Nat->Nat) (j fb fo:Nat) (pre post:lV) (T:TypeId) (nl:Value) (f:Frm) (w:wD):Ending->wD->Prop:=λe w'=> ∃vv vc ρ',e = .returned (.tuple #[])/\Ro ρ ρ' w/\Fresh ρ' w'/\Win w' fb fo [vv,vc,nl] pre post T/\FrameOk ρ' κ w' j f vv vc/\Fr (Fq ρ j fb) w w'
def AddR.ret {N:Value} {e:Ending} (h:AddR ρ κ j n m cs us T N f w e w'):∃v,e = .returned v:=by
 obtain ⟨_,_,_,h,-⟩:=h;exact ⟨_,h⟩
def Uf (f:Frm) (v:VD) (c Z fo:Nat) (pre post:lV) (T:TypeId) (vv vc nl:Value) (w:wD) (hF:FrameOk ρ κ w j f vv vc) (hw:Win w Z fo [vv,vc,nl] pre post T) (hr:ρ Z≠.vars j/\ρ Z≠.cels j) (an:Fresh ρ w) (hv:f.vars.length<=1000000) (hc:f.cells.length<=1000000) :
 Calls prog 158 #[.pointer (some ⟨Z,fo,none⟩),v.val,Kz κ c] w (AddR ρ κ j Z fo pre post T nl ⟨f.vars++[v],f.cells++[c],f.locals⟩ w):=by
 obtain ⟨⟨ov,rv⟩,X,rc⟩:=hF;have a1:Z<w.heap.size:=hw.1.blk.lt;have F:=lZ (Fq ρ j Z) w;have n1:∀k,vv.ownBlock=some k->ρ k = .vars j/\k<w.heap.size:=λk G=>⟨rv k G,(ov.blk G).2⟩
 have n2:∀k,vc.ownBlock=some k->ρ k = .cels j/\k<w.heap.size:=λk G=>⟨rc k G,(X.blk G).2⟩
 have d1:∀k,vv.ownBlock=some k -> ¬k=Z:=λk G e=>by subst e;exact hr.1 (n1 k G).1
 have d2:∀k,vc.ownBlock=some k -> ¬k=Z:=λk G e=>by subst e;exact hr.2 (n2 k G).1
 have d3:∀k,vc.ownBlock=some k -> ¬vv.ownBlock=some k:=λk G e=>by have:=(n1 k e).1;rw [(n2 k G).1] at this;cases this
 obtain ⟨vn,vk,vl⟩:=v;generalize hN:f.vars.length=N at *;generalize hM:f.cells.length=M at *;generalize hV:f.vars.flatMap VD.cells=V at *;generalize hC:f.cells.map (Kz κ)=C at *;change Calls prog _ #[_,.agg #[str vn,.int .u8 vk,.int .i64 vl],pt (κ c)] w _;refine Ad func158 ntmps158 rfl rfl ?_;have av:=gO an;clear an;refine cS (eB [_,_,_] ?_);intro b1 w2 h4 x5 p6 z7;revert hw F ov X;refine eE x5 ?_;intro hw F ov X;refine eK ?_;refine Aq (λwz=>Fr ((λk=>vv.ownBlock=some k)) w2 wz) 8 (.pure 0 (.pure 1 (.pure 2 (.pure 3 (.pure 4 (.pure 5 (.fork 6 (.fork 7 .tail .none) .none))))))) mixed AU (Aa Ag) ?_;intro w8 x9 _;have O:(λwz=>Fr ((λk=>vv.ownBlock=some k)) w2 wz) w8:=lX x9;simp only at O;have ao:=h4;have ap:=hw;revert hw F ov X;refine eY x9 ?_;intro a2 hw F ov X;refine ⟨O,?_⟩;refine eT ?_;refine Tq rfl (Ap Ac rfl rfl rfl (λwz hz=>mb (mo (Win.blk ap) hz (λh=>d1 _ h rfl)) rfl)) (Tq rfl (xL [_,_,_] (λwz hz=>(lY ao hz (λh=>by have:=(n1 _ h).2;omega)))) ?_);refine AE rfl (xS [_,_,_]) rfl ?_ aFh AC;rintro _ ah ⟨a3,rfl,ad,a4⟩;have a5:=ad.blk;have aw:=ad.ext;have a6:=ad.pos;have a7:=ad.size;revert O hw F ov X;refine eE aw ?_;intro O hw F ov X;refine ⟨O,?_⟩;refine AE rfl (Fs Ac CJ rfl rfl rfl rfl AU rfl rfl rfl Ae (mi Ae) rfl rfl Ab Ab (ii _)) rfl ?_ aFh AC;rintro _ ai ⟨ae,ax,rfl,U,aa,af,a8⟩
 have a9:=aa.size;have O:=l8 O aa (λk G=>gP G);have hw:=Win.fr hw aa (λh=>d1 _ h rfl);have F:=l8 F aa (λk G=>gP (gQ (gP (n1 k G).1)));clear ov;have X:=mu X aa (λk G Y=>d3 k G Y);refine ⟨O,?_⟩;refine Ar rfl ?_;refine eK ?_;refine A6 (Fp Z fo [_,_,_] Ac rfl rfl rfl rfl rfl rfl Ae rfl rfl) (BH ?_);rintro _ ba ⟨ab,aj,bb⟩;have U:=mu U aj (λk G Y=>by (obtain rfl:=gZ (show some ae=some k from G);rcases af with h|h;exact d1 _ h Y;omega));clear hw;have F:=l8 F aj (λk G=>gP (gP G));have X:=mu X aj (λk G Y=>d2 k G Y);refine eK ?_;refine Do Ac rfl rfl rfl (Win.blk ab) rfl rfl (C1 Mv ?_);refine Ax (xS [_]) rfl ?_ aFh;rintro _ ak ⟨bc,rfl,ag,bd⟩;have be:=ag.blk;have ay:=ag.ext;have bf:=ag.pos;have bg:=ag.size;revert ab U F X;refine eE ay ?_;intro ab U F X;refine Ax (Fs Ac CJ rfl rfl rfl rfl AU rfl rfl rfl Ae (mi Ae) rfl rfl Ab Ab (ii _)) rfl ?_ aFh;rintro _ al ⟨aq,az,rfl,ar,ac,au,bh⟩;have bi:=ac.size;have ab:=Win.fr ab ac (λh=>d2 _ h rfl);have U:=mu U ac (λk G Y=>by (obtain rfl:=gZ (show some ae=some k from G);rcases af with h|h;exact d3 _ Y h;have:=(n2 _ Y).2;omega));have F:=l8 F ac (λk G=>gP (gQ (gQ (n2 k G).1)));clear X ac;refine eK ?_;refine A6 (CA Z fo 1 [_,_,_] Ac rfl rfl rfl rfl rfl rfl Ae rfl rfl) (BH ?_);rintro _ bj ⟨a0,am,bk⟩;have ar:=mu ar am (λk G Y=>by (obtain rfl:=gZ (show some aq=some k from G);rcases au with h|h;exact d2 _ h Y;omega));have U:=mu U am (λk G Y=>by (obtain rfl:=gZ (show some ae=some k from G);rcases af with h|h;exact d1 _ h Y;omega));have F:=l8 F am (λk G=>gP (gP G));refine Ak (Bm rfl ?_)
 have e1:∀b,VC (VC ρ ah ai (.vars j)) ak al (.cels j) b=if ak.heap.size<=b/\b<al.heap.size then .cels j else if ah.heap.size<=b/\b<ai.heap.size then .vars j else ρ b:=λb=>rfl
 refine ⟨_,_,VC (VC ρ ah ai (.vars j)) ak al (.cels j),rfl,λb hb=>?_,λb hb=>?_,a0,⟨⟨?_,λk G=>?_⟩,?_,λk G=>?_⟩,F⟩
 . rw [e1,At Ab,At Ab]
 . rw [e1,At Ab,At Ab];exact av.out b Ab
 . rw [jL,hV,iq,hN];assumption
 . obtain rfl:=gZ (show some ae=some k from G);rw [e1];rcases af with h|h
   . have:=(n1 _ h).2;rw [At Ab,At Ab];exact (n1 _ h).1
   . rw [At Ab,AH Ab]
 . rw [jm,hC,iq,hM];assumption
 . obtain rfl:=gZ (show some aq=some k from G);rw [e1];rcases au with h|h
   . have:=(n2 _ h).2;rw [At Ab,At Ab];exact (n2 _ h).1
   . rw [AH Ab]
end
def PQ (ops:Array Oper) (wr:List Nat) (i:Nat):Prop:= ∀(listed:Array Bool) (j:Nat) (o:Oper),DC ops listed->listed.getD j true=false->wr.contains j=true->ops[j]? = some o->(∀e∈o.after,jh .any e=true->listed.getD e.on false=true)->listed.getD i false=true
def PR (ops:Array Oper) (E wr:List Nat) (j0:Nat):Bool:=(E.all λi=>iE i ops.size&&(List.range' (i+1) (ops.size-(i+1))).any λm=>(jv m j0||E.contains m)&&JH ops m i)&&wr.all λj=>jv j j0||JH ops j j0
def M4 {ops:Array Oper} {E wr:List Nat} (h:PR ops E wr n=true) (hE:E.contains i=true):PQ ops wr i:=by
 simp only [PR,gR,iN] at h;obtain ⟨h1,h2⟩:=h;intro G j o V ag hj ho N;have M:=h2 j (by simpa using hj);simp only [jc] at M;have O:∀o0,ops[n]? = some o0 -> ∀e∈o0.after,jh .any e=true->G.getD e.on false=true:=by
  intro o0 U;rcases M with M|M
  . have ac:=iM M;subst ac;rw [ho] at U;obtain rfl:=gZ U;exact N
  . obtain ⟨oj,e',X,ad,ae,Y⟩:=EC M;rw [ho] at X;obtain rfl:=gZ X;have hl:=N e' ad ae;rw [Y] at hl;exact V n o0 U hl
 have key:∀d i,ops.size-i<=d->E.contains i=true->G.getD i false=true:=by
  intro d
  induction d with
  | zero=>
   intro i hd hi;have:=iA (h1 i (by simpa using hi)).1;omega
  | succ d ih=>
   intro i hd hi;have hg:=h1 i (by simpa using hi);simp only [ke,kK,gR,jc] at hg;obtain ⟨-,m,hm,Z,hw⟩:=hg;obtain ⟨om,e,aa,he,hb,ab⟩:=EC hw;rcases Z with Z|Z
   . have af:=iM Z;subst af;have:=O om aa e he hb;rwa [ab] at this
   . have hl:=ih m Ab Z;have:=V m om aa hl e he hb;rwa [ab] at this
 exact key _ i (ip _) hE
section
variable {ops:Array Oper} {Q:Exit->Act->wD->Prop} {S2:wD->Prop} {E wr:List Nat} {K:Nat}
def KW (P:Program) (ops:Array Oper) (Q:Exit->Act->wD->Prop) (S S2:wD->Prop) (wr:List Nat) (K:Nat):Nat->Array Bool->Act->wD->Prop
 | 0,listed,a,w=>iH .any ops listed=[]/\Q .normal a w
 | fuel+1,listed,a,w=>
  (iH .any ops listed=[]->Q .normal a w) /\
  ∀i∈iH .any ops listed,wpOp P ops Q i (λa' w'=>(wr.contains i=false->(S w->S w')/\(S2 w->S2 w'))/\(wr.contains i=true->i<K->S2 w')/\KW P ops Q S S2 wr K fuel (listed.setIfInBounds i true) a' w') a w
def M5:∀(G:Nat) (M:Array Bool) (a:Act) (w:wD),KW P ops Q S S2 wr K G M a w->wpAny P .any ops Q G M a w
 | 0,_,_,_,h=>h
 | G+1,_,_,_,h=>⟨h.1,λi N=>wpOp_mono (λO w' U=>M5 G _ O w' U.2.2) (h.2 i N)⟩
def Km {oi:Oper} {T:wD->Prop} (hi:ops[i]? = some oi) (hT:(PQ ops wr i/\T=S)\/(Ej ops K i/\T=S2)) (ae:wr.contains i=false) (ab:∀(j:Nat) (o:Oper) cs b,ops[j]? = some o->o.op≠.select cs b)
 (hQ:∀c a w,Q (.panic c) (a.put oi.dst v) w->Q (.panic c) a w) :
 ∀(M:Nat) (G:Array Bool) (a:Act) (w:wD),DC ops G ->
  (∀j Z,ops[j]? = some Z->j≠i->G.getD j true=false->(∀e∈Z.after,jh .any e=true->e.on≠i)->oi.apart ops Z=true) ->
  i∈iH .any ops G->YieldsIf P ops T oi v a->T w ->
  KW P ops Q S S2 wr K M (G.setIfInBounds i true) (a.put oi.dst v) w->KW P ops Q S S2 wr K (M+1) G a w:=by
 intro M
 induction M with
 | zero=>
  intro G a w _ _ hr hy hS H;refine ⟨λh=>(by rw [h] at hr;cases hr),λj hj=>?_⟩;by_cases N:j=i
  . subst N;exact hy.wpOp hi hS ⟨λ_=>⟨id,id⟩,λe=>(by rw [ae] at e;cases e),H⟩
  . have:=ready_mono hj N;rw [H.1] at this;cases this
 | succ M ih=>
  intro G a w ac U hr hy hS H;refine ⟨λh=>(by rw [h] at hr;cases hr),λj hj=>?_⟩;by_cases N:j=i
  . subst N;exact hy.wpOp hi hS ⟨λ_=>⟨id,id⟩,λe=>(by rw [ae] at e;cases e),H⟩
  . have h1:=H.2 j (ready_mono hj N);obtain ⟨V,Z,X,Y⟩:=mem_ready.1 hj;have O:¬G.getD i false=true:=λhc=>by
     have h0:=(mem_ready.1 hr).1;rcases it i G.size with h'|h'
     . simp [h'] at h0 hc;rw [h0] at hc;cases hc
     . simp [iQ h'] at hc
    have ah:∀w',(wr.contains j=false->(S w->S w')/\(S2 w->S2 w'))->(wr.contains j=true->j<K->S2 w')->T w':=λw' h' h2=>by
     rcases hT with ⟨ad,rfl⟩|⟨ad,rfl⟩
     . cases hej:wr.contains j
       . exact (h' hej).1 hS
       . exact absurd (ad G j Z ac V hej X Y) O
     . cases hej:wr.contains j
       . exact (h' hej).2 hS
       . rcases it j K with h|h
         . exact h2 hej h
         . exact absurd (ad G j Z ac h X Y) O
    have af:∀e∈Z.after,jh .any e=true->e.on≠i:=λe he hb ai=>O (ai▸Y e he hb)
    have h2:=wpOp_putIf X (U j Z X N V af) (λcs b=>ab i oi cs b hi) (λcs b=>ab j Z cs b X) hQ hy h1;have aa:∀k ok,ops[k]? = some ok->k≠i->(G.setIfInBounds j true).getD k true=false ->
     (∀e∈ok.after,jh .any e=true->e.on≠i)->oi.apart ops ok=true:=λk ok hk aj O ak=>by
     refine U k ok hk aj ?_ ak;by_cases ag:j=k
     . subst ag;exact V
     . rw [getD_set_ne true ag] at O;exact O
    refine wpOp_mono (λa' w' h3=>⟨h3.2.1,h3.2.2.1,ih (G.setIfInBounds j true) a' w' (ac.set hj) aa (ready_mono hr (lw N)) h3.1 (ah w' h3.2.1 h3.2.2.1) ?_⟩) h2;rw [kF _ _ N];exact h3.2.2.2
end
def ScE.okW (ops:Array Oper) (E wr:List Nat) (K:Nat):ScE->Nat->Array Bool->Bool
 | .done,_,listed=>(iH .any ops listed).isEmpty
 | .pure i r,f+1,listed=>E.contains i && !(wr.contains i)&&(iH .any ops listed).contains i&&Region.free .any ops listed i&&ScE.okW ops E wr K r f (listed.setIfInBounds i true)
 | .free i r,f+1,listed=> !(wr.contains i)&&iE i K&&(iH .any ops listed).contains i&&Region.free .any ops listed i&&ScE.okW ops E wr K r f (listed.setIfInBounds i true)
 | .put i r,f+1,listed=>wr.contains i&&(iH .any ops listed==[i])&&ScE.okW ops E wr K r f (listed.setIfInBounds i true)
 | .tail k,f,listed=>jr K k&&jv (f+k) ops.size&&(List.range' k f).all (λj=>wr.contains j)&&Fi ops f k listed
 | _,_,_=>false
def Jq {P:Program} {ops:Array Oper} {Q:Exit->Act->wD->Prop} {S S2:wD->Prop} {wr:List Nat} {K:Nat}:∀(f k:Nat) (G:Array Bool) (a:Act) (w:wD),K<=k->f+k=ops.size->(∀j,k<=j->j<k+f->wr.contains j=true)->Fi ops f k G=true->wpList P ops Q (ops.toList.drop k) a w->KW P ops Q S S2 wr K f G a w
 | 0,k,G,a,w,Z,hf,O,M,h=>by
  have:ops.toList.drop k=[]:=jd (by simp;omega);rw [this] at h;exact ⟨by simpa [Fi] using M,h⟩
 | f+1,k,G,a,w,Z,hf,O,M,h=>by
  simp only [Fi,gR,beq_iff_eq] at M;have U:k<ops.toList.length:=by simp;omega
  rw [iB U] at h;refine ⟨λe=>absurd (M.1.symm.trans e) AK,λi V=>?_⟩;rw [M.1] at V;simp only [iu] at V;subst V;have Y:=O i (ip _) Ab;have N:∀j,i+1<=j->j<i+1+f->wr.contains j=true:=λj h1 h2=>O j Ab Ab
  have ho:ops[i]? = some ops.toList[i]:=by simp
  unfold wpList at h;unfold wpOp;rw [ho];simp only;split
  . rename_i X;rw [AH X] at h;rcases h with h|h
    . exact gP (Oper.wp_mono (λa' w' h'=>⟨λe=>(by rw [Y] at e;cases e),λ_ e=>by omega,Jq f (i+1) _ a' w' Ab Ab N M.2 h'⟩) h)
    . exact gQ h
  . rename_i X;rw [At X] at h;exact ⟨λe=>(by rw [Y] at e;cases e),λ_ e=>by omega,Jq f (i+1) _ _ w Ab Ab N M.2 h⟩
def HTE.anyW {P:Program} {ops:Array Oper} {Q:Exit->Act->wD->Prop} {S S2:wD->Prop} {E wr:List Nat} {K:Nat} (O:∀i,i<K->Ej ops K i) (Y:Region.noSelect ops=true) (V:∀i,E.contains i=true->PQ ops wr i) (Z:Df Q) :
 ∀(s:ScE) (f:Nat) (G:Array Bool) (a:Act) (w:wD),DC ops G->HTE P ops Q S S2 s a w->ScE.okW ops E wr K s f G=true->KW P ops Q S S2 wr K f G a w
 | .done,f,G,a,w,U,h,M=>by
  have X:iH .any ops G=[]:=by simpa [ScE.okW] using M
  cases f with
  | zero=>exact ⟨X,h⟩
  | succ f=>exact ⟨λ_=>h,by rw [X];simp⟩
 | .tail k,f,G,a,w,U,h,M=>by
  simp only [ScE.okW,gR,iN,kK] at M;exact Jq f k G a w (iA M.1.1.1) (iM M.1.1.2) (λj h1 h2=>M.1.2 j ⟨h1,h2⟩) M.2 h
 | .pure i r,0,G,a,w,U,h,M=>by simp [ScE.okW] at M
 | .pure i r,f+1,G,a,w,U,h,M=>by
  simp only [ScE.okW,gR,kJ] at M;obtain ⟨hS,o,v,ho,hy,X⟩:=h;have hi:ops[i]? = some o:=by simpa using ho
  have N:i∈iH .any ops G:=by simpa using M.1.1.2
  exact Km (T:=S) hi (gP ⟨V i M.1.1.1.1,rfl⟩) M.1.1.1.2 (jV Y) (λc a w=>Z o.dst v c a w) f G a w U (kD hi M.1.2) N hy hS
   (HTE.anyW O Y V Z r f _ _ w (U.set N) X M.2)
 | .free i r,0,G,a,w,U,h,M=>by simp [ScE.okW] at M
 | .free i r,f+1,G,a,w,U,h,M=>by
  simp only [ScE.okW,gR,kJ] at M;obtain ⟨hS,o,v,ho,hy,X⟩:=h;have hi:ops[i]? = some o:=by simpa using ho
  have N:i∈iH .any ops G:=by simpa using M.1.1.2
  have aa:=iA M.1.1.1.2;exact Km (T:=S2) hi (gQ ⟨O i aa,rfl⟩) M.1.1.1.1 (jV Y) (λc a w=>Z o.dst v c a w) f G a w U (kD hi M.1.2) N hy hS
   (HTE.anyW O Y V Z r f _ _ w (U.set N) X M.2)
 | .put i r,0,G,a,w,U,h,M=>by simp [ScE.okW] at M
 | .put i r,f+1,G,a,w,U,h,M=>by
  simp only [ScE.okW,gR,beq_iff_eq] at M;obtain ⟨⟨h1,h2⟩,h3⟩:=M;refine ⟨λe=>(by rw [h2] at e;cases e),λj hj=>?_⟩;rw [h2] at hj;simp only [iu] at hj;subst hj;have N:j∈iH .any ops G:=by rw [h2];simp
  exact wpOp_mono (λa' w' h'=>⟨λe=>(by rw [h1] at e;cases e),λ_ _=>h'.1,HTE.anyW O Y V Z r f _ a' w' (U.set N) h'.2 h3⟩) h
def M6 {Q:Exit->Act->wD->Prop} {l:Sl} {G:List Oper} (S S2:wD->Prop) (E wr:List Nat) (j0 K:Nat) (s:ScE) (hm:P.follows .mixedOrders=true) (N:(Region.noSelect G.toArray&&(jr G.length K||I4 G.toArray K)&&PR G.toArray E wr j0&&ScE.okW G.toArray E wr K s G.length (jt G.length false))=true) (hQ:Df Q)
 (h:∀w1,Ext w w1->w1.heap=w.heap->YP P n G.toArray Q S S2 s l w1):CW P n (.region m G.toArray true) Q l w:=by
 unfold CW;intro a ha;simp only [gR] at N;have h2:=h w.drew (Ne w).drew rfl;have V:DC G.toArray (jt G.length false):=λk o _ M=>by
  exfalso;rcases it k G.length with X|X
  . simp [X] at M
  . simp [iQ,X] at M
 have O:∀i,i<K->Ej G.toArray K i:=by
  by_cases Y:K<G.toArray.size
  . have M:=N.1.1.2;simp only [jc] at M;rcases M with M|M
    . have:=iA M;simp at Y;omega
    . exact DT M Y
  . intro i hi U j o _ hj ho _;have aa:j<G.toArray.size:=(Array.getElem?_eq_some_iff.1 ho).1;omega
 refine wp_region_any hm (M5 (S:=S) (S2:=S2) (wr:=wr) (K:=K) _ _ _ _ ?_);have:=HTE.anyW O N.1.1.1 (λi hE=>M4 N.1.2 hE) hQ s G.length (jt G.length false) a w.drew V (h2 a ha) N.2;simpa using this
def Own.cut {sz cap:Nat} {a:oA} (h:Own w b e sz (.slice a n cap) n (cs++us)) (M:cs.length=m*sz) (V:m<=n):Own w b e sz (.slice a m cap) m cs:=by
 obtain ⟨h1,⟨G,N⟩|⟨g,O,cur,G,N,X,h5,Y,Z,h8⟩⟩:=h
 . obtain rfl:m=0:=by omega
   refine ⟨by simpa using M,gP ⟨?_,rfl⟩⟩;rw [<-G,N]
 . simp only [iK] at G;obtain ⟨rfl,-,rfl⟩:=G;refine ⟨by simpa using M,gQ ⟨g,cap,cur,rfl,N,X,Ab,Y,Z,?_⟩⟩;have U:=congrArg (List.take (m*sz)) h8;rw [List.take_take,kY (jD _ V),List.take_left' M] at U;exact U
def ZF (l:List VD):(l.flatMap VD.cells).length=l.length*3:=by
 induction l with
 | nil=>rfl
 | cons v r h=>rw [jU,iq,h];simp;omega
def Own.le {sz cap:Nat} {a:oA} (h:Own w b e sz (.slice a n cap) n cs):n<=cap:=by
 obtain ⟨U,⟨G,N⟩|⟨g,M,cur,G,N,V,O,X,Y,Z⟩⟩:=h
 . omega
 . simp only [iK] at G;obtain ⟨-,-,rfl⟩:=G;exact O
section
variable {K:List (Int×Int)}
def StR (ρ:Nat->Rl) (sb:Nat) (st:Stp) (r:Int) (w:wD):Ending->wD->Prop:=λe w'=> ∃ ρ' κ',e = .returned (.int .i64 r)/\Ro ρ ρ' w/\StoreAt ρ' κ' w' sb st/\Fr (λk=>MV (ρ k)) w w'
def StR.ret {r:Int} {e:Ending} (h:StR ρ sb st r w e w'):∃v,e = .returned v:=by
 obtain ⟨_,_,h,-⟩:=h;exact ⟨_,h⟩
def StR.same {r:Int} (h:StoreAt ρ κ w' sb st) (x:Ext w w'):StR ρ sb st r w (.returned (.int .i64 r)) w':=⟨ρ,κ,rfl,Ro.refl _ _,h,lX x⟩
def StoreAt.drop (h:StoreAt ρ κ w sb st):∃N O U ca V tp,Blk w sb [N,O,U,.slice ca st.calls.length V,tp]/\st.calls.length<=V /\
 ∀(l:List Frm) (f:Frm),st.calls=l++[f] -> ∀w',Fr (· = sb) w w'->Blk w' sb [N,O,U,.slice ca l.length V,tp]->StoreAt ρ κ w' sb { st with calls:=l }:=by
 obtain ⟨Y,Z,⟨N,O,cv,tb,cs,h2,h3,X,h5,h6⟩,h7⟩:=h;have aa:∃a c,cv = .slice a st.calls.length c:=by
  rcases X.1.row with ⟨rfl,hn,-⟩|⟨g,cap,rfl,-⟩
  . exact ⟨none,0,by rw [hn]⟩
  . exact ⟨_,_,rfl⟩
 obtain ⟨ca,V,rfl⟩:=aa;refine ⟨N,O,_,ca,V,_,h2,X.1.le,λl f hc w' x hb=>?_⟩;rw [hc] at h5;obtain ⟨ab,vv,vc,rfl,h8,-⟩:=(FramesOk.snoc l 1 f cs).1 h5;have ac:=FramesOk.len _ _ _ h8;have M:∀ {r:Rl},r≠.store -> ∀k,k=sb->ρ k≠r:=λn1 k G e=>by subst G;exact n1 (by rw [<-e,Y])
 have h9:=X.1;rw [hc] at h9;rw [iq,jO] at h9;refine ⟨Y,Z.mv x,⟨N,O,_,tb,ab,hb,h3.move x (λk G=>⟨M AK k G,M AK k G⟩) (Ro.refl _ _) (λ_ _=>rfl),⟨?_,λk G=>X.2 k ?_⟩,FramesOk.move x (Ro.refl _ _) _ _ _ h8 (λk G i _ _=>⟨M AK k G,M AK k G⟩) (λ_ _ _ _=>rfl),h6.move x (λk G=>⟨M AK k G,M AK k G,M AK k G⟩) (Ro.refl _ _)⟩,λc xs hx=>(h7 c xs hx).move x (λk G=>⟨M AK k G,M AK k G⟩) (Ro.refl _ _) rfl⟩
 . exact (h9.cut (m:=l.length) (by rw [ac]) Ab).fr x (λk G e=>by
    subst e;have:=X.2 k (by cases ca<;>exact G);rw [Y] at this;cases this)
 . cases ca<;>exact G
def ZG (hw:st.WF K m) (w:wD) (h:StoreAt ρ κ w sb st) :
 Calls prog 213 #[pt sb] w (StR ρ sb (st.leaves).2 (st.leaves).1 w):=by
 have X:=Ne w;have am:=hw.nc;have Z:=h.role;obtain ⟨bv,bc,an,ca,cc,tp,hb,ao,M⟩:=h.drop;rcases i8 st.calls with O|⟨l,f,O⟩
 . have e:st.leaves=(20,st):=by unfold mG;rw [AH (gP O)]
   rw [e];have hn:st.calls.length=0:=by rw [O];rfl
   clear M;generalize st.calls.length=n at *;subst hn;refine Ad func213 ntmps213 rfl rfl ?_;refine eK ?_;refine C1 (A2 Ac rfl rfl) ?_;refine kR ?_;exact StR.same Ae X
 . rw [jp] at O;have N:st.cur=f:=by unfold Stp.cur;rw [O];simp
   obtain ⟨fb,fo,pre,post,T,vv,vc,U,-,V,hf,-⟩:=h.open;have G:=V.blk;have HC:=gO (λw1 h=>EP fb fo st.calls.length sb Ab w1 h);have hn:st.calls.length=l.length+1:=by rw [O];simp
   have ae:st.calls≠[]:=by rw [O];simp
   rw [N] at G;clear hf V;have aa:=gO (M l f O);clear M;have af:((st.calls.length:Int)-1)=(l.length:Int):=by omega
   have ag:l.length<=cc:=by omega
   by_cases h0:0<f.locals
   . have e:st.leaves=(20,st):=by unfold mG;rw [AH (gQ (by rw [N];exact h0))]
     rw [e];clear aa;refine Ad func213 ntmps213 rfl rfl ?_;refine eK ?_;refine C1 (A2 Ac rfl rfl) ?_;refine kC (HC.out _ Ae) ?_;rintro _ ap ⟨⟨⟩,ah⟩;revert h X G;refine eE ah ?_;intro h X G;refine eK ?_;refine C1 (Pw G) ?_;refine kR ?_;exact StR.same Ae X
   . have e:st.leaves=(0,{ st with calls:=l }):=by unfold mG;rw [At (by rw [N];intro h;rcases h with h|h;exact ae h;exact h0 h),O];simp
     rw [e];have F:=lZ (· = sb) w;refine Ad func213 ntmps213 rfl rfl ?_;refine eK ?_;refine C1 (A2 Ac rfl rfl) ?_;refine kC (HC.out _ Ae) ?_;rintro _ ab ⟨⟨⟩,ai⟩;revert hb U G F;refine eE ai ?_;intro hb U G F;refine eK ?_;refine C1 (Pw G) ?_;refine eK ?_;refine Aq (λwz=>Ext ab wz) 12 (.pure 0 (.pure 1 (.pure 2 (.pure 3 (.pure 4 (.pure 5 (.pure 6 (.pure 7 (.pure 8 (.pure 9 (.pure 10 (.pure 11 .tail)))))))))))) mixed AU (Aa Ag) ?_;intro aj ac _;have Y:(λwz=>Ext ab wz) aj:=ac;simp only at Y;have ak:=hb;revert hb U F;refine eE ac ?_;intro hb U F;refine ⟨Y,?_⟩;refine eT ?_;refine Tq rfl (AL rfl rfl (gX _ Ab)) (Tq rfl (DM Ac rfl rfl rfl rfl af ag) ?_);refine Ar rfl ?_;refine eK ?_;refine eV [_] [_,_,_,_,_] hb ?_;intro aq al ad _;clear hb h G;have F:=F.fr ad Ab;refine kR ?_;exact ⟨ρ,κ,rfl,Ro.refl _ _,aa.out _ F Ae,F.weaken (λk hk=>by subst hk;rw [Z];trivial)⟩
def ZH (hw:st.WF K m) (hm:m<=1000000) (s:List UInt8) (x:Int) (w:World) (h:StoreAt ρ κ w sb st) :
 Calls prog 193 #[pt sb,str s,.int .i64 x] w (StR ρ sb (st.closes s x).2 (st.closes s x).1 w):=by
 have X:=Ne w;have cz:=hw.nc;have c0:=hw.curm;have a0:=hw.cur;have a7:=a0.len;have a8:=a0.loc;obtain ⟨fb,fo,pre,post,T,vv,vc,c1,am,G,hf,a1⟩:=h.open;have HC:=gO (λw1 h=>EP fb fo st.calls.length sb Ab w1 h)
 rcases i8 st.cur.vars with hv|⟨vs,v,hv⟩
 . have h0:st.cur.locals=0:=by rw [hv] at a8;simpa using a8
   have e:st.closes s x=(6,st):=by unfold Stp.closes;simp only;rw [AH (gP h0)]
   rw [e];obtain ⟨av,cv,rfl,bh⟩:=G3 (S:=λ_=>True) hf.v.1 (λ_ _=>trivial);have U:=G.blk;rw [h0] at U;refine Ad func193 ntmps193 rfl rfl ?_
   refine cS (C1 Pa (cT (Aj (cS (C1 Mv (C1 (A2 Ac rfl rfl) (cT (Ba rfl (Ao (Ai (cS (C1 Mv (cC rfl (HC.out _ Ae) ?_)))))))))))));rintro _ w2 ⟨⟨⟩,x1⟩;revert h X U;refine eE x1 ?_;intro h X U;refine C1 Pa (cN (C1 Mv (C1 Pn (C1 Pg (C1 (UC U) (C1 Pz (C1 (AL rfl rfl (gX _ Ab)) (C1 Pa (cT (Aj (cS (C1 Mv (C1 Pn (C1 Pf (C1 (Pw U) (C1 V1 (C1 Mv (Wu (Wu (Wu (Wu (Wu (Wu (Wu (Wu (Wu (Wu (C1 aN (cT (BO rfl (cS (C1 Pa (cT (AR (As (AT rfl rfl ?_))))))))))))))))))))))))))))))))))))
   exact StR.same Ae X
 rw [jp] at hv
 have a2:st.cur.vars.length=vs.length+1:=by rw [hv];simp
 obtain ⟨cs,c,a3⟩:∃cs c,st.cur.cells=cs++[c]:=by
  rcases i8 st.cur.cells with h'|⟨cs,c,h'⟩
  . rw [h',a2] at a7
    simp at a7
  . exact ⟨cs,c,by rw [h',jp]⟩
 have a4:st.cur.cells.length=vs.length+1:=by omega
 have an:cs.length=vs.length:=by rw [a3] at a4;simpa using a4
 have ba:st.cur.vars[vs.length]? = some v:=by rw [hv];simp
 have a5:st.cur.cells[vs.length]? = some c:=by rw [a3,ik Ab];simp [an]
 have bs:c<st.heap.length:=by rw [hw.len];exact a0.lt (iF a5)
 have bb:=hw.cell c _ (a0.kind _ _ _ ba a5);obtain ⟨c2,vi,ak,bi⟩:=h.cells _ _ (EQ bs);obtain ⟨ai,ci,rfl⟩:=bi.1.shape
 have e:st.closes s x=if st.cur.locals=0\/v.name≠s then (6,st) else if v.kind=1/\(st.items c).getD 0 0≠x\/v.kind=3/\0<(st.items c).length then (16,st) else (0,st.setCur ⟨vs,cs,st.cur.locals-1⟩):=by
  unfold Stp.closes
  simp only;rw [a2,Nat.add_sub_cancel];rw [gT,ba,gT (l:=st.cur.cells),a5];simp only [kf];rw [hv,a3]
  simp
 rw [e];obtain ⟨av,cv,rfl,bh⟩:=G3 (S:=λ_=>True) hf.v.1 (λ_ _=>trivial);obtain ⟨ac,cc,rfl,bt⟩:=M1 hf.c.1;obtain ⟨kb,ko,rfl,-,bj⟩:=bh.get (by intro e;rw [e] at hv;simp at hv);obtain ⟨gc,rfl,r1⟩:=bt.get a5;have r0:=bj _ _ ba;have rv:=hf.v.2;have rc:=hf.c.2;have V:=hf.v.1;have Y:=hf.c.1;have lv:=V.le;have lc:=Y.le;rw [a2] at V lv;rw [a4] at Y lc;rw [hv,jL] at V;rw [a3,jm] at Y;replace V:=V.cut (m:=vs.length) (ZF _) Ab;replace Y:=Y.cut (m:=vs.length) (by simp [an]) Ab
 have hd:∀k,(k:Nat)=fb->ρ k≠.vars st.calls.length/\ρ k≠.cels st.calls.length:=λk M=>by
  subst M
  rcases am with h|h<;>rw [h]<;>exact ⟨AK,AK⟩
 have aa:∀k,(iD (some ⟨kb,ko,none⟩) vs.length cv).ownBlock=some k -> ¬k=fb:=λk M O=>(hd k O).1 (rv k M)
 have ab:∀k,(iD (some ⟨gc,0,none⟩) vs.length cc).ownBlock=some k -> ¬k=fb:=λk M O=>(hd k O).2 (rc k M)
 have bu:=gO (a1 ρ κ);have HF:=gO h.fresh;have bv:=bi.1.at;have F:=lZ (· = fb) w;obtain ⟨vn,vk,vl⟩:=v
 unfold Kz at r1
 rw [a2] at G;rw [a4] at G;have U:=G.blk
 have hi:(((vs.length+1:Nat):Int)-1).toNat=vs.length:=by omega
 have al:(((vs.length+1:Nat):Int)-1)=(vs.length:Int):=by omega
 have bc:vs.length<=cv:=by omega
 have bd:vs.length<=cc:=by omega
 replace r0:Row w ⟨kb,ko+(((vs.length+1:Nat):Int)-1).toNat*3,none⟩ [str vn,.int .u8 vk,.int .i64 vl]:=by rw [hi];exact r0
 replace r1:Row w ⟨gc,0+(((vs.length+1:Nat):Int)-1).toNat*1,none⟩ [pt (κ c)]:=by rw [hi];exact r1
 simp only at bb ⊢
 by_cases h6:st.cur.locals=0\/vn≠s
 . rw [AH h6]
   generalize hL:st.cur.locals=L at *
   refine Ad func193 ntmps193 rfl rfl ?_
   focus
    refine cS (C1 Pa (cT (Aj (cS (C1 Mv (C1 (A2 Ac rfl rfl) (cT (Ba rfl (Ao (Ai (cS (C1 Mv (cC rfl (HC.out _ Ae) ?_)))))))))))));rintro _ c3 ⟨⟨⟩,bw⟩;revert h X r0 U;refine eE bw ?_;intro h X r0 U;refine C1 Pa (cN (C1 Mv (C1 Pn (C1 Pg (C1 (UC U) (C1 Pz (C1 (AL rfl rfl (gX _ Ab)) (C1 Pa (cT (Aj (cS (C1 Mv (C1 Pn (C1 Pf (C1 (Pw U) (C1 V1 (C1 Mv (B0 rfl rfl rfl (λbx=>?_) (λbx=>?_)))))))))))))))))));refine FO (FO (FO (FO (FO (FO (FO (FO (FO (FO (C1 TL (cT (BO rfl (cS (C1 Pa (cT (AR (As (AT rfl rfl ?_))))))))))))))))));rotate_left;refine FN (C1 Mv (FN (C1 Pn (FN (C1 Pg (FN (C1 (UC U) (FN (C1 Mv (FN (C1 Pi (FN (C1 Pg (FN (C1 (UC r0) (FN (C1 Mv (FN (C1 V9 (C1 Sh (cT (BS rfl (λbz=>?_) (λbz=>?_)))))))))))))))))))))));refine cS (C1 Pa (cT (AR (As (AT rfl rfl ?_)))));rotate_left;refine Ao (Ai ?_);rotate_left
   . exact StR.same Ae X
   . exact StR.same Ae X
   . exact (h6.elim (λh=>by omega) (λh=>h Ae)).elim
 rw [At h6]
 have h7:¬st.cur.locals=0:=λh=>h6 (gP h)
 have h8:vn=s:=Decidable.byContradiction λh=>h6 (gQ h)
 subst h8;have c4:=bb.le
 have ad:∀w',Fr (· = fb) w w'->Win w' fb fo [.slice (some ⟨kb,ko,none⟩) vs.length cv,.slice (some ⟨gc,0,none⟩) vs.length cc,.int .i64 ((st.cur.locals:Int)-1)] pre post T->Own w' 0 77 3 (.slice (some ⟨kb,ko,none⟩) vs.length cv) vs.length (vs.flatMap VD.cells)->Own w' 0 234 1 (.slice (some ⟨gc,0,none⟩) vs.length cc) vs.length (cs.map (Kz κ))->StR ρ sb (st.setCur ⟨vs,cs,st.cur.locals-1⟩) 0 w (.returned (.int .i64 0)) w':=λw' x h1 h2 h3=>by
  rw [show ((st.cur.locals:Int)-1)=((st.cur.locals-1:Nat):Int) by omega] at h1
  exact ⟨ρ,κ,rfl,Ro.refl _ _,bu.out w' ⟨vs,cs,st.cur.locals-1⟩ _ _ (Ro.refl _ _) (HF.out.mv x) (λ_ _ _ _=>rfl) (λ_ _=>rfl) (x.weaken (λk M=>gP M)) h1 ⟨⟨h2,rv⟩,by rw [an];exact h3,rc⟩,x.weaken (λk M=>by subst M;rcases am with h|h<;>rw [h]<;>trivial)⟩
 replace ad:=gO ad
 by_cases h1:vk=1
 . have bk:(st.items c).length=1:=by rcases bb with ⟨-,h⟩|⟨h,-⟩|⟨h,-⟩<;>simp only at * <;> omega
   obtain ⟨gi,go,rfl,b0⟩:=bv.get (by intro e;rw [e] at bk;simp at bk);have r2:=mZ b0 (i:=(0:Int).toNat) Ab;simp only [show (0:Int).toNat=0 from rfl] at r2;subst h1
   generalize c5:(st.items c).getD 0 0=v0 at *
   generalize (st.items c).length=xn at *
   generalize κ c=cb at *
   refine Ad func193 ntmps193 rfl rfl ?_
   focus
    refine cS (C1 Pa (cT (Aj (cS (C1 Mv (C1 (A2 Ac rfl rfl) (cT (Ba rfl (Ao (Ai (cS (C1 Mv (cC rfl (HC.out _ Ae) ?_)))))))))))));rintro _ a6 ⟨⟨⟩,b1⟩;revert h X G V Y F r0 r2 r1 ak;refine eE b1 ?_;intro h X G V Y F r0 r2 r1 ak;refine C1 Pa (cN (C1 Mv (C1 Pn (C1 Pg (Dx Ac rfl rfl rfl (Win.blk G) rfl rfl (C1 Pz (C1 (AL rfl rfl (gX _ Ab)) (C1 Pa (cT (Aj (cS (C1 Mv (C1 Pn (C1 Pf (Do Ac rfl rfl rfl (Win.blk G) rfl rfl (C1 V1 (C1 Mv (EA (C1 Mv (EA (C1 Pn (EA (C1 Pg (EA (Dx Ac rfl rfl rfl (Win.blk G) rfl rfl (EA (C1 Mv (EA (C1 Pi (EA (C1 Pg (EA (C1 (UC r0) (EA (C1 Mv (EA (C1 V9 (C1 NY (cT (NQ rfl (not_not_intro rfl) (Ao (Ai (cS (C1 Mv (C1 Pn (C1 Pf (Do Ac rfl rfl rfl (Win.blk G) rfl rfl (C1 Mv (C1 Pi (C1 (UC r1) (C1 Pn (C1 Pg (C1 (Pl ak) (C1 Pa (cT (Aj (cS (C1 Mv (C1 Pn (C1 Pg (Dx Ac rfl rfl rfl (Win.blk G) rfl rfl (C1 Mv (C1 Pi (C1 Pf (C1 (Pw r0) (C1 V1 (C1 Mv ?_)))))))))))))))))))))))))))))))))))))))))))))))))))))))))))))))))));refine O5 (C1 Mv (O5 (C1 Pi (O5 (C1 (Pw r2) (O5 (C1 Mv (O5 (C1 V2 (C1 aN (C1 Mv (B0 rfl rfl rfl (λb2=>?_) (λb2=>?_)))))))))))));refine FO (FO (FO (FO (FO (FO (FO (FO (FO (FO (L7 rfl rfl rfl rfl (L7 rfl rfl rfl rfl (L7 rfl rfl rfl rfl (FO (C1 TL (cT (BO rfl (cS (C1 Pa (cT (AR (As (AT rfl rfl ?_))))))))))))))))))))))
    rotate_left;refine FN (C1 Mv (FN (C1 Pn (FN (C1 Pg (FN (Dx Ac rfl rfl rfl (Win.blk G) rfl rfl (FN (C1 Mv (FN (C1 Pi (FN (C1 Pf (FN (C1 (Pw r0) (FN (C1 V1 (FN (C1 Mv (YF (YF (YF (FN (C1 aO (C1 Sh (cT (Ba rfl (Ao (Ai (Aj (M6 (λZ=>Ext a6 Z) (λZ=>Fr (λx=>x=fb) a6 Z) [0,2,3,4,5,6,7,8,9,10,11,14,15] [16,17,18,19] 16 17 (.pure 0 (.free 1 (.pure 2 (.pure 3 (.pure 4 (.pure 5 (.pure 6 (.pure 7 (.pure 8 (.pure 9 (.pure 10 (.pure 11 (.free 12 (.free 13 (.pure 14 (.pure 15 (.put 16 (.tail 17)))))))))))))))))) mixed AU (Aa Ag) ?_)))))))))))))))))))))))))))))));intro bl be _;have bm:(λZ=>Ext a6 Z) bl:=be;simp only at bm;have ao:(λZ=>Fr (λx=>x=fb) a6 Z) bl:=lX be;simp only at ao;have N:=G;revert G V Y F;refine eE be ?_;intro G V Y F;refine Am Ae rfl (Av rfl) rfl (Bp Ae rfl (Av rfl) rfl (Am Ae rfl (Av rfl) rfl (Am Ae rfl (BF rfl) rfl (Am Ae rfl (Cb Ac rfl rfl rfl) rfl (Am Ae rfl (Ap Ac rfl rfl rfl (λZ hz=>mb (l5 (Win.blk N) hz) rfl)) rfl (Am Ae rfl (Av rfl) rfl (Am Ae rfl (DM Ac rfl rfl rfl rfl al bc) rfl ?_)))))))
    refine Am Ae rfl (Av rfl) rfl (Am Ae rfl (BF rfl) rfl (Am Ae rfl (AY Ac rfl rfl rfl) rfl (Am Ae rfl (Ap Ac rfl rfl rfl (λZ hz=>Row.at (l5 (Win.blk N) hz) rfl)) rfl (Bp Ae rfl (Av rfl) rfl (Bp Ae rfl (DM Ac rfl rfl rfl rfl al bd) rfl (Am Ae rfl (BF rfl) rfl (Am Ae rfl (Cb Ac rfl rfl rfl) rfl (DB rfl (Fp fb fo [_,_,_] Ac rfl rfl rfl rfl rfl rfl Ae rfl rfl) (BH ?_)))))))));rintro _ b6 ⟨b7,ag,b8⟩;replace ao:=ao.fr ag Ab;replace V:=mu V ag (λk M O=>aa k M O);replace Y:=mu Y ag (λk M O=>ab k M O);replace F:=F.fr ag Ab;refine ⟨Ae,(DA rfl (C1 Pn (C1 Pf (A6 (CA fb fo 1 [_,_,_] Ac rfl rfl rfl rfl rfl rfl Ae rfl rfl) (BH ?_)))))⟩;rintro _ b9 ⟨bn,ap,ca⟩;replace V:=mu V ap (λk M O=>aa k M O);replace Y:=mu Y ap (λk M O=>ab k M O);replace F:=F.fr ap Ab;refine cN (C1 Mv (C1 Pn (C1 Pf (Do Ac rfl rfl rfl (Win.blk bn) rfl rfl ?_))))
    refine C1 (AL rfl rfl (gX _ Ab)) (C1 Pn (C1 Pf (A6 (CA fb fo 2 [_,_,_] Ac rfl rfl rfl rfl rfl rfl Ae rfl rfl) (BH ?_))));rintro _ cd ⟨ce,aq,cf⟩;replace V:=mu V aq (λk M O=>aa k M O);replace Y:=mu Y aq (λk M O=>ab k M O);replace F:=F.fr aq Ab;refine cN (C1 Pa (cT (AR (AT rfl rfl ?_))));rotate_left
   . rw [AH (gP ⟨rfl,Ae⟩)]
     exact StR.same Ae X
   . rw [At (λh=>by rcases h with ⟨-,h⟩|⟨h,-⟩;exact absurd h Ae;simp at h)]
     exact ad.out _ F Ae Ae Ae
 . generalize (st.items c).length=xn at *
   generalize κ c=cb at *
   refine Ad func193 ntmps193 rfl rfl ?_
   focus
    refine cS (C1 Pa (cT (Aj (cS (C1 Mv (C1 (A2 Ac rfl rfl) (cT (Ba rfl (Ao (Ai (cS (C1 Mv (cC rfl (HC.out _ Ae) ?_)))))))))))));rintro _ ae ⟨⟨⟩,b3⟩;revert h X G V Y F r0 r1 ak;refine eE b3 ?_;intro h X G V Y F r0 r1 ak;refine C1 Pa (cN (C1 Mv (C1 Pn (C1 Pg (Dx Ac rfl rfl rfl (Win.blk G) rfl rfl (C1 Pz (C1 (AL rfl rfl (gX _ Ab)) (C1 Pa (cT (Aj (cS (C1 Mv (C1 Pn (C1 Pf (Do Ac rfl rfl rfl (Win.blk G) rfl rfl (C1 V1 (C1 Mv (EA (C1 Mv (EA (C1 Pn (EA (C1 Pg (EA (Dx Ac rfl rfl rfl (Win.blk G) rfl rfl (EA (C1 Mv (EA (C1 Pi (EA (C1 Pg (EA (C1 (UC r0) (EA (C1 Mv (EA (C1 V9 (C1 NY (cT (NQ rfl (not_not_intro rfl) (Ao (Ai (cS (C1 Mv (C1 Pn (C1 Pf (Do Ac rfl rfl rfl (Win.blk G) rfl rfl (C1 Mv (C1 Pi (C1 (UC r1) (C1 Pn (C1 Pg (C1 (Pl ak) (C1 Pa (cT (Aj (cS (C1 Mv (C1 Pn (C1 Pg (Dx Ac rfl rfl rfl (Win.blk G) rfl rfl (C1 Mv (C1 Pi (C1 Pf (C1 (Pw r0) (C1 V1 (C1 Mv ?_)))))))))))))))))))))))))))))))))))))))))))))))))))))))))))))))))));refine So (So (So (So (So (C1 Sh (C1 Mv (Bn rfl rfl rfl (rfl) (C1 Mv (Bn rfl rfl rfl (rfl) (C1 Pn (Bn rfl rfl rfl (rfl) (C1 Pg (Bn rfl rfl rfl (rfl) (Dx Ac rfl rfl rfl (Win.blk G) rfl rfl (Bn rfl rfl rfl (rfl) (C1 Mv (Bn rfl rfl rfl (rfl) (C1 Pi (Bn rfl rfl rfl (rfl) (C1 Pf (Bn rfl rfl rfl (rfl) (C1 (Pw r0) (Bn rfl rfl rfl (rfl) ?_)))))))))))))))))))))))
    refine C1 V1 (Bn rfl rfl rfl (rfl) (C1 Mv (B0 rfl rfl rfl (λb4=>?_) (λb4=>?_))));refine fP (C1 Mv (fP (C1 Pz (fP (C1 V5 (Bn rfl rfl rfl (rfl) (C1 TL (C1 (BR rfl rfl rfl) (cT (Ay rfl (λb5=>?_) (λb5=>?_)))))))))));refine cS (C1 Pa (cT (AR (As (AT rfl rfl ?_)))));rotate_left;refine Ao (Ai (Aj (M6 (λZ=>Ext ae Z) (λZ=>Fr (λx=>x=fb) ae Z) [0,2,3,4,5,6,7,8,9,10,11,14,15] [16,17,18,19] 16 17 (.pure 0 (.free 1 (.pure 2 (.pure 3 (.pure 4 (.pure 5 (.pure 6 (.pure 7 (.pure 8 (.pure 9 (.pure 10 (.pure 11 (.free 12 (.free 13 (.pure 14 (.pure 15 (.put 16 (.tail 17)))))))))))))))))) mixed AU (Aa Ag) ?_)));intro bo bf _;have bp:(λZ=>Ext ae Z) bo:=bf;simp only at bp;have ar:(λZ=>Fr (λx=>x=fb) ae Z) bo:=lX bf;simp only at ar;have N:=G;revert G V Y F;refine eE bf ?_;intro G V Y F;refine Am Ae rfl (Av rfl) rfl (Bp Ae rfl (Av rfl) rfl (Am Ae rfl (Av rfl) rfl (Am Ae rfl (BF rfl) rfl (Am Ae rfl (Cb Ac rfl rfl rfl) rfl (Am Ae rfl (Ap Ac rfl rfl rfl (λZ hz=>mb (l5 (Win.blk N) hz) rfl)) rfl ?_)))))
    refine Am Ae rfl (Av rfl) rfl (Am Ae rfl (DM Ac rfl rfl rfl rfl al bc) rfl (Am Ae rfl (Av rfl) rfl (Am Ae rfl (BF rfl) rfl (Am Ae rfl (AY Ac rfl rfl rfl) rfl (Am Ae rfl (Ap Ac rfl rfl rfl (λZ hz=>Row.at (l5 (Win.blk N) hz) rfl)) rfl (Bp Ae rfl (Av rfl) rfl (Bp Ae rfl (DM Ac rfl rfl rfl rfl al bd) rfl (Am Ae rfl (BF rfl) rfl (Am Ae rfl (Cb Ac rfl rfl rfl) rfl (DB rfl (Fp fb fo [_,_,_] Ac rfl rfl rfl rfl rfl rfl Ae rfl rfl) (BH ?_)))))))))));rintro _ cg ⟨ch,ah,cj⟩;replace ar:=ar.fr ah Ab;replace V:=mu V ah (λk M O=>aa k M O);replace Y:=mu Y ah (λk M O=>ab k M O);replace F:=F.fr ah Ab;refine ⟨Ae,(DA rfl (C1 Pn (C1 Pf (A6 (CA fb fo 1 [_,_,_] Ac rfl rfl rfl rfl rfl rfl Ae rfl rfl) (BH ?_)))))⟩;rintro _ ck ⟨bq,au,cl⟩;replace V:=mu V au (λk M O=>aa k M O);replace Y:=mu Y au (λk M O=>ab k M O)
    replace F:=F.fr au Ab;refine cN (C1 Mv (C1 Pn (C1 Pf (Do Ac rfl rfl rfl (Win.blk bq) rfl rfl (C1 (AL rfl rfl (gX _ Ab)) (C1 Pn (C1 Pf (A6 (CA fb fo 2 [_,_,_] Ac rfl rfl rfl rfl rfl rfl Ae rfl rfl) (BH ?_)))))))));rintro _ cm ⟨cn,aw,co⟩;replace V:=mu V aw (λk M O=>aa k M O);replace Y:=mu Y aw (λk M O=>ab k M O);replace F:=F.fr aw Ab;refine cN (C1 Pa (cT (AR (AT rfl rfl ?_))));rotate_left;refine So (So (So (Bn rfl rfl rfl (rfl) (C1 Sh (C1 (BR rfl rfl rfl) (cT (Ba rfl (Ao (Ai (Aj (M6 (λZ=>Ext ae Z) (λZ=>Fr (λx=>x=fb) ae Z) [0,2,3,4,5,6,7,8,9,10,11,14,15] [16,17,18,19] 16 17 (.pure 0 (.free 1 (.pure 2 (.pure 3 (.pure 4 (.pure 5 (.pure 6 (.pure 7 (.pure 8 (.pure 9 (.pure 10 (.pure 11 (.free 12 (.free 13 (.pure 14 (.pure 15 (.put 16 (.tail 17)))))))))))))))))) mixed AU (Aa Ag) ?_)))))))))));intro a9 ax _;have bg:(λZ=>Ext ae Z) a9:=ax;simp only at bg;have af:(λZ=>Fr (λx=>x=fb) ae Z) a9:=lX ax;simp only at af;have N:=G;revert G V Y F;refine eE ax ?_;intro G V Y F;refine Am Ae rfl (Av rfl) rfl (Bp Ae rfl (Av rfl) rfl ?_)
    refine Am Ae rfl (Av rfl) rfl (Am Ae rfl (BF rfl) rfl (Am Ae rfl (Cb Ac rfl rfl rfl) rfl (Am Ae rfl (Ap Ac rfl rfl rfl (λZ hz=>mb (l5 (Win.blk N) hz) rfl)) rfl (Am Ae rfl (Av rfl) rfl (Am Ae rfl (DM Ac rfl rfl rfl rfl al bc) rfl (Am Ae rfl (Av rfl) rfl (Am Ae rfl (BF rfl) rfl (Am Ae rfl (AY Ac rfl rfl rfl) rfl (Am Ae rfl (Ap Ac rfl rfl rfl (λZ hz=>Row.at (l5 (Win.blk N) hz) rfl)) rfl (Bp Ae rfl (Av rfl) rfl (Bp Ae rfl (DM Ac rfl rfl rfl rfl al bd) rfl ?_)))))))))));refine Am Ae rfl (BF rfl) rfl (Am Ae rfl (Cb Ac rfl rfl rfl) rfl (DB rfl (Fp fb fo [_,_,_] Ac rfl rfl rfl rfl rfl rfl Ae rfl rfl) (BH ?_)));rintro _ cp ⟨cq,aj,cr⟩;replace af:=af.fr aj Ab;replace V:=mu V aj (λk M O=>aa k M O);replace Y:=mu Y aj (λk M O=>ab k M O);replace F:=F.fr aj Ab;refine ⟨Ae,?_⟩
    refine DA rfl (C1 Pn (C1 Pf (A6 (CA fb fo 1 [_,_,_] Ac rfl rfl rfl rfl rfl rfl Ae rfl rfl) (BH ?_))));rintro _ ct ⟨br,ay,cu⟩;replace V:=mu V ay (λk M O=>aa k M O);replace Y:=mu Y ay (λk M O=>ab k M O);replace F:=F.fr ay Ab;refine cN (C1 Mv (C1 Pn (C1 Pf (Do Ac rfl rfl rfl (Win.blk br) rfl rfl (C1 (AL rfl rfl (gX _ Ab)) (C1 Pn (C1 Pf (A6 (CA fb fo 2 [_,_,_] Ac rfl rfl rfl rfl rfl rfl Ae rfl rfl) (BH ?_)))))))));rintro _ cw ⟨cx,az,cy⟩;replace V:=mu V az (λk M O=>aa k M O);replace Y:=mu Y az (λk M O=>ab k M O);replace F:=F.fr az Ab;refine cN (C1 Pa (cT (AR (AT rfl rfl ?_))));rotate_left
   . rw [AH (gQ ⟨Ae,Ab⟩)]
     exact StR.same Ae X
   . rw [At (λh=>by rcases h with ⟨h,-⟩|⟨-,h⟩;exact absurd h Ae;omega)]
     exact ad.out _ F Ae Ae Ae
   . rw [At (λh=>by rcases h with ⟨h,-⟩|⟨h,-⟩;exact absurd h Ae;exact absurd h Ae)]
     exact ad.out _ F Ae Ae Ae
end
section
variable {K:List (Int×Int)}
def StoreAt.newCell (h:StoreAt ρ κ w sb st) (M:CellAt ρ κ w st.heap.length xs):StoreAt ρ κ w sb { st with heap:=st.heap++[xs] }:=by
 obtain ⟨N,O,U,V⟩:=h;refine ⟨N,O,U,λc ys G=>?_⟩;simp only at G;rcases kn c st.heap.length with h|h|h
 . rw [gW h] at G;exact V c ys G
 . subst h;rw [ik (ip _)] at G;simp only [jw,iw,gU] at G;subst G;exact M
 . rw [ic (by simp;omega)] at G;cases G
def LA (st:Stp) (f:Frm):(st.setCur f).heap=st.heap:=by
 unfold mp;split<;>rfl
def Stp.WF.cells_lt (h:st.WF K m) (G:f∈st.base::st.calls) (M:c∈f.cells):c<st.heap.length:=by
 rw [h.len];exact (h.all' f G).lt M
def Xt {N:Nat} {vc:Value} {v:VD} {κ':Nat->Nat} {ρ':Nat->Rl} {cb:Nat} (hw:st.WF K m) (G:Rs ρ κ w sb st N n cs us T) (M:ρ N = .store\/ρ N = .calls) (hκ:∀c,c≠st.heap.length->κ' c=κ c) (O:κ' st.heap.length=cb) (hr:Ro ρ ρ' w) (Y:Fresh ρ' w') (x:Fr (Fq ρ st.calls.length N) w w')
 (U:Win w' N n [vv,vc,.int .i64 ((st.cur.locals:Int)+1)] cs us T) (V:FrameOk ρ' κ' w' st.calls.length ⟨st.cur.vars++[v],st.cur.cells++[st.heap.length],st.cur.locals⟩ vv vc) (Z:ρ' cb = .cell st.heap.length) (X:∃u,Blk w' cb [u]/\OwnR ρ' (.items st.heap.length) w' u xs) :
 StR ρ sb { st.setCur ⟨st.cur.vars++[v],st.cur.cells++[st.heap.length],st.cur.locals+1⟩ with heap:=st.heap++[xs] } 0 w (.returned (.int .i64 0)) w':=by
 have h1:=G ρ' κ' w' ⟨st.cur.vars++[v],st.cur.cells++[st.heap.length],st.cur.locals+1⟩ vv vc hr Y (λf V c X=>hκ c (by have:=hw.cells_lt V X;omega)) (λc X=>hκ c Ab) x (by simpa using U) ⟨V.v,V.c⟩;have h2:=h1.newCell (xs:=xs) (by
  rw [LA];exact ⟨by rw [O];exact Z,by rw [O];exact X⟩)
 rw [LA] at h2;refine ⟨ρ',κ',rfl,hr,h2,x.weaken (λk hk=>?_)⟩;rcases hk with rfl|h|h
 . rcases M with h|h<;>rw [h]<;>trivial
 . rw [h];trivial
 . rw [h];trivial
def FP (ρ:Nat->Rl) (n cb ib:Nat):Nat->Rl:=λb=>if b=cb then .cell n else if b=ib then .items n else ρ b
def Qa (κ:Nat->Nat) (n cb:Nat):Nat->Nat:=λc=>if c=n then cb else κ c
def RD {j N:Nat} {vc:Value} (hf:FrameOk ρ κ w j f vv vc) (V:Fresh ρ w) (Y:N<w.heap.size) (U:ρ N = .store\/ρ N = .calls) (Z:∀c∈f.cells,c≠n) (w1:wD) (cb G:Nat) (X:Ext w w1) (aa:w.heap.size<=cb) (ab:w.heap.size<=G) (h4:cb<w1.heap.size) (h5:G<w1.heap.size) :
 FrameOk (FP ρ n cb G) (Qa κ n cb) w1 j f vv vc/\(FP ρ n cb G N≠.vars j/\FP ρ n cb G N≠.cels j)/\Fresh (FP ρ n cb G) w1/\(∀k,Fq (FP ρ n cb G) j N k->Fq ρ j N k\/w.heap.size<=k) /\ ¬Fq (FP ρ n cb G) j N cb /\ ¬Fq (FP ρ n cb G) j N G:=by
 have e:∀b,b<w.heap.size->FP ρ n cb G b=ρ b:=λb hb=>by unfold FP;rw [At Ab,At Ab]
 have e1:FP ρ n cb G cb = .cell n:=by unfold FP;rw [AH rfl]
 have O:FP ρ n cb G G = .cell n\/FP ρ n cb G G = .items n:=by
  unfold FP;by_cases h:G=cb
  . rw [AH h];exact gP rfl
  . rw [At h,AH rfl];exact gQ rfl
 refine ⟨hf.move (Fr.none X) (λ_ h=>h.elim) e (λc hc=>At (Z c hc)),?_,λb hb=>?_,λk M=>?_,λM=>?_,λM=>?_⟩
 . rw [e _ Y];rcases U with h|h<;>rw [h]<;>exact ⟨AK,AK⟩
 . unfold FP;rw [At Ab,At Ab];exact V b Ab
 . rcases it k w.heap.size with h|h
   . left;unfold Fq at M ⊢;rw [e k h] at M;exact M
   . exact gQ h
 . unfold Fq at M;rw [e1] at M;rcases M with h|h|h
   . omega
   . cases h
   . cases h
 . unfold Fq at M;rcases M with h|h|h
   . omega
   . rcases O with O|O<;>rw [O] at h<;>cases h
   . rcases O with O|O<;>rw [O] at h<;>cases h
def cH (hw:st.WF K m) (hm:m<=100000) (v:VD) (hk:v.kind=1\/v.kind=3) (hl:v.len=0) (x:Int) (w:wD) (h:StoreAt ρ κ w sb st) :
 Calls prog 192 #[pt sb,v.val,.int .i64 x] w (StR ρ sb (st.opens v x).2 (st.opens v x).1 w):=by
 have X:=Ne w;have ck:=hw.nc;have cl:=hw.curm;have ay:=hw.cur;have bu:=ay.len;have bv:=ay.loc;obtain ⟨fb,fo,pre,post,T,vv,vc,N,ad,M,hf,an⟩:=h.open;have HC:=gO (λw1 h=>EP fb fo st.calls.length sb Ab w1 h);obtain ⟨av,cv,rfl,O⟩:=G3 (S:=λ_=>True) hf.v.1 (λ_ _=>trivial);have hF:=λw1 h1 h2=>M2 st.cur.vars Ab v.name (λ_=>True) av cv vc (.int .i64 st.cur.locals) fb fo w1 h1 h2
 obtain ⟨vn,vk,vl⟩:=v;simp only at hk hl hF;subst hl;change Calls prog _ #[_,.agg #[str vn,.int .u8 vk,.int .i64 0],_] w _;cases hi:BP vn st.cur.vars with
 | some i=>
  have e:st.opens ⟨vn,vk,0⟩ x=(22,st):=by unfold Stp.opens;rw [AH (by simp [hi])]
  rw [show CU st.cur.vars vn=(i:Int) by unfold CU;rw [hi]] at hF;have hF:=gO hF;rw [e];have G:=M.blk;generalize st.cur.vars=vs at *;refine Ad func192 ntmps192 rfl rfl ?_
  focus
   refine cS (eB [_,_,_] ?_);intro b1 w2 h4 x5 _ _;revert h X N O G;refine eE x5 ?_;intro h X N O G;refine eK ?_;refine C1 (A2 Ac rfl rfl) (eK ?_);refine B0 rfl rfl rfl (λc8=>?_) (λc8=>?_);refine kC (HC.out _ Ae) ?_;rintro _ cm ⟨⟨⟩,x9⟩;revert h4 h X N O G;refine eE x9 ?_;intro h4 h X N O G;refine kC (hF.out _ Ae Ae) ?_;rintro _ cn ⟨⟨⟩,bg⟩;revert h4 h X N O G;refine eE bg ?_;intro h4 h X N O G;refine kR ?_;rotate_left;refine kC (HC.out _ Ae) ?_;rintro _ co ⟨⟨⟩,bh⟩;revert h4 h X N O G;refine eE bh ?_;intro h4 h X N O G;refine kC (hF.out _ Ae Ae) ?_;rintro _ cp ⟨⟨⟩,bi⟩;revert h4 h X N O G;refine eE bi ?_;intro h4 h X N O G;refine kR ?_;rotate_left
  . exact StR.same Ae X
  . exact StR.same Ae X
 | none=>
  rw [show CU st.cur.vars vn = -1 by unfold CU;rw [hi]] at hF;have hF:=gO hF;have e:st.opens ⟨vn,vk,0⟩ x=(0,{ st.setCur ⟨st.cur.vars++[⟨vn,vk,0⟩],st.cur.cells++[st.heap.length],st.cur.locals+1⟩ with heap:=st.heap++[if vk=1 then [x] else []] }):=by unfold Stp.opens;rw [At (by simp [hi])]
  rw [e];have ap:=gO (λxs κ' ρ' w' vv vc cb=>Xt (v:=⟨vn,vk,0⟩) (xs:=xs) (κ':=κ') (ρ':=ρ') (w':=w') (vv:=vv) (vc:=vc) (cb:=cb) hw an ad);have cq:=gO h.fresh;have bj:fb<w.heap.size:=M.1.blk.lt;have G:=M.blk;have F:=lZ (Fq ρ st.calls.length fb) w;have HA:=gO (λw1 cb ib X bk bl h4 h5=>RD (κ:=κ) (n:=st.heap.length) hf h.fresh bj ad (λc hc=>by have:=hw.cells_lt (Ix st) hc;omega) w1 cb ib X bk bl h4 h5);rcases hk with rfl|rfl
  . refine Ad func192 ntmps192 rfl rfl ?_;refine cS (LO rfl rfl rfl ?_);intro cr ct ar U;have bm:=ar.ext;have cu:=ar.pos;have cw:=ar.size;revert X N O M G F;refine eE bm ?_;intro X N O M G F;refine eK ?_;refine C1 (A2 Ac rfl rfl) (cT (Ba rfl (Ao (Ai (Aj (cS (C1 Pf (C1 (Pl (mU U)) (C1 V2 (C1 Mv (YF (YF (YF (C1 aO (C1 Mv (Bn rfl rfl rfl (rfl) (C1 Pf (Bn rfl rfl rfl (rfl) (C1 (Pl (mU U)) (kC (HC.out _ Ae) ?_))))))))))))))))))));rintro _ cx ⟨⟨⟩,bn⟩;revert U X N O M G F;refine eY bn ?_;intro bw U X N O M G F;refine C1 Pa (cT (Aj (cS (C1 Mv (C1 Pg (C1 (Pl (mU U)) (cC rfl (hF.out _ Ae Ae) ?_)))))));rintro _ bx ⟨⟨⟩,az⟩;revert U X N O M G F;refine eY az ?_;intro bz U X N O M G F;refine eK ?_;refine C1 (xB [_]) (LO rfl rfl rfl ?_);intro aa b0 ae af;have a0:=ae.ext;have b2:=ae.pos;have b3:=ae.size;revert U X N O M G F;refine eE a0 ?_;intro U X N O M G F;refine C1 Pa (cT (Aj (cS (C1 Pf (C1 (Pl (mU U)) (eK ?_))))));refine Ax (xS [_]) rfl ?_ aFh;rintro _ b4 ⟨aq,rfl,ag,a1⟩;have Y:TB _ _ _ _:=a1;have a2:=ag.ext;have b5:=ag.pos;have b6:=ag.size;revert af U X N O M G F;refine eE a2 ?_;intro af U X N O M G F;refine eK ?_;refine KC [_] [_] Ac rfl rfl rfl rfl rfl rfl (mU af) rfl rfl ?_;intro a3 ah;have ab:=ah.blk;have ai:=ah.fr;have b7:=ah.size;have Y:=Y.fr ai Ab;revert U X;refine eF ai ?_;intro U X;revert M G F;refine eF ai ?_;intro M G F;refine cT ?_
    obtain ⟨k1,k2,k3,k4,k5,k6⟩:=HA.out a3 aa aq X Ab Ab Ab Ab;have aj:=gO (λw1 h1 h2 h3=>Uf (κ:=Qa κ st.heap.length aa) st.cur ⟨vn,1,0⟩ st.heap.length fb fo pre post T (.slice av st.cur.vars.length cv) vc (.int .i64 st.cur.locals) w1 h1 h2 k2 h3 Ab Ab);have k3:=gO k3;rw [show Kz (Qa κ st.heap.length aa) st.heap.length=pt aa by unfold Kz Qa;rw [AH rfl]] at aj;refine eK ?_;refine A1 [_,_,_] Ac rfl rfl rfl (mU U) rfl rfl rfl (C1 Mv (eQ rfl (aj.out _ k1 M k3.out) ?_));rintro _ cy ⟨b8,b9,a4,⟨⟩,ao,bo,bp,a5,au⟩;have ab:=lY ab au (k5);have Y:=TB.fr Y au (k6);have F:=l8 F au (k4);refine eK ?_;refine Do Ac rfl rfl rfl (Win.blk bp) rfl rfl (eK ?_);refine A6 (CA fb fo 2 [_,_,_] Ac rfl rfl rfl rfl rfl rfl Ae rfl rfl) (BH ?_);rintro _ a6 ⟨a7,ak,ca⟩;have a5:=FrameOk.fr a5 ak (λk hk=>by (rw [show k=fb from hk,ao fb Ab];exact k2));revert ab Y;refine eF ak ?_;intro ab Y;have F:=l8 F ak (λk hk=>gP (gP hk));refine kR ?_;refine ap.out [x] (Qa κ st.heap.length aa) a4 a6 _ _ aa (λc hc=>At hc) (AH rfl) (λb hb=>?_) (λb hb=>bo b Ab) F a7 Ae ?_ ⟨_,ab,OwnI.mk (xs:=[x]) (zs:=[]) (ii _) (by exact Y) Ss,λk hk=>?_⟩
    . rw [ao b Ab];unfold FP;rw [At Ab,At Ab]
    . rw [ao _ Ab];exact AH rfl
    . obtain rfl:=gZ (show some aq=some k from hk);rw [ao _ Ab];unfold FP;rw [At Ab,AH rfl]
  . refine Ad func192 ntmps192 rfl rfl ?_;refine cS (LO rfl rfl rfl ?_);intro cz c0 aw V;have bq:=aw.ext;have c1:=aw.pos;have c2:=aw.size;revert X N O M G F;refine eE bq ?_;intro X N O M G F;refine eK ?_;refine C1 (A2 Ac rfl rfl) (cT (Ba rfl (Ao (Ai (Aj (cS (C1 Pf (C1 (Pl (mU V)) (C1 V2 (C1 Mv (O5 (C1 Pf (O5 (C1 (Pl (mU V)) (O5 (C1 V2 (C1 aN (C1 Mv (fT (C1 Pf (fT (C1 (Pl (mU V)) (kC (HC.out _ Ae) ?_)))))))))))))))))))))));rintro _ c3 ⟨⟨⟩,br⟩;revert V X N O M G F;refine eY br ?_;intro cc V X N O M G F;refine C1 Pa (cT (Aj (cS (C1 Mv (C1 Pg (C1 (Pl (mU V)) (cC rfl (hF.out _ Ae Ae) ?_)))))));rintro _ cd ⟨⟨⟩,a8⟩;revert V X N O M G F;refine eY a8 ?_;intro ce V X N O M G F;refine eK ?_;refine C1 (xB [_]) (LO rfl rfl rfl ?_);intro Z a9 al ac;have ba:=al.ext;have cf:=al.pos;have cg:=al.size;revert V X N O M G F;refine eE ba ?_;intro V X N O M G F;refine C1 Pa (cT (Aj (cS (C1 Pf (C1 (Pl (mU V)) (eK ?_))))));obtain ⟨k1,k2,k3,k4,k5,k6⟩:=HA.out a9 Z Z X Ab Ab Ab Ab;have aj:=gO (λw1 h1 h2 h3=>Uf (κ:=Qa κ st.heap.length Z) st.cur ⟨vn,3,0⟩ st.heap.length fb fo pre post T (.slice av st.cur.vars.length cv) vc (.int .i64 st.cur.locals) w1 h1 h2 k2 h3 Ab Ab);have k3:=gO k3;rw [show Kz (Qa κ st.heap.length Z) st.heap.length=pt Z by unfold Kz Qa;rw [AH rfl]] at aj
    refine eK ?_;refine A1 [_,_,_] Ac rfl rfl rfl (mU V) rfl rfl rfl (C1 Mv (eQ rfl (aj.out _ k1 M k3.out) ?_));rintro _ c4 ⟨ch,ci,bb,⟨⟩,ax,bs,bt,bc,bd⟩;have ac:=TB.fr ac bd (k5);have F:=l8 F bd (k4);refine eK ?_;refine Do Ac rfl rfl rfl (Win.blk bt) rfl rfl (eK ?_);refine A6 (CA fb fo 2 [_,_,_] Ac rfl rfl rfl rfl rfl rfl Ae rfl rfl) (BH ?_);rintro _ be ⟨bf,am,cj⟩;have bc:=FrameOk.fr bc am (λk hk=>by (rw [show k=fb from hk,ax fb Ab];exact k2));have ac:=ac.fr am Ab;have F:=l8 F am (λk hk=>gP (gP hk));refine kR ?_;refine ap.out [] (Qa κ st.heap.length Z) bb be _ _ Z (λc hc=>At hc) (AH rfl) (λb hb=>?_) (λb hb=>bs b Ab) F bf Ae ?_ ⟨_,ac.blk,OwnI.nil,λk hk=>(jX _ hk.symm).elim⟩
    . rw [ax b Ab];unfold FP;rw [At Ab,At Ab]
    . rw [ax _ Ab];exact AH rfl
end
section
variable {ρ':Nat->Rl} {K:List (Int×Int)} {S:nP}
def gM (ρ:Nat->Rl) (n k:Nat):Prop:= ¬MV (ρ k)\/ρ k = .vars (n+1)\/ρ k = .cels (n+1)
def StoreAt.moveN (h:StoreAt ρ κ w sb st) (x:Fr S w w') (Y:∀k,S k->gM ρ st.calls.length k) (N:Ro ρ ρ' w) (O:Fresh ρ' w'):StoreAt ρ' κ w' sb st:=by
 obtain ⟨U,-,⟨Z,bc,cv,tb,cs,V,h3,h4,h5,h6⟩,h7⟩:=h;have X:=V.lt;have M:∀ {r:Rl},MV r->r≠.vars (st.calls.length+1)->r≠.cels (st.calls.length+1) -> ∀k,S k->ρ k≠r:=λN n1 n2 k G e=>by
  rcases Y k G with h|h|h
  . exact h (by rw [e];exact N)
  . exact n1 (by rw [<-e,h])
  . exact n2 (by rw [<-e,h])
 exact ⟨by rw [N _ X,U],O,⟨Z,bc,cv,tb,cs,V.fr x (λhS=>M (r:=.store) trivial AK AK _ hS U),h3.move x (λk G=>⟨M (by exact trivial) AK AK k G,M (by exact trivial) AK AK k G⟩) N (λ_ _=>rfl),h4.move x (M (by exact trivial) AK AK) N,
  FramesOk.move x N _ _ _ h5 (λk G i U V=>⟨M (by exact trivial) (by simp;omega) AK k G,M (by exact trivial) AK (by simp;omega) k G⟩) (λ_ _ _ _=>rfl),h6.move x (λk G=>⟨M (by exact trivial) AK AK k G,M (by exact trivial) AK AK k G,M (by exact trivial) AK AK k G⟩) N⟩,
  λc xs hc=>(h7 c xs hc).move x (λk G=>⟨M (by exact trivial) AK AK k G,M (by exact trivial) AK AK k G⟩) N rfl⟩
def StoreAt.push (h:StoreAt ρ κ w sb st):∃V X Y O tp cs,Blk w sb [V,X,Y,O,tp]/\Own w 0 229 3 O st.calls.length cs/\(∀k,O.ownBlock=some k->ρ k = .calls) /\
 ∀(ρ':Nat->Rl) (w':wD) (f:Frm) (vv vc M:Value),Ro ρ ρ' w->Fresh ρ' w'->Fr (λk=>k=sb\/O.ownBlock=some k) w w'->Blk w' sb [V,X,Y,M,tp]->Own w' 0 229 3 M (st.calls.length+1) (cs++[vv,vc,.int .i64 f.locals])->(∀k,M.ownBlock=some k->ρ' k = .calls)->FrameOk ρ κ w (st.calls.length+1) f vv vc ->
  StoreAt ρ' κ w' sb { st with calls:=st.calls++[f] }:=by
 obtain ⟨h1,-,⟨V,X,O,tb,cs,h2,h3,Z,h5,h6⟩,h7⟩:=h;have aa:=h2.lt;refine ⟨V,X,_,O,_,cs,h2,Z.1,Z.2,λρ' w' f vv vc M U ab x hb ho hc hf=>?_⟩;have N:∀ {r:Rl},r≠.store->r≠.calls -> ∀k,(k=sb\/O.ownBlock=some k)->ρ k≠r:=λn1 n2 k G e=>by
  rcases G with rfl|G
  . exact n1 (by rw [<-e,h1])
  . exact n2 (by rw [<-e,Z.2 k G])
 refine ⟨by rw [U _ aa,h1],ab,⟨V,X,M,tb,cs++[vv,vc,.int .i64 f.locals],hb,h3.move x (λk G=>⟨N AK AK k G,N AK AK k G⟩) U (λ_ _=>rfl),⟨by simpa using ho,hc⟩,(FramesOk.snoc st.calls 1 f _).2 ⟨cs,vv,vc,rfl,FramesOk.move x U _ _ _ h5 (λk G i _ _=>⟨N AK AK k G,N AK AK k G⟩) (λ_ _ _ _=>rfl),?_⟩,h6.move x (λk G=>⟨N AK AK k G,N AK AK k G,N AK AK k G⟩) U⟩,λc xs hx=>(h7 c xs hx).move x (λk G=>⟨N AK AK k G,N AK AK k G⟩) U rfl⟩;rw [lx];exact hf.move x (λk G=>⟨N AK AK k G,N AK AK k G⟩) U (λ_ _=>rfl)
def Jr {ps:List VD} {G:List lB} {e:Int} (N:ps.length=G.length) (h:(BQ st.cur ps G).1=e) (M:e≠0):st.enters ps G=(e,st):=by
 unfold mI;rw [At Ab,AH (by rw [h];exact M),h]
def Own.shape {sz:Nat} (h:Own w b e sz v n cs):∃a c,v = .slice a n c:=by
 rcases h.row with ⟨rfl,G,-⟩|⟨g,cap,rfl,-⟩
 . exact ⟨none,0,by rw [G]⟩
 . exact ⟨_,_,rfl⟩
def Xu {e:TypeId} (h:Own w 0 e 1 v n cs) (G:∀k,v.ownBlock=some k->S k):∃a c,v = .slice a n c/\Rows S w cs a:=by
 rcases h.row with ⟨rfl,M,N⟩|⟨g,cap,rfl,-,O,U⟩
 . exact ⟨none,0,by rw [M],gP N⟩
 . exact ⟨_,cap,rfl,gQ ⟨g,0,rfl,G g O,U⟩⟩
def Rows.at1 {a:oA} (h:Rows S w cs a) {u:Value} (G:cs[i]? = some u):∃b o,a=some ⟨b,o,none⟩/\S b/\Row w ⟨b,o+i*1,none⟩ [u]:=by
 obtain ⟨b,o,U,V,X⟩:=h.get (by rintro rfl;simp at G);refine ⟨b,o,U,V,?_⟩;have O:=X.sub i 1;rw [kh];have M:i<cs.length:=by
  rcases it i cs.length with N|N
  . exact N
  . rw [ic N] at G;cases G
 rw [iB M] at O;have:cs[i]=u:=by rw [gN M] at G;exact gZ G
 simpa [this] using O
def ZI (hw:st.WF K m) (hm:m<=100000) (ps:List VD) (qs:List (List UInt8)) (dm:ps.length<=100000) (b3:∀k,S k -> ¬MV (ρ k)) (pa qa:Option Addr) (pc qc:Nat) (w:World) (h:StoreAt ρ κ w sb st) (hp:VDs S w ps pa) (hq:Rows S w (qs.map str) qa) :
 Calls prog 212 #[pt sb,.slice pa ps.length pc,.slice qa qs.length qc] w (StR ρ sb (st.enters ps qs).2 (st.enters ps qs).1 w):=by
 have X:=Ne w
 by_cases ai:ps.length≠qs.length
 . have e:st.enters ps qs=(7,st):=by unfold mI;rw [AH ai]
   rw [e]
   generalize ps.length=n1 at *
   generalize qs.length=n2 at *
   clear hp hq;refine Ad func212 ntmps212 rfl rfl ?_
   refine eK ?_;refine C1 (A2 Ac rfl rfl) ?_;refine eK ?_;refine AT rfl rfl ?_
   exact StR.same Ae X
 have ai:ps.length=qs.length:=Decidable.not_not.1 ai;have dn:=hw.nc;have dp:=hw.curm;have ck:=hw.cur;have bt:=h.role;obtain ⟨fb,fo,pre,post,T,vv,vc,bu,a2,N,hf,-⟩:=h.open;have HC:=gO (λw1 h=>EP fb fo st.calls.length sb Ab w1 h);obtain ⟨av,cv,rfl,O⟩:=G3 (S:=λk=>ρ k = .vars st.calls.length/\k<w.heap.size) hf.v.1 (λk M=>⟨hf.v.2 k M,(hf.v.1.blk M).2⟩);obtain ⟨ac,cc,rfl,U⟩:=Xu (S:=λk=>ρ k = .cels st.calls.length/\k<w.heap.size) hf.c.1 (λk M=>⟨hf.c.2 k M,(hf.c.1.blk M).2⟩);have cl:fb<w.heap.size:=N.1.blk.lt;have G:=N.blk;replace hp:VDs (λk=> ¬MV (ρ k)/\k<w.heap.size) w ps pa:=hp.lt2.wide (λk M=>⟨b3 k M.1,M.2⟩);replace hq:Rows (λk=> ¬MV (ρ k)/\k<w.heap.size) w (qs.map str) qa:=hq.lt2.wide (λk M=>⟨b3 k M.1,M.2⟩);have HF:=gO (λs w1 h1 h2=>M2 st.cur.vars Ab s (λk=>ρ k = .vars st.calls.length/\k<w.heap.size) av cv (.slice ac st.cur.cells.length cc) (.int .i64 st.cur.locals) fb fo w1 h1 h2);have HS:=gO h;clear h hf N
 generalize hn:st.calls.length=n at *
 have F:=lZ (λk=>ρ k = .vars (n+1)\/ρ k = .cels (n+1)) w;refine Ad func212 ntmps212 rfl rfl ?_
 refine eK ?_;refine C1 (A2 Ac rfl rfl) ?_;refine eK ?_;refine UB CJ rfl rfl ?_;intro V dq a3 a4;have b4:=a3.ext;have dr:=a3.pos;have dt:=a3.size;clear a3;revert G hp hq bu O U F;refine eE b4 ?_;intro G hp hq bu O U F;clear b4;refine kC (HC.out _ Ae) ?_;rintro _ c5 ⟨⟨⟩,bw⟩;have c6:=bw.size;revert a4 G hp hq O U F;refine eE bw ?_;intro a4 G hp hq O U F;clear bw;refine C1 Pa (cT (Aj (cS (C1 Mv (C1 Pz (C1 Mv (cT (Au ?_))))))))
 have ad:∀(e:Int) (ρ1:Nat->Rl) (w':World),Ro ρ ρ1 w->Fresh ρ1 w'->Fr (λk=>ρ k = .vars (n+1)\/ρ k = .cels (n+1)) w w'->st.enters ps qs=(e,st)->StR ρ sb (st.enters ps qs).2 (st.enters ps qs).1 w (.returned (.int .i64 e)) w':=λe ρ1 w' ab a2 F h=>by
  rw [h]
  exact ⟨ρ1,κ,rfl,ab,HS.out.moveN F (λk M=>by rw [hn];exact gQ M) ab a2,F.weaken (λk M=>by rcases M with h|h<;>rw [h]<;>trivial)⟩
 replace ad:=gO ad;clear bu X;refine AQ (ι:=Nat) (λj=>[(0,pt sb),(2,.slice qa qs.length qc),(7,pt V),(8,.pointer (some ⟨fb,fo,none⟩)),(21,.slice pa ps.length pc),(22,.int .i64 ps.length),(23,.int .i64 j)])
  (λj w'=> ∃(cs:List Nat) (ρj:Nat->Rl) (vv vc:Value),j<=ps.length/\Ro ρ ρj w/\Fresh ρj w'/\Win w' V 0 [vv,vc,.int .i64 0] [] [] 229/\FrameOk ρj κ w' (n+1) ⟨ps.take j,cs,0⟩ vv vc/\Row w' ⟨fb,fo,none⟩ [.slice av st.cur.vars.length cv,.slice ac st.cur.cells.length cc,.int .i64 st.cur.locals] /\
   VDs (λk=>ρ k = .vars n/\k<w.heap.size) w' st.cur.vars av/\Rows (λk=>ρ k = .cels n/\k<w.heap.size) w' (st.cur.cells.map (Kz κ)) ac/\VDs (λk=> ¬MV (ρ k)/\k<w.heap.size) w' ps pa/\Rows (λk=> ¬MV (ρ k)/\k<w.heap.size) w' (qs.map str) qa /\
   Fr (λk=>ρ k = .vars (n+1)\/ρ k = .cels (n+1)) w w'/\V<w'.heap.size/\ρj V = .none/\BQ st.cur ps qs=((BQ st.cur (ps.drop j) (qs.drop j)).1,cs++(BQ st.cur (ps.drop j) (qs.drop j)).2)/\cs.length=j)
  (λj=>ps.length-j) 0 sB
  ⟨[],ρ,.slice none 0 0,.slice none 0 0,ii _,Ro.refl _ _,λb hb=>HS.out.fresh b Ab,⟨a4,rfl⟩,⟨⟨mR,λk M=>(jX _ M.symm).elim⟩,mR,λk M=>(jX _ M.symm).elim⟩,G,O,U,hp,hq,F,Ab,HS.out.fresh V Ab,AK,rfl⟩ ?_
 clear a4 G O U hp hq F;rintro j w1 ⟨cs,ρj,cm,cn,hj,ab,bg,N,Y,G,O,U,hp,hq,F,du,bx,hb,cp⟩;have aj:=gO bg;have cq:=F.size;clear bg
 by_cases aw:j<ps.length
 . obtain ⟨pb,po,rfl,dv,bh⟩:=hp.get (by intro e;rw [e] at aw;simp at aw);have r0:=bh j ps[j] (gN aw);obtain ⟨qb,qo,rfl,dw,r1⟩:=hq.at1 (i:=j) (u:=str qs[j]) (by rw [iJ,gN Ab];rfl)
   have cr:ps.take (j+1)=ps.take j++[ps[j]]:=by rw [List.take_add_one,gN aw];rfl
   rw [iB aw,iB (by omega:j<qs.length),BQ] at hb
   have dx:(ps.take j).length=j:=by simp;omega
   clear bh
   generalize ps[j]=v at *
   generalize qs[j]=s at *
   obtain ⟨vn,vk,vl⟩:=v;replace r0:Row w1 ⟨pb,po+j*3,none⟩ [str vn,.int .u8 vk,.int .i64 vl]:=r0;have ak:=HF.out s
   cases hl:BP s st.cur.vars with
   | none=>
    rw [hl] at hb;simp only at hb;rw [show CU st.cur.vars s = -1 by unfold CU;rw [hl]] at ak;replace ak:=gO ak;have he:=Jr (st:=st) (e:=6) ai (by rw [hb]) B7
    refine eK ?_;refine eA [_,_,_] ?_;intro dy dz b5 b6 d0 d5;revert G O F r1;refine eE b6 ?_;intro G O F r1;clear b6;refine C1 Pa (eS [_,_,_] b5 ?_);intro d6 _ bi c7;clear b5 Y;revert G O F r1;refine eF bi ?_;intro G O F r1;clear bi;refine kC (ak.out _ Ae Ae) ?_;rintro _ c8 ⟨⟨⟩,ax⟩;have c9:=ax.size;replace F:=F.ext ax;clear ax;refine eK ?_;refine AT rfl rfl ?_
    exact ad.out 6 ρj _ ab (λb hb=>aj.out b Ab) F he
   | some i=>
    obtain ⟨u,hu,-⟩:=Dj hl
    have ct:i<st.cur.cells.length:=by rw [<-ck.len];exact DY hl
    have hc:=gN ct;rw [hl] at hb;simp only at hb;rw [show st.cur.vars.getD i ⟨[],0,0⟩=u by rw [gT,hu];rfl,show st.cur.cells.getD i 0=st.cur.cells[i] by rw [gT,hc];rfl] at hb;rw [show CU st.cur.vars s=(i:Int) by unfold CU;rw [hl]] at ak;replace ak:=gO ak;obtain ⟨vb,vo,rfl,d7,b7⟩:=O.get (by intro e;rw [e] at hu;simp at hu);have r2:=b7 i u hu;obtain ⟨cb,co,rfl,d8,r3⟩:=U.at1 (i:=i) (u:=Kz κ st.cur.cells[i]) (by rw [iJ,hc];rfl);have d9:=DY hl;obtain ⟨un,uk,ul⟩:=u;replace r2:Row w1 ⟨vb,vo+i*3,none⟩ [str un,.int .u8 uk,.int .i64 ul]:=r2
    generalize st.cur.cells[i]=c at *
    unfold Kz at r3
    clear b7 hu hc;dsimp only at hb
    have a5:∀b,b<w.heap.size->ρ b≠.vars (n+1)->ρ b≠.cels (n+1) -> ¬Fq ρj (n+1) V b:=λb h1 h2 h3 M=>by
     rcases M with rfl|M|M
     . omega
     . rw [ab b h1] at M
       exact h2 M
     . rw [ab b h1] at M
       exact h3 M
    have s1:∀k,Fq ρj (n+1) V k->(ρ k = .vars (n+1)\/ρ k = .cels (n+1))\/w.heap.size<=k:=λk M=>by
     rcases it k w.heap.size with h|h
     . rcases M with rfl|M|M
       . omega
       . rw [ab k h] at M
         exact gP (gP M)
       . rw [ab k h] at M
         exact gP (gQ M)
     . exact gQ h
    have s2:¬Fq ρj (n+1) V fb:=a5 fb cl (by rcases a2 with h|h<;>rw [h]<;>simp) (by rcases a2 with h|h<;>rw [h]<;>simp)
    have s3:∀b,(ρ b = .vars n/\b<w.heap.size) -> ¬Fq ρj (n+1) V b:=λb h=>a5 b h.2 (by rw [h.1];simp) (by rw [h.1];simp)
    have s4:∀b,(ρ b = .cels n/\b<w.heap.size) -> ¬Fq ρj (n+1) V b:=λb h=>a5 b h.2 (by rw [h.1];simp) (by rw [h.1];simp)
    have s5:∀b,(¬MV (ρ b)/\b<w.heap.size) -> ¬Fq ρj (n+1) V b:=λb h=>a5 b h.2 (λe=>h.1 (by rw [e];trivial)) (λe=>h.1 (by rw [e];trivial))
    have cu:ρj V≠.vars (n+1)/\ρj V≠.cels (n+1):=by rw [bx];exact ⟨AK,AK⟩
    have b8:=gO (λw2 h1 h2 h3=>Uf (κ:=κ) (j:=n+1) ⟨ps.take j,cs,0⟩ ⟨vn,vk,vl⟩ c V 0 [] [] 229 cm cn (.int .i64 0) w2 h1 h2 cu h3 (by simp only;omega) (by simp only;omega))
    unfold Kz VD.val at b8
    refine eK ?_;refine eA [_,_,_] ?_;intro ea eb b9 ca ec ed;revert N Y F hp hq r1 O U G r2 r3;refine eE ca ?_;intro N Y F hp hq r1 O U G r2 r3;clear ca;refine C1 Pa (eS [_,_,_] b9 ?_);intro ee ae ap da;clear b9;replace N:=N.fr ap Ab;replace Y:=FrameOk.fr Y ap (λk M=>by (rw [show k=_ from M,aj.out _ Ab];exact ⟨AK,AK⟩));revert F hp hq r1 O U G r2 r3;refine eF ap ?_;intro F hp hq r1 O U G r2 r3;clear ap;refine kC (ak.out _ Ae Ae) ?_;rintro _ aq ⟨⟨⟩,ay⟩;have db:=ay.size;revert ae N Y F hp hq O U G r2 r3;refine eE ay ?_;intro ae N Y F hp hq O U G r2 r3;clear ay;refine C1 Pa (cT (Aj (cS (C1 Mv (C1 V3 (cT (Dz (Ao (Ai (Aj ?_))))))))))
    by_cases a6:uk=vk
    . have cw:¬uk≠vk:=λh=>h a6
      focus
       refine Aj (Aq (λwz=>Ext aq wz) 22 (.pure 0 (.pure 1 (.pure 2 (.pure 3 (.pure 4 (.pure 5 (.pure 6 (.pure 7 (.pure 8 (.pure 9 (.pure 10 (.pure 11 (.pure 12 (.pure 13 (.pure 14 (.pure 15 (.pure 16 (.pure 17 (.pure 18 (.pure 19 (.pure 20 (.pure 21 .tail)))))))))))))))))))))) mixed AU (Aa (Aa (Af (Aa (Aa (Af (Aa Ag))))))) ?_);intro bz a7 _;have bj:(λwz=>Ext aq wz) bz:=a7;simp only at bj;have ah:=ae;have Z:=G;have ar:=r2;have ef:=a7.size;revert ae N Y F hp hq O U G r3;refine eE a7 ?_;intro ae N Y F hp hq O U G r3;clear a7;refine ⟨bj,?_⟩;refine eT ?_;refine Tq rfl (Ap Ac rfl rfl rfl (λwz hz=>mb (l5 Z hz) rfl)) ?_;refine eT ?_;refine Tq rfl (Dr ar) ?_;refine eT ?_;refine Hk rfl rfl rfl rfl (Fj Ae) (Ap Ac rfl rfl rfl (λwz hz=>mb (l5 Z hz) rfl)) rfl (Hk rfl rfl rfl rfl (Fj Ae) (Av rfl) rfl (Hk rfl rfl rfl rfl (Fj Ae) (AO Ac rfl rfl rfl rfl Ab Ab) rfl (Hk rfl rfl rfl rfl (Fj Ae) (AY Ac rfl rfl rfl) rfl (Hk rfl rfl rfl rfl (Fj Ae) (Ap Ac rfl rfl rfl (λwz hz=>Row.at (l5 ar hz) rfl)) rfl (Hk rfl rfl rfl rfl (Fj Ae) (AY Ac rfl rfl rfl) rfl (Hk rfl rfl rfl rfl (Fj Ae) (Ap Ac rfl rfl rfl (λwz hz=>l7 (l9 ah hz) rfl)) rfl (Ar rfl ?_)))))))
       refine eK ?_;refine BS rfl (λcx=>?_) (λcx=>?_);refine eK ?_;refine AT rfl rfl ?_;rotate_left;refine eK ?_;refine Aq (λwz=>Ext bz wz) 8 (.pure 0 (.pure 1 (.pure 2 (.pure 3 (.pure 4 (.pure 5 (.pure 6 (.pure 7 .tail)))))))) mixed AU (Af (Aa (Aa (Af (Aa Ag))))) ?_;intro cy a8 _;have bk:(λwz=>Ext bz wz) cy:=a8;simp only at bk;have ah:=ae;have Z:=G;have cd:=r3;have eg:=a8.size;revert N Y F hp hq O U G;refine eE a8 ?_;intro N Y F hp hq O U G;clear a8;refine ⟨bk,?_⟩;refine Tq rfl (BV [_,_,_] Ac rfl rfl rfl (λwz hz=>(l9 ah hz)) rfl rfl) ?_;refine eT ?_;refine Tq rfl (Dr Z) (Tq rfl Mv (Tq rfl Pi (Tq rfl (Ap Ac rfl rfl rfl (λwz hz=>mb (l5 cd hz) rfl)) (Ar rfl (eQ rfl (b8.out _ Ae Ae (λb hb=>aj.out b Ab)) ?_)))));rintro _ dc ⟨b0,b1,b2,⟨⟩,bl,dd,de,df,af⟩;have dg:=af.size;clear ae N Y;replace F:=l8 F af (s1);replace hp:=mB hp af (s5);replace hq:=Rows.fr hq af (s5);clear r1 r0;replace O:=mB O af (s3);replace U:=Rows.fr U af (s4);replace G:=mo G af (s2);clear r2 r3 af;refine Ak (Ah (Ai (Al (C1 V7 (C1 Mv (Ak ?_))))));rotate_left
      . exact ad.out 7 ρj _ ab (λb hb=>aj.out b Ab) F (Jr (st:=st) (e:=7) ai (by rw [hb,AH (gQ Ae)]) B7)
      . refine AA (j+1) sB ⟨cs++[c],b2,b0,b1,Ab,ab.trans bl Ab,Ae,Ae,by rw [cr];assumption,Ae,Ae,Ae,Ae,Ae,Ae,Ab,?_,?_,by simp [cp]⟩ Ab
        . rw [bl V Ab,bx]
        . rw [hb,At (λh=>by rcases h with h|h;exact h a6;exact absurd h (Decidable.not_not.2 Ae))]
          simp
    . have cw:uk≠vk:=a6;have he:=Jr (st:=st) (e:=7) ai (by rw [hb,AH (gP a6)]) B7
      refine Aj (Aq (λwz=>Ext aq wz) 22 (.pure 0 (.pure 1 (.pure 2 (.pure 3 (.pure 4 (.pure 5 (.pure 6 (.pure 7 (.pure 8 (.pure 9 (.pure 10 (.pure 11 (.pure 12 (.pure 13 (.pure 14 (.pure 15 (.pure 16 (.pure 17 (.pure 18 (.pure 19 (.pure 20 (.pure 21 .tail)))))))))))))))))))))) mixed AU (Aa (Aa (Af (Aa (Aa (Af (Aa Ag))))))) ?_);intro cz a9 _;have bm:(λwz=>Ext aq wz) cz:=a9;simp only at bm;have ah:=ae;have Z:=G;have ar:=r2;have eh:=a9.size;replace F:=F.ext a9;clear a9;refine ⟨bm,?_⟩;refine eT ?_;refine Tq rfl (Ap Ac rfl rfl rfl (λwz hz=>mb (l5 Z hz) rfl)) ?_;refine eT ?_;refine Tq rfl (Dr ar) ?_;refine eT ?_;refine Ar rfl ?_;refine eK ?_;refine AT rfl rfl ?_
      exact ad.out 7 ρj _ ab (λb hb=>aj.out b Ab) F he
 . obtain rfl:j=ps.length:=by omega
   have hS:=HS.out.moveN F (λk M=>by rw [hn];exact gQ M) ab aj.out
   have ce:BQ st.cur ps qs=(0,cs):=by
    rw [hb,kA]
    simp [BQ]
   have c0:ρj sb = .store:=hS.role;obtain ⟨bv,bc,ei,ej,tp,ds,aa,al,ba,cf⟩:=hS.push;rw [hn] at al;rw [im] at Y;obtain ⟨an,ao,rfl⟩:=al.shape;obtain ⟨xa,xc,rfl⟩:=Y.v.1.shape;obtain ⟨ya,yc,rfl⟩:=Y.c.1.shape
   have he:st.enters ps qs=if 100<=n then (19,st) else (0,{ st with calls:=st.calls++[⟨ps,cs,0⟩] }):=by
    unfold mI
    rw [At Ab,At (by rw [ce];exact λh=>h rfl),hn,ce]
   by_cases bn:100<=n
   . rw [AH bn] at he
     refine eK ?_;refine AT rfl rfl ?_
     exact ad.out 19 ρj _ ab (λb hb=>aj.out b Ab) F he
   . rw [At bn] at he;rw [he];have F2:=lZ (λk=>k=sb\/(iD an n ao).ownBlock=some k) w1;have c1:=gO cf;have F1:=gO F;have ek:=aa.lt;have c2:=gO Y
     have d1:∀k,(iD an n ao).ownBlock=some k -> ¬k=sb:=λk M e=>by subst e;have:=ba k M;rw [c0] at this;cases this
     have d2:¬(iD an n ao).ownBlock=some sb:=λh=>d1 sb h rfl
     have d3:¬(iD an n ao).ownBlock=some V:=λh=>by have:=ba V h;rw [bx] at this;cases this
     have d4:∀k,(iD an n ao).ownBlock=some k->k<w1.heap.size:=λk M=>(al.blk M).2
     clear hS Y O U hp hq G
     refine eK ?_;refine Aq (λwz=>Fr ((λk=>(iD an n ao).ownBlock=some k)) w1 wz) 8 (.pure 0 (.pure 1 (.pure 2 (.pure 3 (.pure 4 (.pure 5 (.fork 6 (.fork 7 .tail .none) .none))))))) mixed AU (Aa Ag) ?_;intro c3 bb _;have ag:(λwz=>Fr ((λk=>(iD an n ao).ownBlock=some k)) w1 wz) c3:=lX bb;simp only at ag;have bd:=aa;have be:=N;have el:=bb.size;revert aa al F2;refine eE bb ?_;intro aa al F2;clear bb;refine ⟨ag,?_⟩;refine eT ?_;refine Tq rfl (Ap Ac rfl rfl rfl (λwz hz=>l7 (lY bd hz (by first|omega|(dsimp only;omega))) rfl)) (Tq rfl (BC Ac rfl rfl rfl (λwz hz=>(mo (Win.blk be) hz (by first|omega|(dsimp only;omega)))) rfl) ?_);refine AE rfl (Dd [_,_,_] Ac CJ rfl rfl rfl rfl rfl rfl rfl rfl rfl) rfl ?_ aFh AC;rintro _ bf ⟨em,rfl,az,c4⟩;clear c4;have bo:=az.blk;dsimp only at bo;have bp:=az.ext;have dh:=az.pos;have di:=az.size;clear az;revert ag aa al F2;refine eE bp ?_;intro ag aa al F2;clear bp;refine ⟨ag,?_⟩;refine AE rfl (Fs Ac CJ rfl rfl rfl rfl AU rfl rfl rfl Ae (mi Ae) rfl rfl Ab Ab (ii _)) rfl ?_ aFh AC;rintro _ au ⟨bq,cj,rfl,br,am,bs,cg⟩;have dk:=am.size
     clear bo;replace ag:=l8 ag am (λk M=>gP M);replace aa:=lY aa am (d2);clear al;replace F2:=l8 F2 am (λk M=>gP (gQ M));clear am;refine ⟨ag,?_⟩;refine Ar rfl ?_;refine eK ?_;refine eV [_] [_,_,_,_,_] aa ?_;intro ch ci a0 dl;clear aa;replace br:=mu br a0 (λk M hS=>by (obtain rfl:=gZ (show some bq=some k from M);rcases bs with h|h;exact d1 _ h hS;omega));clear N;replace F2:=l8 F2 a0 (λk M=>gP (gP M));clear a0;refine eK ?_;refine AT rfl rfl ?_
     have a1:Ro ρj (VC ρj bf au .calls) w1:=λb hb=>Xs ρj bf au .calls b Ab
     refine ⟨VC ρj bf au .calls,κ,rfl,ab.trans a1 cq,c1.out _ ch ⟨ps,cs,0⟩ _ _ _ a1 (λb hb=>OA (w:=bf) (w':=au) (λb hb=>aj.out b Ab) Ab b Ab) F2 ci (by rw [hn];assumption) (λk M=>?_) (by rw [hn];exact c2.out),(F1.out.weaken (T:=λk=>MV (ρ k)) (λk M=>by rcases M with h|h<;>rw [h]<;>trivial)).fr F2 (λk M=>?_)⟩
     . obtain rfl:=gZ (show some bq=some k from M)
       rcases bs with h|h
       . have:=d4 _ h;rw [a1 _ this]
         exact ba _ h
       . exact Ue ρj .calls h cg
     . rcases M with rfl|M
       . left;rw [bt];trivial
       . rcases it k w.heap.size with h|h
         . left;rw [<-ab k h,ba k M];trivial
         . exact gQ h
end
def RE (xs:List Int) (zs:lV) (i:Nat) (u:Int) (h:i<xs.length):A7 (AZ xs++zs) i [.int .i64 u]=AZ (xs.set i u)++zs:=by
 simp only [A7];rw [List.set_append_left _ _ (by simpa [AZ] using h)];simp [AZ,List.map_set]
def Cq {l:Sl} {tab:Tab} {t cap:Nat} {s:Sk} {u:Int} (TT:TabOk P tab) (ht:AB tab t=some (s,1)) (hx:ev l x=some (.pointer (some ⟨g,0+i*1,none⟩))) (hy:ev l y=some (.int .i64 u))
 (ho:OwnI w 0 (.slice (some ⟨g,0,none⟩) n cap) xs) (hi:i<xs.length) :
 BE P m l (.store t x y) ty w (GR λw'=>OwnI w' 0 (.slice (some ⟨g,0,none⟩) n cap) (xs.set i u)/\Fr (· = g) w w'/\w'.heap.size=w.heap.size):=by
 unfold BE;intro a dst pos after g' next Q ha _ hn;rcases ho.open with ⟨h1,-⟩|⟨g0,b,zs,h1,h2,h3,h4,h5⟩
 . cases h1
 simp only [iK,gU,jW,and_true] at h1;obtain ⟨rfl,rfl,rfl⟩:=h1;rw [iY,kh] at hx;obtain ⟨w1,e1,e2,e3⟩:=Fc (P:=P) [.int .i64 u] w g i 0 (AZ xs++zs) h3 (by simp [AZ];omega) (by rfl);have e:(execOp a.eval ⟨dst,.store t x y,ty,pos,after,g'⟩).run P w = .ok .skip w1:=by
  have hcs:(iW .i64 u).cells.toList=[.int .i64 u]:=rfl;have hsz:(iW .i64 u).cells.size=1:=rfl;simp only [execOp,ha.ev hx,ha.ev hy,Instr.storeAt,Instr.sureAddr,ij,iC,gY,storeVar,Ca (TT _ _ _ ht),hsz,hcs];simp only [ne_eq,not_true,if_false,e1]
 unfold jy;rw [e];rw [jT,RE xs zs i u hi] at e3;have hl:(xs.set i u).length=xs.length:=jx;refine hn _ ⟨?_,e2.fr,e2.size⟩;have:=OwnI.mk (ii _) e3 (by rw [hl];omega);rw [hl,h4] at this;exact this
section
variable {ρ':Nat->Rl} {K:List (Int×Int)} {S:nP}
def StoreAt.setCell (h:StoreAt ρ κ w sb st) (x:Fr (λk=>ρ k = .cell c\/ρ k = .items c) w w') (O:Ro ρ ρ' w) (V:Fresh ρ' w') (hc:CellAt ρ' κ w' c ys):StoreAt ρ' κ w' sb (st.all c ys):=by
 obtain ⟨Y,-,⟨bv,bc,cv,tb,cs,Z,h3,h4,h5,h6⟩,h7⟩:=h;have X:=Z.lt;have M:∀ {r:Rl},r≠.cell c->r≠.items c -> ∀k,(ρ k = .cell c\/ρ k = .items c)->ρ k≠r:=λn1 n2 k G e=>by
  rcases G with h|h
  . exact n1 (by rw [<-e,h])
  . exact n2 (by rw [<-e,h])
 refine ⟨by rw [O _ X,Y],V,⟨bv,bc,cv,tb,cs,Z.fr x (λhS=>M (r:=.store) AK AK _ hS Y),h3.move x (λk G=>⟨M AK AK k G,M AK AK k G⟩) O (λ_ _=>rfl),h4.move x (M AK AK) O,FramesOk.move x O _ _ _ h5 (λk G i _ _=>⟨M AK AK k G,M AK AK k G⟩) (λ_ _ _ _=>rfl),h6.move x (λk G=>⟨M AK AK k G,M AK AK k G,M AK AK k G⟩) O⟩,λd xs N=>?_⟩;by_cases U:d=c
 . subst U;unfold Stp.all at N;simp only [lq] at N;cases hh:st.heap[d]? with
   | none=>rw [hh] at N;cases N
   | some q=>
    rw [hh] at N;simp only [lQ,jI,Function.const,gU] at N;subst N;exact hc
 . unfold Stp.all at N;simp only at N;rw [iV (lw U)] at N;exact (h7 d xs N).move x (λk G=>⟨M (by simp [U]) AK k G,M AK (by simp [U]) k G⟩) O rfl
def StoreAt.set2 (h:StoreAt ρ κ w sb st) {d:Nat} (ac:c≠d) (x:Fr (λk=>(ρ k = .cell c\/ρ k = .items c)\/ρ k = .cell d\/ρ k = .items d) w w') (O:Ro ρ ρ' w) (aa:Fresh ρ' w') (hc:CellAt ρ' κ w' c xs) (hd:CellAt ρ' κ w' d ys):StoreAt ρ' κ w' sb ((st.all c xs).all d ys):=by
 obtain ⟨U,-,⟨bv,bc,cv,tb,cs,V,h3,h4,h5,h6⟩,h7⟩:=h;have ab:=V.lt;have N:∀ {r:Rl},r≠.cell c->r≠.items c->r≠.cell d->r≠.items d -> ∀k,((ρ k = .cell c\/ρ k = .items c)\/ρ k = .cell d\/ρ k = .items d)->ρ k≠r:=λY Z n3 n4 k M e=>by
  rcases M with (h|h)|h|h
  . exact Y (by rw [<-e,h])
  . exact Z (by rw [<-e,h])
  . exact n3 (by rw [<-e,h])
  . exact n4 (by rw [<-e,h])
 have X:∀(e:Nat) (zs:List Int),((st.heap.set c xs).set d ys)[e]? = some zs->(e=d/\zs=ys)\/(e=c/\zs=xs)\/(e≠c/\e≠d/\st.heap[e]? = some zs):=λe zs G=>by
  rcases Decidable.em (e=d) with rfl|U
  . left;simp only [lq] at G;cases hh:(st.heap.set c xs)[e]? with
    | none=>rw [hh] at G;cases G
    | some q=>
     rw [hh] at G;simp only [lQ,jI,Function.const,gU] at G;exact ⟨rfl,G.symm⟩
  . rw [iV (lw U)] at G;rcases Decidable.em (e=c) with rfl|V
    . right;left;simp only [lq] at G;cases hh:st.heap[e]? with
      | none=>rw [hh] at G;cases G
      | some q=>
       rw [hh] at G;simp only [lQ,jI,Function.const,gU] at G;exact ⟨rfl,G.symm⟩
    . rw [iV (lw V)] at G;exact gQ (gQ ⟨V,U,G⟩)
 refine ⟨by rw [O _ ab,U],aa,⟨bv,bc,cv,tb,cs,V.fr x (λhS=>N (r:=.store) AK AK AK AK _ hS U),h3.move x (λk M=>⟨N AK AK AK AK k M,N AK AK AK AK k M⟩) O (λ_ _=>rfl),h4.move x (N AK AK AK AK) O,FramesOk.move x O _ _ _ h5 (λk M i _ _=>⟨N AK AK AK AK k M,N AK AK AK AK k M⟩) (λ_ _ _ _=>rfl),h6.move x (λk M=>⟨N AK AK AK AK k M,N AK AK AK AK k M,N AK AK AK AK k M⟩) O⟩,λe zs hx=>?_⟩;rcases X e zs hx with ⟨rfl,rfl⟩|⟨rfl,rfl⟩|⟨Y,Z,G⟩
 . exact hd
 . exact hc
 . exact (h7 e zs G).move x (λk M=>⟨N (by simp [Y]) AK (by simp [Z]) AK k M,N AK (by simp [Y]) AK (by simp [Z]) k M⟩) O rfl
def StoreAt.putI (h:StoreAt ρ κ w sb st) {cap:Nat} (G:ρ (κ c) = .cell c) (M:ρ g = .items c) (O:Blk w (κ c) [.slice (some ⟨g,0,none⟩) n cap]) (x:Fr (· = g) w w') (U:OwnI w' 0 (.slice (some ⟨g,0,none⟩) n cap) ys):StoreAt ρ κ w' sb (st.all c ys):=
 h.setCell (x.weaken (λk N=>gQ (by rw [show k=g from N];exact M))) (Ro.refl _ _) (h.fresh.mv x) ⟨G,_,O.fr x (λe=>by rw [show κ c=g from e,M] at G;cases G),U,λk N=>by obtain rfl:=gZ (show some g=some k from N);exact M⟩
def StoreAt.openT (h:StoreAt ρ κ w sb st):∃V X Z Y tb,Blk w sb [V,X,Z,Y,pt tb]/\TapeAt ρ w tb st.tin st.tout /\
 ∀(ρ':Nat->Rl) (w':wD) (ti to:List Int),Ro ρ ρ' w->Fr (BX ρ) w w'->TapeAt ρ' w' tb ti to -> ∃U,Ro ρ' U w'/\StoreAt U κ w' sb { st with tin:=ti,tout:=to }:=by
 obtain ⟨h1,hf,⟨V,X,Y,tb,cs,h2,h3,h4,h5,h6⟩,h7⟩:=h;have aa:=h2.lt;refine ⟨V,X,_,Y,tb,h2,h6,λρ' w' ti to hr x ht=>⟨λb=>if b<w'.heap.size then ρ' b else .none,λb O=>AH O,?_⟩⟩;have hs:=x.size;have G:Ro ρ (λb=>if b<w'.heap.size then ρ' b else .none) w:=λb O=>by
  simp only;rw [AH Ab];exact hr b O
 have N:∀ {r:Rl},r≠.tape->r≠.tin->r≠.tout -> ∀k,BX ρ k->ρ k≠r:=λn1 n2 n3 k M e=>by
  rcases M with h|h|h
  . exact n1 (by rw [<-e,h])
  . exact n2 (by rw [<-e,h])
  . exact n3 (by rw [<-e,h])
 exact ⟨(G _ aa).trans h1,λb O=>At Ab,⟨V,X,Y,tb,cs,h2.fr x (λhS=>N (r:=.store) AK AK AK _ hS h1),h3.move x (λk M=>⟨N AK AK AK k M,N AK AK AK k M⟩) G (λ_ _=>rfl),h4.move x (N AK AK AK) G,FramesOk.move x G _ _ _ h5 (λk M i _ _=>⟨N AK AK AK k M,N AK AK AK k M⟩) (λ_ _ _ _=>rfl),
  ht.ro (λb O=>AH O) (ip _)⟩,λc xs hx=>(h7 c xs hx).move x (λk M=>⟨N AK AK AK k M,N AK AK AK k M⟩) G rfl⟩
structure PlaceAt (ρ:Nat->Rl) (κ:Nat->Nat) (w:wD) (c g n cap:Nat) (xs:List Int):Prop where
 hrc:ρ (κ c) = .cell c
 hrg:ρ g = .items c
 hb:Blk w (κ c) [.slice (some ⟨g,0,none⟩) n cap]
 ho:OwnI w 0 (.slice (some ⟨g,0,none⟩) n cap) xs
def PlaceAt.ext {c g n cap:Nat} {xs:List Int} (h:PlaceAt ρ κ w c g n cap xs) (x:Ext w w'):PlaceAt ρ κ w' c g n cap xs:=⟨h.hrc,h.hrg,h.hb.ext x,h.ho.ext x⟩
instance {cap:Nat}:LfE w w' (PlaceAt ρ κ w c g n cap xs) (PlaceAt ρ κ w' c g n cap xs):=⟨λx h=>Bk.PlaceAt.ext h x⟩
def PlaceAt.fr {c g n cap:Nat} {xs:List Int} (h:PlaceAt ρ κ w c g n cap xs) (x:Fr S w w') (G:∀k,S k->ρ k≠.cell c/\ρ k≠.items c):PlaceAt ρ κ w' c g n cap xs:=
 ⟨h.hrc,h.hrg,h.hb.fr x (λe=>(G _ e).1 h.hrc),h.ho.fr x (λk M N=>by obtain rfl:=gZ (show some g=some k from M);exact (G _ N).2 h.hrg)⟩
instance {cap:Nat}:LfF S w w' (PlaceAt ρ κ w c g n cap xs) (∀k,S k->ρ k≠.cell c/\ρ k≠.items c) (PlaceAt ρ κ w' c g n cap xs):=⟨λx s h=>Bk.PlaceAt.fr h x s⟩
def PlaceAt.row {cap:Nat} (h:PlaceAt ρ κ w c g n cap xs) (M:i<xs.length):Row w ⟨g,0+i*1,none⟩ [.int .i64 (xs.getD i 0)]:=by
 rcases h.ho.at with G|⟨b,o,G,-,N⟩
 . have:xs=[]:=List.map_eq_nil_iff.1 G;subst this;simp at M
 . simp only [gU,jW,and_true] at G;obtain ⟨rfl,rfl⟩:=G;exact mZ N M
def PlaceAt.lt {c g n cap:Nat} {xs:List Int} (h:PlaceAt ρ κ w c g n cap xs):g<w.heap.size:=(h.ho.lt (k:=g) rfl).2
def cI (hw:st.WF K m) {d cap:Nat} (hd:d<st.heap.length) (af:c≠d) (bl:(st.items d).length<=1000) (hi:i<(st.items c).length) (k:Int) (G:k=44\/k=45) (w:wD) (h:StoreAt ρ κ w sb st) (O:PlaceAt ρ κ w c g n cap (st.items c)) :
 Calls prog 227 #[.int .u8 k,.pointer (some ⟨g,0+i*1,none⟩),pt (κ d)] w (StR ρ sb (st.move k c i d).2 (st.move k c i d).1 w):=by
 have X:=Ne w;have ba:=O.row hi;obtain ⟨Y,vd,N,ac,U⟩:=h.cells _ _ (EQ hd);obtain ⟨ad,cd,rfl⟩:=ac.shape;have az:=O.lt;rcases G with rfl|rfl
 . by_cases hf:1000<=(st.items d).length
   . have e:st.move 44 c i d=(5,st):=by unfold mC;rw [AH rfl,AH hf]
     rw [e];generalize (st.items d).length=dn at *;generalize κ d=db at *;clear O;refine Ad func227 ntmps227 rfl rfl ?_;refine kR ?_;exact StR.same Ae X
   . have e:st.move 44 c i d=(0,(st.all d (st.items d++[(st.items c).getD i 0])).put c i 0):=by unfold mC;rw [AH rfl,At hf]
     rw [e];have M:Own w 0 3 1 (.slice ad (st.items d).length cd) (st.items d).length (AZ (st.items d)):=ac;have F:=lZ (λk=>ρ k = .cell d\/ρ k = .items d) w;have q1:∀k,(iD ad (st.items d).length cd).ownBlock=some k -> ¬k=κ d:=λk G e=>by have:=U k G;rw [e,Y] at this;cases this
     have q2:∀k,(iD ad (st.items d).length cd).ownBlock=some k -> ¬k=g:=λk G e=>by have:=U k G;rw [e,O.hrg] at this;simp at this;exact af this
     have q3:∀k,(iD ad (st.items d).length cd).ownBlock=some k->ρ k≠.cell c/\ρ k≠.items c:=λk G=>by rw [U k G];exact ⟨AK,by simp;omega⟩
     have q4:∀k,k=κ d->ρ k≠.cell c/\ρ k≠.items c:=λk G=>by rw [G,Y];exact ⟨by simp;omega,AK⟩
     have q5:∀k,(iD ad (st.items d).length cd).ownBlock=some k->k<w.heap.size:=λk G=>(M.blk G).2
     have a0:=N.lt;have HS:=gO h;clear h ac;refine Ad func227 ntmps227 rfl rfl ?_;refine eK ?_;refine Aq (λwz=>Fr ((λk=>(iD ad (st.items d).length cd).ownBlock=some k)) w wz) 10 (.pure 0 (.pure 1 (.pure 2 (.pure 3 (.pure 4 (.pure 5 (.pure 6 (.pure 7 (.fork 8 (.fork 9 .tail .none) .none))))))))) mixed AU (Aa (Af (Aa Ag))) ?_;intro bb a1 _;have V:(λwz=>Fr ((λk=>(iD ad (st.items d).length cd).ownBlock=some k)) w wz) bb:=lX a1;simp only at V;have ar:=ba;have au:=N;revert O N M F;refine eY a1 ?_;intro bm O N M F;refine ⟨V,?_⟩;refine eT ?_;refine Tq rfl (Ap Ac rfl rfl rfl (λwz hz=>l7 (lY au hz (λh=>q1 _ h rfl)) rfl)) (Tq rfl Mv (Tq rfl Pn (Tq rfl (Ap Ac rfl rfl rfl (λwz hz=>mb (mo ar hz (λh=>q2 _ h rfl)) rfl)) ?_)));refine AE rfl (xS [_]) rfl ?_ aFh AC;rintro _ ag ⟨bn,rfl,al,bo⟩;have bg:=al.blk;have a2:=al.ext;have bh:=al.pos;have bi:=al.size;revert V O N M F;refine eE a2 ?_;intro V O N M F;refine ⟨V,?_⟩;refine AE rfl (Fs Ac CJ rfl rfl rfl rfl AU rfl rfl rfl Ae (mi Ae) rfl rfl Ab Ab (ii _)) rfl ?_ aFh AC;rintro _ Z ⟨ah,am,rfl,ap,aa,aq,a3⟩;have bj:=aa.size;have V:=l8 V aa (λk G=>gP G);have O:=PlaceAt.fr O aa (q3);have N:=lY N aa (λh=>q1 _ h rfl);clear M;have F:=l8 F aa (λk G=>gP (gQ (U k G)));refine ⟨V,?_⟩;refine Ar rfl ?_;refine eK ?_;refine eS [_] N ?_;intro ai a4 aj bk;clear N;have ap:=mu ap aj (λk G hS=>by (obtain rfl:=gZ (show some ah=some k from G);rcases aq with h|h;exact q1 _ h hS;omega));have O:=PlaceAt.fr O aj (q4);have F:=l8 F aj (λk G=>gP (gP (by rw [show k=κ d from G];exact Y)));refine eK ?_
     have ab:Ro ρ (VC ρ ag Z (.items d)) w:=λb hb=>Xs ρ ag Z _ b Ab
     have a5:=HS.out.fresh;have h1:=HS.out.setCell (ρ':=VC ρ ag Z (.items d)) (ys:=st.items d++[(st.items c).getD i 0]) F ab (λb hb=>OA (w:=ag) (w':=Z) (λb hb=>a5 b Ab) Ab b Ab) ⟨by rw [ab _ a0];exact Y,_,a4,(by
      have h9:Own ai 0 3 1 (.slice (some ⟨ah,0,none⟩) ((st.items d).length+1) am) ((st.items d).length+1) (AZ (st.items d)++[.int .i64 ((st.items c).getD i 0)]):=by assumption
      unfold OwnI;rw [Hm,iq];exact h9),λk G=>by
      obtain rfl:=gZ (show some ah=some k from G);rcases aq with h|h
      . rw [ab _ (q5 _ h)];exact U _ h
      . exact Ue ρ _ h a3⟩
     have bc:κ c<w.heap.size:=by
      rcases it (κ c) w.heap.size with h|h
      . exact h
      . have:=O.hrc;rw [a5 _ h] at this;cases this
     have an:PlaceAt (VC ρ ag Z (.items d)) κ ai c g n cap (st.items c):=⟨by rw [ab _ bc];exact O.hrc,by rw [ab _ az];exact O.hrg,O.hb,O.ho⟩;have F2:=lZ (· = g) ai;have ho:=O.ho;have HF:=gO F;have Hp:=gO an;have H1:=gO h1;clear F O an h1;refine A6 (Cq Ac rfl rfl rfl Ae hi) (BH ?_);rintro _ bp ⟨bd,a6,bq⟩;have F2:=F2.fr a6 Ab;clear ho a6;refine kR ?_;have a7:=Hp.out.hrg;rw [ab _ az] at a7;have h2:=H1.out.putI Hp.out.hrc Hp.out.hrg Hp.out.hb F2 bd;exact ⟨_,κ,rfl,ab,(by unfold Stp.put;rw [CO,At (λh=>af h.1)];exact h2),(HF.out.weaken (T:=λk=>MV (ρ k)) (λk G=>by rcases G with h|h<;>rw [h]<;>trivial)).fr F2 (λk G=>gP (by rw [show k=g from G,a7];trivial))⟩
 . rcases i8 (st.items d) with hy|⟨ys,v,hy⟩
   . have e:st.move 45 c i d=(13,st):=by unfold mC;rw [At B7,hy];rfl
     rw [e];have hn:(st.items d).length=0:=by rw [hy];rfl
     generalize (st.items d).length=dn at *;generalize κ d=db at *;clear O;refine Ad func227 ntmps227 rfl rfl ?_;refine kR ?_;exact StR.same Ae X
   rw [jp] at hy;have hn:(st.items d).length=ys.length+1:=by rw [hy];simp
   have ak:(st.items d).getLast? = some v:=by rw [hy];simp
   have av:(st.items d).dropLast=ys:=by rw [hy];simp
   by_cases h0:(st.items c).getD i 0≠0
   . have e:st.move 45 c i d=(14,st):=by unfold mC;rw [At B7,ak];simp only;rw [AH h0]
     rw [e];generalize (st.items d).length=dn at *;generalize (st.items c).getD i 0=v0 at *;generalize κ d=db at *;clear O;refine Ad func227 ntmps227 rfl rfl ?_;refine kR ?_;exact StR.same Ae X
   . have e:st.move 45 c i d=(0,(st.put c i v).all d ys):=by unfold mC;rw [At B7,ak];simp only;rw [At h0,av]
     rw [e];have M:Own w 0 3 1 (.slice ad (st.items d).length cd) (st.items d).length (AZ (st.items d)):=ac;have br:=M.le;obtain ⟨gd,go,rfl,a8⟩:=ac.at.get (by intro e;rw [e] at hn;simp at hn);have r2:=mZ a8 (i:=(((st.items d).length:Int)-1).toNat) Ab;rw [show (st.items d).getD (((st.items d).length:Int)-1).toNat 0=v by rw [hn,show (((ys.length+1:Nat):Int)-1).toNat=ys.length by omega,hy];simp] at r2;have an:((st.items d).length:Int)-1=(ys.length:Int):=by omega
     have be:ys.length<=cd:=by omega
     rw [hn,hy,Hm] at M;have M:=M.cut (m:=ys.length) (by simp [AZ]) Ab;have q1:∀k,(iD (some ⟨gd,go,none⟩) ys.length cd).ownBlock=some k -> ¬k=κ d:=λk G e=>by have:=U k G;rw [e,Y] at this;cases this
     have q2:∀k,(iD (some ⟨gd,go,none⟩) ys.length cd).ownBlock=some k -> ¬k=g:=λk G e=>by have:=U k G;rw [e,O.hrg] at this;simp at this;exact af this
     have q3:¬ κ d=g:=λe=>by rw [e,O.hrg] at Y;cases Y
     have ho:=O.ho;have Hp:=gO O;have HS:=gO h;have F:=lZ (λk=>k=g\/k=κ d) w;clear h ac O a8;refine Ad func227 ntmps227 rfl rfl ?_;refine eK ?_;refine C1 (AL rfl rfl (gX _ Ab)) ?_;refine eK ?_;refine A6 (Cq Ac rfl rfl rfl Ae hi) (BH ?_);rintro _ bs ⟨aw,ax,bt⟩;have N:=lY N ax (q3);have M:=mu M ax (q2);clear ho;have F:=F.fr ax Ab;refine eK ?_;refine C1 (AL rfl rfl (gX _ Ab)) (C1 (DM Ac rfl rfl rfl rfl an be) ?_);refine eK ?_;refine eS [_] N ?_;intro bu a9 ay _;clear N;have aw:=mM aw ay (λk G=>by simp only [Go.Value.ownBlock,gU] at G;omega);have M:=mu M ay (q1);have F:=l8 F ay (λk G=>gP (gQ G));refine kR ?_;have ao:=Hp.out.hrg;have ae:=Hp.out.hrc;have bf:=Hp.out.hb.fr F (λe=>by
      rcases e with e|e
      . rw [e,ao] at ae;cases ae
      . rw [e,Y] at ae;simp at ae;exact af ae.symm)
     exact ⟨ρ,κ,rfl,Ro.refl _ _,HS.out.set2 af (F.weaken (λk G=>by rcases G with rfl|rfl;exact gP (gQ ao);exact gQ (gP Y))) (Ro.refl _ _) (HS.out.fresh.mv F) ⟨ae,_,bf,aw,λk G=>by obtain rfl:=gZ (show some g=some k from G);exact ao⟩ ⟨Y,_,a9,M,U⟩,F.weaken (λk G=>by rcases G with rfl|rfl;rw [ao];trivial;rw [Y];trivial)⟩
def Kn {cap:Nat} {v:Int} {ρ1:Nat->Rl} {w1 O:wD} {ti to:List Int} (M:PlaceAt ρ κ w c g n cap (st.items c)) (hr:Ro ρ ρ1 w) (h1:∃G,Ro ρ1 G w1/\StoreAt G κ w1 sb { st with tin:=ti,tout:=to }) (U:Fr (BX ρ) w w1) (x2:Fr (· = g) w1 O) (ho:OwnI O 0 (.slice (some ⟨g,0,none⟩) n cap) ((st.items c).set i v)) :
 StR ρ sb { st.put c i v with tin:=ti,tout:=to } 0 w (.returned (.int .i64 0)) O:=by
 obtain ⟨G,V,h2⟩:=h1;have hs:=U.size;have N:=hr.trans V hs;have X:=M.lt;have Y:=M.hb.lt;have Z:=M.hb.fr U (λh=>by rcases h with h|h|h<;>rw [M.hrc] at h<;>cases h);have h3:=h2.putI (c:=c) (g:=g) (n:=n) (cap:=cap) (by rw [N _ Y];exact M.hrc) (by rw [N _ X];exact M.hrg) Z x2 ho;refine ⟨G,κ,rfl,N,h3,(U.weaken (T:=λk=>MV (ρ k)) (λk hk=>by rcases hk with h|h|h<;>rw [h]<;>trivial)).fr x2 (λk hk=>gP (by rw [show k=g from hk,M.hrg];trivial))⟩
def Gz {r:Int} {N:Nat->Rl} {w1:wD} (U:Ro ρ N w) (V:∃G,Ro N G w1/\StoreAt G κ w1 sb st) (O:Fr (BX ρ) w w1):StR ρ sb st r w (.returned (.int .i64 r)) w1:=by
 obtain ⟨G,M,X⟩:=V;exact ⟨G,κ,rfl,U.trans M O.size,X,O.weaken (λk Y=>by rcases Y with h|h|h<;>rw [h]<;>trivial)⟩
def Xv {cap:Nat} (hi:i<(st.items c).length) (w:wD) (h:StoreAt ρ κ w sb st) (hp:PlaceAt ρ κ w c g n cap (st.items c)) :
 Calls prog 228 #[pt sb,.int .u8 46,.pointer (some ⟨g,0+i*1,none⟩)] w (StR ρ sb (st.transfer 46 c i).2 (st.transfer 46 c i).1 w):=by
 obtain ⟨bv,bc,aj,cv,tb,hb,ht,aa⟩:=h.openT;have U:=hp.row hi;have V:=ht.li;have ab:=h.role;have O:=gO aa;have Hp:=gO hp;have F:=lZ (BX ρ) w;have q1:¬BX ρ g:=λh=>by rcases h with h|h|h<;>rw [hp.hrg] at h<;>cases h
 have q2:¬BX ρ sb:=λh=>by rcases h with h|h|h<;>rw [ab] at h<;>cases h
 have ho:=hp.ho;have q3:∀k,(iD (some ⟨g,0,none⟩) n cap).ownBlock=some k -> ¬BX ρ k:=λk N=>by obtain rfl:=gZ (show some g=some k from N);exact q1
 cases hti:st.tin with
 | nil=>
  have e:st.transfer 46 c i=(17,st):=by unfold md;rw [AH rfl,hti]
  rw [e];rw [hti] at ht;have hR:=gO (λw1 h=>Xo ρ tb st.tout w1 h);refine Ad func228 ntmps228 rfl rfl (eK ?_);refine C1 (A2 Ac rfl rfl) (kQ (hR.out _ Ae) ?_);rintro _ w5 ⟨ak,⟨⟩,h2,h3,f4⟩;have F:=l8 F f4 (λk N=>gP N);refine kR ?_;exact Gz h2 (by
   have h9:=O.out _ _ _ _ h2 F h3;rwa [show ({ st with tin:=[],tout:=st.tout }:Stp)=st by rw [<-hti]] at h9) F
 | cons v r=>
  rw [hti] at ht V;simp only [gV] at V;have e:st.transfer 46 c i=if (st.items c).getD i 0≠0 then (14,st) else (0,{ st.put c i v with tin:=r }):=by unfold md;rw [AH rfl,hti]
  rw [e];have hR:=gO (λw1 h=>Zz ρ tb v r st.tout w1 h);have hU:=gO (λρ1 w1 h=>Ow ρ1 tb v r st.tout w1 h Ab);generalize al:(st.items c).getD i 0=v0 at *;refine Ad func228 ntmps228 rfl rfl ?_
  focus
   refine eK ?_;refine C1 (A2 Ac rfl rfl) (kQ (hR.out _ Ae) ?_);rintro _ ac ⟨ag,⟨⟩,G,ad,M⟩;have am:=M.size;have hb:=lY hb M (q2);have F:=l8 F M (λk N=>gP N);have ho:=mM ho M (q3);have U:=mo U M (q1);refine eK ?_;refine BS rfl (λae=>?_) (λae=>?_);refine kQ (hU.out _ _ Ae) ?_;rintro _ ah ⟨ai,⟨⟩,X,Y,Z⟩;have F:=l8 F Z (λk N=>by (rcases it k w.heap.size with h|h;left;unfold BX at N ⊢;rw [G k h] at N;exact N;exact gQ h));refine eK ?_;rotate_left;refine eK ?_;rotate_left
  . have h9:=O.out _ _ _ _ (G.trans X Ab) F Y;rw [show ({ st with tin:=v::r,tout:=st.tout }:Stp)=st by rw [<-hti]] at h9;have H9:=gO h9;rw [AH Ae];refine kR ?_;exact Gz (G.trans X Ab) H9.out F
  . have H9:=gO (O.out _ _ _ _ G F ad);have F2:=lZ (· = g) ac;have F1:=gO F;rw [At (λh=>h Ae)];refine eK ?_;refine A6 (Cq Ac rfl rfl rfl Ae hi) (BH ?_);rintro _ an ⟨ao,af,ap⟩;have F2:=F2.fr af Ab;refine kR ?_;exact Kn Hp.out G H9.out F1.out F2 Ae
def Xw {cap:Nat} (hi:i<(st.items c).length) (w:wD) (h:StoreAt ρ κ w sb st) (hp:PlaceAt ρ κ w c g n cap (st.items c)) :
 Calls prog 228 #[pt sb,.int .u8 49,.pointer (some ⟨g,0+i*1,none⟩)] w (StR ρ sb (st.transfer 49 c i).2 (st.transfer 49 c i).1 w):=by
 obtain ⟨bv,bc,ak,cv,tb,hb,ht,ab⟩:=h.openT;have V:=hp.row hi;have X:=ht.lo;have ac:=h.role;have U:=gO ab;have Hp:=gO hp;have F:=lZ (BX ρ) w;have q1:¬BX ρ g:=λh=>by rcases h with h|h|h<;>rw [hp.hrg] at h<;>cases h
 have q2:¬BX ρ sb:=λh=>by rcases h with h|h|h<;>rw [ac] at h<;>cases h
 have ho:=hp.ho;have q3:∀k,(iD (some ⟨g,0,none⟩) n cap).ownBlock=some k -> ¬BX ρ k:=λk O=>by obtain rfl:=gZ (show some g=some k from O);exact q1
 rcases i8 st.tout with G|⟨r,v,G⟩
 . have e:st.transfer 49 c i=(17,st):=by unfold md;rw [At B7,At B7,At B7,G];rfl
   rw [e];rw [G] at ht;have hR:=gO (λw1 h=>Rq ρ tb st.tin w1 h);refine Ad func228 ntmps228 rfl rfl (eK ?_);refine C1 (A2 Ac rfl rfl) (kQ (hR.out _ Ae) ?_);rintro _ w5 ⟨al,⟨⟩,h2,h3,f4⟩;have F:=l8 F f4 (λk O=>gP O);refine kR ?_;exact Gz h2 (by
    have h9:=U.out _ _ _ _ h2 F h3;rwa [show ({ st with tin:=st.tin,tout:=[] }:Stp)=st by rw [<-G]] at h9) F
 . rw [jp] at G;rw [G] at ht X;simp only [iq,jO] at X;have e:st.transfer 49 c i=if (st.items c).getD i 0≠0 then (14,st) else (0,{ st.put c i v with tout:=r }):=by unfold md;rw [At B7,At B7,At B7,show st.tout.getLast? = some v by rw [G];simp,show st.tout.dropLast=r by rw [G];simp]
   rw [e];have hR:=gO (λw1 h=>S7 ρ tb v st.tin r w1 h);have hU:=gO (λρ1 w1 h=>Rr ρ1 tb v st.tin r w1 h Ab);generalize am:(st.items c).getD i 0=v0 at *;refine Ad func228 ntmps228 rfl rfl ?_
   focus
    refine eK ?_;refine C1 (A2 Ac rfl rfl) (kQ (hR.out _ Ae) ?_);rintro _ ad ⟨ah,⟨⟩,M,ae,N⟩;have an:=N.size;have hb:=lY hb N (q2);have F:=l8 F N (λk O=>gP O);have ho:=mM ho N (q3);have V:=mo V N (q1);refine eK ?_;refine BS rfl (λaf=>?_) (λaf=>?_);refine kQ (hU.out _ _ Ae) ?_;rintro _ ai ⟨aj,⟨⟩,Y,Z,aa⟩;have F:=l8 F aa (λk O=>by (rcases it k w.heap.size with h|h;left;unfold BX at O ⊢;rw [M k h] at O;exact O;exact gQ h));refine eK ?_;rotate_left;refine eK ?_;rotate_left
   . have h9:=U.out _ _ _ _ (M.trans Y Ab) F Z;rw [show ({ st with tin:=st.tin,tout:=r++[v] }:Stp)=st by rw [<-G]] at h9;have H9:=gO h9;rw [AH Ae];refine kR ?_;exact Gz (M.trans Y Ab) H9.out F
   . have H9:=gO (U.out _ _ _ _ M F ae);have F2:=lZ (· = g) ad;have F1:=gO F;rw [At (λh=>h Ae)];refine eK ?_;refine A6 (Cq Ac rfl rfl rfl Ae hi) (BH ?_);rintro _ ao ⟨ap,ag,aq⟩;have F2:=F2.fr ag Ab;refine kR ?_;exact Kn Hp.out M H9.out F1.out F2 Ae
def Xx {cap:Nat} (hi:i<(st.items c).length) (w:wD) (h:StoreAt ρ κ w sb st) (Z:PlaceAt ρ κ w c g n cap (st.items c)) :
 Calls prog 228 #[pt sb,.int .u8 47,.pointer (some ⟨g,0+i*1,none⟩)] w (StR ρ sb (st.transfer 47 c i).2 (st.transfer 47 c i).1 w):=by
 obtain ⟨bv,bc,am,cv,tb,N,X,aa⟩:=h.openT;have G:=Z.row hi;have an:=X.li;have ao:=X.lo;have ah:=h.role;have ab:=gO aa;have Hp:=gO Z;have F:=lZ (BX ρ) w;have q1:¬BX ρ g:=λh=>by rcases h with h|h|h<;>rw [Z.hrg] at h<;>cases h
 have q2:¬BX ρ sb:=λh=>by rcases h with h|h|h<;>rw [ah] at h<;>cases h
 have O:=Z.ho;have q3:∀k,(iD (some ⟨g,0,none⟩) n cap).ownBlock=some k -> ¬BX ρ k:=λk hk=>by obtain rfl:=gZ (show some g=some k from hk);exact q1
 have ap:=Hp.out.lt;have aq:=N.lt;clear aa Z h;by_cases hf:4096<=st.tin.length
 . have e:st.transfer 47 c i=(5,st):=by unfold md;rw [At B7,AH rfl,AH hf]
   rw [e];have hR:=gO (λw1 h=>S6 ρ tb ((st.items c).getD i 0) st.tin st.tout w1 h Ab);generalize (st.items c).getD i 0=v0 at *;refine Ad func228 ntmps228 rfl rfl ?_;refine eK ?_;refine C1 (A2 Ac rfl rfl) ?_;refine eK ?_;refine Aq (λU=>Ext w U) 7 (.pure 0 (.pure 1 (.pure 2 (.pure 3 (.pure 4 (.pure 5 (.pure 6 .tail))))))) mixed AU (Af (Aa Ag)) ?_;intro w1 x2 _;have ac:(λU=>Ext w U) w1:=x2;simp only at ac;have ad:=N;have M:=G;revert N X F O G;refine eY x2 ?_;intro z4 N X F O G;refine ⟨ac,?_⟩;refine eT ?_;refine Tq rfl (Ap Ac rfl rfl rfl (λU hz=>mb (l5 M hz) rfl)) ?_;refine Ar rfl (eQ rfl (hR.out _ Ae) ?_);rintro _ w9 ⟨ar,⟨⟩,h6,h7,f8⟩;have N:=lY N f8 (q2);clear X;have F:=l8 F f8 (λk hk=>gP hk);have O:=mM O f8 (q3);have G:=mo G f8 (q1);refine kR ?_;exact Gz (Ro.low h6 Ab) (ab.out _ _ _ _ (Ro.low h6 Ab) F h7) F
 . have e:st.transfer 47 c i=(0,{ st.put c i 0 with tin:=(st.items c).getD i 0::st.tin }):=by unfold md;rw [At B7,AH rfl,At hf]
   rw [e];have hR:=gO (λw1 h=>Ow ρ tb ((st.items c).getD i 0) st.tin st.tout w1 h Ab);generalize (st.items c).getD i 0=v0 at *;refine Ad func228 ntmps228 rfl rfl ?_;refine eK ?_;refine C1 (A2 Ac rfl rfl) ?_;refine eK ?_;refine Aq (λU=>Ext w U) 7 (.pure 0 (.pure 1 (.pure 2 (.pure 3 (.pure 4 (.pure 5 (.pure 6 .tail))))))) mixed AU (Af (Aa Ag)) ?_;intro ai ae _;have Y:(λU=>Ext w U) ai:=ae;simp only at Y;have ad:=N;have M:=G;revert N X F O G;refine eY ae ?_;intro au N X F O G;refine ⟨Y,?_⟩;refine eT ?_;refine Tq rfl (Ap Ac rfl rfl rfl (λU hz=>mb (l5 M hz) rfl)) ?_;refine Ar rfl (eQ rfl (hR.out _ Ae) ?_);rintro _ aj ⟨al,⟨⟩,af,ag,V⟩;have N:=lY N V (q2);clear X;have F:=l8 F V (λk hk=>gP hk);have O:=mM O V (q3);have G:=mo G V (q1);refine eK ?_;have H9:=gO (ab.out _ _ _ _ (Ro.low af Ab) F ag);have F2:=lZ (· = g) aj;have F1:=gO F;clear F;refine eK ?_;refine A6 (Cq Ac rfl rfl rfl Ae hi) (BH ?_);rintro _ av ⟨aw,ak,ax⟩;clear ag N O G;have F2:=F2.fr ak Ab;refine kR ?_;exact Kn Hp.out (Ro.low af Ab) H9.out F1.out F2 Ae
def Xy {cap:Nat} (hi:i<(st.items c).length) (w:wD) (h:StoreAt ρ κ w sb st) (Z:PlaceAt ρ κ w c g n cap (st.items c)) :
 Calls prog 228 #[pt sb,.int .u8 48,.pointer (some ⟨g,0+i*1,none⟩)] w (StR ρ sb (st.transfer 48 c i).2 (st.transfer 48 c i).1 w):=by
 obtain ⟨bv,bc,am,cv,tb,N,X,aa⟩:=h.openT;have G:=Z.row hi;have an:=X.li;have ao:=X.lo;have ah:=h.role;have ab:=gO aa;have Hp:=gO Z;have F:=lZ (BX ρ) w;have q1:¬BX ρ g:=λh=>by rcases h with h|h|h<;>rw [Z.hrg] at h<;>cases h
 have q2:¬BX ρ sb:=λh=>by rcases h with h|h|h<;>rw [ah] at h<;>cases h
 have O:=Z.ho;have q3:∀k,(iD (some ⟨g,0,none⟩) n cap).ownBlock=some k -> ¬BX ρ k:=λk hk=>by obtain rfl:=gZ (show some g=some k from hk);exact q1
 have ap:=Hp.out.lt;have aq:=N.lt;clear aa Z h;by_cases hf:4096<=st.tout.length
 . have e:st.transfer 48 c i=(5,st):=by unfold md;rw [At B7,At B7,AH rfl,AH hf]
   rw [e];have hR:=gO (λw1 h=>Vw ρ tb ((st.items c).getD i 0) st.tin st.tout w1 h Ab);generalize (st.items c).getD i 0=v0 at *;refine Ad func228 ntmps228 rfl rfl ?_;refine eK ?_;refine C1 (A2 Ac rfl rfl) ?_;refine eK ?_;refine Aq (λU=>Ext w U) 7 (.pure 0 (.pure 1 (.pure 2 (.pure 3 (.pure 4 (.pure 5 (.pure 6 .tail))))))) mixed AU (Af (Aa Ag)) ?_;intro w1 x2 _;have ac:(λU=>Ext w U) w1:=x2;simp only at ac;have ad:=N;have M:=G;revert N X F O G;refine eY x2 ?_;intro z4 N X F O G;refine ⟨ac,?_⟩;refine eT ?_;refine Tq rfl (Ap Ac rfl rfl rfl (λU hz=>mb (l5 M hz) rfl)) ?_;refine Ar rfl (eQ rfl (hR.out _ Ae) ?_);rintro _ w9 ⟨ar,⟨⟩,h6,h7,f8⟩;have N:=lY N f8 (q2);clear X;have F:=l8 F f8 (λk hk=>gP hk);have O:=mM O f8 (q3);have G:=mo G f8 (q1);refine kR ?_;exact Gz (Ro.low h6 Ab) (ab.out _ _ _ _ (Ro.low h6 Ab) F h7) F
 . have e:st.transfer 48 c i=(0,{ st.put c i 0 with tout:=st.tout++[(st.items c).getD i 0] }):=by unfold md;rw [At B7,At B7,AH rfl,At hf]
   rw [e];have hR:=gO (λw1 h=>Rr ρ tb ((st.items c).getD i 0) st.tin st.tout w1 h Ab);generalize (st.items c).getD i 0=v0 at *;refine Ad func228 ntmps228 rfl rfl ?_;refine eK ?_;refine C1 (A2 Ac rfl rfl) ?_;refine eK ?_;refine Aq (λU=>Ext w U) 7 (.pure 0 (.pure 1 (.pure 2 (.pure 3 (.pure 4 (.pure 5 (.pure 6 .tail))))))) mixed AU (Af (Aa Ag)) ?_;intro ai ae _;have Y:(λU=>Ext w U) ai:=ae;simp only at Y;have ad:=N;have M:=G;revert N X F O G;refine eY ae ?_;intro au N X F O G;refine ⟨Y,?_⟩;refine eT ?_;refine Tq rfl (Ap Ac rfl rfl rfl (λU hz=>mb (l5 M hz) rfl)) ?_;refine Ar rfl (eQ rfl (hR.out _ Ae) ?_);rintro _ aj ⟨al,⟨⟩,af,ag,V⟩;have N:=lY N V (q2);clear X;have F:=l8 F V (λk hk=>gP hk);have O:=mM O V (q3);have G:=mo G V (q1);refine eK ?_;have H9:=gO (ab.out _ _ _ _ (Ro.low af Ab) F ag);have F2:=lZ (· = g) aj;have F1:=gO F;clear F;refine eK ?_;refine A6 (Cq Ac rfl rfl rfl Ae hi) (BH ?_);rintro _ av ⟨aw,ak,ax⟩;clear ag N O G;have F2:=F2.fr ak Ab;refine kR ?_;exact Kn Hp.out (Ro.low af Ab) H9.out F1.out F2 Ae
end
def Cr (ps:List PD) (d:Nat) (b:Bool) {n:Int} {l:List Nd} (hk:k<50\/55<k) (r:Rn):Aw ps (d+1) b (.mk k n s l) r=(A4 r).bind (Cy (·.run1 (if b then A9 k else k) n s l)):=by
 conv=>lhs;unfold Aw
 rw [At Ab,At Ab,At Ab,At Ab,At Ab]
def ER (ps:List PD) (d:Nat) (b:Bool) {n:Int} {l:List Nd} (hk:k=50\/k=51) (r:Rn):Aw ps (d+1) b (.mk k n s l) r =
 (A4 r).bind λr=>(Cy (·.enters (ps.getD ((Cg ps s).getD 0) ⟨[],[],.mk 0 0 [] []⟩).params (l.map Nd.name)) r).bind λr=>
  (AG (Aw ps d) (b != decide (k=51)) (ps.getD ((Cg ps s).getD 0) ⟨[],[],.mk 0 0 [] []⟩).body r).bind λr=>(A4 r).bind (Cy (·.leaves)):=by
 conv=>lhs;unfold Aw
 rw [At Ab,At Ab,At Ab,At Ab,AH hk]
def M7 {f g:Nd->Rn->Except Int Rn} {q:Bool}:∀(l:List Nd),(∀t∈l,f (t.inv q)=g t)->Eh f (Cc q l)=Eh g l
 | [],_=>rfl
 | t::l,h=>by
  funext r;simp only [Eh,Cc];rw [h t AK,M7 l (λx G=>h x (by simp [G]))]
def Js (h:t.isBlock=true):t = .mk 57 0 [] t.kids /\ ∀x∈t.kids,x.isStmt=true:=by
 obtain ⟨k,n,s,l⟩:=t;simp only [Nd.isBlock,gR,beq_iff_eq,plain,jn] at h;obtain ⟨⟨rfl,rfl,rfl⟩,h⟩:=h;exact ⟨rfl,rowStmt_iff.1 h⟩
def M8 {f g:Bool->Nd->Rn->Except Int Rn} (H:∀b t,t.isStmt=true->f b (t.inv q)=g (!b) t) (h:t.isBlock=true) (b:Bool):AG f b (t.inv q)=AG g (!b) t:=by
 obtain ⟨e,M⟩:=Js h;generalize t.kids=l at *;subst e;rw [EI];funext r;unfold AG;simp only [Nd.kids];cases b
 . simp only [iS,if_false,Bool.not_false,if_true];rw [<-I9,M7 l.reverse (λt G=>H false t (M t (by simpa using G)))];rfl
 . simp only [if_true,lC,lU,iS,if_false];rw [M7 l (λt G=>H true t (M t G))];rfl
def M9 (f:Bool->Nd->Rn->Except Int Rn) (b:Bool) (h:t.kids=[]):AG f b t=λr=>.ok r:=by
 funext r;unfold AG;rw [h];cases b<;>rfl
def D7 (q:Bool) (ps:List PD):List PD:=if q then ps.map (PD.map (·.inv true)) else ps
def VE (f:Nd->Nd) (ps:List PD) (s:lB):Cg (ps.map (PD.map f)) s=Cg ps s:=by
 unfold Cg;rw [List.findIdx?_map];rfl
def ZJ (q:Bool) (ps:List PD) (s:lB):Cg (D7 q ps) s=Cg ps s:=by
 unfold D7;split
 . exact VE _ _ _
 . rfl
def ES (h:t.isPlace=true):t.isExpr=true:=by
 simp only [Nd.isPlace,gR] at h;exact h.2
def cJ (a b:Bool):((!a) != b) = !(a != b):=by cases a<;>cases b<;>rfl
def Ug (q:Bool) {ps:List PD} (V:∀p∈ps,p.body.isBlock=true):∀(d:Nat) (b:Bool) (t:Nd),t.isStmt=true->Aw (D7 q ps) d b (t.inv q)=Aw ps d (!b) t
 | 0,b,t,_=>by funext r;simp [Aw]
 | d+1,b,t,h=>by
  have IH:=Ug q V d;have O:∀ {x:Nd},x.isBlock=true -> ∀b,AG (Aw (D7 q ps) d) b (x.inv q)=AG (Aw ps d) (!b) x:=λh b=>M8 IH h b
  have Z:=B3 h;cases Z with
  | upd G M N=>
   rename_i k x y;rw [Pb q G (ES M) N];funext r;have Y:A9 k=40\/A9 k=41\/A9 k=42\/A9 k=56:=by unfold A9;rcases G with rfl|rfl|rfl|rfl<;>simp
   rw [Cr _ _ _ Ab,Cr _ _ _ Ab];cases b<;>simp [Eb]
  | swap M N=>
   rename_i x y;rw [Md q (ES M) (ES N)];funext r;rw [Cr _ _ _ Ab,Cr _ _ _ Ab];cases b<;>simp [A9]
  | stack G hn M=>
   rename_i k s x;rw [Im q Ab (ES M)];funext r;have Y:A9 k=44\/A9 k=45:=by unfold A9;rcases G with rfl|rfl<;>simp
   rw [Cr _ _ _ Ab,Cr _ _ _ Ab];cases b<;>simp [Eb]
  | tape G M=>
   rename_i k x;rw [Im q Ab (ES M)];funext r;have Y:A9 k=46\/A9 k=47\/A9 k=48\/A9 k=49:=by unfold A9;rcases G with rfl|rfl|rfl|rfl<;>simp
   rw [Cr _ _ _ Ab,Cr _ _ _ Ab];cases b<;>simp [Eb]
  | call G hn hl hv=>
   rename_i k s l;rw [Me q G hv];funext r;have Y:(if q=true then k else A9 k)=50\/(if q=true then k else A9 k)=51:=by unfold A9;cases q<;>rcases G with rfl|rfl<;>simp
   rw [ER _ _ _ Y,ER _ _ _ G];simp only [ZJ];generalize (Cg ps s).getD 0=i;cases q
   . simp only [D7,iS,if_false];have e2:(b != decide (A9 k=51))=((!b) != decide (k=51)):=by
      rw [cJ];rcases G with rfl|rfl<;>cases b<;>rfl
     rw [e2]
   . simp only [if_true] at O ⊢;rw [cJ];have e2:((D7 true ps).getD i ⟨[],[],.mk 0 0 [] []⟩).params=(ps.getD i ⟨[],[],.mk 0 0 [] []⟩).params:=by
      simp only [D7,if_true,gT,iJ];cases ps[i]? <;> rfl
     have e3:∀c,AG (Aw (D7 true ps) d) c ((D7 true ps).getD i ⟨[],[],.mk 0 0 [] []⟩).body=AG (Aw ps d) (!c) (ps.getD i ⟨[],[],.mk 0 0 [] []⟩).body:=λc=>by
      rcases it i ps.length with U|U
      . have h1:((D7 true ps).getD i ⟨[],[],.mk 0 0 [] []⟩).body=(ps.getD i ⟨[],[],.mk 0 0 [] []⟩).body.inv true:=by
         simp only [D7,if_true,gT,iJ,gN U];rfl
        rw [h1];refine O (V _ ?_) c;simp only [gT,gN U,kf];exact ig U
      . have h1:(ps.getD i ⟨[],[],.mk 0 0 [] []⟩).body = .mk 0 0 [] []:=by simp [gT,ic U]
        have h2:((D7 true ps).getD i ⟨[],[],.mk 0 0 [] []⟩).body = .mk 0 0 [] []:=by simp [D7,gT,ic U]
        rw [h1,h2,M9 _ _ rfl,M9 _ _ rfl]
     rw [e2,e3]
  | branch G M N X hu=>
   rename_i k x y z u;rw [Ja q G M N X hu];funext r;unfold Aw;have f1:∀p:Bool,AG (Aw (D7 q ps) d) b (if p=true then y.inv q else z.inv q)=AG (Aw ps d) (!b) (if p=true then y else z):=λp=>by
    cases p
    . exact O X b
    . exact O N b
   rcases G with rfl|rfl
   . cases b<;>simp [Bu,f1]
   . cases b<;>simp [Bu,O N,O X]
  | local_ hn M N X=>
   rename_i s x y z;rw [KF q M N X];funext r;unfold Aw;cases b<;>simp [Bu,O N]
  | lstack hn M=>
   rename_i s x;rw [Jb q M];funext r;unfold Aw;simp [Bu,O M]
def VF (q:Bool) {ps:List PD} (G:∀p∈ps,p.body.isBlock=true) (d:Nat) (b:Bool) (h:t.isBlock=true):AG (Aw (D7 q ps) d) b (t.inv q)=AG (Aw ps d) (!b) t:=
 M8 (Ug q G d) h b
section
variable {at_:lB->Option (List Int)} {f:FuncId} {fi:lV} {I:wD->Prop}
def PS (Y:BZ prog f=true) (Z:Le at_ f fi I) (t:Nd) (hw:t.wf) (U:t.isExpr=true) (S:nP) (a:oA) (c:Nat) (w:wD) (h:t.sits S w a) (G:Keep I w) :
 Calls prog 221 #[t.val a c,.func (.func f) fi.toArray #[]] w (dQ (AW at_ t) w):=by
 have N:=FB (· < w.heap.size) t hw;unfold Ec at N;rw [U] at N;have HE:=gO N;have M:=QA Y Z (t.size+1) t Ab U;unfold bT at M;have M:=gO M;have h:=Cd _ _ h;have X:=Ne w;generalize AW at_ t=r at *;refine Ad func221 ntmps221 rfl rfl (cS (eB [_,_,_,_] ?_));intro b1 w2 V x5 _ _;revert G h X;refine eE x5 ?_;intro G h X;refine eK ?_;refine C1 (JJ Ac rfl rfl) (kC (HE.out _ _ _ Ae) ?_);rintro _ w9 ⟨⟨⟩,x8⟩;revert V G h X;refine eE x8 ?_;intro V G h X;refine kC (M.out _ _ _ _ Ae Ae) ?_;rintro _ aa ⟨⟨⟩,O⟩;have X:=X.ext O;refine kT ?_;exact ⟨rfl,X⟩
def ZK (M:BZ prog f=true) (N:Le at_ f fi I) (t:Nd) (O:t.wf) (U:t.isExpr=true) (S:nP) (a:oA) (c:Nat) (w:wD) (h:t.sits S w a) (G:Keep I w) :
 Calls prog 219 #[t.val a c,.func (.func f) fi.toArray #[]] w λe w'=>e = .returned (.tuple #[.bool (decide ((AW at_ t).1≠0)),.int .i64 (AW at_ t).2])/\Ext w w':=by
 have V:=gO (PS M N t O U);have h:=Cd _ _ h;have X:=Ne w;generalize AW at_ t=r at *;refine Ad func219 ntmps219 rfl rfl (cS (eB [_,_,_,_] ?_));intro b1 w2 h4 Y _ _;revert G h X;refine eE Y ?_;intro G h X;refine kC (V.out _ _ _ _ Ae Ae) ?_;rintro _ w9 ⟨⟨⟩,Z⟩;have X:=X.ext Z;refine kT ?_;exact ⟨rfl,X⟩
def Ko (hf:BZ prog f=true) (HL:Le at_ f fi I) (t:Nd) (hw:t.wf) (U:t.isPlace=true) (S:Nat->Prop) (a:Option Addr) (c:Nat) (w:World) (M:t.sits S w a) (V:Keep I w) :
 Calls prog 223 #[t.val a c,.func (.func f) fi.toArray #[]] w (dQ (Bf at_ t) w):=by
 have hE:=Gr (· < w.heap.size) t hw
 unfold Ec at hE
 rw [U] at hE;have HE:=gO hE;replace M:=Cd _ _ M;have X:=Ne w;have aa:=ES U
 have Y:t.kind=2\/t.kind=3:=by
  simp only [Nd.isPlace,gR,jc,beq_iff_eq] at U
  exact U.1
 have ab:=Mm aa
 cases ab with
 | ref h1 Z=>
  rename_i k s
  have ac:k=2:=by simp only [mz] at Y;omega
  subst ac;have e:Bf at_ (.mk 2 0 s [])=(0,0):=rfl;rw [e]
  change Calls prog 223 #[.agg #[.int .u8 2,.int .i64 0,str s,.slice a 0 c],.func (.func f) fi.toArray #[]] w _
  refine Ad func223 ntmps223 rfl rfl ?_
  refine cS (eB [_,_,_,_] ?_);intro b1 w2 h4 x5 _ _;revert X M;refine eE x5 ?_;intro X M;refine C1 Pa (C1 Pa (cT (Aj (cS (C1 Mv (C1 (JJ Ac rfl rfl) (cT (Ba rfl (Ao (Ai (Aj (cS (A1 [_,_,_,_] Ac rfl rfl rfl h4 rfl rfl rfl (cC rfl (HE.out _ _ _ Ae) ?_))))))))))))));rintro _ w9 ⟨⟨⟩,x8⟩;revert h4 X;refine eE x8 ?_;intro h4 X;refine C1 Pt (cT (Ba rfl (Ao (Ai (Aj (cS (C1 Pg (C1 (Pl h4) (C1 V1 (cT (Wt (cS (C1 Pa (C1 Pa (cT (AR (As (Bc rfl rfl rfl ?_))))))))))))))))))
  exact ⟨rfl,X⟩
 | item h1 Z=>
  rename_i s x
  have e:Bf at_ (.mk 3 0 s [x])=AW at_ x:=rfl;rw [e];have HV:=QA hf HL (x.size+1) x Ab Z
  unfold bT at HV
  replace HV:=gO HV;obtain ⟨kb,ko,xa,xc,rfl,-,N,h⟩:=WM M;replace h:=Cd _ _ h
  generalize AW at_ x=r at *
  change Calls prog 223 #[.agg #[.int .u8 3,.int .i64 0,str s,.slice (some ⟨kb,ko,none⟩) 1 c],.func (.func f) fi.toArray #[]] w _
  refine Ad func223 ntmps223 rfl rfl ?_
  refine cS (eB [_,_,_,_] ?_);intro ag ah G ad _ _;revert V X M N h;refine eE ad ?_;intro V X M N h;refine C1 Pa (C1 Pa (cT (Aj (cS (C1 Mv (C1 (JJ Ac rfl rfl) (cT (Ba rfl (Ao (Ai (Aj (cS (A1 [_,_,_,_] Ac rfl rfl rfl G rfl rfl rfl (cC rfl (HE.out _ _ _ Ae) ?_))))))))))))));rintro _ ai ⟨⟨⟩,ae⟩;revert G V X N h;refine eE ae ?_;intro G V X N h;refine C1 Pt (cT (Ba rfl (Ao (Ai (Aj (cS (C1 Pg (C1 (Pl G) (C1 V1 (cT (NH (Ao (Ai (cS (C1 Pf (C1 (Pl G) (C1 Pi (BT [_,_,_,_] Ac rfl rfl rfl N rfl rfl rfl (C1 Mv (cC rfl (HV.out _ _ _ _ Ae Ae) ?_))))))))))))))))))));rintro _ af ⟨⟨⟩,O⟩;replace X:=X.ext O;refine C1 Px (C1 Px (C1 Pa (C1 Pa (cT (AR (Bc rfl rfl rfl ?_))))))
  exact ⟨rfl,X⟩
 | num=>simp only [mz] at Y;omega
 | un h1 Z=>simp only [mz] at Y;omega
 | bin h1 Z h3=>simp only [mz] at Y;omega
end
def Xz (k x y:Int) (M:40<=k/\k<=42) (w:wD):Calls prog 226 #[.int .u8 k,.int .i64 x,.int .i64 y] w λe w'=>e = .returned (.tuple #[.int .i64 (LH k x y),.int .i64 0])/\w=w':=by
 refine Ad func226 ntmps226 rfl rfl ?_
 focus
  refine eK ?_;refine Ay rfl (λh=>?_) (λh=>?_);refine eK ?_;refine C1 (JL rfl rfl) (kT ?_);rotate_left;refine eK ?_;refine Ay rfl (λG=>?_) (λG=>?_);refine eK ?_;refine C1 (Qg rfl rfl) (kT ?_);rotate_left;refine eK ?_;refine C1 (TN rfl rfl) (kT ?_);rotate_left
 all_goals (refine ⟨?_,rfl⟩;unfold LH)
 . rw [AH Ae]
 . rw [At Ab,AH Ae]
 . rw [At Ab,At Ab]
end Bk
