/- Texts that the proofs of GradebookPlays need. No condition. (Part 5 of 9.) -/
import Derived.Test.YteiiipaobncfgaaGreatPGpl4
set_option linter.unusedSimpArgs false
set_option linter.unusedVariables false
set_option linter.defProp false
set_option maxRecDepth 100000
set_option maxHeartbeats 4000000
open Go.Proofs.Tryz
open Or renaming inl->gA,inr->gB
open Go.Result renaming andThen->gF
open Go renaming Calls->gS
open Except renaming bind->gZ
open Go.Value renaming slice->iA,int->iV,ownBlock->kw
open Nat renaming blt->iC,ble->jW,beq->kk
open Go.Region renaming ready->iH,binds->jM
open List renaming replicate->iK,range->jQ
open Go.DataW renaming trod->iQ
open Go.Builtin renaming zeroCells->jI
open Go.Addr renaming add->jY
open Go.Oper renaming wp->km
open Array renaming replicate->kn
open Go.IntKind renaming wrap->kN
open Go.Sem renaming run->kV
open Bk.Value renaming one->mG
open Bk.Stp renaming setCur->mX,items->ng
open Bk.EX renaming cells->mZ
namespace Bk
open Go Go.RowKit Go.Proofs
variable {n e t sz sb:Nat} {w w':wD} {xs:List Int} {v:Value} {S:wD->Prop} {x:Operand} {l:List (Int×Int)} {ty:TypeId} {P:Program} {κ:Nat->Nat} {es:List EX} {m:Option Nat} {vs:List VD} {s:lB} {M:nP} {α:Type} {st:Stp} {c:Bool} {k:Int} {f:Frm} {cs:lV} {p:oA} {r:Rn}
section
variable {l:Sl} {tab:Tab}
def MapZ (w:wD) (m:Option Nat) (kvs:List (lB×Value)):Prop:=(m=none/\kvs=[]) \/ ∃r,m=some r/\MapIs w r kvs
def Qw {y:Operand} {U:Nat} {k:lB} {z:Value} {kvs:List (lB×Value)} (T:TabOk P tab) (Z:AB tab t=some (.map sz e,sb)) (G:AB tab sz=some (.str,U)) (N:((P.info? e).bind (·.zero))=some z)
 (hx:ev l x=some (.map m)) (hy:ev l y=some (str k)) (hm:∀w,S w->MapZ w m kvs):Bm P n l S (.lookup t x y c) ty (Cx (Ef kvs k) z c):=by
 cases m with
 | some r=>
  refine Li T Z G N hx hy λw hw=>?_
  rcases hm w hw with ⟨h,-⟩|⟨r',h,V⟩
  . cases h
  . obtain rfl:=gJ h;exact V
 | none=>
  unfold Bm;intro a w aa pos after g ha hS;have X:kvs=[]:=by
   rcases hm w hS with ⟨-,h⟩|⟨r',h,-⟩
   . exact h
   . cases h
  subst X;have hu:P.underlying t=some (.map sz e):=(T _ _ _ Z).under;have hk:P.underlying sz=some .string:=(T _ _ _ G).under;obtain ⟨i0,z1,z2⟩:∃i,P.info? e=some i/\i.zero=some z:=by
   cases hi:P.info? e with
   | none=>rw [hi] at N;cases N
   | some i=>exact ⟨i,rfl,by simpa [hi] using N⟩
  obtain ⟨o,h1,V,-⟩:=run_findKey hk (k:=k) (es:=[]) (kvs:=[]) rfl w;have Y:(zeroValue e).run P w = .ok z w:=by simp [zeroValue,typeInfo,program,kV,z1,z2,bind,Sem.bind,pure]
  have e1:(Instr.lookup t (.map none) (str k) c).run P w = .ok (Cx (Ef [] k) z c) w:=by
   simp only [Instr.lookup,gO,AD hu,gF,hH,run_checkKey hk,h1];rw [<-V];cases o with
   | none=>simp [Y,Cx]
   | some q=>simp [Cx]
  simp only [execOp,ha.ev hx,ha.ev hy,gO,e1,gF,hH]
def Me {h:Nat} (T:TabOk P tab) (M:AB tab t=some (.map h e,sz)) (N:ev l x=some (.map m)) (O:m.isNone=c):Bm P n l S (.binOp .eql t x (.const (.map none)) sb) ty (.bool c):=by
 subst O;unfold Bm;intro G w U pos after g V _;have X:P.underlying t=some (.map h e):=(T _ _ _ M).under;have Y:(eqGuard .eql t x (.const (.map none)) (.map m) (.map none)).run P w = .ok () w:=by unfold eqGuard;simp
 have Z:=run_equal_map_nil (P:=P) w t h e m X;have hn:G.eval (.const (.map none)) = .map none:=rfl;simp [execOp,V.ev N,hn,Y,Z,binOp]
def Wp (T:TabOk P tab) (G:AB tab t=some (.ptr e,sz)) (M:ev l x=some (.pointer p)) (N:p.isNone=c):Bm P n l S (.binOp .eql t x (.const (.pointer none)) sb) ty (.bool c):=by
 subst N;unfold Bm;intro h w O pos after g U _;have V:P.underlying t=some (.pointer e):=(T _ _ _ G).under;have X:(eqGuard .eql t x (.const (.pointer none)) (.pointer p) (.pointer none)).run P w = .ok () w:=by unfold eqGuard;simp
 have Y:(Op.equal t (.pointer p) (.pointer none)).run P w = .ok p.isNone w:=by
  show (Op.equalIn (9999+1) t (.pointer p) (.pointer none)).run P w=_;unfold Op.equalIn;cases p<;>simp [AD V,gF]
 have Z:h.eval (.const (.pointer none)) = .pointer none:=rfl;simp [execOp,U.ev M,Z,X,Y,binOp]
def Fa {p:Addr} (T:TabOk P tab) (h:AB tab t=some (.ptr e,sz)) (G:ev l x=some (.pointer (some p))):Bm P n l S (.binOp .eql t x (.const (.pointer none)) sb) ty (.bool false):=Wp T h G rfl
def YQ {h:Nat} {r:Nat} (T:TabOk P tab) (G:AB tab t=some (.map h e,sz)) (M:ev l x=some (.map (some r))):Bm P n l S (.binOp .eql t x (.const (.map none)) sb) ty (.bool false):=Me T G M rfl
def YR {h:Nat} (T:TabOk P tab) (G:AB tab t=some (.map h e,sz)) (M:ev l x=some (.map none)):Bm P n l S (.binOp .eql t x (.const (.map none)) sb) ty (.bool true):=Me T G M rfl
end
attribute [local irreducible] Go.Calls
def PDsC.move {S S':nP} {w w':wD} {l:List PD} {a:oA} (h:PDsC S w l a) (G:∀b,S b->S' b) (M:∀b o v,S b->w.cell? ⟨b,o,none⟩=some v->w'.cell? ⟨b,o,none⟩=some v):PDsC S' w' l a:=
 h.mono G (λb _ _ _ N ⟨O,pc,ba,bc,h1,h2,h3,h4⟩=>⟨O,pc,ba,bc,Lw h1 (λo v=>M b o v N),h2.move G M,nh G M _ ba h3,h4⟩)
def EX.sits.move {S S':nP} {w w':wD} {e:EX} {O U G:oA} {vc:Nat} (h:e.sits S w O U G vc) (M:∀b,S b->S' b) (N:∀b o v,S b->w.cell? ⟨b,o,none⟩=some v->w'.cell? ⟨b,o,none⟩=some v):e.sits S' w' O U G vc:=
 have V:=h.p.move M N
 ⟨⟨h.g.vars.move M N,V.pds,nh M N _ G h.g.main⟩,V,h.room⟩
def EX.sits.wide {S S':nP} {w:wD} {e:EX} {G M N:oA} {vc:Nat} (h:e.sits S w G M N vc) (O:∀b,S b->S' b):e.sits S' w G M N vc:=⟨h.g.wide O,h.p.wide O,h.room⟩
def EX.sits.lt2 {S:nP} {w:wD} {e:EX} {M N G:oA} {vc:Nat} (h:e.sits S w M N G vc):e.sits (λb=>S b/\b<w.heap.size) w M N G vc:=
 have O:=h.p.lt2
 ⟨⟨h.g.vars.lt2,O.pds,Gb _ G h.g.main⟩,O,h.room⟩
def eP (S:nP) (w:wD) (b o:Nat) (e:EX):Prop:= ∃va vc pa pc ma mc,Row w ⟨b,o,none⟩ (e.cells va vc pa pc ma mc)/\e.sits S w va pa ma vc
def EXs (S:nP) (w:wD) (l:List EX) (a:oA):Prop:=Arr S 12 (eP S) w l a
def EXs.ext {S:nP} {w w':wD} {l:List EX} {a:oA} (h:EXs S w l a) (x:Ext w w'):EXs S w' l a:=
 h.mono aFh (λ_ _ _ _ _ ⟨G,vc,pa,pc,ma,mc,h1,h2⟩=>⟨G,vc,pa,pc,ma,mc,h1.ext x,h2.ext x⟩)
instance {S:nP} {l:List EX} {a:oA}:LfE w w' (EXs S w l a) (EXs S w' l a):=⟨λx h=>Bk.EXs.ext h x⟩
def EXs.fr {S T:nP} {w w':wD} {l:List EX} {a:oA} (h:EXs S w l a) (x:Fr T w w') (G:∀b,S b -> ¬T b):EXs S w' l a:=
 h.mono aFh (λb _ _ _ M ⟨N,vc,pa,pc,ma,mc,h1,h2⟩=>⟨N,vc,pa,pc,ma,mc,h1.fr x (G b M),h2.fr x G⟩)
instance {S T:nP} {l:List EX} {a:oA}:LfF T w w' (EXs S w l a) (∀b,S b -> ¬T b) (EXs S w' l a):=⟨λx s h=>Bk.EXs.fr h x s⟩
def EXs.ltA {S:nP} {w:wD} {l:List EX} {a:oA} (h:EXs S w l a):EXs (· < w.heap.size) w l a:=by
 rcases h with h|⟨b,o,X,h2,G⟩
 . exact gA h
 . cases l with
   | nil=>exact gA rfl
   | cons p r=>
    obtain ⟨M,vc,N,O,U,V,Y,-⟩:=G 0 p rfl;refine gB ⟨b,o,X,Ci (Y.at0 rfl),λi v Z=>?_⟩;obtain ⟨M,vc,N,O,U,V,k1,k2⟩:=G i v Z;exact ⟨M,vc,N,O,U,V,k1,k2.ltA⟩
def JB:Shape EX where
 sz:=12
 rep:=λw S e cs=> ∃va vc pa pc ma mc,cs=e.cells va vc pa pc ma mc/\e.sits S w va pa ma vc
 len:=λ⟨_,_,_,_,_,_,h,_⟩=>by rw [h];rfl
 one:=λ⟨_,_,_,_,_,_,h,_⟩=>by rw [h];rfl
 mono:=λ⟨va,vc,pa,pc,ma,mc,h,h1⟩ hS hc=>⟨va,vc,pa,pc,ma,mc,h,h1.move hS hc⟩
 lt:=λ⟨va,vc,pa,pc,ma,mc,h,h1⟩=>⟨va,vc,pa,pc,ma,mc,h,h1.lt2⟩
def OwnQ.exs {R:nP} {B:Nat} {a:oA} {len cap:Nat} {xs:List EX} {S:nP} (h:OwnQ JB w R B e (.slice a len cap) xs) (U:∀b,R b->S b) (V:∀b,B<=b->b<w.heap.size->S b):EXs S w xs a:=by
 by_cases M:xs=[]
 . exact gA M
 . obtain ⟨g,N,O,X,Y,G⟩:=h.rows M;simp only [iF] at O;obtain ⟨rfl,-,-⟩:=O;refine gB ⟨g,0,rfl,V g X Y,λi x Z=>?_⟩;obtain ⟨cs,hr,va,vc,pa,pc,ma,mc,rfl,h2⟩:=G i x Z;exact ⟨va,vc,pa,pc,ma,mc,by simpa [JB] using hr,h2.wide U⟩
def MapZ.ext {w w':wD} {m:Option Nat} {kvs:List (lB×Value)} (h:MapZ w m kvs) (x:Ext w w'):MapZ w' m kvs:=h.imp id λ⟨r,h1,h2⟩=>⟨r,h1,h2.ext x⟩
instance {kvs:List (lB×Value)}:LfE w w' (MapZ w m kvs) (MapZ w' m kvs):=⟨λx h=>Bk.MapZ.ext h x⟩
def MapZ.fr {S:nP} {w w':wD} {m:Option Nat} {kvs:List (lB×Value)} (h:MapZ w m kvs) (x:Fr S w w') (G:∀r,m=some r -> ¬S r):MapZ w' m kvs:=h.imp id λ⟨r,h1,h2⟩=>⟨r,h1,h2.fr x (G r h1)⟩
instance {S:nP} {kvs:List (lB×Value)}:LfF S w w' (MapZ w m kvs) (∀r,m=some r -> ¬S r) (MapZ w' m kvs):=⟨λx s h=>Bk.MapZ.fr h x s⟩
def BkAt (M X:nP) (w:wD) (bb:Nat) (es:List EX) (L:List AtV):Prop:= ∃ea ec r,Blk w bb [.slice ea es.length ec,.map (some r)]/\X bb/\EXs X w es ea/\RecAt M w r L/\(∀k,X k -> ¬M k/\k<w.heap.size) /\ ∀k,M k->k<w.heap.size
def BkAt.ext {M X:nP} {w w':wD} {G:Nat} {es:List EX} {L:List AtV} (h:BkAt M X w G es L) (x:Ext w w'):BkAt M X w' G es L:=by
 obtain ⟨U,V,r,Y,Z,h3,h4,O,h6⟩:=h;have:=x.size;exact ⟨U,V,r,Y.ext x,Z,h3.ext x,h4.ext x,λk N=>⟨(O k N).1,by have:=(O k N).2;omega⟩,λk N=>by have:=h6 k N;omega⟩
instance {X:nP} {L:List AtV}:LfE w w' (BkAt M X w n es L) (BkAt M X w' n es L):=⟨λx h=>Bk.BkAt.ext h x⟩
def BkAt.fr {M X T:nP} {w w':wD} {N:Nat} {es:List EX} {L:List AtV} (h:BkAt M X w N es L) (x:Fr T w w') (O:∀k,X k\/M k -> ¬T k):BkAt M X w' N es L:=by
 obtain ⟨Y,Z,r,h1,U,h3,h4,V,h6⟩:=h;have:=x.size;exact ⟨Y,Z,r,h1.fr x (O _ (gA U)),U,h3.fr x (λk G=>O k (gA G)),h4.fr x (λk G=>O k (gB G)),λk G=>⟨(V k G).1,by have:=(V k G).2;omega⟩,λk G=>by have:=h6 k G;omega⟩
instance {X T:nP} {N:Nat} {L:List AtV}:LfF T w w' (BkAt M X w N es L) (∀k,X k\/M k -> ¬T k) (BkAt M X w' N es L):=⟨λx s h=>Bk.BkAt.fr h x s⟩
def RecAt.look {r:Nat} {L:List AtV} (h:RecAt M w r L) (s:Bf):∃kvs m,MapIs w r kvs/\Cx (Ef kvs s) (.map none) false = .map m/\MapZ w m (GN L s)/\(m.isNone=decide (s∉Bj L)):=by
 obtain ⟨bf,N,U,O,-⟩:=h;by_cases G:s∈Bj L
 . refine ⟨_,some (bf s),N.is,?_,gB ⟨_,rfl,(O s G).2.2.is⟩,by simp [G]⟩;rw [Fv (λs=>.map (some (bf s))),AT G];rfl
 . refine ⟨_,none,N.is,?_,gA ⟨rfl,?_⟩,by simp [G]⟩
   . rw [Fv (λs=>.map (some (bf s))),AC G];rfl
   . unfold GN;rw [Mc G];rfl
section
variable {l:Sl} {tab:Tab}
def C0 {y:Operand} {N h r:Nat} {k:lB} {z:Value} {kvs:List (lB×Value)} (T:TabOk P tab) (O:AB tab t=some (.map N e,h)) (M:AB tab N=some (.str,sz)) (U:((P.info? e).bind (·.zero))=some z)
 (V:ev l x=some (.map (some r))) (X:ev l y=some (str k)) (Y:Cx (Ef kvs k) z c=v) (Z:∀w,S w->MapIs w r kvs):Bm P n l S (.lookup t x y c) ty v:=by
 rw [<-Y];exact Li T O M U V X Z
def Fh {y:Operand} {N h:Nat} {k:lB} {z:Value} {kvs:List (lB×Value)} (T:TabOk P tab) (O:AB tab t=some (.map N e,h)) (M:AB tab N=some (.str,sz)) (U:((P.info? e).bind (·.zero))=some z)
 (V:ev l x=some (.map m)) (X:ev l y=some (str k)) (Y:Cx (Ef kvs k) z c=v) (Z:∀w,S w->MapZ w m kvs):Bm P n l S (.lookup t x y c) ty v:=by
 rw [<-Y];exact Qw T O M U V X Z
end
def Mf (M X:nP) (N:Nat) (es:List EX) (L:List AtV) (s n:Bf) (w:wD) (U:BkAt M X w N es L) :
 Calls prog 17 #[.pointer (some ⟨N,0,none⟩),str s,str n] w λe w'=>e = .returned (.int .i64 (Dx L s n))/\Ext w w':=by
 have V:=Ne w;obtain ⟨ea,ec,r,h1,-,-,Y,-,-⟩:=U;obtain ⟨kvs,m,q1,Z,q3,-⟩:=Y.look s;have O:=ON L s n;unfold Hj at O;refine Ad func17 ntmps17 rfl rfl (eK ?_);refine C1 (Fa Ac rfl rfl) (eK ?_);refine C1 (C0 Ac rfl rfl rfl rfl rfl Z (λh G=>by rw [show h=_ from G];assumption)) (C1 Mv (C1 (Fh Ac rfl rfl rfl rfl rfl O (λh G=>by rw [show h=_ from G];assumption)) (C1 (JR Ac rfl rfl rfl rfl rfl rfl) (kR ?_))));exact ⟨rfl,V⟩
def Qx (L:List AtV) (s:Bf):∀a b:List (Bf×Int),Cy L s (a++b)=Cy L s a+Cy L s b
 | [],b=>by simp [Cy]
 | x::a,b=>by rw [jX,Cy,Cy,Qx L s a b,Int.add_assoc]
def GO (es:List EX):List (Bf×Int):=es.map λe=>(e.name,e.points)
def ZV (L:List AtV) (s:Bf):∀es:List EX,(∀e∈es,0<=e.points/\e.points<=1000)->0<=Cy L s (GO es)/\Cy L s (GO es)<=1000*es.length
 | [],_=>by simp [GO,Cy]
 | e::es,h=>by
  have N:=ZV L s es (λx G=>h x (jB _ G));have O:=h e jH;have M:GO (e::es)=(e.name,e.points)::GO es:=rfl;rw [M,Cy,gH];simp only;split<;>omega
def JC (M X:nP) (bb:Nat) (es:List EX) (he:es.length<=1000) (hp:∀e∈es,0<=e.points/\e.points<=1000) (L:List AtV) (s:Bf) (w:wD) (hb:BkAt M X w bb es L) :
 Calls prog 16 #[.pointer (some ⟨bb,0,none⟩),str s] w λe w'=>e = .returned (.int .i64 (Cy L s (GO es)))/\Ext w w':=by
 have O:=Ne w;obtain ⟨ea,ec,r,h,-,G,h4,-,-⟩:=hb;obtain ⟨kvs,m,N,q2,U,-⟩:=h4.look s;have G:=G.ltA;have hv:=λn=>ON L s n
 unfold Hj at hv;have HP:=fZ hp;clear h4 hp;refine Ad func16 ntmps16 rfl rfl ?_;refine eK ?_;refine C1 (Fa Ac rfl rfl) (cT (AO rfl (Am (Ai (cS (C1 Pa (cT (Aj (cS (C1 Mv (C1 Pn ?_)))))))))));refine C1 Pg (C1 (Pl h) (C1 Pz (C1 Mv (cT ?_))));refine As ?_;refine AF (ι:=Nat) (λj=>[(0,.pointer (some ⟨bb,0,none⟩)),(1,str s),(5,.int .i64 (Cy L s (GO (es.take j)))),(13,.slice ea es.length ec),(14,.int .i64 es.length),(15,.int .i64 j)])
  (λj w'=>j<=es.length/\Blk w' bb [.slice ea es.length ec,.map (some r)]/\EXs (· < w.heap.size) w' es ea/\MapIs w' r kvs/\MapZ w' m (GN L s)/\Ext w w') (λj=>es.length-j) 0 sB ⟨gI _,h,G,N,U,O⟩ ?_
 clear h G N U O;rintro j w1 ⟨hj,h,G,N,U,O⟩;by_cases af:j<es.length
 . obtain ⟨kb,ko,rfl,-,hk⟩:=mM G Ab;obtain ⟨va,vc,pa,pc,ma,mc,rx,-⟩:=hk j _ (fY af);have aw:=HP.out _ (gK af);have ax:=ZV L s (es.take j) (λe he=>HP.out e (jO he));have av:(es.take j).length<=1000:=by rw [iE];omega
   have ab:Cy L s (GO (es.take (j+1)))=Cy L s (GO (es.take j))+if CE L s es[j].name then es[j].points else 0:=by
    unfold GO;rw [gC af,jE,Qx];simp [Cy]
   clear hk HP;generalize Cy L s (GO (es.take j))=sm at *;generalize es[j]=x at *;unfold mZ at rx;by_cases hs:CE L s x.name=true
   . have Y:=hv x.name;rw [hs] at Y;rw [AT hs] at ab;refine eK ?_;refine xA [_,_,_,_,_,_,_,_,_,_,_,_] ?_;intro ay az am;refine eI [_,_,_,_,_,_,_,_,_,_,_,_] am ?_;intro ai ac an _ _;revert N U O h G;refine eE an ?_;intro N U O h G;refine eK ?_;refine Ap (λV=>Ext ai V) 8 (.pure 0 (.pure 1 (.pure 2 (.pure 3 (.pure 4 (.pure 5 (.pure 6 (.pure 7 .tail)))))))) mixed AR (Aa (Ae (Aa (Aa (Ae (Aa Ag)))))) ?_;intro ao ad _;have Z:(λV=>Ext ai V) ao:=ad;simp only at Z;have ag:=ac;have aj:=N;have ak:=h;revert ac N U O h G;refine eE ad ?_;intro ac N U O h G;refine ⟨Z,?_⟩;refine eT ?_;refine Tq rfl (C0 Ac rfl rfl rfl rfl rfl q2 (λV hz=>MapIs.ext Af hz)) (Tq rfl Pg (Tq rfl (Db ag) ?_));refine Aq rfl (C1 (Fh Ac rfl rfl rfl rfl rfl Y (λV hz=>by rw [show V=_ from hz];assumption)) (C1 (JR Ac rfl rfl rfl rfl rfl rfl) (cT (Bq rfl (Ak (C1 Mv (C1 Pf (C1 (Pl ac) (C1 V7 (C1 Pa (Al ?_)))))))))));refine Ah (Ai (Ak (C1 V7 (C1 Mv (Al ?_)))));exact Av (j+1) (by rw [ab];(refine An rfl ?_;refine An rfl ?_;refine An rfl ?_;refine An rfl ?_;refine An rfl ?_;refine An rfl ?_;exact BE)) ⟨Ab,h,G,N,U,O⟩ Ab
   . rw [AC hs,Int.add_zero] at ab;have Y:=hv x.name;rw [Bool.not_eq_true] at hs;rw [hs] at Y;refine eK ?_;refine xA [_,_,_,_,_,_,_,_,_,_,_,_] ?_;intro a0 a1 ap;refine eI [_,_,_,_,_,_,_,_,_,_,_,_] ap ?_;intro al aq ar _ _;revert N U O h G;refine eE ar ?_;intro N U O h G;refine eK ?_;refine Ap (λV=>Ext al V) 8 (.pure 0 (.pure 1 (.pure 2 (.pure 3 (.pure 4 (.pure 5 (.pure 6 (.pure 7 .tail)))))))) mixed AR (Aa (Ae (Aa (Aa (Ae (Aa Ag)))))) ?_;intro au ae _;have aa:(λV=>Ext al V) au:=ae;simp only at aa;have ah:=aq;have aj:=N;have ak:=h;revert N U O h G;refine eE ae ?_;intro N U O h G;refine ⟨aa,?_⟩;refine eT ?_;refine Tq rfl (C0 Ac rfl rfl rfl rfl rfl q2 (λV hz=>MapIs.ext Af hz)) (Tq rfl Pg (Tq rfl (Db ah) ?_));refine Aq rfl (C1 (Fh Ac rfl rfl rfl rfl rfl Y (λV hz=>by rw [show V=_ from hz];assumption)) (C1 (JR Ac rfl rfl rfl rfl rfl rfl) (cT (AO rfl (Am (Ah (Ai (Ak (C1 V7 (C1 Mv (Al ?_)))))))))));exact Av (j+1) (by rw [ab];(refine An rfl ?_;refine An rfl ?_;refine An rfl ?_;refine An rfl ?_;refine An rfl ?_;refine An rfl ?_;exact BE)) ⟨Ab,h,G,N,U,O⟩ Ab
 . obtain rfl:j=es.length:=by omega
   rw [gL] at *;refine kR ?_;exact ⟨rfl,O⟩
def FZ:∀x y:lB,Op.bytesLess x y=decide (x<y)
 | [],[]=>by simp [Op.bytesLess]
 | [],b::y=>by simp [Op.bytesLess]
 | a::x,[]=>by simp [Op.bytesLess]
 | a::x,b::y=>by
  simp only [Op.bytesLess,FZ x y,List.cons_lt_cons_iff];by_cases h:a<b
  . simp [h]
  . by_cases G:a=b
    . simp [G]
    . simp [h,G]
section
variable {l:Sl} {t t':TypeId} {y:Operand} {a b:lB}
def Gl (G:ev l x=some (str a)) (M:ev l y=some (str b)):Bm P n l S (.binOp .lss t x y t') ty (.bool (decide (a<b))):=by
 unfold Bm;intro N w O pos after g h _;have e:=FZ a b;simp only [execOp,h.ev G,h.ev M,gO,EB,gF,binOp_string_lss,hH,Gt,e]
def Qz (O:ev l x=some (str a)) (U:ev l y=some (str b)):Bm P n l S (.binOp .gtr t x y t') ty (.bool (decide (b<a))):=by
 unfold Bm;intro V w X pos after g N _;have e:=FZ a b;have Y:(!(Op.bytesLess a b||a==b))=decide (b<a):=by
  rw [e];by_cases h:b<a
  . have M:¬a<b:=λG=>List.lt_irrefl _ (List.lt_trans h G)
    have G:¬a=b:=λG=>List.lt_irrefl b (G▸h)
    simp [h,M,G]
  . by_cases M:a=b
    . subst M;simp [List.lt_irrefl]
    . have:a<b:=Decidable.by_contra λG=>M (List.le_antisymm (List.not_lt.1 h) (List.not_lt.1 G))
      simp [h,this]
 simp only [execOp,N.ev O,N.ev U,gO,EB,gF,binOp_string_gtr,hH,Gt,Y]
end
def Rk (es:List EX) (n:Bf):Option Nat:=es.findIdx? (λe=>decide (e.name=n))
def Fw (es:List EX) (n:Bf):Int:=match Rk es n with
 | some i=>(i:Int)
 | none=> -1
def YS (e:EX) (M N O:oA) (vc U V h:Nat) (s:Bf) (w:wD) (G:Blk w h [str s]):Calls prog 57 #[.agg (e.cells M vc N U O V).toArray,.pointer (some ⟨h,0,none⟩)] w λr w'=>r = .returned (.bool (decide (e.name=s)))/\Ext w w':=by
 have X:=Ne w;unfold mZ;refine Ad func57 ntmps57 rfl rfl (cS (eB [_,_,_,_,_,_,_,_,_,_,_,_] ?_));intro Z w2 h4 Y _ _;revert G X;refine eE Y ?_;intro G X;refine kR ?_;exact ⟨rfl,X⟩
def Wq (l:List EX) (hl:l.length<=1000000) (s:Bf) (S:nP) (a:oA) (c N:Nat) (w:wD) (G:EXs S w l a) (O:Blk w N [str s]) :
 Calls prog 56 #[.slice a l.length c,.func (.func 57) #[] #[.pointer (some ⟨N,0,none⟩)]] w λe w'=>e = .returned (.int .i64 (Fw l s))/\Ext w w':=by
 have X:=Ne w;have G:=G.ltA;refine Ad func56 ntmps56 rfl rfl (cS (C1 Pa (cT (Aj (cS (C1 Mv (C1 Pz (C1 Mv (cT ?_)))))))));refine As ?_;refine AF (ι:=Nat) (λj=>[(0,.slice a l.length c),(1,.func (.func 57) #[] #[.pointer (some ⟨N,0,none⟩)]),(6,.slice a l.length c),(7,.int .i64 l.length),(8,.int .i64 j)])
  (λj w'=>j<=l.length/\EXs (· < w.heap.size) w' l a/\Blk w' N [str s]/\Ext w w'/\(l.take j).findIdx? (λp=>decide (p.name=s))=none)
  (λj=>l.length-j) 0 sB ⟨gI _,G,O,X,rfl⟩ ?_
 rintro j w1 ⟨hj,G,O,X,M⟩;by_cases U:j<l.length
 . obtain ⟨kb,ko,rfl,-,hk⟩:=mM G Ab;obtain ⟨va,vc,pa,pc,ma,mc,ry,-⟩:=hk j l[j] (fY U);have V:=FV U M;have Y:l[j].name=s->Fw l s=j:=λh=>by
    rw [AT (by simpa using h)] at V;rw [Fw,Rk,FW V]
   have HX:=fZ (λw1 h=>YS l[j] va pa ma vc pc mc N s w1 h);generalize l[j]=y at *;unfold mZ at *
   focus
    refine eK ?_;refine Az (Bb (fi:=[]) (ca:=[.pointer (some ⟨N,0,none⟩)]) AR rfl rfl (HX.out _ Af) (λ_ _ h=>⟨_,h.1⟩)) rfl ?_ aFh;rintro _ ab ⟨⟨⟩,Z⟩;revert O X G;refine eE Z ?_;intro O X G;refine cT (AA rfl (λaa=>?_) (λaa=>?_));refine kR ?_;rotate_left;refine Am (Ah (Ai (Ak (C1 V7 (C1 Mv (Al ?_))))));rotate_left
   . exact ⟨by rw [Y Af],X⟩
   . exact Av (j+1) sB ⟨Ab,G,O,X,V.trans (AC (by simpa using Af))⟩ Ab
 . obtain rfl:j=l.length:=by omega
   rw [gL] at M;have he:Fw l s = -1:=by rw [Fw,Rk,M]
   rw [he];refine kR ?_;exact ⟨rfl,X⟩
def OO (M:Nat) (es:List EX) (V:es.length<=1000000) (s:Bf) (S:nP) (G:oA) (N:Nat) (m:Value) (w:wD) (O:Blk w M [.slice G es.length N,m]) (U:mG m=true) (h:EXs S w es G) :
 Calls prog 30 #[.pointer (some ⟨M,0,none⟩),str s] w λe w'=>e = .returned (.int .i64 (Fw es s))/\Ext w w':=by
 have X:=Ne w;have h:=h.ltA;have Y:=fZ (λZ w1 U h2=>Wq es V s (· < w.heap.size) G N Z w1 U h2);refine Ad func30 ntmps30 rfl rfl (cS (eB [_] ?_));intro b1 w2 h4 x5 _ _;revert O X h;refine eE x5 ?_;intro O X h;refine eK ?_;refine C1 (BW rfl) (cC rfl (Y.out _ _ Af Af) ?_);rintro _ w9 ⟨⟨⟩,x8⟩;have X:=X.ext x8;refine kR ?_;exact ⟨rfl,X⟩
def NC:∀(l:List Nat) (j:Nat) (x:Nat),l[j]? = some x->(l.eraseIdx j).sum+x=l.sum
 | [],j,x,h=>by simp at h
 | y::l,0,x,h=>by
  simp only [gX,gE] at h;simp [h,lL]
 | y::l,j+1,x,h=>by
  have:=NC l j x (by simpa using h);simp only [List.eraseIdx_cons_succ,List.sum_cons];omega
def Kb {α β:Type} (f:α->β):∀(l:List α) (j:Nat),(l.map f).eraseIdx j=(l.eraseIdx j).map f
 | [],_=>by simp
 | x::l,0=>by simp
 | x::l,j+1=>by simp [Kb f l j]
def YT (M X:nP) (bb:Nat) (es:List EX) (L:List AtV) (hL:L.length<=1000000) (s:Bf) (hs:s∈Bj L) (w:wD) (hb:BkAt M X w bb es L) :
 Calls prog 39 #[.pointer (some ⟨bb,0,none⟩),str s] w λe w'=>e = .returned (.int .i64 (Dy L s))/\Ext w w':=by
 have N:=Ne w;obtain ⟨ea,ec,r,h1,-,h3,⟨bf,g1,-,g3,-⟩,-,-⟩:=hb;obtain ⟨-,-,g4⟩:=g3 s hs;have hv:Cx (Ef ((Bj L).map λs=>(s,Value.map (some (bf s)))) s) (.map none) false = .map (some (bf s)):=by
  rw [Fv (λs=>.map (some (bf s))),AT hs];rfl
 have ak:=g1.is;have V:=YP L s;have al:Dy L s<=1000000:=jR (List.countP_le_length ..) hL;unfold GN at g4;generalize bf s=b2 at *;refine Ad func39 ntmps39 rfl rfl (eK ?_);refine C1 (C0 Ac rfl rfl rfl rfl rfl hv (λwz hz=>by rw [show wz=_ from hz];assumption)) (Az (KQ Ac rfl rfl Af) rfl ?_ aFh);rintro _ w6 ⟨r1,rfl,h2,h3,h4,x5⟩;have N:=N.ext x5;refine cT ?_;refine As ?_;refine AF (ι:=List Bf×Nat) (λx=>[(5,.int .i64 x.2),(14,.pointer (some ⟨r1,0,none⟩))])
  (λx w'=> ∃cur,ItM w' r1 b2 (x.1.map λn=>(n,Hj L s n)) cur/\x.2+(x.1.map λn=>Dx L s n).sum=Dy L s/\Ext w w') (λx=>x.1.length) (Qu L s,0) sB ⟨none,h4,by simpa using V,N⟩ ?_
 rintro ⟨ns,sm⟩ w7 ⟨cur,h4,h,N⟩;simp only at h4 h;refine m7 (m:=[(5,.int .i64 sm),(14,.pointer (some ⟨r1,0,none⟩))]) ?_ sB;cases ns with
 | nil=>
  simp only [lg,List.sum_nil,kH] at h h4;subst h;refine cS (Az (KR rfl Af) rfl ?_ aFh);rintro _ am ⟨rfl,rfl⟩;refine kR ?_;exact ⟨rfl,N⟩
 | cons n0 aa=>
  generalize ab:n0::aa=ns at *;have ac:(ns.map λn=>(n,Hj L s n))≠[]:=by rw [<-ab];simp
  refine cS (Az (Mb rfl Af ac) rfl ?_ aFh);rintro _ ao ⟨O,ap,Y,rfl,G,ad⟩;have N:=N.fr ad Ab;refine C1 Px (cT (Aj (Bq rfl (Am (Ai (As ?_))))));rw [iD] at Y;obtain ⟨U,Z,rfl⟩:=lz.1 Y;rw [Kb] at G;have ae:=NC (ns.map λn=>Dx L s n) O (Dx L s U) (by rw [iD,Z];rfl);rw [Kb] at ae;have af:Hj L s U = .agg #[.int .i64 (Dx L s U),.bool (CE L s U)]:=rfl;have aq:=(List.getElem?_eq_some_iff.1 Z).1;have ag:(ns.eraseIdx O).length<ns.length:=by rw [List.length_eraseIdx];split<;>omega
  rw [af] at G;generalize Dx L s U=an at *;generalize CE L s U=sv at *;refine cS (C1 (Nz rfl (λwz hz=>by rw [show wz=_ from hz];assumption)) (C1 Px (xA [_,_] ?_)));intro ar au ah;refine eI [_,_] ah ?_;intro av ai aj _ _;revert N G;refine eE aj ?_;intro N G;refine cT (Ak (C1 Mv (C1 Pg (C1 (Pl ai) (C1 V7 (C1 Pa (Al (Ah ?_))))))));exact Av (ns.eraseIdx O,sm+an) sB ⟨_,G,by simp only;omega,N⟩ ag
def Kc {α:Type} (lt:α->α->Bool) (x y:α):Int:=if lt x y then -1 else if lt y x then 1 else 0
def YU (x y:Int):Bool:=decide (x<y)
def ND (L:List AtV) (ps:List (Bf×Int)) (s t:Bf):Int:=
 if Kc YU (Cy L t ps) (Cy L s ps)≠0 then Kc YU (Cy L t ps) (Cy L s ps)
 else if Kc YU (Dy L s) (Dy L t)≠0 then Kc YU (Dy L s) (Dy L t) else Kc If s t
def Wr (L:List AtV) (ps:List (Bf×Int)) (s t:Bf):decide (ND L ps s t<0)=Nw L ps s t:=by
 unfold ND Nw Kc YU If;refine decide_eq_decide.2 ?_;simp only [decide_eq_true_eq];have X:¬(s<t/\t<s):=λh=>List.lt_irrefl _ (List.lt_trans h.1 h.2)
 rcases Int.lt_trichotomy (Cy L t ps) (Cy L s ps) with h|h|h
 . simp [h]
 . have G:¬Cy L t ps<Cy L s ps:=by omega
   have M:¬Cy L s ps<Cy L t ps:=by omega
   simp only [G,M,if_false,ne_eq,not_true_eq_false,false_or,h,true_and];rcases lC (Dy L s) (Dy L t) with g|g|g
   . simp [g]
   . simp only [g,Nat.lt_irrefl,Int.lt_irrefl,if_false,not_true_eq_false,false_or,true_and];by_cases k:s<t
     . simp [k]
     . simp only [k,if_false,iff_false];split<;>omega
   . have N:¬(Dy L s:Int)<Dy L t:=by omega
     have O:(Dy L t:Int)<Dy L s:=by omega
     have U:¬Dy L s<Dy L t:=by omega
     have V:¬Dy L s=Dy L t:=by omega
     simp [N,O,U,V]
 . have G:¬Cy L t ps<Cy L s ps:=by omega
   have M:¬Cy L s ps=Cy L t ps:=by omega
   simp [h,G,M]
def Ws (x:Int) (w:wD):Calls prog 66 #[.int .i64 x] w λe w'=>e = .returned (.bool false)/\Ext w w':=by
 have X:=Ne w;refine Ad func66 ntmps66 rfl rfl (kR ?_);exact ⟨AQ,X⟩
def IT (x:Bf) (w:wD):Calls prog 67 #[str x] w λe w'=>e = .returned (.bool false)/\Ext w w':=by
 have X:=Ne w;refine Ad func67 ntmps67 rfl rfl (kR ?_);exact ⟨AQ,X⟩
def Wt (x y:Int) (w:wD):Calls prog 38 #[.int .i64 x,.int .i64 y] w λe w'=>e = .returned (.int .i64 (Kc YU x y))/\Ext w w':=by
 have X:=Ne w;unfold Kc YU;refine Ad func38 ntmps38 rfl rfl ?_
 focus
  refine kC (Ws _ _) ?_;rintro _ O ⟨⟨⟩,h⟩;have X:=X.ext h;refine kC (Ws _ _) ?_;rintro _ U ⟨⟨⟩,G⟩;have X:=X.ext G;refine eK ?_;refine AA rfl (λM=>?_) (λM=>?_);refine kR ?_;rotate_left;refine eK ?_;refine AA rfl (λN=>?_) (λN=>?_);refine kR ?_;rotate_left;refine kR ?_;rotate_left
 all_goals exact ⟨by simp [*],X⟩
def aL (x y:Bf) (w:wD):Calls prog 40 #[str x,str y] w λe w'=>e = .returned (.int .i64 (Kc If x y))/\Ext w w':=by
 have X:=Ne w;unfold Kc If;by_cases h1:x<y
 . refine Ad func40 ntmps40 rfl rfl ?_;refine kC (IT _ _) ?_;rintro _ w2 ⟨⟨⟩,O⟩;have X:=X.ext O;refine kC (IT _ _) ?_;rintro _ w5 ⟨⟨⟩,U⟩;have X:=X.ext U;refine eK ?_;refine C1 (Gl rfl rfl) (kR ?_);exact ⟨by simp [*],X⟩
 . by_cases h2:y<x
   . refine Ad func40 ntmps40 rfl rfl ?_;refine kC (IT _ _) ?_;rintro _ V ⟨⟨⟩,h⟩;have X:=X.ext h;refine kC (IT _ _) ?_;rintro _ Y ⟨⟨⟩,G⟩;have X:=X.ext G;refine eK ?_;refine C1 (Gl rfl rfl) (eK ?_);refine C1 (Qz rfl rfl) (kR ?_);exact ⟨by simp [*],X⟩
   . refine Ad func40 ntmps40 rfl rfl ?_;refine kC (IT _ _) ?_;rintro _ Z ⟨⟨⟩,M⟩;have X:=X.ext M;refine kC (IT _ _) ?_;rintro _ aa ⟨⟨⟩,N⟩;have X:=X.ext N;refine eK ?_;refine C1 (Gl rfl rfl) (eK ?_);refine C1 (Qz rfl rfl) (kR ?_);exact ⟨by simp [*],X⟩
def IU (l:List EX):Int:=if 100<l.length then 5 else if ∀e∈l,e.valid then (if (l.map (·.name)).Nodup then 0 else 22) else 3
def eR (l:List EX) (w:wD):Ending->wD->Prop:=λe w'=> ∃p k,e = .returned (.tuple #[.pointer p,.int .i64 k])/\k=IU l/\Ext w w'/\((p=none/\k≠0)\/(k=0 /\ ∃bb M X,p=some ⟨bb,0,none⟩/\BkAt M X w' bb l [] /\ ∀k,X k\/M k->w.heap.size<=k))
def exIV_mem {n:Bf}:0<=Fw es n↔n∈es.map (·.name):=by
 unfold Fw Rk;cases h:es.findIdx? (λe=>decide (e.name=n)) with
 | none=>
  rw [List.findIdx?_eq_none_iff] at h;simp only [List.mem_map];constructor
  . intro G;omega
  . rintro ⟨e,M,rfl⟩;have:=h e M;simp at this
 | some i=>
  obtain ⟨N,G,-⟩:=List.findIdx?_eq_some_iff_getElem.1 h;simp only [List.mem_map];exact ⟨λ_=>⟨_,gK N,by simpa using G⟩,λ_=>by omega⟩
def Wu {n:Bf} (h:n∉es.map (·.name)):Fw es n = -1:=by
 have G:=λM=>h (exIV_mem.1 M)
 unfold Fw at G ⊢;split at G
 . exact absurd (Int.natCast_nonneg _) G
 . rfl
def R0 {l:List α} {x:α} (h:l.Nodup) (M:x∉l):(l++[x]).Nodup:=by
 rw [List.nodup_append];exact ⟨h,AQ,λa N b G e=>M (by simp only [iB] at G;rw [<-G,<-e];exact N)⟩
set_option maxHeartbeats 8000000 in
def ZW (l:List EX) (hw:∀e∈l,e.wf) (hl:l.length<=1000000) (S:nP) (a:oA) (c:Nat) (w:wD) (M:EXs S w l a) :
 Calls prog 13 #[.slice a l.length c] w (eR l w):=by
 have X:=Ne w;have M:=M.ltA;by_cases af:100<l.length
 . have hv:IU l=5:=AT af;refine Ad func13 ntmps13 rfl rfl ?_;refine kT ?_;exact ⟨_,_,rfl,hv.symm,X,gA ⟨rfl,Ab⟩⟩
 have HV:=fZ (λe he S va pa ma vc pc mc w1 h=>Nv e (hw e he) S va vc pa pc ma mc w1 h);refine Ad func13 ntmps13 rfl rfl ?_;refine cS (C1 Pa (C1 Pa (cT (Aj (cS (C1 Mv (C1 Pz (C1 V5 (cT (Dd (Am ?_)))))))))));refine Ai (Aj (cS (C1 Mv (C1 Pz (C1 Mv (cT ?_))))));refine As ?_;refine AF (ι:=Nat) (λj=>[(0,.slice a l.length c),(12,.slice a l.length c),(13,.int .i64 l.length),(14,.int .i64 j)])
  (λj w'=>j<=l.length/\(∀e∈l.take j,e.valid)/\EXs (· < w.heap.size) w' l a/\Ext w w') (λj=>l.length-j) 0 sB ⟨gI _,AQ,M,X⟩ ?_
 clear M X;rintro j w1 ⟨hj,ai,M,X⟩;by_cases ab:j<l.length
 . obtain ⟨kb,ko,rfl,-,Y⟩:=mM M Ab;obtain ⟨va,vc,pa,pc,ma,mc,rx,sx⟩:=Y j l[j] (fY ab);have am:=fZ (λ(S:nP) w1 (h:l[j].sits S w1 va pa ma vc)=>HV.out l[j] (gK ab) S va pa ma vc pc mc w1 h);have bd:l[j].valid -> ∀e∈l.take (j+1),e.valid:=λh e he=>by
    rw [gC ab,jA,iB] at he;rcases he with he|rfl
    . exact ai e he
    . exact h
   have be:¬l[j].valid->IU l=3:=λh=>by
    unfold IU;rw [AC af,AC (λh2=>h (h2 _ (gK ab)))]
   clear Y ai HV;generalize l[j]=x at *;unfold mZ at *;by_cases hv:x.valid
   . rw [decide_eq_true hv] at am;refine eK ?_;refine xA [_,_,_,_,_,_,_,_,_,_,_,_] ?_;intro cv cw bf;refine eI [_,_,_,_,_,_,_,_,_,_,_,_] bf ?_;intro cx bg bh _ _;revert X M sx;refine eE bh ?_;intro X M sx;refine cN (AH [_,_,_,_,_,_,_,_,_,_,_,_] Ac rfl rfl rfl bg rfl rfl rfl (cC rfl (am.out _ _ Af) ?_));rintro _ b4 ⟨⟨⟩,bi⟩;revert X M;refine eE bi ?_;intro X M;refine C1 Pt (cT (AO rfl (Am (Ah (Ai (Ak (C1 V7 (C1 Mv (Al ?_)))))))));exact Av (j+1) sB ⟨Ab,bd hv,M,X⟩ Ab
   . rw [decide_eq_false hv] at am;refine eK ?_;refine xA [_,_,_,_,_,_,_,_,_,_,_,_] ?_;intro cy cz bj;refine eI [_,_,_,_,_,_,_,_,_,_,_,_] bj ?_;intro c0 bk bl _ _;revert X sx;refine eE bl ?_;intro X sx;refine cN (AH [_,_,_,_,_,_,_,_,_,_,_,_] Ac rfl rfl rfl bk rfl rfl rfl (cC rfl (am.out _ _ Af) ?_));rintro _ b5 ⟨⟨⟩,bm⟩;have X:=X.ext bm;refine kT ?_;exact ⟨_,_,rfl,(be hv).symm,X,gA ⟨rfl,Ab⟩⟩
 . obtain rfl:j=l.length:=by omega
   rw [gL] at ai;clear HV;have c1:=X.size;refine eK ?_;refine Az (Iz) rfl ?_ aFh;rintro _ c2 ⟨ah,rfl,c3,an,bn,c4⟩;revert M X;refine eE bn ?_;intro M X;refine C1 (xB [_,_]) (eB [_,_] ?_);intro O c5 aj a1 b6 b7;revert an M X;refine eE a1 ?_;intro an M X;refine C1 Pa (cT (Aj (cS (C1 Mv (C1 Pz (C1 Mv (cT ?_)))))));have ao:=fZ ai;have ap:=aj.lt;refine As ?_;refine AF (ι:=Nat×oA×Nat) (λy=>[(6,.pointer (some ⟨O,0,none⟩)),(25,.slice a l.length c),(26,.int .i64 l.length),(27,.int .i64 y.1)])
    (λy w'=>y.1<=l.length/\((l.take y.1).map (·.name)).Nodup/\Blk w' O [.slice y.2.1 (l.take y.1).length y.2.2,.map (some ah)]/\OwnQ JB w' (λb=>O<b) (O+1) 36 (.slice y.2.1 (l.take y.1).length y.2.2) (l.take y.1)/\MapB w' ah []/\EXs (· < w.heap.size) w' l a/\Ext w w'/\O<w'.heap.size) (λy=>l.length-y.1) (0,none,0) sB ⟨gI _,AQ,aj,ni,an,M,X,ap⟩ ?_
   clear M X aj an ap ai;rintro ⟨j,ra,rc⟩ w3 ⟨hj,aq,U,G,hm,M,X,ap⟩;simp only at hj aq U G;refine m7 (m:=[(6,.pointer (some ⟨O,0,none⟩)),(25,.slice a l.length c),(26,.int .i64 l.length),(27,.int .i64 j)]) ?_ sB;have ac:∀q,(iA ra (l.take j).length rc).ownBlock=some q->O<q/\q<w3.heap.size:=λq hq=>⟨G.ge hq,G.lt hq⟩
   have bo:(l.take j).length<=1000000:=by rw [iE];omega
   have G:=G.ltR;by_cases ab:j<l.length
   . obtain ⟨kb,ko,rfl,-,Y⟩:=mM M Ab;obtain ⟨va,vc,pa,pc,ma,mc,rx,sx⟩:=Y j l[j] (fY ab);have az:=fZ (λw1 (h1:Blk w1 O [.slice ra (l.take j).length rc,.map (some ah)]) (h2:OwnQ JB w1 (λb=>O<b/\b<w3.heap.size) (O+1) 36 (.slice ra (l.take j).length rc) (l.take j))=>OO O (l.take j) bo l[j].name (λb=>O<b) ra rc (.map (some ah)) w1 h1 rfl (h2.exs (λb h=>h.1) (λb h1 h2=>h1)));have ad:=exIV_mem (es:=l.take j) (n:=l[j].name);have a2:=ao.out _ (gK ab);have a3:=fZ (λ(S:nP) va vc pa pc ma mc w1 (h:l[j].g.sits S w1 va pa ma)=>Wl l[j].g (OJ a2.2.1.1) S va vc pa pc ma mc w1 h);have ae:l.take j++[l[j]]=l.take (j+1):=(gC ab).symm;have a0:¬(l.map (·.name)).Nodup\/l[j].name∉(l.take j).map (·.name):=by
      by_cases h:l[j].name∈(l.take j).map (·.name)
      . left;intro hn;rw [<-iT j l,jE,List.nodup_append] at hn;exact hn.2.2 _ h _ (List.mem_map.2 ⟨l[j],iI (i:=0) (by rw [List.getElem?_drop];simp [ab]),rfl⟩) rfl
      . exact gB h
     have a4:¬(l.map (·.name)).Nodup->IU l=22:=λh=>by
      unfold IU;rw [AC af,AT ao.out,AC h]
     have ar:=sx.g;clear Y sx a2 ao;generalize l[j]=x at *;generalize c6:l.take j=ys at *;by_cases hd:x.name∈ys.map (·.name)
     . have c7:0<=Fw ys x.name:=ad.2 hd;have bp:=a4 (a0.resolve_right (λh=>h hd));clear ad a0 a3;generalize Fw ys x.name=ix at *;unfold mZ at *;refine eK ?_;refine xA [_,_,_,_,_,_,_,_,_,_,_,_] ?_;intro c8 c9 bq;refine eI [_,_,_,_,_,_,_,_,_,_,_,_] bq ?_;intro da db br _ _;revert X U G;refine eE br ?_;intro X U G;refine kC (az.out _ Af Af) ?_;rintro _ b8 ⟨⟨⟩,bs⟩;have X:=X.ext bs;refine kT ?_;exact ⟨_,_,rfl,bp.symm,X,gA ⟨rfl,Ab⟩⟩
     . have a5:=Wu hd;have a6:((ys++[x]).map (·.name)).Nodup:=by rw [jE];exact R0 aq hd
       rw [a5] at az;have dc:=X.size;clear ad a0 a5 a4 hd aq;unfold mZ at *;refine eK ?_;refine xA [_,_,_,_,_,_,_,_,_,_,_,_] ?_;intro dd de bt;refine eI [_,_,_,_,_,_,_,_,_,_,_,_] bt ?_;intro df ak bu dg dh;revert hm X M ar U G;refine eE bu ?_;intro hm X M ar U G;refine kC (az.out _ Af Af) ?_;rintro _ b9 ⟨⟨⟩,bv⟩;revert ak hm X M ar U G;refine eY bv ?_;intro ca ak hm X M ar U G;refine kQ (a3.out _ _ _ _ _ _ _ _ Af) ?_;rintro _ cb ⟨bw,bx,bz,b0,b1,b2,⟨⟩,Z,aa,cc,a7⟩;revert ak hm X M U G;refine eY a7 ?_;intro cd ak hm X M U G;refine C1 Pf (eV [_,_,_,_,_,_] [_,_,_,_,_,_,_,_,_,_,_,_] ak ?_);intro av a8 al ce;revert Z aa hm X M;refine eF al ?_;intro Z aa hm X M;clear rx;have U:=U.fr al Ab;have G:=nx G al (λk Y=>⟨by (try dsimp only at Y);omega,λe=>by have:=ac _ e;(try dsimp only at Y);omega⟩);refine cT (Ap (λwz=>Fr ((iA ra ys.length rc).ownBlock=some ·) av wz) 8 (.pure 0 (.pure 1 (.pure 2 (.pure 3 (.pure 4 (.pure 5 (.fork 6 (.fork 7 .tail .none) .none))))))) mixed AR (Ae (Aa (Aa (Ae (Aa Ag))))) ?_);intro a9 aw _;have N:(λwz=>Fr ((iA ra ys.length rc).ownBlock=some ·) av wz) a9:=mt aw;simp only at N;have au:=a8;have ba:=U;revert Z aa hm X M U G;refine eY aw ?_;intro cf Z aa hm X M U G;refine ⟨N,?_⟩;refine eT ?_;refine Tq rfl (Ar Ac rfl rfl rfl (λwz hz=>mC (mu ba hz (λe=>by have:=ac _ e;omega)) rfl)) (Tq rfl (xL [_,_,_,_,_,_,_,_,_,_,_,_] (λwz hz=>(mu au hz (λe=>by have:=ac _ e;omega)))) ?_);refine Ax rfl (xS [_,_,_,_,_,_,_,_,_,_,_,_]) rfl ?_ aFh Au;rintro _ cg ⟨ch,rfl,ag,ci⟩;have cj:=ag.blk;have bb:=ag.ext;have ck:=ag.pos;have cl:=ag.size;revert N Z aa hm X M U G;refine eE bb ?_;intro N Z aa hm X M U G;refine ⟨N,?_⟩;refine Ax rfl (E4 (R:=λb=>O<b) (sh:=JB) (z:=x) Ac Ca rfl rfl rfl rfl AR rfl rfl rfl Af (λ_ h=>by exact h.1) (mJ Af) ⟨_,_,_,_,_,_,rfl,PG.sits.wide Af (λb h=>⟨Ab,λe=>by have:=ac _ e;omega⟩),PDsC.wide Af (λb h=>⟨Ab,λe=>by have:=ac _ e;omega⟩),Af⟩ Ab Ab) rfl ?_ aFh Au
       rintro _ cm ⟨cn,bc,rfl,ax,co,cp,V⟩;have cq:=V.size;have N:=mB N V (λk Y=>gA Y);have hm:=MapB.fr hm V (λe=>by have:=ac _ e;omega);have X:=mI X V (λk Y=>by have:=ac _ Y;omega);have M:=EXs.fr M V (λb U hT=>by have:=ac _ hT;(try dsimp only at U);omega);have U:=mu U V (λe=>by have:=ac _ e;omega);clear G V;refine ⟨N,?_⟩;refine Aq rfl ?_;refine eK ?_;refine eV [_] [_,_] U ?_;intro cr ct ay cu;clear U;have ax:=nx ax ay (λk Y=>⟨λh=>by (try dsimp only at Y h);omega,λe=>by have:=nB Af e;(try dsimp only at Y);omega⟩);revert hm X M;refine eF ay ?_;intro hm X M;refine Al (Ah (Ai (Ak (C1 V7 (C1 Mv (Al ?_))))));exact Av (j+1,some ⟨_,0,none⟩,_) sB ⟨by (try dsimp only);omega,by dsimp only;rw [<-ae];exact a6,by dsimp only;rw [<-ae];assumption,by dsimp only;rw [<-ae];assumption,Af,Af,Af,Ab⟩ (by (try dsimp only);omega)
   . obtain rfl:j=l.length:=by omega
     rw [gL] at *;refine kT ?_;have b3:IU l=0:=by
      unfold IU;rw [AC af,AT ao.out,AT aq]
     refine ⟨_,_,rfl,b3.symm,X,gB ⟨rfl,O,λk=>k=ah,λk=>O<=k/\k<w3.heap.size,rfl,⟨ra,rc,ah,U,⟨gP _,ap⟩,G.exs (λb h=>⟨Ab,h.2⟩) (λb h1 h2=>⟨Ab,h2⟩),⟨λ_=>0,hm,rfl,λs M=>by simp [Bj] at M,λs M=>by simp [Bj] at M⟩,λk Y=>⟨λe=>by omega,Y.2⟩,λk e=>by omega⟩,λk Y=>?_⟩⟩;rcases Y with Y|Y
     . omega
     . omega
def CF (r:Int):Int:=if r<0 then 0 else if r%2=1 then r/2+1 else -(r/2)
def By (h:Int):List (Int×Int)->Int×Int
 | []=>(0,0)
 | p::l=>((By h l).1+p.1,(By h l).2+p.2*h)
def R1 (h:Int) (r:Int×Int) (k left:Int):Int:=max 0 (left-1-k*h-r.2)
def cK (h:Int) (r:Int×Int) (k left:Int):Int:=min (h-1) (left-1-k-r.1)
def KT (h:Int) (r:Int×Int):Nat->Int->List (List Int×Int)
 | 0,left=>[([],left)]
 | k+1,left=>(jQ (cK h r k left-R1 h r k left+1).toNat).flatMap λ(m:Nat)=>(KT h r k (left-1-R1 h r k left-m)).map λp=>(CF (R1 h r k left+m)::p.1,p.2)
def cL (h:Int) (r:Int×Int) (p:Int×Int) (left:Int):Int:=max p.1 ((left-r.2+h-1).tdiv h)
def dB (r:Int×Int) (p:Int×Int) (left:Int):Int:=min p.2 (left-r.1)
def Hk (h:Int):List (Int×Int)->Int->List (List (List Int))
 | [],_=>[[]]
 | p::l,left=>(jQ (dB (By h l) p left-cL h (By h l) p left+1).toNat).flatMap λ(m:Nat)=>
  (KT h (By h l) (cL h (By h l) p left+m).toNat left).flatMap λq=>(Hk h l q.2).map λs=>q.1::s
def In (s:List (List Int)):SV:=⟨s.dropLast,s.getLastD [],[]⟩
def Wv (h:Int) (l:List (Int×Int)):List (List (List Int)):=(jQ ((By h l).2-(By h l).1+1).toNat).flatMap λ(m:Nat)=>Hk h l ((By h l).1+m)
def M1 (vs:List VD) (b:BoxV):List SV:=if b.ok/\CU vs then (Wv (2*b.v+1) (CJ vs b)).map In else []
def QA (h:Int) (r:Int×Int):∀(k:Nat) (left:Int),∀q∈KT h r k left,q.1.length=k
 | 0,_,q,G=>by
  simp only [KT,iB] at G;simp [G]
 | k+1,left,q,G=>by
  simp only [KT,List.mem_flatMap,List.mem_map] at G;obtain ⟨m,-,p,M,rfl⟩:=G;simp [QA h r k _ p M]
def QB:List (Int×Int)->List (List Int)->Prop
 | [],s=>s=[]
 | p::l,s=> ∃x r,s=x::r/\p.1<=x.length/\(x.length:Int)<=p.2/\QB l r
def NE (h:Int):∀(l:List (Int×Int)) (left:Int),(∀p∈l,0<=p.1) -> ∀s∈Hk h l left,QB l s
 | [],_,_,s,G=>by
  simp only [Hk,iB] at G;exact G
 | p::l,left,M,s,G=>by
  simp only [Hk,List.mem_flatMap,List.mem_map,lN] at G;obtain ⟨m,V,q,N,r,O,rfl⟩:=G;have X:=QA _ _ _ _ q N;have Y:=M p jH;have Z:p.1<=cL h (By h l) p left:=by unfold cL;omega
  have h4:dB (By h l) p left<=p.2:=by unfold dB;omega
  exact ⟨q.1,r,rfl,Ab,Ab,NE h l q.2 (λx U=>M x (by simp [U])) r O⟩
def NF:∀ {l:List (Int×Int)} {s:List (List Int)},QB l s->s.length=l.length
 | [],s,h=>by
  have:s=[]:=h;simp [this]
 | p::l,s,⟨x,r,h,_,_,G⟩=>by rw [h];simp [NF G]
def Kd:∀ {l:List (Int×Int)} {s:List (List Int)},QB l s -> ∀(i:Nat) (p:Int×Int) (x:List Int),l[i]? = some p->s[i]? = some x->p.1<=x.length/\(x.length:Int)<=p.2
 | [],_,_,i,p,x,N,_=>by simp at N
 | p::l,s,⟨y,r,h,O,U,V⟩,i,q,x,M,G=>by
  rw [h] at G;cases i with
  | zero=>
   simp only [gX,gE] at M G;subst M G;exact ⟨O,U⟩
  | succ i=>
   simp only [lx] at M G;exact Kd V i q x M G
def Ww {h:Int} (M:∀p∈l,0<=p.1):∀s∈Wv h l,QB l s:=by
 intro s G;unfold Wv at G;rw [List.mem_flatMap] at G;obtain ⟨m,-,G⟩:=G;exact NE h l _ M s G
def UI {b:BoxV}:∀s∈M1 vs b,FitsP vs s:=by
 intro s G;unfold M1 at G;split at G
 . rename_i M;obtain ⟨U,M⟩:=M;rw [List.mem_map] at G;obtain ⟨t,ht,rfl⟩:=G;have V:=Ww (λp hp=>(Ou U M p hp).1) t ht;have X:=NF V;rw [JW] at X;have hL:(In t).cells=t.take vs.length:=by
    unfold In;simp only;rw [List.dropLast_eq_take,X];rfl
   refine ⟨M,?_,?_,gI _,λi v x Y hx=>?_⟩
   . rw [hL,iE];omega
   . have h4:t[vs.length]? = some (t.getLastD []):=by
      rw [List.getLastD_eq_getLast?,List.getLast?_eq_getElem?,X];simp only [Nat.add_sub_cancel];rw [fY Ab];rfl
     have h:=Kd V vs.length (0,b.i) _ (by simp [CJ]) h4;obtain ⟨-,-,-,O⟩:=U;show (t.getLastD []).length<=4096;simp only at h;omega
   . have N:=(List.getElem?_eq_some_iff.1 Y).1;rw [hL,List.getElem?_take_of_lt N] at hx;have h:=Kd V i (Jk b v) x (by simp [CJ,gN,N,iD,(List.getElem?_eq_some_iff.1 Y).2]) hx;have O:=VP U (M.2 v (iI Y));unfold M0;unfold Jk at h O;split
     . rename_i Z;rw [AT Z] at h O;simp only at h O;omega
     . rename_i Z;rw [AC Z] at h;simp only at h;omega
 . simp at G
inductive Rl where
 | none|cell (i:Nat)|items (i:Nat)|vars (j:Nat)|cels (j:Nat)|calls|store|tape|tin|tout|other (k:Nat)
 deriving DecidableEq
variable {ρ:Nat->Rl} {l:List (Int×Int)} {ti:List Int} {vv:Value} {T:TypeId} {us:lV} {β:Type} {k:Int}
def Ro (ρ ρ':Nat->Rl) (w:wD):Prop:= ∀b,b<w.heap.size->ρ' b=ρ b
def Ro.refl (ρ:Nat->Rl) (w:wD):Ro ρ ρ w:=λ_ _=>rfl
def Ro.trans {ρ ρ' G:Nat->Rl} {w w':wD} (h:Ro ρ ρ' w) (M:Ro ρ' G w') (O:w.heap.size<=w'.heap.size):Ro ρ G w:=λb N=>(M b Ab).trans (h b N)
def OwnR (ρ:Nat->Rl) (r:Rl) (w:wD) (v:Value) (xs:List Int):Prop:=OwnI w 0 v xs /\ ∀k,v.ownBlock=some k->ρ k=r
def OwnR.ext {ρ:Nat->Rl} {r:Rl} {w w':wD} {v:Value} {xs:List Int} (h:OwnR ρ r w v xs) (x:Ext w w'):OwnR ρ r w' v xs:=⟨h.1.ext x,h.2⟩
instance {r:Rl}:LfE w w' (OwnR ρ r w v xs) (OwnR ρ r w' v xs):=⟨λx h=>Bk.OwnR.ext h x⟩
def OwnR.fr {ρ:Nat->Rl} {r:Rl} {S:nP} {w w':wD} {v:Value} {xs:List Int} (h:OwnR ρ r w v xs) (x:Fr S w w') (G:∀k,S k->ρ k≠r):OwnR ρ r w' v xs:=
 ⟨h.1.fr x (λk M N=>G k N (h.2 k M)),h.2⟩
instance {r:Rl} {S:nP}:LfF S w w' (OwnR ρ r w v xs) (∀k,S k->ρ k≠r) (OwnR ρ r w' v xs):=⟨λx s h=>Bk.OwnR.fr h x s⟩
def OwnR.ro {ρ':Nat->Rl} {r:Rl} (h:OwnR ρ r w v xs) (x:Ro ρ ρ' w') (M:w.heap.size<=w'.heap.size):OwnR ρ' r w v xs:=
 ⟨h.1,λk G=>by have:=(h.1.lt G).2;rw [x k Ab];exact h.2 k G⟩
def OwnR.ro' {ρ':Nat->Rl} {r:Rl} (h:OwnR ρ r w' v xs) (x:Ro ρ ρ' w) (M:∀k,v.ownBlock=some k->k<w.heap.size):OwnR ρ' r w' v xs:=
 ⟨h.1,λk G=>by rw [x k (M k G)];exact h.2 k G⟩
structure TapeAt (ρ:Nat->Rl) (w:wD) (tb:Nat) (ti to:List Int):Prop where
 role:ρ tb = .tape
 blk:∃vi vo,Blk w tb [vi,vo]/\OwnR ρ .tin w vi ti/\OwnR ρ .tout w vo to
 li:ti.length<=4096
 lo:to.length<=4096
def TapeAt.ext {ρ:Nat->Rl} {w w':wD} {tb:Nat} {ti to:List Int} (h:TapeAt ρ w tb ti to) (x:Ext w w'):TapeAt ρ w' tb ti to:=by
 obtain ⟨G,M,N,O,U⟩:=h.blk;exact ⟨h.role,⟨G,M,N.ext x,O.ext x,U.ext x⟩,h.li,h.lo⟩
instance {tb:Nat} {to:List Int}:LfE w w' (TapeAt ρ w tb ti to) (TapeAt ρ w' tb ti to):=⟨λx h=>Bk.TapeAt.ext h x⟩
def TapeAt.ro {ρ ρ':Nat->Rl} {w w0:wD} {tb:Nat} {ti to:List Int} (h:TapeAt ρ w tb ti to) (x:Ro ρ ρ' w0) (G:w.heap.size<=w0.heap.size):TapeAt ρ' w tb ti to:=by
 obtain ⟨N,O,M,U,V⟩:=h.blk;exact ⟨by rw [x tb (by have:=M.lt;omega)];exact h.role,⟨N,O,M,U.ro x G,V.ro x G⟩,h.li,h.lo⟩
def BT (ρ:Nat->Rl) (b:Nat):Prop:=ρ b = .tape\/ρ b = .tin\/ρ b = .tout
def IA (ρ:Nat->Rl) (w:wD) (r:Rl):Nat->Rl:=λb=>if b<w.heap.size then ρ b else r
def Dg (ρ:Nat->Rl) (w:wD) (r:Rl):Ro ρ (IA ρ w r) w:=λb h=>by unfold IA;rw [AT h]
def UJ (ρ:Nat->Rl) (w:wD) (r:Rl) {b:Nat} (h:w.heap.size<=b):IA ρ w r b=r:=by unfold IA;rw [AC Ab]
def PutR.own {r:Rl} {N:wD} {ys:List Int} (h:OwnI N 0 vv ys) (O:∀k,v.ownBlock=some k->ρ k=r/\k<w.heap.size) (U:∀k,vv.ownBlock=some k->v.ownBlock=some k\/w.heap.size<=k):OwnR (IA ρ w r) r N vv ys:=by
 refine ⟨h,λk V=>?_⟩;rcases U k V with M|M
 . obtain ⟨X,Y⟩:=O k M;unfold IA;rw [AT Y];exact X
 . exact UJ _ _ _ M
def TapeR (ρ:Nat->Rl) (tb:Nat) (ti to:List Int) (r:Value) (w:wD):Ending->wD->Prop:=λe w'=> ∃ ρ',e = .returned r/\Ro ρ ρ' w/\TapeAt ρ' w' tb ti to/\Fr (BT ρ) w w'
def TapeR.ret {tb:Nat} {to:List Int} {r:Value} {e:Ending} (h:TapeR ρ tb ti to r w e w'):∃v,e = .returned v:=by
 obtain ⟨_,h,-⟩:=h;exact ⟨_,h⟩
def YV (ρ:Nat->Rl) (tb:Nat) (ti to:List Int) (i x:Int) (w:wD) (h:TapeAt ρ w tb ti to) (M:ti.length=4096) :
 Calls prog 243 #[.pointer (some ⟨tb,0,none⟩),.int .i64 i,.int .i64 x] w (TapeR ρ tb ti to (.int .i64 5) w):=by
 obtain ⟨N,O,U,G,V⟩:=h.blk;obtain ⟨a,c,rfl⟩:=G.1.shape;refine Ad func243 ntmps243 rfl rfl (kR ?_);exact ⟨ρ,rfl,Ro.refl _ _,Af,mx _ _⟩
def YW (ρ:Nat->Rl) (tb:Nat) (ti to:List Int) (i x:Int) (w:wD) (h:TapeAt ρ w tb ti to) (M:to.length=4096) :
 Calls prog 243 #[.pointer (some ⟨tb,0+1,none⟩),.int .i64 i,.int .i64 x] w (TapeR ρ tb ti to (.int .i64 5) w):=by
 obtain ⟨N,O,U,V,G⟩:=h.blk;obtain ⟨a,c,rfl⟩:=G.1.shape;refine Ad func243 ntmps243 rfl rfl (kR ?_);exact ⟨ρ,rfl,Ro.refl _ _,Af,mx _ _⟩
def YX (ρ:Nat->Rl) (tb:Nat) (ti to:List Int) (x:Int) (w:wD) (h:TapeAt ρ w tb ti to) (hf:ti.length<4096) :
 Calls prog 243 #[.pointer (some ⟨tb,0,none⟩),.int .i64 0,.int .i64 x] w (TapeR ρ tb (x::ti) to (.int .i64 0) w):=by
 obtain ⟨vi,vo,hb,hi,N⟩:=h.blk;have M:=h.role;have ae:=h.lo;have am:=h.li;have af:=hb.lt;have ag:=λk O=>(N.1.lt (k:=k) O).2
 obtain ⟨a,c,rfl⟩:=hi.1.shape;have G:=λk O=>And.intro (hi.2 k O) (hi.1.lt O).2
 obtain ⟨aa,an⟩:=hi;have F:=mx (BT ρ) w;have U:∀(V:Nat) (w1:wD),OwnI w1 0 (.slice a ti.length c) ti->Blk w1 V [.int .i64 x]->w.heap.size<=V->Calls prog 247 #[.slice a ti.length c,.int .i64 0,.slice (some ⟨V,0,none⟩) 1 1] w1 (PutR (.slice a ti.length c) (x::ti) 0 w1):=λV w1 h1 h2 h3=>by
  by_cases ab:ti=[]
  . subst ab;have:=LE [] AQ 0 _ x V w1 (gI _) h1 h2.row;simpa using this
  . exact RA ti Ab ab 0 _ x V w1 (gI _) h1 h2 (λe=>by have:=G V e;omega)
 have U:=fZ U;have ac:¬(iA a ti.length c).ownBlock=some tb:=λe=>by have:=(G _ e).1;rw [M] at this;cases this
 have ah:∀k,(iA a ti.length c).ownBlock=some k->ρ k≠.tout:=λk e=>by have:=(G _ e).1;rw [this];exact λh=>by cases h
 have ai:∀k,(iA a ti.length c).ownBlock=some k->BT ρ k\/w.heap.size<=k:=λk e=>gA (gB (gA (G k e).1))
 have aj:∀k,k=tb->BT ρ k\/w.heap.size<=k:=λk e=>gA (gA (by rw [e];exact M))
 have ak:∀k,k=tb->ρ k≠.tout:=λk e=>by rw [e,M];exact λh=>by cases h
 refine Ad func243 ntmps243 rfl rfl (eK ?_);refine Az (xS [_]) rfl ?_ aFh;rintro _ w2 ⟨b1,rfl,n3,t4⟩;have h5:=n3.blk;have x6:=n3.ext;have p7:=n3.pos;have z8:=n3.size;revert N hb aa F;refine eE x6 ?_;intro N hb aa F;refine eQ rfl (U.out _ _ Af Af Ab) ?_;rintro _ ao ⟨a9,ap,⟨⟩,X,ad,Y⟩;have N:=OwnR.fr N Y (ah);have hb:=mu hb Y (ac);have F:=mB F Y (ai);refine C1 Pn (eV [_] [_,_] hb ?_);intro aq al Z _;have X:=nn X Z (λk O e=>by subst e;rcases ad _ O with h|h;exact ac h;omega);have N:=OwnR.fr N Z (ak);have F:=mB F Z (aj);refine kR ?_;exact ⟨IA ρ w .tin,rfl,Dg _ _ _,⟨by rw [Dg ρ w .tin tb af];exact M,⟨_,_,al,PutR.own X G (λk O=>(ad k O).imp id (λh=>by omega)),N.ro' (Dg _ _ _) ag⟩,by simp;omega,ae⟩,F⟩
def YY (ρ:Nat->Rl) (tb:Nat) (ti to:List Int) (x:Int) (w:wD) (h:TapeAt ρ w tb ti to) (hf:to.length<4096) :
 Calls prog 243 #[.pointer (some ⟨tb,0+1,none⟩),.int .i64 to.length,.int .i64 x] w (TapeR ρ tb ti (to++[x]) (.int .i64 0) w):=by
 obtain ⟨vi,vo,Y,N,ho⟩:=h.blk;have G:=h.role;have ac:=h.li;have ad:=Y.lt;have ae:=λk O=>(N.1.lt (k:=k) O).2
 obtain ⟨a,c,rfl⟩:=ho.1.shape;have M:=λk O=>And.intro (ho.2 k O) (ho.1.lt O).2
 obtain ⟨Z,ak⟩:=ho;have F:=mx (BT ρ) w;have aa:¬(iA a to.length c).ownBlock=some tb:=λe=>by have:=(M _ e).1;rw [G] at this;cases this
 have af:∀k,(iA a to.length c).ownBlock=some k->ρ k≠.tin:=λk e=>by have:=(M _ e).1;rw [this];exact λh=>by cases h
 have ag:∀k,(iA a to.length c).ownBlock=some k->BT ρ k\/w.heap.size<=k:=λk e=>gA (gB (gB (M k e).1))
 have ah:∀k,k=tb->BT ρ k\/w.heap.size<=k:=λk e=>gA (gA (by rw [e];exact G))
 have ai:∀k,k=tb->ρ k≠.tin:=λk e=>by rw [e,G];exact λh=>by cases h
 refine Ad func243 ntmps243 rfl rfl (eK ?_);refine Az (xS [_]) rfl ?_ aFh;rintro _ w2 ⟨b1,rfl,n3,t4⟩;have h5:=n3.blk;have x6:=n3.ext;have p7:=n3.pos;have z8:=n3.size;revert N Y Z F;refine eE x6 ?_;intro N Y Z F;refine eQ rfl (LE to Ab 0 _ x _ _ (gI _) Af (mJ Af)) ?_;rintro _ al ⟨a9,am,⟨⟩,U,ab,V⟩;have N:=OwnR.fr N V (af);have Y:=mu Y V (aa);have F:=mB F V (ag);refine C1 Pn (eV [_] [_,_] Y ?_);intro an aj X _;have U:=nn U X (λk O e=>by subst e;rcases ab _ O with h|h;exact aa h;omega);have N:=OwnR.fr N X (ai);have F:=mB F X (ah);refine kR ?_;exact ⟨IA ρ w .tout,rfl,Dg _ _ _,⟨by rw [Dg ρ w .tout tb ad];exact G,⟨_,_,aj,N.ro' (Dg _ _ _) ae,PutR.own U M (λk O=>(ab k O).imp id (λh=>by omega))⟩,ac,by simp;omega⟩,F⟩
def YZ (ρ:Nat->Rl) (tb:Nat) (to:List Int) (i:Int) (w:wD) (h:TapeAt ρ w tb [] to) :
 Calls prog 242 #[.pointer (some ⟨tb,0,none⟩),.int .i64 i] w (TapeR ρ tb [] to (.tuple #[.int .i64 0,.int .i64 17]) w):=by
 obtain ⟨M,N,O,G,U⟩:=h.blk;obtain ⟨a,c,rfl⟩:=G.1.shape;refine Ad func242 ntmps242 rfl rfl (kT ?_);exact ⟨ρ,rfl,Ro.refl _ _,Af,mx _ _⟩
def Y0 (ρ:Nat->Rl) (tb:Nat) (ti:List Int) (i:Int) (w:wD) (h:TapeAt ρ w tb ti []) :
 Calls prog 242 #[.pointer (some ⟨tb,0+1,none⟩),.int .i64 i] w (TapeR ρ tb ti [] (.tuple #[.int .i64 0,.int .i64 17]) w):=by
 obtain ⟨M,N,O,U,G⟩:=h.blk;obtain ⟨a,c,rfl⟩:=G.1.shape;refine Ad func242 ntmps242 rfl rfl (kT ?_);exact ⟨ρ,rfl,Ro.refl _ _,Af,mx _ _⟩
def Y1 (ρ:Nat->Rl) (tb:Nat) (x:Int) (ti to:List Int) (w:World) (h:TapeAt ρ w tb (x::ti) to) :
 Calls prog 242 #[.pointer (some ⟨tb,0,none⟩),.int .i64 0] w (TapeR ρ tb ti to (.tuple #[.int .i64 x,.int .i64 0]) w):=by
 obtain ⟨vi,vo,O,Z,X⟩:=h.blk;have G:=h.role;have aa:=h.lo;have aj:=h.li;have ab:=O.lt
 have ac:=λk N=>(X.1.lt (k:=k) N).2
 obtain ⟨a,c,rfl⟩:=Z.1.shape
 have M:=λk N=>And.intro (Z.2 k N) (Z.1.lt N).2
 obtain ⟨ad,ak⟩:=Z;have F:=mx (BT ρ) w
 have Y:¬(iA a (x::ti).length c).ownBlock=some tb:=λe=>by have:=(M _ e).1;rw [G] at this;cases this
 have ae:∀k,(iA a (x::ti).length c).ownBlock=some k->ρ k≠.tout:=λk e=>by have:=(M _ e).1;rw [this];exact λh=>by cases h
 have af:∀k,(iA a (x::ti).length c).ownBlock=some k->BT ρ k\/w.heap.size<=k:=λk e=>gA (gB (gA (M k e).1))
 have ag:∀k,k=tb->BT ρ k\/w.heap.size<=k:=λk e=>gA (gA (by rw [e];exact G))
 have ah:∀k,k=tb->ρ k≠.tout:=λk e=>by rw [e,G];exact λh=>by cases h
 have U:∀(w1:World),OwnI w1 0 (.slice a (x::ti).length c) (x::ti)->Calls prog 246 #[.slice a (x::ti).length c,.int .i64 0,.int .i64 (0+1)] w1 (PutR (.slice a (x::ti).length c) ti 0 w1):=λw1 h1=>by
  have:=Nn (x::ti) Ab 0 AQ 0 _ w1 h1
  simpa using this
 replace U:=fZ U
 have al:(x::ti).length=ti.length+1:=by simp
 obtain ⟨gb,go,rfl,hr⟩:=ad.at.get AQ;have r1:=nF hr (i:=0) AQ;rw [show (x::ti).getD 0 0=x from rfl] at r1;refine Ad func242 ntmps242 rfl rfl ?_
 refine cS (C1 Pa (C1 Pa (cT (Aj (cS (C1 Mv (C1 Pn (C1 (Pl O) (C1 Pz (C1 V1 (cT (Dd (Am (Ai (cS (C1 Mv (C1 Pn (C1 (Pl O) (C1 Mv (C1 Pi (C1 (Pw r1) (C1 Pa (cN (C1 Mv (C1 Mv (C1 Pn (C1 (Pl O) (C1 Mv (C1 Mv (C1 V7 (eQ rfl (U.out _ Af) ?_)))))))))))))))))))))))))))))));rintro _ w6 ⟨a1,c2,⟨⟩,h3,h4,f5⟩;replace X:=OwnR.fr X f5 (ae);replace F:=mB F f5 (af);replace O:=mu O f5 (Y);refine C1 Pn (eV [_] [_,_] O ?_);intro w8 ai V _;replace h3:=nn h3 V (λk N e=>by subst e;rcases h4 _ N with h|h;exact Y h;omega);replace X:=OwnR.fr X V (ah);replace F:=mB F V (ag);refine cN (C1 Mv (C1 Pa (C1 Pa (cT (AU (Bc rfl rfl rfl ?_))))))
 exact ⟨IA ρ w .tin,rfl,Dg _ _ _,⟨by rw [Dg ρ w .tin tb ab];exact G,⟨_,_,ai,PutR.own h3 M (λk N=>(h4 k N).imp id (λh=>by omega)),X.ro' (Dg _ _ _) ac⟩,Ab,aa⟩,F⟩
def Y2 (ρ:Nat->Rl) (tb:Nat) (x:Int) (ti ys:List Int) (w:wD) (h:TapeAt ρ w tb ti (ys++[x])) :
 Calls prog 242 #[.pointer (some ⟨tb,0+1,none⟩),.int .i64 (((ys++[x]).length:Int)-1)] w (TapeR ρ tb ti ys (.tuple #[.int .i64 x,.int .i64 0]) w):=by
 obtain ⟨vi,vo,Z,V,ho⟩:=h.blk;have G:=h.role;have aj:=h.lo;have aa:=h.li;have ab:=Z.lt;have ac:=λk N=>(V.1.lt (k:=k) N).2
 obtain ⟨a,c,rfl⟩:=ho.1.shape;have M:=λk N=>And.intro (ho.2 k N) (ho.1.lt N).2
 obtain ⟨ad,ak⟩:=ho;have F:=mx (BT ρ) w;have X:¬(iA a (ys++[x]).length c).ownBlock=some tb:=λe=>by have:=(M _ e).1;rw [G] at this;cases this
 have ae:∀k,(iA a (ys++[x]).length c).ownBlock=some k->ρ k≠.tin:=λk e=>by have:=(M _ e).1;rw [this];exact λh=>by cases h
 have af:∀k,(iA a (ys++[x]).length c).ownBlock=some k->BT ρ k\/w.heap.size<=k:=λk e=>gA (gB (gB (M k e).1))
 have ag:∀k,k=tb->BT ρ k\/w.heap.size<=k:=λk e=>gA (gA (by rw [e];exact G))
 have ah:∀k,k=tb->ρ k≠.tin:=λk e=>by rw [e,G];exact λh=>by cases h
 have Y:(ys++[x]).length=ys.length+1:=by simp
 have O:∀(w1:wD),OwnI w1 0 (.slice a (ys++[x]).length c) (ys++[x])->Calls prog 246 #[.slice a (ys++[x]).length c,.int .i64 (((ys++[x]).length:Int)-1),.int .i64 (((ys++[x]).length:Int)-1+1)] w1 (PutR (.slice a (ys++[x]).length c) ys 0 w1):=λw1 h1=>by
  have h9:=Nn (ys++[x]) Ab ys.length Ab 0 _ w1 h1;rw [show (ys++[x]).eraseIdx ys.length=ys by rw [List.eraseIdx_append_of_length_le (gP _)];simp] at h9;rw [Y] at h9 ⊢;rw [show (((ys.length+1:Nat):Int)-1)=(ys.length:Int) by omega];exact h9
 have O:=fZ O;obtain ⟨gb,go,rfl,hr⟩:=ad.at.get AQ;have r1:=nF hr (i:=(((ys++[x]).length:Int)-1).toNat) Ab;rw [show (ys++[x]).getD (((ys++[x]).length:Int)-1).toNat 0=x by rw [Y,show (((ys.length+1:Nat):Int)-1).toNat=ys.length by omega];simp] at r1;generalize al:(ys++[x]).length=LL at *;refine Ad func242 ntmps242 rfl rfl (kQ (O.out _ Af) ?_);rintro _ w6 ⟨a1,c2,⟨⟩,h3,h4,f5⟩;have V:=OwnR.fr V f5 (ae);have F:=mB F f5 (af);have Z:=mu Z f5 (X);refine C1 Pn (eV [_] [_,_] Z ?_);intro w8 ai U _;have h3:=nn h3 U (λk N e=>by subst e;rcases h4 _ N with h|h;exact X h;omega);have V:=OwnR.fr V U (ah);have F:=mB F U (ag);refine kT ?_;exact ⟨IA ρ w .tout,rfl,Dg _ _ _,⟨by rw [Dg ρ w .tout tb ab];exact G,⟨_,_,ai,V.ro' (Dg _ _ _) ac,PutR.own h3 M (λk N=>(h4 k N).imp id (λh=>by omega))⟩,aa,Ab⟩,F⟩
def JD {l:Sl} {op:Op} (h:Bm P n l (· = w) op ty v):BG P n l op ty w (λr w'=>match r with|some u=>u=v/\w=w'|none=>False):=by
 unfold BG;unfold Bm at h;intro a dst pos after g next Q ha k k0;unfold km;rw [h a w dst pos after g ha rfl];exact k v w ⟨rfl,rfl⟩
def Ro.low {ρ':Nat->Rl} (h:Ro ρ ρ' w') (G:w.heap.size<=w'.heap.size):Ro ρ ρ' w:=λb M=>h b Ab
def Wx (ρ:Nat->Rl) (tb:Nat) (to:List Int) (w:wD) (h:TapeAt ρ w tb [] to):Calls prog 235 #[.pointer (some ⟨tb,0,none⟩)] w (TapeR ρ tb [] to (.tuple #[.int .i64 0,.int .i64 17]) w):=by
 have F:=mx (BT ρ) w;have G:=fZ (λw1 h=>YZ ρ tb to 0 w1 h);refine Ad func235 ntmps235 rfl rfl (eK ?_);refine C1 (A2 Ac rfl rfl) (kQ (G.out _ Af) ?_);rintro _ U ⟨M,⟨⟩,V,X,N⟩;have F:=mB F N (λk O=>gA O);refine kT ?_;exact ⟨_,rfl,Ro.low Af Ab,Af,F⟩
def Y3 (ρ:Nat->Rl) (tb:Nat) (x:Int) (ti to:List Int) (w:wD) (h:TapeAt ρ w tb (x::ti) to):Calls prog 235 #[.pointer (some ⟨tb,0,none⟩)] w (TapeR ρ tb ti to (.tuple #[.int .i64 x,.int .i64 0]) w):=by
 have F:=mx (BT ρ) w;have G:=fZ (λw1 h=>Y1 ρ tb x ti to w1 h);refine Ad func235 ntmps235 rfl rfl (eK ?_);refine C1 (A2 Ac rfl rfl) (kQ (G.out _ Af) ?_);rintro _ U ⟨M,⟨⟩,V,X,N⟩;have F:=mB F N (λk O=>gA O);refine kT ?_;exact ⟨_,rfl,Ro.low Af Ab,Af,F⟩
def R2 (ρ:Nat->Rl) (tb:Nat) (x:Int) (ti to:List Int) (w:wD) (h:TapeAt ρ w tb ti to) (G:ti.length=4096):Calls prog 236 #[.pointer (some ⟨tb,0,none⟩),.int .i64 x] w (TapeR ρ tb ti to (.int .i64 5) w):=by
 have F:=mx (BT ρ) w;have M:=fZ (λw1 h=>YV ρ tb ti to 0 x w1 h G);refine Ad func236 ntmps236 rfl rfl (eK ?_);refine C1 (A2 Ac rfl rfl) (kQ (M.out _ Af) ?_);rintro _ V ⟨N,⟨⟩,X,Y,O⟩;have F:=mB F O (λk U=>gA U);refine kR ?_;exact ⟨_,rfl,Ro.low Af Ab,Af,F⟩
def NG (ρ:Nat->Rl) (tb:Nat) (x:Int) (ti to:List Int) (w:wD) (h:TapeAt ρ w tb ti to) (G:ti.length<4096):Calls prog 236 #[.pointer (some ⟨tb,0,none⟩),.int .i64 x] w (TapeR ρ tb (x::ti) to (.int .i64 0) w):=by
 have F:=mx (BT ρ) w;have M:=fZ (λw1 h=>YX ρ tb ti to x w1 h G);refine Ad func236 ntmps236 rfl rfl (eK ?_);refine C1 (A2 Ac rfl rfl) (kQ (M.out _ Af) ?_);rintro _ V ⟨N,⟨⟩,X,Y,O⟩;have F:=mB F O (λk U=>gA U);refine kR ?_;exact ⟨_,rfl,Ro.low Af Ab,Af,F⟩
def QC (ρ:Nat->Rl) (tb:Nat) (ti:List Int) (w:wD) (h:TapeAt ρ w tb ti []):Calls prog 237 #[.pointer (some ⟨tb,0,none⟩)] w (TapeR ρ tb ti [] (.tuple #[.int .i64 0,.int .i64 17]) w):=by
 have F:=mx (BT ρ) w;have O:=fZ (λw1 h=>Y0 ρ tb ti ((([]:List Int).length:Int)-1) w1 h);have U:=h.lo;obtain ⟨vi,vo,M,V,N⟩:=h.blk;obtain ⟨a,c,rfl⟩:=N.1.shape;clear V N;refine Ad func237 ntmps237 rfl rfl ?_;refine eK ?_;refine C1 (A2 Ac rfl rfl) ?_;refine eK ?_;refine Ap (λ_=>True) 12 (.pure 0 (.pure 1 (.pure 2 (.pure 3 (.pure 4 (.pure 5 (.fork 6 (.pure 7 (.pure 8 (.fork 9 (.pure 10 (.pure 11 .tail)) .none))) .none))))))) mixed AR (Aa Ag) ?_;intro w1 X _;revert h F M;refine eY X ?_;intro z4 h F M;refine ⟨trivial,?_⟩;refine eT ?_;refine Ax rfl (JD (Ar Ac rfl rfl rfl (λwz Y=>by subst Y;exact mC M rfl))) rfl ?_ aFh Au;rintro _ _ ⟨rfl,rfl⟩;refine ⟨trivial,?_⟩;refine Tq rfl Pz (Tq rfl (AL rfl rfl (gG _ Ab)) ?_);refine Ax rfl (AM AR rfl (O.out _ Af) (λ_ _ h=>h.ret)) rfl ?_ aFh Au;rintro _ Z ⟨aa,⟨⟩,h8,h9,G⟩;clear h;replace F:=mB F G (λk hk=>gA hk);clear M G;refine ⟨trivial,?_⟩;refine Tq rfl Px (Tq rfl Px (Aq rfl ?_));refine eK ?_;refine Bc rfl rfl rfl ?_;exact ⟨_,rfl,Ro.low Af Ab,Af,F⟩
def R3 (ρ:Nat->Rl) (tb:Nat) (x:Int) (ti ys:List Int) (w:wD) (h:TapeAt ρ w tb ti (ys++[x])):Calls prog 237 #[.pointer (some ⟨tb,0,none⟩)] w (TapeR ρ tb ti ys (.tuple #[.int .i64 x,.int .i64 0]) w):=by
 have F:=mx (BT ρ) w;have O:=fZ (λw1 h=>Y2 ρ tb x ti ys w1 h);have U:=h.lo;obtain ⟨vi,vo,M,V,N⟩:=h.blk;obtain ⟨a,c,rfl⟩:=N.1.shape;clear V N;refine Ad func237 ntmps237 rfl rfl ?_;refine eK ?_;refine C1 (A2 Ac rfl rfl) ?_;refine eK ?_;refine Ap (λ_=>True) 12 (.pure 0 (.pure 1 (.pure 2 (.pure 3 (.pure 4 (.pure 5 (.fork 6 (.pure 7 (.pure 8 (.fork 9 (.pure 10 (.pure 11 .tail)) .none))) .none))))))) mixed AR (Aa Ag) ?_;intro w1 X _;revert h F M;refine eY X ?_;intro z4 h F M;refine ⟨trivial,?_⟩;refine eT ?_;refine Ax rfl (JD (Ar Ac rfl rfl rfl (λwz Y=>by subst Y;exact mC M rfl))) rfl ?_ aFh Au;rintro _ _ ⟨rfl,rfl⟩;refine ⟨trivial,?_⟩;refine Tq rfl Pz (Tq rfl (AL rfl rfl (gG _ Ab)) ?_);refine Ax rfl (AM AR rfl (O.out _ Af) (λ_ _ h=>h.ret)) rfl ?_ aFh Au;rintro _ Z ⟨aa,⟨⟩,h8,h9,G⟩;clear h;replace F:=mB F G (λk hk=>gA hk);clear M G;refine ⟨trivial,?_⟩;refine Tq rfl Px (Tq rfl Px (Aq rfl ?_));refine eK ?_;refine Bc rfl rfl rfl ?_;exact ⟨_,rfl,Ro.low Af Ab,Af,F⟩
def UK (ρ:Nat->Rl) (tb:Nat) (x:Int) (ti to:List Int) (w:wD) (h:TapeAt ρ w tb ti to) (O:to.length=4096):Calls prog 238 #[.pointer (some ⟨tb,0,none⟩),.int .i64 x] w (TapeR ρ tb ti to (.int .i64 5) w):=by
 have F:=mx (BT ρ) w;have U:=fZ (λw1 h=>YW ρ tb ti to to.length x w1 h O);obtain ⟨vi,vo,G,V,M⟩:=h.blk;obtain ⟨a,c,rfl⟩:=M.1.shape;clear V M;refine Ad func238 ntmps238 rfl rfl ?_;refine eK ?_;refine C1 (A2 Ac rfl rfl) ?_;refine eK ?_;refine Ap (λ_=>True) 9 (.pure 0 (.pure 1 (.pure 2 (.pure 3 (.pure 4 (.pure 5 (.pure 8 (.fork 6 (.pure 7 .tail) .none)))))))) mixed AR (Aa Ag) ?_;intro w1 X _;revert h F G;refine eY X ?_;intro z4 h F G;refine ⟨trivial,?_⟩;refine eT ?_;refine Ax rfl (JD (Ar Ac rfl rfl rfl (λwz Y=>by subst Y;exact mC G rfl))) rfl ?_ aFh Au;rintro _ _ ⟨rfl,rfl⟩;refine ⟨trivial,?_⟩;refine Tq rfl Pz (Aq rfl (eQ rfl (U.out _ Af) ?_));rintro _ Z ⟨aa,⟨⟩,h7,h8,N⟩;clear h;replace F:=mB F N (λk hk=>gA hk);clear G N;refine eK ?_;refine AW rfl rfl ?_;exact ⟨_,rfl,Ro.low Af Ab,Af,F⟩
def QD (ρ:Nat->Rl) (tb:Nat) (x:Int) (ti to:List Int) (w:wD) (h:TapeAt ρ w tb ti to) (O:to.length<4096):Calls prog 238 #[.pointer (some ⟨tb,0,none⟩),.int .i64 x] w (TapeR ρ tb ti (to++[x]) (.int .i64 0) w):=by
 have F:=mx (BT ρ) w;have U:=fZ (λw1 h=>YY ρ tb ti to x w1 h O);obtain ⟨vi,vo,G,V,M⟩:=h.blk;obtain ⟨a,c,rfl⟩:=M.1.shape;clear V M;refine Ad func238 ntmps238 rfl rfl ?_;refine eK ?_;refine C1 (A2 Ac rfl rfl) ?_;refine eK ?_;refine Ap (λ_=>True) 9 (.pure 0 (.pure 1 (.pure 2 (.pure 3 (.pure 4 (.pure 5 (.pure 8 (.fork 6 (.pure 7 .tail) .none)))))))) mixed AR (Aa Ag) ?_;intro w1 X _;revert h F G;refine eY X ?_;intro z4 h F G;refine ⟨trivial,?_⟩;refine eT ?_;refine Ax rfl (JD (Ar Ac rfl rfl rfl (λwz Y=>by subst Y;exact mC G rfl))) rfl ?_ aFh Au;rintro _ _ ⟨rfl,rfl⟩;refine ⟨trivial,?_⟩;refine Tq rfl Pz (Aq rfl (eQ rfl (U.out _ Af) ?_));rintro _ Z ⟨aa,⟨⟩,h7,h8,N⟩;clear h;replace F:=mB F N (λk hk=>gA hk);clear G N;refine eK ?_;refine AW rfl rfl ?_;exact ⟨_,rfl,Ro.low Af Ab,Af,F⟩
def dC (ρ:Nat->Rl) (tb:Nat) (ti to:List Int) (w:wD) (h:TapeAt ρ w tb ti to):Calls prog 163 #[.pointer (some ⟨tb,0,none⟩)] w (CloneR ti w):=by
 have X:=Ne w;have M:=h.li;obtain ⟨U,V,Y,G,Z⟩:=h.blk;obtain ⟨a,c,rfl⟩:=G.1.shape;have N:=G.1.at;refine Ad func163 ntmps163 rfl rfl (eK ?_);refine C1 (A2 Ac rfl rfl) (kQ (Fo ti Ab _ _ _ Af) ?_);rintro _ w6 ⟨a1,c2,⟨⟩,h3,h4,O⟩;have X:=X.ext O;refine kR ?_;exact ⟨_,_,rfl,Af,Af,X⟩
def aM (ρ:Nat->Rl) (tb:Nat) (ti to:List Int) (w:wD) (h:TapeAt ρ w tb ti to):Calls prog 164 #[.pointer (some ⟨tb,0,none⟩)] w (CloneR to w):=by
 have X:=Ne w;have M:=h.lo;obtain ⟨U,V,Y,Z,G⟩:=h.blk;obtain ⟨a,c,rfl⟩:=G.1.shape;have N:=G.1.at;refine Ad func164 ntmps164 rfl rfl (eK ?_);refine C1 (A2 Ac rfl rfl) (kQ (Fo to Ab _ _ _ Af) ?_);rintro _ w6 ⟨a1,c2,⟨⟩,h3,h4,O⟩;have X:=X.ext O;refine kR ?_;exact ⟨_,_,rfl,Af,Af,X⟩
def TNewR (ρ:Nat->Rl) (ti to:List Int) (w:wD):Ending->wD->Prop:=λe w'=> ∃tb ρ',e = .returned (.tuple #[.pointer (some ⟨tb,0,none⟩),.int .i64 0])/\Ro ρ ρ' w/\w.heap.size<=tb/\TapeAt ρ' w' tb ti to/\Ext w w'
def TNewR.ret {to:List Int} {e:Ending} (h:TNewR ρ ti to w e w'):∃v,e = .returned v:=by
 obtain ⟨_,_,h,-⟩:=h;exact ⟨_,h⟩
def aN (ρ:Nat->Rl) (ti to:List Int) (hi:ti.length<=4096) (ho:to.length<=4096) (a b:oA) (c d:Nat) (w:wD) (h:IntsAt w ti a) (h':IntsAt w to b):Calls prog 157 #[.slice a ti.length c,.slice b to.length d] w (TNewR ρ ti to w):=by
 have X:=Ne w;refine Ad func157 ntmps157 rfl rfl (kQ (Fo ti Ab _ _ _ h) ?_);rintro _ w6 ⟨a1,c2,⟨⟩,M,h4,x5⟩;revert h' X;refine eY x5 ?_;intro z7 h' X;refine C1 Mv (eQ rfl (Fo to Ab _ _ _ Af) ?_);rintro _ N ⟨a8,c9,⟨⟩,G,O,U⟩;revert M X;refine eY U ?_;intro aa M X;refine C1 (xB [_,_]) (eB [_,_] ?_);intro ab ac V Y ad ae;revert G M X;refine eE Y ?_;intro G M X;refine kT ?_;refine ⟨_,λb=>if b<w.heap.size then ρ b else if b<w6.heap.size then .tin else if b<N.heap.size then .tout else .tape,rfl,λb hb=>AT hb,Ab,⟨?_,⟨_,_,V,⟨M.low (λ_ _=>gI _),λk Z=>?_⟩,G.low (λ_ _=>gI _),λk Z=>?_⟩,hi,ho⟩,X⟩
 . (try dsimp only)
   rw [AC Ab,AC Ab,AC Ab]
 . have:=h4 k Z
   (try dsimp only);rw [AC Ab,AT Ab]
 . have:=O k Z
   (try dsimp only);rw [AC Ab,AC Ab,AT Ab]
def Win (w:wD) (b o:Nat) (vs pre post:lV) (T:TypeId):Prop:=TB w b (pre++vs++post) T/\pre.length=o
section
variable {ρ':Nat->Rl} {κ':Nat->Nat} {r:Rl} {S:nP} {w0:wD} {b o:Nat} {vs pre post:lV}
def Win.ext (h:Win w b o vs pre post T) (x:Ext w w'):Win w' b o vs pre post T:=⟨h.1.ext x,h.2⟩
instance  : LfE w w' (Win w b o vs pre post T) (Win w' b o vs pre post T):=⟨λx h=>Bk.Win.ext h x⟩
def Win.fr (h:Win w b o vs pre post T) (x:Fr S w w') (G:¬S b):Win w' b o vs pre post T:=⟨h.1.fr x G,h.2⟩
instance  : LfF S w w' (Win w b o vs pre post T) (¬S b) (Win w' b o vs pre post T):=⟨λx s h=>Bk.Win.fr h x s⟩
def Win.blk (h:Win w b o vs pre post T):Row w ⟨b,o,none⟩ vs:=by
 have:=Blk.sub h.1.blk o vs.length;obtain ⟨-,rfl⟩:=h;simpa [iG] using this
def KU:∀(us pre vs post:lV) (i:Nat),i+us.length<=vs.length->Ba (pre++vs++post) (pre.length+i) us=pre++Ba vs i us++post
 | [],_,_,_,_,_=>rfl
 | u::r,pre,vs,post,i,h=>by
  simp only [gH] at h;simp only [Ba];rw [show (pre++vs++post).set (pre.length+i) u=pre++vs.set i u++post by
   rw [iG,kW _ _ Ab,show pre.length+i-pre.length=i by omega,List.set_append_left _ _ Ab,<-iG]]
  exact KU r pre (vs.set i u) post (i+1) (by simp;omega)
def Cp {m:Nat} {l:Sl} {tab:Tab} {y:Operand} {s:Sk} (b o i:Nat) (vs':lV) (TT:TabOk P tab) (ht:AB tab t=some (s,sz)) (hx:ev l x=some (.pointer (some ⟨b,o+i,none⟩))) (hy:ev l y=some v)
 (hv:v.cells=us.toArray) (hl:us.length=sz) (h1:us.all mG=true) (hb:Win w b o vs pre post T) (ho:jW (i+us.length) vs.length=true) (he:Ba vs i us=vs') :
 BG P m l (.store t x y) ty w (GE λw'=>Win w' b o vs' pre post T/\Fr (· = b) w w'/\w'.heap.size=w.heap.size):=by
 unfold BG;intro a dst pos after g next Q ha _ hn;rw [md] at ho;obtain ⟨hb,rfl⟩:=hb;obtain ⟨w1,e1,e2,e3⟩:=ET (P:=P) us w b (pre.length+i) 0 _ hb (by simp only [gR];omega) h1;have e:(execOp a.eval ⟨dst,.store t x y,ty,pos,after,g⟩).run P w = .ok .skip w1:=by
  have hcs:v.cells.toList=us:=by rw [hv]
  have hsz:v.cells.size=sz:=by rw [hv];simpa using hl
  simp only [execOp,ha.ev hx,ha.ev hy,Instr.storeAt,Instr.sureAddr,gO,hH,gF,storeVar,B0 (TT _ _ _ ht),hsz,hcs,e1];simp only [ne_eq,not_true,if_false,gO,hH,gF,e1]
 unfold km;rw [e];refine hn _ ⟨⟨?_,rfl⟩,e2.fr,e2.size⟩;rw [kH,KU us pre vs post i ho,he] at e3;exact e3
def Fb {m:Nat} {l:Sl} {tab:Tab} {y:Operand} {s:Sk} (b o:Nat) (h:lV) (G:TabOk P tab) (M:AB tab t=some (s,sz)) (N:ev l x=some (.pointer (some ⟨b,o,none⟩))) (O:ev l y=some v)
 (U:v.cells=us.toArray) (V:us.length=sz) (X:us.all mG=true) (Y:Win w b o vs pre post T) (Z:jW us.length vs.length=true) (he:Ba vs 0 us=h) :
 BG P m l (.store t x y) ty w (GE λw'=>Win w' b o h pre post T/\Fr (· = b) w w'/\w'.heap.size=w.heap.size):=
 Cp b o 0 h G M N O U V X Y (by rw [iR];exact Z) he
def OwnP (ρ:Nat->Rl) (r:Rl) (w:wD) (e sz:Nat) (v:Value) (n:Nat) (cs:lV):Prop:=Own w 0 e sz v n cs /\ ∀k,v.ownBlock=some k->ρ k=r
def OwnP.ext (h:OwnP ρ r w e sz v n cs) (x:Ext w w'):OwnP ρ r w' e sz v n cs:=⟨h.1.ext x,h.2⟩
instance  : LfE w w' (OwnP ρ r w e sz v n cs) (OwnP ρ r w' e sz v n cs):=⟨λx h=>Bk.OwnP.ext h x⟩
def OwnP.fr (h:OwnP ρ r w e sz v n cs) (x:Fr S w w') (G:∀k,S k->ρ k≠r):OwnP ρ r w' e sz v n cs:=⟨h.1.fr x (λk M N=>G k N (h.2 k M)),h.2⟩
instance  : LfF S w w' (OwnP ρ r w e sz v n cs) (∀k,S k->ρ k≠r) (OwnP ρ r w' e sz v n cs):=⟨λx s h=>Bk.OwnP.fr h x s⟩
def OwnP.ro (h:OwnP ρ r w e sz v n cs) (x:Ro ρ ρ' w0) (M:w.heap.size<=w0.heap.size):OwnP ρ' r w e sz v n cs:=
 ⟨h.1,λk G=>by have:=(h.1.blk G).2;rw [x k Ab];exact h.2 k G⟩
def OwnP.move (h:OwnP ρ r w e sz v n cs) (x:Fr S w w') (G:∀k,S k->ρ k≠r) (M:Ro ρ ρ' w):OwnP ρ' r w' e sz v n cs:=
 ⟨(h.fr x G).1,(h.ro M (gP _)).2⟩
def OwnR.move (h:OwnR ρ r w v xs) (x:Fr S w w') (G:∀k,S k->ρ k≠r) (M:Ro ρ ρ' w):OwnR ρ' r w' v xs:=
 ⟨(h.fr x G).1,(h.ro M (gP _)).2⟩
abbrev JP (κ:Nat->Nat) (c:Nat):Value:=.pointer (some ⟨κ c,0,none⟩)
structure FrameOk (ρ:Nat->Rl) (κ:Nat->Nat) (w:wD) (j:Nat) (f:Frm) (vv vc:Value):Prop where
 v:OwnP ρ (.vars j) w 77 3 vv f.vars.length (f.vars.flatMap VD.cells)
 c:OwnP ρ (.cels j) w 234 1 vc f.cells.length (f.cells.map (JP κ))
variable {j:Nat} {vc:Value}
def FrameOk.ext (h:FrameOk ρ κ w j f vv vc) (x:Ext w w'):FrameOk ρ κ w' j f vv vc:=⟨h.v.ext x,h.c.ext x⟩
instance  : LfE w w' (FrameOk ρ κ w j f vv vc) (FrameOk ρ κ w' j f vv vc):=⟨λx h=>Bk.FrameOk.ext h x⟩
def FrameOk.fr (h:FrameOk ρ κ w j f vv vc) (x:Fr S w w') (M:∀k,S k->ρ k≠.vars j/\ρ k≠.cels j):FrameOk ρ κ w' j f vv vc:=⟨h.v.fr x (λk G=>(M k G).1),h.c.fr x (λk G=>(M k G).2)⟩
instance  : LfF S w w' (FrameOk ρ κ w j f vv vc) (∀k,S k->ρ k≠.vars j/\ρ k≠.cels j) (FrameOk ρ κ w' j f vv vc):=⟨λx s h=>Bk.FrameOk.fr h x s⟩
def FrameOk.move (h:FrameOk ρ κ w j f vv vc) (x:Fr S w w') (M:∀k,S k->ρ k≠.vars j/\ρ k≠.cels j) (N:Ro ρ ρ' w) (G:∀c∈f.cells,κ' c=κ c):FrameOk ρ' κ' w' j f vv vc:=
 ⟨h.v.move x (λk G=>(M k G).1) N,by
  have:=h.c.move x (λk G=>(M k G).2) N;rw [show f.cells.map (JP κ')=f.cells.map (JP κ) from List.map_congr_left λc O=>by simp only [JP,G c O]];exact this⟩
def FramesOk (ρ:Nat->Rl) (κ:Nat->Nat) (w:wD):Nat->List Frm->lV->Prop
 | _,[],cs=>cs=[]
 | j,f::r,cs=> ∃vv vc cs',cs=[vv,vc,.int .i64 f.locals]++cs'/\FrameOk ρ κ w j f vv vc/\FramesOk ρ κ w (j+1) r cs'
def FramesOk.move {S:nP} (x:Fr S w w') (N:Ro ρ ρ' w):∀(l:List Frm) (j:Nat) (cs:lV),FramesOk ρ κ w j l cs->(∀k,S k -> ∀i,j<=i->i<j+l.length->ρ k≠.vars i/\ρ k≠.cels i)->(∀f∈l,∀c∈f.cells,κ' c=κ c)->FramesOk ρ' κ' w' j l cs
 | [],_,_,h,_,_=>h
 | f::l,j,cs,⟨vv,vc,G,O,U,Y⟩,V,X=>⟨vv,vc,G,O,U.move x (λk M=>V k M j (gP _) AQ) N (X f AQ),FramesOk.move x N l (j+1) G Y (λk M i O U=>V k M i Ab (by simp only [gH];omega)) (λf Z=>X f (by simp [Z]))⟩
def FramesOk.snoc:∀(l:List Frm) (j:Nat) (f:Frm) (cs:lV),FramesOk ρ κ w j (l++[f]) cs ↔ ∃h vv vc,cs=h++[vv,vc,.int .i64 f.locals]/\FramesOk ρ κ w j l h/\FrameOk ρ κ w (j+l.length) f vv vc
 | [],j,f,cs=>by
  constructor
  . rintro ⟨vv,vc,N,rfl,O,X⟩;obtain rfl:N=[]:=X;exact ⟨[],vv,vc,rfl,rfl,O⟩
  . rintro ⟨h,vv,vc,rfl,Z,O⟩;obtain rfl:h=[]:=Z;exact ⟨vv,vc,[],rfl,O,rfl⟩
 | g::l,j,f,cs=>by
  constructor
  . rintro ⟨vv,vc,N,rfl,O,X⟩;obtain ⟨h,G,M,rfl,Y,V⟩:=(FramesOk.snoc l (j+1) f N).1 X;exact ⟨[vv,vc,.int .i64 g.locals]++h,G,M,AQ,⟨vv,vc,h,rfl,O,Y⟩,by rw [gH,show j+(l.length+1)=j+1+l.length by omega];exact V⟩
  . rintro ⟨h,G,M,rfl,⟨vv,vc,U,rfl,O,Y⟩,V⟩;refine ⟨vv,vc,U++[G,M,.int .i64 f.locals],AQ,O,(FramesOk.snoc l (j+1) f _).2 ⟨U,G,M,rfl,Y,?_⟩⟩;rw [gH,show j+(l.length+1)=j+1+l.length by omega] at V;exact V
def FramesOk.len:∀(l:List Frm) (j:Nat) (cs:lV),FramesOk ρ κ w j l cs->cs.length=l.length*3
 | [],_,_,h=>by obtain rfl:_=[]:=h;rfl
 | f::l,j,cs,⟨vv,vc,G,M,O,N⟩=>by
  have:=FramesOk.len l (j+1) G N;rw [M];simp only [gR,gH,iM];omega
def CellAt (ρ:Nat->Rl) (κ:Nat->Nat) (w:wD) (c:Nat) (xs:List Int):Prop:=ρ (κ c) = .cell c /\ ∃v,Blk w (κ c) [v]/\OwnR ρ (.items c) w v xs
def CellAt.move {c:Nat} {xs:List Int} (h:CellAt ρ κ w c xs) (x:Fr S w w') (N:∀k,S k->ρ k≠.cell c/\ρ k≠.items c) (O:Ro ρ ρ' w) (G:κ' c=κ c):CellAt ρ' κ' w' c xs:=by
 obtain ⟨U,v,V,X⟩:=h;have M:=V.lt;refine ⟨by rw [G,O _ M,U],v,?_,X.move x (λk G=>(N k G).2) O⟩;rw [G];exact V.fr x (λY=>(N _ Y).1 U)
def Fresh (ρ:Nat->Rl) (w:wD):Prop:= ∀b,w.heap.size<=b->ρ b = .none
def Fresh.ext (h:Fresh ρ w) (x:Ext w w'):Fresh ρ w':=λb G=>h b (by have:=x.size;omega)
instance  : LfE w w' (Fresh ρ w) (Fresh ρ w'):=⟨λx h=>Bk.Fresh.ext h x⟩
def Fresh.mv (h:Fresh ρ w) (x:Fr S w w'):Fresh ρ w':=λb G=>h b (by have:=x.size;omega)
structure StoreAt (ρ:Nat->Rl) (κ:Nat->Nat) (w:wD) (sb:Nat) (st:Stp):Prop where
 role:ρ sb = .store
 fresh:Fresh ρ w
 frs:∃bv bc cv tb cs,Blk w sb [bv,bc,.int .i64 st.base.locals,cv,.pointer (some ⟨tb,0,none⟩)]/\FrameOk ρ κ w 0 st.base bv bc/\OwnP ρ .calls w 229 3 cv st.calls.length cs/\FramesOk ρ κ w 1 st.calls cs/\TapeAt ρ w tb st.tin st.tout
 cells:∀c xs,st.heap[c]? = some xs->CellAt ρ κ w c xs
def Mg:Rl->Prop
 | .none | .other _=>False
 | _=>True

def TapeAt.move {tb:Nat} {ti to:List Int} (h:TapeAt ρ w tb ti to) (x:Fr S w w') (G:∀k,S k->ρ k≠.tape/\ρ k≠.tin/\ρ k≠.tout) (M:Ro ρ ρ' w):TapeAt ρ' w' tb ti to:=by
 obtain ⟨U,⟨X,Y,V,Z,h4⟩,h5,h6⟩:=h;have N:=V.lt;exact ⟨by rw [M _ N,U],⟨X,Y,V.fr x (λhS=>(G _ hS).1 U),Z.move x (λk O=>(G k O).2.1) M,h4.move x (λk O=>(G k O).2.2) M⟩,h5,h6⟩
def StoreAt.move (h:StoreAt ρ κ w sb st) (x:Fr S w w') (Y:∀k,S k -> ¬Mg (ρ k)) (N:Ro ρ ρ' w) (O:Fresh ρ' w'):StoreAt ρ' κ w' sb st:=by
 obtain ⟨V,-,⟨Z,bc,cv,tb,cs,X,h3,h4,h5,h6⟩,h7⟩:=h;have U:=X.lt;have M:∀ {r:Rl},Mg r -> ∀k,S k->ρ k≠r:=λN k G e=>Y k G (by rw [e];exact N)
 exact ⟨by rw [N _ U,V],O,⟨Z,bc,cv,tb,cs,X.fr x (λhS=>M (r:=.store) trivial _ hS V),h3.move x (λk G=>⟨M (by exact trivial) k G,M (by exact trivial) k G⟩) N (λ_ _=>rfl),h4.move x (M (by exact trivial)) N,FramesOk.move x N _ _ _ h5 (λk G i _ _=>⟨M (by exact trivial) k G,M (by exact trivial) k G⟩) (λ_ _ _ _=>rfl),h6.move x (λk G=>⟨M (by exact trivial) k G,M (by exact trivial) k G,M (by exact trivial) k G⟩) N⟩,
  λc xs hc=>(h7 c xs hc).move x (λk G=>⟨M (by exact trivial) k G,M (by exact trivial) k G⟩) N rfl⟩
def Fr.none {w w':wD} (x:Ext w w'):Fr (λ_=>False) w w':=.of_ext x
def StoreAt.ext (h:StoreAt ρ κ w sb st) (x:Ext w w'):StoreAt ρ κ w' sb st:=h.move (Fr.none x) (λ_ h=>h.elim) (Ro.refl _ _) (h.fresh.ext x)
instance  : LfE w w' (StoreAt ρ κ w sb st) (StoreAt ρ κ w' sb st):=⟨λx h=>Bk.StoreAt.ext h x⟩
def StoreAt.fr (h:StoreAt ρ κ w sb st) (x:Fr S w w') (G:∀k,S k -> ¬Mg (ρ k)):StoreAt ρ κ w' sb st:=h.move x G (Ro.refl _ _) (h.fresh.mv x)
instance  : LfF S w w' (StoreAt ρ κ w sb st) (∀k,S k -> ¬Mg (ρ k)) (StoreAt ρ κ w' sb st):=⟨λx s h=>Bk.StoreAt.fr h x s⟩
def CurP (w:wD) (sb fb fo n:Nat):Prop:= ∃x y z a c tp,Blk w sb [x,y,z,.slice a n c,tp]/\((n=0/\fb=sb/\fo=0)\/(0<n/\a=some ⟨fb,0,none⟩/\fo=(n-1)*3))
def CurP.ext {G M:Nat} (h:CurP w sb G M n) (x:Ext w w'):CurP w' sb G M n:=by
 obtain ⟨N,O,a3,a4,a5,U,V,X⟩:=h;exact ⟨N,O,a3,a4,a5,U,V.ext x,X⟩
instance {M:Nat}:LfE w w' (CurP w sb t M n) (CurP w' sb t M n):=⟨λx h=>Bk.CurP.ext h x⟩
def Fc (ρ:Nat->Rl) (j fb k:Nat):Prop:=k=fb\/ρ k = .vars j\/ρ k = .cels j
def QE (ρ:Nat->Rl) (κ:Nat->Nat) (w:wD) (sb:Nat) (st:Stp) (fb fo:Nat) (pre post:lV) (T:TypeId):Prop:=
 ∀(ρ':Nat->Rl) (κ':Nat->Nat) (w':wD) (f':Frm) (vv' vc':Value),Ro ρ ρ' w->Fresh ρ' w'->(∀f∈st.base::st.calls,∀c∈f.cells,κ' c=κ c)->(∀c,c<st.heap.length->κ' c=κ c)->Fr (Fc ρ st.calls.length fb) w w'->Win w' fb fo [vv',vc',.int .i64 f'.locals] pre post T->FrameOk ρ' κ' w' st.calls.length f' vv' vc'->StoreAt ρ' κ' w' sb (st.setCur f')
def StoreAt.open (h:StoreAt ρ κ w sb st):∃fb fo pre post T vv vc,CurP w sb fb fo st.calls.length/\(ρ fb = .store\/ρ fb = .calls)/\Win w fb fo [vv,vc,.int .i64 st.cur.locals] pre post T/\FrameOk ρ κ w st.calls.length st.cur vv vc/\QE ρ κ w sb st fb fo pre post T:=by
 obtain ⟨Z,-,⟨bv,bc,cv,tb,cs,⟨Ts,h2⟩,h3,h4,h5,h6⟩,h7⟩:=h;have ak:∃a c,cv = .slice a st.calls.length c:=by
  rcases h4.1.row with ⟨rfl,V,-⟩|⟨g,cap,rfl,-⟩
  . exact ⟨none,0,by rw [V]⟩
  . exact ⟨_,_,rfl⟩
 obtain ⟨ca,cc,rfl⟩:=ak;have ag:=Blk.lt ⟨Ts,h2⟩;rcases jU st.calls with N|⟨l,f,N⟩
 . have M:st.cur=st.base:=by unfold Stp.cur;rw [N];rfl
   refine ⟨sb,0,[],[.slice ca st.calls.length cc,.pointer (some ⟨tb,0,none⟩)],Ts,bv,bc,⟨_,_,_,_,_,_,⟨Ts,h2⟩,gA ⟨by rw [N];rfl,rfl,rfl⟩⟩,gA Z,⟨by rw [M];exact h2,rfl⟩,by rw [M,N];exact h3,?_⟩;intro ρ' κ' w' f' aa ab X ad G ae x hw hf;have hS:∀k,Fc ρ st.calls.length sb k->ρ k = .store\/ρ k = .vars 0\/ρ k = .cels 0:=λk G=>by
    rcases G with rfl|h|h
    . exact gA Z
    . exact gB (gA (by rw [h,N];rfl))
    . exact gB (gB (by rw [h,N];rfl))
   have O:∀ {r:Rl},r≠.store->r≠.vars 0->r≠.cels 0 -> ∀k,Fc ρ st.calls.length sb k->ρ k≠r:=λn1 n2 n3 k G e=>by
    rcases hS k G with h|h|h
    . exact n1 (by rw [<-e,h])
    . exact n2 (by rw [<-e,h])
    . exact n3 (by rw [<-e,h])
   have af:st.setCur f'={ st with base:=f' }:=by unfold mX;rw [AT N]
   rw [af];refine ⟨by rw [X _ ag,Z],ad,⟨aa,ab,.slice ca st.calls.length cc,tb,cs,⟨Ts,hw.1⟩,?_,h4.move x (O AQ AQ AQ) X,?_,h6.move x (λk G=>⟨O AQ AQ AQ k G,O AQ AQ AQ k G,O AQ AQ AQ k G⟩) X⟩,λc xs hx=>(h7 c xs hx).move x (λk G=>⟨O AQ AQ AQ k G,O AQ AQ AQ k G⟩) X (ae c (by
    rcases gQ c st.heap.length with h|h
    . exact h
    . rw [gM h] at hx;cases hx))⟩
   . rw [N] at hf;exact hf
   . show FramesOk ρ' κ' w' 1 st.calls cs;rw [N] at h5 ⊢;exact h5
 . have M:st.cur=f:=by unfold Stp.cur;rw [N];simp
   have V:st.calls.length=l.length+1:=by rw [N];simp
   rw [N,kD] at h5;obtain ⟨U,vv,vc,rfl,h8,h9⟩:=(FramesOk.snoc l 1 f cs).1 h5;have ac:=FramesOk.len _ _ _ h8;obtain ⟨al,am⟩:=h4;obtain ⟨o1,⟨o2,-⟩|⟨g,cap,cur,o2,o3,o4,o5,o6,o7,o8⟩⟩:=al
   . simp [V] at o2
   . obtain ⟨rfl,rfl⟩:ca=some ⟨g,0,none⟩/\cc=cap:=by simpa using o2
     have hg:=am g rfl;have an:sb≠g:=λe=>by rw [e,hg] at Z;cases Z
     have Y:cur.toList=U++[vv,vc,.int .i64 f.locals]++cur.toList.drop (st.calls.length*3):=by rw [<-o8,iT]
     have ah:TB w g (U++[vv,vc,.int .i64 f.locals]++cur.toList.drop (st.calls.length*3)) 229:=by
      unfold TB;rw [o4,<-Y]
     refine ⟨g,(st.calls.length-1)*3,U,cur.toList.drop (st.calls.length*3),229,vv,vc,⟨_,_,_,_,_,_,⟨Ts,h2⟩,gB ⟨Ab,rfl,rfl⟩⟩,gB hg,⟨by rw [M];exact ah,by rw [ac,V];rfl⟩,by rw [M,V,lL];exact h9,?_⟩;intro ρ' κ' w' f' aa ab X ad G ae x hw hf;have O:∀ {r:Rl},r≠.calls->r≠.vars st.calls.length->r≠.cels st.calls.length -> ∀k,Fc ρ st.calls.length g k->ρ k≠r:=λn1 n2 n3 k G e=>by
      rcases G with rfl|h|h
      . exact n1 (by rw [<-e,hg])
      . exact n2 (by rw [<-e,h])
      . exact n3 (by rw [<-e,h])
     have af:st.setCur f'={ st with calls:=l++[f'] }:=by
      unfold mX;rw [AC (by rw [N];simp),N];simp
     have ai:∀i,i<st.calls.length -> ∀k,Fc ρ st.calls.length g k->ρ k≠.vars i/\ρ k≠.cels i:=λi hi k G=>⟨O AQ (by simp;omega) AQ k G,O AQ AQ (by simp;omega) k G⟩
     have ao:g<w.heap.size:=ah.blk.lt;rw [af];refine ⟨by rw [X _ ag,Z],ad,⟨bv,bc,.slice (some ⟨g,0,none⟩) (l++[f']).length cc,tb,U++[aa,ab,.int .i64 f'.locals],?_,h3.move x (ai 0 Ab) X (G _ AQ),⟨?_,λk G=>?_⟩,(FramesOk.snoc l 1 f' _).2 ⟨U,aa,ab,rfl,FramesOk.move x X l 1 U h8 (λk G i Z h2=>ai i Ab k G) (λf hf=>G f (by rw [N];simp [hf])),?_⟩,h6.move x (λk G=>⟨O AQ AQ AQ k G,O AQ AQ AQ k G,O AQ AQ AQ k G⟩) X⟩,λc xs hx=>(h7 c xs hx).move x (λk G=>⟨O AQ AQ AQ k G,O AQ AQ AQ k G⟩) X (ae c (by
      rcases gQ c st.heap.length with h|h
      . exact h
      . rw [gM h] at hx;cases hx))⟩
     . have:(l++[f']).length=st.calls.length:=by rw [V];simp
       rw [this];exact mu ⟨Ts,h2⟩ x (λh=>by
        rcases h with h|h|h
        . exact an h
        . rw [Z] at h;cases h
        . rw [Z] at h;cases h)
     . have ap:(l++[f']).length=st.calls.length:=by rw [V];simp
       rw [ap];have aj:=hw.1;unfold TB at aj;refine ⟨by simp [ac,V];omega,gB ⟨g,cc,_,rfl,gI _,aj,o5,o6,?_,?_⟩⟩
       . have:=congrArg List.length Y;simp only [jD] at this;simp only [lS];rw [o7] at this;simp only [gR,gH,iM] at this ⊢;omega
       . simp only [List.toList_toArray];rw [List.take_append_of_le_length (by simp [ac,V];omega)];rw [kx (by simp [ac,V];omega)]
     . simp only [kw,gE] at G;rw [<-G,X _ ao,hg]
     . rw [V,lL] at hf;exact hf
end
def LeX {α β:Type} (f g:α->Except Int β):Prop:= ∀a,f a≠.error (-1)->g a=f a
def LeX.refl (f:α->Except Int β):LeX f f:=λ_ _=>rfl
def LeX.trans {f g h:α->Except Int β} (M:LeX f g) (N:LeX g h):LeX f h:=λa G=>by
 have e:=M a G;rw [N a (by rw [e];exact G),e]
def LeX.bind {α β γ:Type} {f f':α->Except Int β} {k N:β->Except Int γ} (h:LeX f f') (O:LeX k N):LeX (λa=>(f a).bind k) (λa=>(f' a).bind N):=λa M=>by
 cases e:f a with
 | error x=>
  have G:f a≠.error (-1):=λU=>by
   apply M;simp only [U,gZ]
  simp only [h a G,e,gZ]
 | ok v=>
  have G:f a≠.error (-1):=by rw [e];simp
  simp only [e,gZ] at M;simp only [h a G,e,gZ];exact O v M
def LeX.row {f g:Nd->Rn->Except Int Rn}:∀(l:List Nd),(∀t∈l,LeX (f t) (g t))->LeX (Ga f l) (Ga g l)
 | [],_=>LeX.refl _
 | t::l,h=>LeX.bind (f:=f t) (h t AQ) (LeX.row l (λx G=>h x (by simp [G])))
def LeX.loop {O U M G:Rn->Except Int Rn} {test entry:Nd} (V:LeX O M) (X:LeX U G):∀(m m':Nat),m<=m'->LeX (Cz O U test entry m) (Cz M G test entry m')
 | 0,_,_=>λa h=>absurd rfl h
 | m+1,0,h=>by omega
 | m+1,m'+1,h=>by
  refine LeX.bind (f:=O) V (LeX.bind (f:=BY test) (LeX.refl _) λp N=>?_);cases hq:p.1
  . simp only [hq,iS,if_false] at N ⊢;exact LeX.bind (f:=λp:Bool×Rn=>U p.2) (f':=λp:Bool×Rn=>G p.2) (λp N=>X p.2 N) (LeX.bind (f:=BI entry false) (LeX.refl _) (LeX.loop V X m m' Ab)) p N
  . simp only [if_true]
def LeX.block {f g:Bool->Nd->Rn->Except Int Rn} (h:∀b t,LeX (f b t) (g b t)) (b:Bool) (t:Nd):LeX (A0 f b t) (A0 g b t):=by
 unfold A0;exact LeX.row _ (λx _=>h b x)
def QF (ps:List PD):∀(d:Nat) (b:Bool) (t:Nd),LeX (AI ps d b t) (AI ps (d+1) b t)
 | 0,b,t=>λr h=>absurd (by simp [AI]) h
 | d+1,b,.mk k n s l=>by
  have IH:=QF ps d;have HB:∀b t,LeX (A0 (AI ps d) b t) (A0 (AI ps (d+1)) b t):=λb t=>LeX.block IH b t
  intro r
  conv=>lhs;unfold AI
  conv=>rhs;lhs;unfold AI
  conv=>rhs;rhs;unfold AI
  revert r;by_cases c1:k=52
  . simp only [AT c1];refine LeX.bind (f:=BY _) (LeX.refl _) λp=>?_
    exact LeX.bind (f:=λp:Bool×Rn=>A0 (AI ps d) b (if p.1=true then BZ l 1 else BZ l 2) p.2) (f':=λp:Bool×Rn=>A0 (AI ps (d+1)) b (if p.1=true then BZ l 1 else BZ l 2) p.2) (λp hp=>HB b _ p.2 hp) (LeX.refl (BI _ p.1)) p
  simp only [AC c1];by_cases c2:k=53
  . simp only [AT c2];exact LeX.bind (f:=BI _ true) (LeX.refl _) (LeX.loop (HB b _) (HB b _) d (d+1) Ab)
  simp only [AC c2];by_cases c3:k=54
  . simp only [AT c3];refine LeX.bind (f:=Bn) (LeX.refl _) λr=>?_
    refine LeX.bind (f:=λr=>B5 _ r) (f':=λr=>B5 _ r) (LeX.refl _) (λv=>?_) r;refine LeX.bind (f:=λv=>C4 (·.opens ⟨s,1,0⟩ v) r) (f':=λv=>C4 (·.opens ⟨s,1,0⟩ v) r) (LeX.refl _) ?_ v;exact LeX.bind (HB b _) (LeX.refl _)
  simp only [AC c3];by_cases c4:k=55
  . simp only [AT c4];exact LeX.bind (f:=Bn) (LeX.refl _) (LeX.bind (f:=C4 (·.opens ⟨s,3,0⟩ 0)) (LeX.refl _) (LeX.bind (HB b _) (LeX.refl _)))
  simp only [AC c4];by_cases c5:k=50\/k=51
  . simp only [AT c5];exact LeX.bind (f:=Bn) (LeX.refl _) (LeX.bind (f:=C4 _) (LeX.refl _) (LeX.bind (HB _ _) (LeX.refl _)))
  . simp only [AC c5];exact λ_ _=>trivial
def Ke (ps:List PD) (b:Bool) (t:Nd) {d:Nat} (h:d<=n):LeX (AI ps d b t) (AI ps n b t):=by
 induction h with
 | refl=>exact LeX.refl _
 | step _ M=>exact M.trans (QF ps _ b t)
def LeX.blockN {ps:List PD} {d:Nat} (h:d<=n) (b:Bool) (t:Nd):LeX (A0 (AI ps d) b t) (A0 (AI ps n) b t):=LeX.block (λb t=>Ke ps b t h) b t
def Dec (f:Rn->Except Int Rn):Prop:= ∀r r',f r = .ok r'->r'.rem<=r.rem
def A6 {x:Except Int α} {k:α->Except Int β} {v:β} (h:x.bind k = .ok v):∃a,x = .ok a/\k a = .ok v:=by
 cases x with
 | error e=>simp [gZ] at h
 | ok a=>exact ⟨a,rfl,h⟩
def CG {G:Rn} (h:Bn r = .ok G):0<r.rem/\G=⟨r.st,r.rem-1⟩:=by
 unfold Bn at h;split at h
 . cases h
 . cases h;exact ⟨Ab,rfl⟩
def EP {f:Stp->Int×Stp} {G:Rn} (h:C4 f r = .ok G):(f r.st).1=0/\G=⟨(f r.st).2,r.rem⟩:=by
 unfold C4 at h;split at h
 . cases h
 . cases h;exact ⟨Ab,rfl⟩
def Wy {t:Nd} {v:Int} (h:B5 t r = .ok v):A8 r.st.look t=(v,0):=by
 unfold B5 at h;split at h
 . cases h
 . cases h;rename_i h;exact Prod.ext rfl Ab
def Fx {t:Nd} {p:Bool×Rn} (h:BY t r = .ok p):0<r.rem/\p.2=⟨r.st,r.rem-1⟩ /\ ∃v,A8 r.st.look t=(v,0)/\p.1=decide (v≠0):=by
 obtain ⟨O,G,h⟩:=A6 h;obtain ⟨v,M,h⟩:=A6 h;cases h;obtain ⟨N,rfl⟩:=CG G;exact ⟨N,rfl,v,Wy M,rfl⟩
def D0 {t:Nd} {G:Rn} (h:BI t c r = .ok G):0<r.rem/\G=⟨r.st,r.rem-1⟩ /\ ∃v,A8 r.st.look t=(v,0)/\c=decide (v≠0):=by
 obtain ⟨p,M,h⟩:=A6 h;obtain ⟨N,O,v,U,V⟩:=Fx M;split at h
 . cases h
 . cases h;rename_i X;exact ⟨N,O,v,U,by rw [<-V];simpa using (Decidable.not_not.1 X).symm⟩
def Dec.row {f:Nd->Rn->Except Int Rn}:∀(l:List Nd),(∀t,Dec (f t))->Dec (Ga f l)
 | [],_,r,G,h=>by cases h;exact gP _
 | t::l,M,r,G,h=>by
  obtain ⟨a,N,O⟩:=A6 h;have:=M t r a N;have:=Dec.row l M a G O;omega
def Dec.block {f:Bool->Nd->Rn->Except Int Rn} (h:∀b t,Dec (f b t)) (b:Bool) (t:Nd):Dec (A0 f b t):=Dec.row _ (h b)
def Dec.loop {G M:Rn->Except Int Rn} {test entry:Nd} (N:Dec G) (O:Dec M):∀m,Dec (Cz G M test entry m)
 | 0,r,Y,h=>by cases h
 | m+1,r,Y,h=>by
  obtain ⟨a,Z,h⟩:=A6 h;obtain ⟨p,k2,h⟩:=A6 h;have e1:=N r a Z;obtain ⟨e2,U,-⟩:=Fx k2;split at h
  . cases h;rw [U];simp only;omega
  . obtain ⟨c,k3,h⟩:=A6 h;obtain ⟨e,k4,h⟩:=A6 h;have V:=O _ _ k3;obtain ⟨e5,e6,-⟩:=D0 k4;have X:=Dec.loop N O m _ _ h;rw [U] at V;rw [e6] at X;simp only at V X;omega
def Hl (ps:List PD):∀(d:Nat) (b:Bool) (t:Nd),Dec (AI ps d b t)
 | 0,b,t,r,r',h=>by simp [AI] at h
 | d+1,b,.mk k n s l,r,r',h=>by
  have N:∀b t,Dec (A0 (AI ps d) b t):=Dec.block (Hl ps d);unfold AI at h;by_cases c1:k=52
  . simp only [AT c1] at h;obtain ⟨p,G,h⟩:=A6 h;obtain ⟨c,X,h⟩:=A6 h;obtain ⟨Y,e2,-⟩:=Fx G;have M:=N _ _ _ _ X;obtain ⟨Z,e5,-⟩:=D0 h;rw [e2] at M;rw [e5];simp only at M ⊢;omega
  simp only [AC c1] at h;by_cases c2:k=53
  . simp only [AT c2] at h;obtain ⟨c,X,h⟩:=A6 h;obtain ⟨Z,e5,-⟩:=D0 X;have e6:=Dec.loop (N b _) (N b _) d _ _ h;rw [e5] at e6;simp only at e6;omega
  simp only [AC c2] at h;by_cases c3:k=54
  . simp only [AT c3] at h;obtain ⟨a1,G,h⟩:=A6 h;obtain ⟨a2,X,h⟩:=A6 h;obtain ⟨a3,O,h⟩:=A6 h;obtain ⟨a4,U,h⟩:=A6 h;obtain ⟨a5,V,h⟩:=A6 h;obtain ⟨a6,k6,h⟩:=A6 h;obtain ⟨Y,rfl⟩:=CG G;obtain ⟨-,rfl⟩:=EP O;have M:=N _ _ _ _ U;obtain ⟨Z,rfl⟩:=CG V;obtain ⟨-,rfl⟩:=EP h;simp only at M ⊢;omega
  simp only [AC c3] at h;by_cases c4:k=55
  . simp only [AT c4] at h;obtain ⟨a1,G,h⟩:=A6 h;obtain ⟨a3,O,h⟩:=A6 h;obtain ⟨a4,U,h⟩:=A6 h;obtain ⟨a5,V,h⟩:=A6 h;obtain ⟨Y,rfl⟩:=CG G;obtain ⟨-,rfl⟩:=EP O;have M:=N _ _ _ _ U;obtain ⟨Z,rfl⟩:=CG V;obtain ⟨-,rfl⟩:=EP h;simp only at M ⊢;omega
  simp only [AC c4] at h;by_cases c5:k=50\/k=51
  . simp only [AT c5] at h;obtain ⟨a1,G,h⟩:=A6 h;obtain ⟨a3,O,h⟩:=A6 h;obtain ⟨a4,U,h⟩:=A6 h;obtain ⟨a5,V,h⟩:=A6 h;obtain ⟨Y,rfl⟩:=CG G;obtain ⟨-,rfl⟩:=EP O;have M:=N _ _ _ _ U;obtain ⟨Z,rfl⟩:=CG V;obtain ⟨-,rfl⟩:=EP h;simp only at M ⊢;omega
  . simp only [AC c5] at h;obtain ⟨a1,G,h⟩:=A6 h;obtain ⟨Y,rfl⟩:=CG G;obtain ⟨-,rfl⟩:=EP h;simp only;omega
def Wz (k x y:Int):0<=(El k x y).2:=by
 have h:∀(c:Prop) [Decidable c] (a b:Int×Int),0<=a.2->0<=b.2->0<=(if c then a else b).2:=λc _ a b G M=>by split<;>assumption
 unfold El TN
 repeat' (first|apply h|exact Int.le_refl _|decide)
def WA (k x:Int):0<=(Em k x).2:=by
 unfold Em
 repeat' split
 all_goals simp
def ZX (at_:lB->Option (List Int)):∀(N:Nat) (t:Nd),t.size<N->0<=(A8 at_ t).2
 | 0,_,h=>by omega
 | N+1,.mk k n s l,h=>by
  have G:∀x∈l,0<=(A8 at_ x).2:=λx Y=>by
   have:=Gz Y;simp only [Nd.size] at h;exact ZX at_ N x Ab
  unfold A8;by_cases M:k=1
  . simp [M]
  rw [AC M];by_cases O:k=2
  . rw [AT O];split
    . simp
    . split<;>simp
  rw [AC O];by_cases U:k=3
  . rw [AT U];split
    . simp
    . split
      . have:=G _ (iB.2 rfl);split
        . exact this
        . split<;>simp
      . simp
  rw [AC U];by_cases V:k=4
  . rw [AT V];split
    . simp
    . split<;>simp
  rw [AC V];by_cases X:k=5
  . rw [AT X];split<;>simp
  rw [AC X];split
  . have:=G _ (iB.2 rfl);split
    . exact this
    . exact WA _ _
  . rename_i x y;have Z:=G x AQ;have h2:=G y AQ;split
    . exact Z
    . split
      . exact h2
      . exact Wz _ _ _
  . simp
def R4 (at_:lB->Option (List Int)) (t:Nd):0<=(A8 at_ t).2:=ZX at_ _ t (Nat.lt_succ_self _)
def QG (at_:lB->Option (List Int)) (t:Nd):0<=(Bp at_ t).2:=by
 unfold Bp;split
 . simp
 . split
   . exact R4 _ _
   . simp
def aO (v:List VD) (s:lB) (k:Int):0<=FA v s k:=by
 unfold FA;split
 . simp
 . split<;>simp
mutual
def WB (v:List VD):∀t:Nd,0<=t.bad v
 | .mk k n s l=>by
  unfold Nd.bad;split
  . exact aO _ _ _
  . exact NH v l
def NH (v:List VD):∀l:List Nd,0<=EV v l
 | []=>by simp [EV]
 | t::r=>by
  unfold EV;split
  . exact WB v t
  . exact NH v r
end
def Y4 (st:Stp) (k:Int) (s:lB) (l:List Nd):0<=(st.exec k s l).1:=by
 unfold Stp.exec;simp only;have h:=QG st.look (l.getD 0 (.mk 0 0 [] []));have G:0<=(if k=43 then Bp st.look (l.getD 1 (.mk 0 0 [] [])) else if 40<=k/\k<=42 then A8 st.look (l.getD 1 (.mk 0 0 [] [])) else (0,0)).2:=by
  split
  . exact QG _ _
  . split
    . exact R4 _ _
    . simp
 generalize (if k=43 then Bp st.look (l.getD 1 (.mk 0 0 [] [])) else if 40<=k/\k<=42 then A8 st.look (l.getD 1 (.mk 0 0 [] [])) else (0,0))=r at *;generalize Bp st.look (l.getD 0 (.mk 0 0 [] []))=a at *;split
 . exact h
 split
 . exact G
 unfold Stp.move Stp.transfer
 repeat' split
 all_goals simp
def Y5 (st:Stp) (k n:Int) (s:lB) (l:List Nd):0<=(st.run1 k n s l).1:=by
 unfold Stp.run1;split
 . simp
 split
 . exact WB _ _
 . exact Y4 _ _ _ _
def QH (st:Stp) (v:VD) (x:Int):0<=(st.opens v x).1:=by unfold Stp.opens;split<;>simp
def NI (st:Stp) (s:lB) (x:Int):0<=(st.closes s x).1:=by
 unfold Stp.closes;simp only
 repeat' split
 all_goals simp
def QI (f:Frm):∀(ps:List VD) (h:List lB),0<=(DJ f ps h).1
 | [],_=>by simp [DJ]
 | _::_,[]=>by simp [DJ]
 | v::r,s::q=>by
  unfold DJ;split
  . simp
  . split
    . simp
    . exact QI f r q
def UL (st:Stp) (ps:List VD) (h:List lB):0<=(st.enters ps h).1:=by
 unfold Stp.enters;split
 . simp
 split
 . exact QI _ _ _
 . split<;>simp
def UM (st:Stp):0<=(st.leaves).1:=by unfold Stp.leaves;split<;>simp
def Fine {α β:Type} (f:α->Except Int β):Prop:= ∀a,f a≠.error (-1)
def D1:Fine Bn:=λr=>by unfold Bn;split<;>simp
def GP {f:Stp->Int×Stp} (h:∀st,0<=(f st).1):Fine (C4 f):=λr=>by
 unfold C4;have:=h r.st;split
 . simp only [ne_eq,Except.error.injEq];omega
 . simp
def IV (t:Nd):Fine (B5 t):=λr=>by
 unfold B5;have:=R4 r.st.look t;split
 . simp only [ne_eq,Except.error.injEq];omega
 . simp
def Fine.bind {α β γ:Type} {f:α->Except Int β} {k:β->Except Int γ} (h:Fine f) (G:Fine k):Fine (λa=>(f a).bind k):=λa=>by
 cases e:f a with
 | error x=>have:=h a;rw [e] at this;simpa [gZ,e] using this
 | ok v=>simpa [gZ,e] using G v
def IW (t:Nd):Fine (BY t):=λr=>by
 unfold BY;exact Fine.bind D1 (λr=>Fine.bind (IV t) (λv=>by simp) r) r
def Hm (t:Nd) (q:Bool):Fine (BI t q):=Fine.bind (IW t) (λp=>by split<;>simp)
def DG {x:Except Int α} {k:α->Except Int β} (h:x≠.error (-1)) (G:∀v,x = .ok v->k v≠.error (-1)):x.bind k≠.error (-1):=by
 cases x with
 | error e=>simpa [gZ] using h
 | ok v=>simpa [gZ] using G v rfl
def NJ {F:Nat->Nd->Rn->Except Int Rn} (M:∀d V t,d<=V->LeX (F d t) (F V t)) (G:∀d t,Dec (F d t)) (m:Nat):∀(l:List Nd),(∀t∈l,∀r,r.rem<=m -> ∃d,F d t r≠.error (-1)) -> ∀r:Rn,r.rem<=m -> ∃d,Ga (F d) l r≠.error (-1)
 | [],_,r,_=>⟨0,by simp [Ga]⟩
 | t::l,h,r,Z=>by
  obtain ⟨N,U⟩:=h t AQ r Z;cases e:F N t r with
  | error x=>
   refine ⟨N,?_⟩;simp only [Ga,e,gZ];rw [e] at U;simpa using U
  | ok X=>
   obtain ⟨O,Y⟩:=NJ M G m l (λx hx=>h x (by simp [hx])) X (by have:=G _ _ _ _ e;omega);refine ⟨max N O,?_⟩;simp only [Ga];rw [M N (max N O) t Ab r U,e];simp only [gZ];rw [LeX.row l (λx _=>M O (max N O) x Ab) X Y];exact Y
def KV {F:Nat->Bool->Nd->Rn->Except Int Rn} (N:∀d M b t,d<=M->LeX (F d b t) (F M b t)) (G:∀d b t,Dec (F d b t)) (m:Nat) (b:Bool) (t:Nd) (h:∀x∈t.kids,∀r,r.rem<=m -> ∃d,F d b x r≠.error (-1)) (r:Rn) (U:r.rem<=m):∃d,A0 (F d) b t r≠.error (-1):=by
 unfold A0;exact NJ (F:=λd=>F d b) (λd M t h=>N d M b t h) (λd t=>G d b t) m _ (λx O=>h x (by split at O<;>simpa using O)) r U
def Mh {B1 B2:Nat->Rn->Except Int Rn} {test entry:Nd} (U:∀d X,d<=X->LeX (B1 d) (B1 X)) (V:∀d X,d<=X->LeX (B2 d) (B2 X)) (Y:∀d,Dec (B1 d)) (Z:∀d,Dec (B2 d)) (m:Nat)
 (h1:∀r,r.rem<=m -> ∃d,B1 d r≠.error (-1)) (h2:∀r,r.rem<=m -> ∃d,B2 d r≠.error (-1)):∀(q:Nat) (r:Rn),r.rem<=q->r.rem<=m -> ∃d,Cz (B1 d) (B2 d) test entry d r≠.error (-1)
 | q,r,hq,hr=>by
  obtain ⟨G,k1⟩:=h1 r hr;have key:∀d,G<=d->B1 d r=B1 G r:=λd h=>U G d h r k1
  cases e1:B1 G r with
  | error x=>
   refine ⟨G+1,?_⟩;rw [e1] at k1;simp only [Cz,key (G+1) Ab,e1,gZ];simpa using k1
  | ok a=>
   have s1:=Y _ _ _ e1;cases e2:BY test a with
   | error x=>
    refine ⟨G+1,?_⟩;have:=IW test a;rw [e2] at this;simp only [Cz,key (G+1) Ab,e1,e2,gZ];simpa using this
   | ok p=>
    obtain ⟨s2,s3,-⟩:=Fx e2;have s4:p.2.rem<r.rem:=by rw [s3];simp only;omega
    cases hp:p.1 with
    | true=>
     refine ⟨G+1,?_⟩;simp only [Cz,key (G+1) Ab,e1,e2,gZ,hp,if_true];simp
    | false=>
     obtain ⟨M,k2⟩:=h2 p.2 Ab;have N:∀d,M<=d->B2 d p.2=B2 M p.2:=λd h=>V M d h _ k2
     cases e3:B2 M p.2 with
     | error x=>
      refine ⟨max G M+1,?_⟩;rw [e3] at k2;simp only [Cz,key (max G M+1) Ab,e1,e2,gZ,hp,N (max G M+1) Ab,e3];simpa using k2
     | ok c=>
      have s5:=Z _ _ _ e3;cases e4:BI entry false c with
      | error x=>
       refine ⟨max G M+1,?_⟩;have:=Hm entry false c;rw [e4] at this;simp only [Cz,key (max G M+1) Ab,e1,e2,gZ,hp,N (max G M+1) Ab,e3,e4];simpa using this
      | ok g=>
       obtain ⟨s6,s7,-⟩:=D0 e4;have s8:g.rem<r.rem:=by rw [s7];simp only;omega
       match q,hq with
       | 0,hq=>omega
       | q+1,hq=>
        obtain ⟨O,k3⟩:=Mh U V Y Z m h1 h2 q g Ab Ab;refine ⟨max (max G M) O+1,?_⟩;simp only [Cz,key (max (max G M) O+1) Ab,e1,e2,gZ,hp,N (max (max G M) O+1) Ab,e3,e4];have:=LeX.loop (test:=test) (entry:=entry) (U O (max (max G M) O+1) Ab) (V O (max (max G M) O+1) Ab) O (max (max G M) O) Ab g k3;simp only [iS,if_false];rw [this];exact k3
def DH {x:Except Int α} {K:Nat->α->Except Int Rn} (h:x≠.error (-1)) (G:∀v,x = .ok v -> ∃d,K d v≠.error (-1)):∃d,x.bind (K d)≠.error (-1):=by
 cases x with
 | error e=>exact ⟨0,by simpa [gZ] using h⟩
 | ok v=>exact G v rfl
def R5 (ps:List PD):∀(m:Nat) (b:Bool) (t:Nd) (r:Rn),r.rem<=m -> ∃d,AI ps d b t r≠.error (-1):=by
 intro m
 induction m with
 | zero=>
  intro b t r h;refine ⟨1,?_⟩;obtain ⟨k,n,s,l⟩:=t;have e:Bn r = .error 18:=by unfold Bn;rw [AT Ab]
  unfold AI;simp only [BY,BI,e,gZ]
  repeat' split
  all_goals simp
 | succ m IH=>
  intro b t r h;obtain ⟨k,n,s,l⟩:=t;have X:∀(b:Bool) (t:Nd) (r:Rn),r.rem<=m -> ∃d,A0 (AI ps d) b t r≠.error (-1):=λb t r O=>
   KV (F:=λd=>AI ps d) (λd d' b t h=>Ke ps b t h) (λd b t=>Hl ps d b t) m b t (λx _ r O=>IH b x r O) r O
  have U:∀G,Bn r = .ok G->G.rem<=m:=λG V=>by
   obtain ⟨-,rfl⟩:=CG V;simp only;omega
  by_cases Y:k=52
  . obtain ⟨d,M⟩:=DH (K:=λd (p:Bool×Rn)=>(A0 (AI ps d) b (if p.1 then BZ l 1 else BZ l 2) p.2).bind (BI (if b then BZ l 0 else BZ l (l.length-1)) p.1)) (IW (if b then BZ l (l.length-1) else BZ l 0) r) (λp hp=>by
     obtain ⟨-,N,-⟩:=Fx hp;obtain ⟨d,M⟩:=X b (if p.1 then BZ l 1 else BZ l 2) p.2 (by rw [N];simp only;omega);exact ⟨d,DG M (λv _=>Hm _ _ v)⟩)
    exact ⟨d+1,by simp only [AI,AT Y];exact M⟩
  by_cases Z:k=53
  . obtain ⟨d,M⟩:=DH (K:=λd (p:Rn)=>Cz (A0 (AI ps d) b (BZ l 1)) (A0 (AI ps d) b (BZ l 2)) (if b then BZ l 0 else BZ l (l.length-1)) (if b then BZ l (l.length-1) else BZ l 0) d p) (Hm (if b then BZ l (l.length-1) else BZ l 0) true r) (λp hp=>by
     obtain ⟨-,N,-⟩:=D0 hp;exact Mh (B1:=λd=>A0 (AI ps d) b (BZ l 1)) (B2:=λd=>A0 (AI ps d) b (BZ l 2)) (λd d' h=>LeX.blockN h b _) (λd d' h=>LeX.blockN h b _) (λd=>Dec.block (Hl ps d) b _) (λd=>Dec.block (Hl ps d) b _) m (λr O=>X b _ r O) (λr O=>X b _ r O) p.rem p (gP _) (by rw [N];simp only;omega))
    exact ⟨d+1,by simp only [AI,AC Y,AT Z];exact M⟩
  by_cases c3:k=54
  . obtain ⟨d,M⟩:=DH (K:=λd (r:Rn)=>(B5 (if b then BZ l (l.length-1) else BZ l 0) r).bind λv=>(C4 (·.opens ⟨s,1,0⟩ v) r).bind λr=>(A0 (AI ps d) b (BZ l 1) r).bind λr=>
     (Bn r).bind λr=>(B5 (if b then BZ l 0 else BZ l (l.length-1)) r).bind λv=>C4 (·.closes s v) r) (D1 r) (λG V=>by
     have hm:=U G V;refine DH (K:=λd v=>(C4 (·.opens ⟨s,1,0⟩ v) G).bind λr=>(A0 (AI ps d) b (BZ l 1) r).bind λr=>
      (Bn r).bind λr=>(B5 (if b then BZ l 0 else BZ l (l.length-1)) r).bind λv=>C4 (·.closes s v) r) (IV _ G) (λv _=>?_)
     refine DH (K:=λd r=>(A0 (AI ps d) b (BZ l 1) r).bind λr=>(Bn r).bind λr=>(B5 (if b then BZ l 0 else BZ l (l.length-1)) r).bind λv=>C4 (·.closes s v) r) (GP (λst=>QH st _ _) G) (λr2 N=>?_);obtain ⟨-,rfl⟩:=EP N;obtain ⟨d,M⟩:=X b (BZ l 1) ⟨(G.st.opens ⟨s,1,0⟩ v).2,G.rem⟩ hm;exact ⟨d,DG M (λv _=>DG (D1 v) (λu _=>DG (IV _ u) (λx _=>GP (λst=>NI st _ _) u)))⟩)
    exact ⟨d+1,by simp only [AI,AC Y,AC Z,AT c3];exact M⟩
  by_cases c4:k=55
  . obtain ⟨d,M⟩:=DH (K:=λd (r:Rn)=>(C4 (·.opens ⟨s,3,0⟩ 0) r).bind λr=>(A0 (AI ps d) b (BZ l 0) r).bind λr=>(Bn r).bind (C4 (·.closes s 0))) (D1 r) (λG V=>by
     have hm:=U G V;refine DH (K:=λd r=>(A0 (AI ps d) b (BZ l 0) r).bind λr=>(Bn r).bind (C4 (·.closes s 0))) (GP (λst=>QH st _ _) G) (λr2 N=>?_);obtain ⟨-,rfl⟩:=EP N;obtain ⟨d,M⟩:=X b (BZ l 0) ⟨(G.st.opens ⟨s,3,0⟩ 0).2,G.rem⟩ hm;exact ⟨d,DG M (λv _=>DG (D1 v) (λu _=>GP (λst=>NI st _ _) u))⟩)
    exact ⟨d+1,by simp only [AI,AC Y,AC Z,AC c3,AT c4];exact M⟩
  by_cases c5:k=50\/k=51
  . obtain ⟨d,M⟩:=DH (K:=λd (r:Rn)=>(C4 (·.enters (ps.getD ((CD ps s).getD 0) ⟨[],[],.mk 0 0 [] []⟩).params (l.map Nd.name)) r).bind λr=>(A0 (AI ps d) (b != decide (k=51)) (ps.getD ((CD ps s).getD 0) ⟨[],[],.mk 0 0 [] []⟩).body r).bind λr=>(Bn r).bind (C4 (·.leaves))) (D1 r) (λG V=>by
     have hm:=U G V;refine DH (K:=λd r=>(A0 (AI ps d) (b != decide (k=51)) (ps.getD ((CD ps s).getD 0) ⟨[],[],.mk 0 0 [] []⟩).body r).bind λr=>(Bn r).bind (C4 (·.leaves))) (GP (λst=>UL st _ _) G) (λr2 N=>?_);obtain ⟨-,rfl⟩:=EP N;obtain ⟨d,M⟩:=X (b != decide (k=51)) (ps.getD ((CD ps s).getD 0) ⟨[],[],.mk 0 0 [] []⟩).body ⟨(G.st.enters (ps.getD ((CD ps s).getD 0) ⟨[],[],.mk 0 0 [] []⟩).params (l.map Nd.name)).2,G.rem⟩ hm;exact ⟨d,DG M (λv _=>DG (D1 v) (λu _=>GP UM u))⟩)
    exact ⟨d+1,by simp only [AI,AC Y,AC Z,AC c3,AC c4,AT c5];exact M⟩
  . refine ⟨1,?_⟩;simp only [AI,AC Y,AC Z,AC c3,AC c4,AC c5];exact DG (D1 r) (λu _=>GP (λst=>Y5 st _ _ _ _) u)
def cellOk (x:Int×Int) (xs:List Int):Prop:=(x.1=1/\xs.length=1)\/(x.1=2/\(xs.length:Int)=x.2/\xs.length<=1000000)\/(x.1=3/\xs.length<=1000)
def cellOk.le {x:Int×Int} (h:cellOk x xs):xs.length<=1000000:=by
 rcases h with ⟨-,h⟩|⟨-,h⟩|⟨-,h⟩<;>omega
structure FrmWF (K:List (Int×Int)) (f:Frm):Prop where
 len:f.vars.length=f.cells.length
 loc:f.locals<=f.vars.length
 kind:∀(i:Nat) (v:VD) (c:Nat),f.vars[i]? = some v->f.cells[i]? = some c->K[c]? = some (v.kind,v.len)
structure Stp.WF (K:List (Int×Int)) (m:Nat) (st:Stp):Prop where
 len:st.heap.length=K.length
 base:FrmWF K st.base
 calls:∀f∈st.calls,FrmWF K f
 cell:∀(c:Nat) (x:Int×Int),K[c]? = some x->cellOk x (st.items c)
 nc:st.calls.length<=100
 vb:∀f∈st.base::st.calls,f.vars.length<=m
def F0 {l:List α} {x:α} (h:x∈l.dropLast):x∈l:=(List.dropLast_sublist l).subset h
def OP (st:Stp):st.cur∈st.base::st.calls:=by
 unfold Stp.cur;rcases jU st.calls with h|⟨l,f,h⟩<;>rw [h]<;>simp
def FrmWF.lt {K:List (Int×Int)} (h:FrmWF K f) {c:Nat} (N:c∈f.cells):c<K.length:=by
 obtain ⟨i,M,rfl⟩:=List.getElem_of_mem N;have:=h.kind i _ _ (fY (by rw [h.len];exact M)) (fY M);rcases gQ f.cells[i] K.length with G|G
 . exact G
 . rw [gM G] at this;cases this
section
variable {K:List (Int×Int)} {m:Nat}
def Stp.WF.all' (h:st.WF K m):∀f∈st.base::st.calls,FrmWF K f:=λf G=>by
 rcases gT.1 G with rfl|G
 . exact h.base
 . exact h.calls f G
def Stp.WF.cur (h:st.WF K m):FrmWF K st.cur:=h.all' _ (OP st)
def Stp.WF.curm (h:st.WF K m):st.cur.vars.length<=m:=h.vb _ (OP st)
def Gm {s:lB}:∀ {l:List VD} {i:Nat},Cu s l=some i->i<l.length
 | [],i,h=>by cases h
 | v::r,i,h=>by
  unfold Cu at h;split at h
  . rename_i j G;cases h;have:=Gm G;simp only [gH];omega
  . split at h
    . cases h;simp
    . cases h
def Mi (s:lB):∀l:List VD,D6 l s=(Cu s l).bind (l[·]?)
 | []=>rfl
 | v::r=>by
  have G:=Mi s r;unfold D6 at G ⊢;unfold Cu;rw [kY,mi,G];cases h:Cu s r with
  | none=>by_cases M:v.name=s<;>simp [M]
  | some i=>simp [fY (Gm h)]
def Fy {s:lB}:∀ {l:List VD} {i:Nat},Cu s l=some i -> ∃v,l[i]? = some v/\v.name=s
 | [],i,h=>by cases h
 | v::r,i,h=>by
  unfold Cu at h;split at h
  . rename_i j G;cases h;obtain ⟨x,M,N⟩:=Fy G;exact ⟨x,by simpa using M,N⟩
  . split at h
    . rename_i O;cases h;exact ⟨v,rfl,O⟩
    . cases h
def aP {v:List VD} (h:FA v s k=0):∃i x,Cu s v=some i/\v[i]? = some x/\x.kind=k:=by
 unfold FA at h;rw [Mi] at h;cases e:Cu s v with
 | none=>rw [e] at h;simp at h
 | some i=>
  rw [e] at h;obtain ⟨x,G,-⟩:=Fy e;simp only [lU,G] at h;refine ⟨i,x,rfl,G,?_⟩;split at h
  . assumption
  . cases h
def Stp.WF.use (h:st.WF K m) (Y:FA st.cur.vars s k=0):∃i c x,Cu s st.cur.vars=some i/\st.cur.cells[i]? = some c/\st.cellD s=c/\st.look s=some (st.items c)/\c<st.heap.length/\K[c]? = some x/\x.1=k/\cellOk x (st.items c):=by
 obtain ⟨i,x,M,O,Z⟩:=aP Y;have hi:=Gm M;have N:=h.cur;have G:i<st.cur.cells.length:=by rw [<-N.len];exact hi
 have U:=fY G;have V:=N.kind i x _ O U;have X:st.cur.cell s=some st.cur.cells[i]:=by unfold Frm.cell;rw [M];simp [O]
 refine ⟨i,st.cur.cells[i],(x.kind,x.len),M,U,?_,?_,?_,V,Z,h.cell _ _ V⟩
 . unfold Stp.cellD;rw [X];rfl
 . unfold Stp.look;rw [X];rfl
 . rw [h.len];exact N.lt (gK G)
def Stp.WF.look_le (h:st.WF K m) (G:st.look s=some xs):xs.length<=1000000:=by
 unfold Stp.look at G;cases e:st.cur.cell s with
 | none=>rw [e] at G;cases G
 | some c=>
  rw [e] at G;cases G;unfold Frm.cell at e;cases e1:Cu s st.cur.vars with
  | none=>rw [e1] at e;cases e
  | some i=>
   rw [e1] at e;simp only [lU] at e;obtain ⟨x,M,-⟩:=Fy e1;exact (h.cell _ _ (h.cur.kind i x c M e)).le
def Stp.WF.same {st':Stp} (h:st.WF K m) (N:st'.heap.length=st.heap.length) (M:st'.base=st.base) (G:st'.calls=st.calls) (O:∀c x,K[c]? = some x->cellOk x (st'.items c)):st'.WF K m:=
 ⟨N.trans h.len,M▸h.base,G▸h.calls,O,G▸h.nc,by rw [M,G];exact h.vb⟩
def cellOk.len {x:Int×Int} {ys:List Int} (h:cellOk x xs) (e:ys.length=xs.length):cellOk x ys:=by unfold cellOk at h ⊢;rw [e];exact h
def Gn (st:Stp) (c:Nat) (xs:List Int) (h:Nat):(st.all c xs).items h=if h=c/\c<st.heap.length then xs else st.items h:=by
 unfold Stp.all ng;simp only [gY];by_cases G:h=c
 . subst G;by_cases M:h<st.heap.length
   . simp [M]
   . simp [M]
 . simp [G,iW (l3 G)]
def Y6 (st:Stp) (c i:Nat) (v:Int) (G:Nat):((st.put c i v).items G).length=(st.items G).length:=by
 unfold Stp.put;rw [Gn];split
 . rename_i h;rw [h.1];simp
 . rfl
def Stp.WF.put (h:st.WF K m) (c i:Nat) (v:Int):(st.put c i v).WF K m:=
 h.same (by simp [Stp.put,Stp.all]) rfl rfl (λG x M=>(h.cell G x M).len (Y6 st c i v G))
def Stp.WF.tapes (h:st.WF K m) (a b:List Int):({ st with tin:=a,tout:=b }:Stp).WF K m:=h.same rfl rfl rfl h.cell
def Stp.WF.all (h:st.WF K m) {c:Nat} {x:Int×Int} {xs:List Int} (M:K[c]? = some x) (N:cellOk x xs):(st.all c xs).WF K m:=
 h.same (by simp [Stp.all]) rfl rfl (λO U G=>by
  rw [Gn];split
  . rename_i e;rw [e.1,M] at G;cases G;exact N
  . exact h.cell O U G)
def Stp.WF.transfer (h:st.WF K m) (k:Int) (c i:Nat):(st.transfer k c i).2.WF K m:=by
 have G:=λv=>h.put c i v
 unfold Stp.transfer
 repeat' split
 all_goals first|exact h|exact (G _).tapes _ _
def Stp.WF.move (h:st.WF K m) {d:Nat} {x:Int×Int} (G:K[d]? = some x) (M:x.1=3) (k:Int) (c i:Nat):(st.move k c i d).2.WF K m:=by
 have O:=h.cell d x G;have U:(st.items d).length<=1000:=by rcases O with ⟨N,-⟩|⟨N,-⟩|⟨-,N⟩<;>omega
 unfold Stp.move;split
 . split
   . exact h
   . exact (h.all G (gB (gB ⟨M,by simp;omega⟩))).put _ _ _
 . split
   . exact h
   . split
     . exact h
     . exact (h.put _ _ _).all G (gB (gB ⟨M,by simp;omega⟩))
def Stp.WF.exec (h:st.WF K m) {k:Int} {s:lB} (l:List Nd) (G:(k=44\/k=45)->FA st.cur.vars s 3=0):(st.exec k s l).2.WF K m:=by
 unfold Stp.exec;simp only;generalize (if k=43 then Bp st.look (l.getD 1 (.mk 0 0 [] [])) else if 40<=k/\k<=42 then A8 st.look (l.getD 1 (.mk 0 0 [] [])) else (0,0))=r;split
 . exact h
 split
 . exact h
 split
 . exact h
 split
 . exact h.put _ _ _
 split
 . split
   . exact h
   . exact (h.put _ _ _).put _ _ _
 split
 . rename_i M;obtain ⟨i,c,x,-,-,N,-,-,O,U,-⟩:=h.use (G M);rw [N];exact h.move O U _ _ _
 . exact h.transfer _ _ _
def OQ {v:List VD} {n:Int} {l:List Nd} (h:(Nd.mk k n s l).bad v=0):(CT k≠0->FA v s (CT k)=0)/\EV v l=0:=by
 unfold Nd.bad at h;by_cases G:CT k≠0/\FA v s (CT k)≠0
 . rw [AT G] at h;exact absurd h G.2
 . rw [AC G] at h;exact ⟨λN=>by
    by_cases M:FA v s (CT k)=0
    . exact M
    . exact absurd ⟨N,M⟩ G,h⟩
def D2 {v:List VD} {t:Nd} {l:List Nd} (h:EV v (t::l)=0):t.bad v=0/\EV v l=0:=by
 unfold EV at h;by_cases G:t.bad v≠0
 . rw [AT G] at h;exact absurd h G
 . rw [AC G] at h;exact ⟨Ab,h⟩
def Stp.WF.run1 (h:st.WF K m) (k n:Int) (s:lB) (l:List Nd):(st.run1 k n s l).2.WF K m:=by
 unfold Stp.run1;split
 . exact h
 split
 . exact h
 . rename_i G;have:=(OQ (n:=n) (Decidable.not_not.1 G)).1;refine h.exec l (λM=>?_);have e:CT k=3:=by unfold CT;rcases M with rfl|rfl<;>decide
   rw [e] at this;exact this C2
def R6 {st:Stp} {g:Frm} (h:g∈(st.setCur f).base::(st.setCur f).calls):g=f\/g∈st.base::st.calls:=by
 unfold mX at h;split at h
 . rcases gT.1 h with h|h
   . exact gA h
   . exact gB (jB _ h)
 . rcases gT.1 h with h|h
   . exact gB (by simp only at h;rw [h];simp)
   . rcases jA.1 h with h|h
     . exact gB (jB _ (F0 h))
     . exact gA (by simpa using h)
def Stp.WF.setCur (h:st.WF K m) {f:Frm} (U:FrmWF K f) {m':Nat} (V:f.vars.length<=m') (M:m<=m'):(st.setCur f).WF K m':=by
 have key:∀g∈(st.setCur f).base::(st.setCur f).calls,FrmWF K g/\g.vars.length<=m':=λg G=>by
  rcases R6 G with rfl|G
  . exact ⟨U,V⟩
  . exact ⟨h.all' g G,jR (h.vb g G) M⟩
 have N:(st.setCur f).calls.length=st.calls.length:=by
  unfold mX;split
  . rfl
  . rename_i X;have:=List.length_pos_iff.2 X;simp only [gR,lI,gH,iM];omega
 have O:(st.setCur f).heap=st.heap:=by unfold mX;split<;>rfl
 refine ⟨by rw [O];exact h.len,(key _ AQ).1,λg G=>(key g (by simp [G])).1,λc x Y=>?_,by rw [N];exact h.nc,λg G=>(key g G).2⟩;have:(st.setCur f).items c=st.items c:=by unfold ng;rw [O]
 rw [this];exact h.cell c x Y
def FrmWF.more (h:FrmWF K f) (x:Int×Int):FrmWF (K++[x]) f:=⟨h.len,h.loc,λi v c M G=>by
 have:=h.kind i v c M G;have N:c<K.length:=h.lt (iI G);rw [gN N];exact this⟩
def Stp.WF.more (h:st.WF K m) {x:Int×Int} {xs:List Int} (N:cellOk x xs):({ st with heap:=st.heap++[xs] }:Stp).WF (K++[x]) m:=by
 refine ⟨by simp [h.len],h.base.more x,λf O=>(h.calls f O).more x,λc y G=>?_,h.nc,h.vb⟩;unfold ng;simp only [gY];rcases lC c K.length with M|M|M
 . rw [gN M] at G;rw [gN (by rw [h.len];exact M)];have:=h.cell c y G;unfold ng at this;simpa only [gY] using this
 . subst M;rw [gU (gP _)] at G;rw [gU (by rw [h.len];exact gP _)];simp only [kp,gX,gE] at G;subst G;rw [h.len];simpa using N
 . rw [gM (by simp;omega)] at G;cases G
def Stp.WF.opens (h:st.WF K m) {v:VD} (N:v.kind=1\/v.kind=3) (x:Int):∃X,(st.opens v x).2.WF X (m+1):=by
 unfold Stp.opens;split
 . exact ⟨K,h.len,h.base,h.calls,h.cell,h.nc,λf V=>Nat.le_succ_of_le (h.vb f V)⟩
 . have M:=h.cur;have Y:cellOk (v.kind,v.len) (if v.kind=1 then [x] else []):=by
    rcases N with N|N
    . rw [AT N];exact gA ⟨N,rfl⟩
    . rw [AC Ab];exact gB (gB ⟨N,AQ⟩)
   have Z:=h.more Y;have V:FrmWF (K++[(v.kind,v.len)]) ⟨st.cur.vars++[v],st.cur.cells++[st.heap.length],st.cur.locals+1⟩:=by
    refine ⟨by simp [M.len],by have:=M.loc;simp;omega,λi u c G O=>?_⟩;simp only at G O;rcases lC i st.cur.vars.length with U|U|U
    . rw [gN U] at G;rw [gN (by rw [<-M.len];exact U)] at O;exact (M.more _).kind i u c G O
    . subst U;rw [gU (gP _)] at G;rw [gU (by rw [M.len];exact gP _),M.len] at O;simp only [kp,gX,gE] at G O;subst G O;rw [h.len,gU (gP _)];simp
    . rw [gM (by simp;omega)] at G;cases G
   have G:=Z.setCur V (m':=m+1) (by have:=h.curm;simp;omega) Ab;refine ⟨K++[(v.kind,v.len)],?_⟩;have e:({ st.setCur ⟨st.cur.vars++[v],st.cur.cells++[st.heap.length],st.cur.locals+1⟩ with heap:=st.heap++[if v.kind=1 then [x] else []] }:Stp)=({ st with heap:=st.heap++[if v.kind=1 then [x] else []] }:Stp).setCur ⟨st.cur.vars++[v],st.cur.cells++[st.heap.length],st.cur.locals+1⟩:=by
    generalize (if v.kind=1 then [x] else [])=q;unfold mX;by_cases M:st.calls=[]<;>simp [M]
   rw [e];exact G
def Stp.WF.closes (h:st.WF K m) (s:lB) (x:Int):(st.closes s x).2.WF K m:=by
 unfold Stp.closes;simp only;split
 . exact h
 split
 . exact h
 . rename_i O U;have N:=h.cur;refine h.setCur ⟨by simp [N.len],by have:=N.loc;simp;omega,λi v c G M=>?_⟩ (by have:=h.curm;simp;omega) (gP _);simp only [List.getElem?_dropLast] at G M;split at G
   . split at M
     . exact N.kind i v c G M
     . cases M
   . cases G
def QJ {f:Frm}:∀(ps:List VD) (G:List lB),ps.length=G.length->(DJ f ps G).1=0->(DJ f ps G).2.length=ps.length /\ ∀(i:Nat) (v:VD) (c:Nat),ps[i]? = some v->(DJ f ps G).2[i]? = some c -> ∃(j:Nat) (u:VD),f.vars[j]? = some u/\f.cells.getD j 0=c/\u.kind=v.kind/\u.len=v.len
 | [],_,_,_=>⟨by simp [DJ],λi v c h=>by simp at h⟩
 | _::_,[],h,_=>by cases h
 | v::r,s::q,V,h=>by
  unfold DJ at h ⊢;cases e:Cu s f.vars with
  | none=>rw [e] at h;cases h
  | some j=>
   rw [e] at h;simp only at h ⊢;by_cases M:(f.vars.getD j ⟨[],0,0⟩).kind≠v.kind\/(f.vars.getD j ⟨[],0,0⟩).len≠v.len
   . rw [AT M] at h;cases h
   . rw [AC M] at h ⊢;obtain ⟨X,Y⟩:=QJ r q (by simpa using V) h;obtain ⟨u,U,-⟩:=Fy e;refine ⟨by simp [X],λi w c N O=>?_⟩;cases i with
     | zero=>
      simp only [gX,gE] at N O;subst N O;have Z:f.vars.getD j ⟨[],0,0⟩=u:=by rw [gY,U];rfl
      rw [Z] at M;refine ⟨j,u,U,rfl,?_,?_⟩<;>omega
     | succ i=>exact Y i w c (by simpa using N) (by simpa using O)
def Stp.WF.enters (h:st.WF K m) {ps:List VD} (Z:ps.length<=m) (O:List lB):(st.enters ps O).2.WF K m:=by
 unfold Stp.enters;split
 . exact h
 split
 . exact h
 split
 . exact h
 . rename_i h1 h2 h3;obtain ⟨k1,k2⟩:=QJ (f:=st.cur) ps O Ab Ab;have Y:=h.cur;have hf:FrmWF K ⟨ps,(DJ st.cur ps O).2,0⟩:=⟨k1.symm,gI _,λi v c G N=>by
    obtain ⟨j,u,U,h7,h8,h9⟩:=k2 i v c G N;have hj:j<st.cur.cells.length:=by
     rw [<-Y.len];rcases gQ j st.cur.vars.length with V|V
     . exact V
     . rw [gM V] at U;cases U
    have X:st.cur.cells[j]? = some c:=by rw [<-h7,gY,fY hj];rfl
    rw [<-h8,<-h9];exact Y.kind j u c U X⟩
   refine ⟨h.len,h.base,λf M=>?_,h.cell,by simp;omega,λf M=>?_⟩
   . rcases jA.1 M with G|G
     . exact h.calls f G
     . rw [iB.1 G];exact hf
   . rcases gT.1 M with G|G
     . exact h.vb f (by simp only at G;rw [G];simp)
     . rcases jA.1 G with N|N
       . exact h.vb f (by simp [N])
       . rw [iB.1 N];exact Z
def Stp.WF.leaves (h:st.WF K m):(st.leaves).2.WF K m:=by
 unfold Stp.leaves;split
 . exact h
 . exact ⟨h.len,h.base,λf M=>h.calls f (F0 M),h.cell,by have:=h.nc;simp;omega,λf M=>h.vb f (by
    rcases gT.1 M with G|G
    . simp only at G;rw [G];simp
    . simp only at G;simp [F0 G])⟩
end
def Mj {α β:Type} {f:α->List β} {k:Nat} (G:∀x,(f x).length=k):∀(l:List α) (i:Nat) (x:α),l[i]? = some x->((l.flatMap f).drop (i*k)).take k=f x
 | [],i,x,h=>by simp at h
 | y::r,0,x,h=>by
  simp only [gX,gE] at h;subst h;rw [jZ,lK,kg,List.take_append_of_le_length (by rw [G];exact gP _),kx (by rw [G];exact gP _)]
 | y::r,i+1,x,h=>by
  rw [jZ,show (i+1)*k=(f y).length+i*k by rw [G,kE];omega,<-List.drop_drop,List.drop_left];exact Mj G r i x (by simpa using h)
def GQ {e:TypeId} {l:List VD} {S:nP} (h:Own w 0 e 3 v l.length (l.flatMap VD.cells)) (M:∀k,v.ownBlock=some k->S k):∃a c,v = .slice a l.length c/\VDs S w l a:=by
 rcases h.row with ⟨rfl,G,-⟩|⟨g,cap,rfl,-,N,O⟩
 . exact ⟨none,0,by rw [G],gA (List.length_eq_zero_iff.1 G)⟩
 . refine ⟨_,cap,rfl,gB ⟨g,0,rfl,M g N,λi x U=>?_⟩⟩;have:=O.sub (i*3) 3;rw [Mj (f:=VD.cells) (k:=3) (λ_=>rfl) l i x U] at this;exact this
def Ptrs (κ:Nat->Nat) (w:wD) (l:List Nat) (a:oA):Prop:=l=[] \/ ∃g,a=some ⟨g,0,none⟩/\Row w ⟨g,0,none⟩ (l.map (JP κ))
def Mk {e:TypeId} {l:List Nat} (h:Own w 0 e 1 v l.length (l.map (JP κ))):∃a c,v = .slice a l.length c/\Ptrs κ w l a:=by
 rcases h.row with ⟨rfl,G,-⟩|⟨g,cap,rfl,-,N,M⟩
 . exact ⟨none,0,by rw [G],gA (List.length_eq_zero_iff.1 G)⟩
 . exact ⟨_,cap,rfl,gB ⟨g,rfl,M⟩⟩
def Ptrs.get {l:List Nat} {a:oA} (h:Ptrs κ w l a) {i c:Nat} (G:l[i]? = some c):∃g,a=some ⟨g,0,none⟩/\Row w ⟨g,0+i*1,none⟩ [JP κ c]:=by
 rcases h with rfl|⟨g,rfl,O⟩
 . simp at G
 . refine ⟨g,rfl,?_⟩;have:=O.sub (i*1) 1;rw [kI] at this ⊢;have M:i<l.length:=by
    rcases gQ i l.length with N|N
    . exact N
    . rw [gM N] at G;cases G
   have e:((l.map (JP κ)).drop i).take 1=[JP κ c]:=by
    rw [gW (by simpa using M)];have:l[i]=c:=by rw [fY M] at G;exact gJ G
    simp [this]
   rw [e] at this;exact this
def CI (l:List VD) (s:lB):Int:=match Cu s l with
 | some i=>(i:Int)
 | none=> -1
def Ml (s:lB) (v:VD):∀l:List VD,Cu s (l++[v])=if v.name=s then some l.length else Cu s l
 | []=>by simp only [kv,Cu,iM]
 | u::r=>by
  rw [jX];unfold Cu;rw [Ml s v r];by_cases h:v.name=s
  . simp [h]
  . simp [h]
def QK {l:List VD} {j:Nat} (G:j<l.length) (s:lB):CI (l.take (j+1)) s=if l[j].name=s then (j:Int) else CI (l.take j) s:=by
 have e:l.take (j+1)=l.take j++[l[j]]:=by rw [List.take_add_one,fY G];rfl
 unfold CI;rw [e,Ml];by_cases h:l[j].name=s
 . rw [AT h,AT h];simp;omega
 . rw [AC h,AC h]
def Mm (l:List VD) (hl:l.length<=1000000) (s:lB) (S:nP) (a:oA) (c:Nat) (vc Z:Value) (O U:Nat) (w:wD) (hr:Row w ⟨O,U,none⟩ [.slice a l.length c,vc,Z]) (M:VDs S w l a) :
 Calls prog 211 #[.pointer (some ⟨O,U,none⟩),str s] w λe w'=>e = .returned (.int .i64 (CI l s))/\Ext w w':=by
 have X:=Ne w;have M:=M.ltV;refine Ad func211 ntmps211 rfl rfl (eK ?_);refine C1 (AL rfl rfl (gG _ Ab)) (C1 Pa (cT ?_));refine As ?_;refine AF (ι:=Nat) (λj=>[(0,.pointer (some ⟨O,U,none⟩)),(1,str s),(5,.int .i64 ((j:Int)-1))])
  (λj w'=>j<=l.length/\VDs (· < w.heap.size) w' l a/\Row w' ⟨O,U,none⟩ [.slice a l.length c,vc,Z]/\Ext w w'/\CI l s=CI (l.take j) s)
  (λj=>j) l.length sB ⟨gP _,M,hr,X,by rw [gL]⟩ ?_
 rintro j w1 ⟨hj,M,hb,X,h⟩;cases j with
 | zero=>
  have e0:CI l s = -1:=by rw [h];rfl
  rw [e0];refine kR ?_;exact ⟨rfl,X⟩
 | succ j=>
  have G:j<l.length:=by omega
  obtain ⟨kb,ko,rfl,kS,N⟩:=M.get (by intro e;subst e;simp at G);have r0:=N j l[j] (fY G);rw [QK G s] at h;generalize l[j]=v at *;have V:(((j+1:Nat):Int)-1)=(j:Int):=by omega
  obtain ⟨vn,vk,vl⟩:=v;replace r0:Row w1 ⟨kb,ko+j*3,none⟩ [str vn,.int .u8 vk,.int .i64 vl]:=r0;dsimp only at h;rw [V]
  focus
   refine eK ?_;refine AA rfl (λY=>?_) (λY=>?_);refine kR ?_;rotate_left;refine eK ?_;refine C1 (AL rfl rfl (gG _ Ab)) (C1 Pa (Al ?_));rotate_left
  . rw [AT Af] at h;rw [h];exact ⟨rfl,X⟩
  . rw [AC Af] at h;exact Av j sB ⟨Ab,M,hb,X,h⟩ Ab
def Eu (G M n sb:Nat) (N:n<=1000) (w:wD) (h:CurP w sb G M n) :
 Calls prog 210 #[.pointer (some ⟨sb,0,none⟩)] w λe w'=>e = .returned (.pointer (some ⟨G,M,none⟩))/\Ext w w':=by
 have X:=Ne w;obtain ⟨x,y,z,a,c,O,U,⟨rfl,rfl,rfl⟩|⟨V,rfl,rfl⟩⟩:=h
 . refine Ad func210 ntmps210 rfl rfl ?_;refine kR ?_;exact ⟨rfl,X⟩
 . refine Ad func210 ntmps210 rfl rfl ?_;refine eK ?_;refine C1 (AL rfl rfl (gG _ Ab)) (kR ?_);refine ⟨?_,X⟩;rw [show (0+((n:Int)-1).toNat*3)=(n-1)*3 by omega]
def Y7 (k:Int) (w:wD):Calls prog 222 #[.int .u8 k] w λe w'=>e = .returned (.int .u8 (CT k))/\Ext w w':=by
 have X:=Ne w;refine Ad func222 ntmps222 rfl rfl ?_
 focus
  refine eK ?_;refine AA rfl (λh=>?_) (λh=>?_);refine kR ?_;rotate_left;refine eK ?_;refine AA rfl (λG=>?_) (λG=>?_);refine kR ?_;rotate_left;refine eK ?_;refine AA rfl (λM=>?_) (λM=>?_);refine kR ?_;rotate_left;refine eK ?_;refine AA rfl (λN=>?_) (λN=>?_);refine kR ?_;rotate_left;refine eK ?_;refine AA rfl (λO=>?_) (λO=>?_);refine kR ?_;rotate_left;refine eK ?_;refine AA rfl (λU=>?_) (λU=>?_);refine kR ?_;rotate_left;refine kR ?_;rotate_left
 all_goals (refine ⟨?_,X⟩;unfold CT)
 . rw [AT Ab]
 . rw [AC Ab,AT Ab]
 . rw [AC Ab,AC Ab,AT Ab]
 . rw [AC Ab,AC Ab,AT Ab]
 . rw [AC Ab,AC Ab,AT Ab]
 . rw [AC Ab,AC Ab,AT Ab]
 . rw [AC Ab,AC Ab,AC Ab]
section
variable {K:List (Int×Int)} {m:Nat}
def Ev {st:Stp} {c:Nat} (h:c<st.heap.length):st.heap[c]? = some (st.items c):=by
 unfold ng;rw [gY,fY h];rfl
def UN (h:Cu s st.cur.vars=none):st.look s=none:=by unfold Stp.look Frm.cell;rw [h];rfl
def UO {i c:Nat} (h:Cu s st.cur.vars=some i) (G:st.cur.cells[i]? = some c):st.look s=some (st.items c)/\st.cellD s=c:=by
 have e:st.cur.cell s=some c:=by unfold Frm.cell;rw [h];simpa using G
 exact ⟨by unfold Stp.look;rw [e];rfl,by unfold Stp.cellD;rw [e];rfl⟩
def StoreAt.at (h:StoreAt ρ κ w sb st) (O:st.WF K m) {i:Nat} (V:Cu s st.cur.vars=some i):∃c M N,st.cur.cells[i]? = some c/\c<st.heap.length/\st.look s=some (st.items c)/\st.cellD s=c/\Blk w (κ c) [.slice M (st.items c).length N]/\OwnR ρ (.items c) w (.slice M (st.items c).length N) (st.items c)/\ρ (κ c) = .cell c:=by
 have U:=Gm V;have G:i<st.cur.cells.length:=by rw [<-O.cur.len];exact U
 have X:=fY G;obtain ⟨e1,e2⟩:=UO V X;have Y:st.cur.cells[i]<st.heap.length:=by rw [O.len];exact O.cur.lt (gK G)
 obtain ⟨h1,v,h2,Z⟩:=h.cells _ _ (Ev Y);obtain ⟨M,N,rfl⟩:=Z.1.shape;exact ⟨_,M,N,X,Y,e1,e2,h2,Z,h1⟩
def QL (Y:st.WF K m) (hm:m<=1000000) (s:lB) (w:wD) (h:StoreAt ρ κ w sb st) :
 Calls prog 224 #[.pointer (some ⟨sb,0,none⟩),str s] w (LookR ((st.look s).getD []) (st.look s).isSome w):=by
 have X:=Ne w;have af:=Y.curm;have ag:=Y.nc;obtain ⟨fb,fo,pre,post,T,vv,vc,ah,-,U,hf,-⟩:=h.open;obtain ⟨av,cv,rfl,N⟩:=GQ (S:=λ_=>True) hf.v.1 (λ_ _=>trivial);obtain ⟨ac,cc,rfl,aa⟩:=Mk hf.c.1;have G:=U.blk;have HC:=fZ (λw1 h=>Eu fb fo st.calls.length sb Ab w1 h);cases hl:Cu s st.cur.vars with
 | none=>
  have O:=λw1 h1 h2=>Mm st.cur.vars Ab s (λ_=>True) av cv (.slice ac st.cur.cells.length cc) (.int .i64 st.cur.locals) fb fo w1 h1 h2
  rw [show CI st.cur.vars s = -1 by unfold CI;rw [hl]] at O;have O:=fZ O;rw [UN hl];generalize st.cur.cells.length=n2 at *;generalize st.cur.vars=vs at *;generalize st.calls.length=nc at *;refine Ad func224 ntmps224 rfl rfl (kC (HC.out _ Af) ?_);rintro _ w2 ⟨⟨⟩,x1⟩;revert X N G;refine eE x1 ?_;intro X N G;refine kC (O.out _ Af Af) ?_;rintro _ w5 ⟨⟨⟩,x4⟩;have X:=X.ext x4;refine kT ?_;exact ⟨none,0,rfl,gA rfl,AQ,X⟩
 | some i=>
  have O:=λw1 h1 h2=>Mm st.cur.vars Ab s (λ_=>True) av cv (.slice ac st.cur.cells.length cc) (.int .i64 st.cur.locals) fb fo w1 h1 h2
  rw [show CI st.cur.vars s=(i:Int) by unfold CI;rw [hl]] at O;have O:=fZ O;obtain ⟨c,a',c',e1,e2,e3,e4,Z,ho,-⟩:=h.at Y hl;have ab:=Y.look_le e3;obtain ⟨g,rfl,r1⟩:=aa.get e1;have ai:i<st.cur.cells.length:=by
   rcases gQ i st.cur.cells.length with h'|h'
   . exact h'
   . rw [gM h'] at e1;cases e1
  have V:Row w ⟨g,0+(i:Int).toNat*1,none⟩ [JP κ c]:=r1;have M:=ho.1.at;rw [e3];unfold JP at V;generalize κ c=cb at *;generalize st.items c=xs at *;generalize st.cur.cells.length=n2 at *;generalize st.cur.vars=vs at *;generalize st.calls.length=nc at *;refine Ad func224 ntmps224 rfl rfl (kC (HC.out _ Af) ?_);rintro _ aj ⟨⟨⟩,ad⟩;revert X V M Z N G;refine eE ad ?_;intro X V M Z N G;refine kC (O.out _ Af Af) ?_;rintro _ ak ⟨⟨⟩,ae⟩;revert X V M Z G;refine eE ae ?_;intro X V M Z G;refine eK ?_;refine C1 (Pw G) (kT ?_);exact ⟨_,_,rfl,M,ab,X⟩
def aQ (M:st.WF K m) (N:m<=1000000) (s:lB) (w:wD) (h:StoreAt ρ κ w sb st) :
 Calls prog 220 #[.pointer (some ⟨sb,0,none⟩),str s] w (LookR ((st.look s).getD []) (st.look s).isSome w):=by
 have X:=Ne w;have O:=fZ (QL M N s w h);generalize (st.look s).isSome=q at *;generalize (st.look s).getD []=xs at *;refine Ad func220 ntmps220 rfl rfl (eK ?_);refine C1 (A2 Ac rfl rfl) (kQ (O.out) ?_);rintro _ w6 ⟨a1,c2,⟨⟩,h3,h4,U⟩;have X:=X.ext U;refine kQ (Fo xs Ab _ _ _ Af) ?_;rintro _ V ⟨a8,c9,⟨⟩,Y,Z,G⟩;have X:=X.ext G;refine kT ?_;exact ⟨_,_,rfl,OwnI.at Af,Ab,X⟩
def Mn (Z:st.WF K m) (hm:m<=1000000) (s:lB) {i:Nat} (hl:Cu s st.cur.vars=some i) (w:wD) (h:StoreAt ρ κ w sb st) :
 Calls prog 225 #[.pointer (some ⟨sb,0,none⟩),str s] w λe w'=>e = .returned (.pointer (some ⟨κ (st.cellD s),0,none⟩))/\Ext w w':=by
 have X:=Ne w;have aa:=Z.curm;have ab:=Z.nc;obtain ⟨fb,fo,pre,post,T,vv,vc,ad,-,U,hf,-⟩:=h.open;obtain ⟨av,cv,rfl,N⟩:=GQ (S:=λ_=>True) hf.v.1 (λ_ _=>trivial);obtain ⟨ac,cc,rfl,Y⟩:=Mk hf.c.1;have G:=U.blk;have HC:=fZ (λw1 h=>Eu fb fo st.calls.length sb Ab w1 h);have hF:=λw1 h1 h2=>Mm st.cur.vars Ab s (λ_=>True) av cv (.slice ac st.cur.cells.length cc) (.int .i64 st.cur.locals) fb fo w1 h1 h2
 rw [show CI st.cur.vars s=(i:Int) by unfold CI;rw [hl]] at hF;have hF:=fZ hF;obtain ⟨c,a',c',e1,e2,e3,e4,-⟩:=h.at Z hl;obtain ⟨g,rfl,r1⟩:=Y.get e1;have ae:i<st.cur.cells.length:=by
  rcases gQ i st.cur.cells.length with h'|h'
  . exact h'
  . rw [gM h'] at e1;cases e1
 have V:Row w ⟨g,0+(i:Int).toNat*1,none⟩ [JP κ c]:=r1;rw [e4];clear h hf U Y Z r1 e1 e2 e3 e4;unfold JP at V;generalize κ c=cb at *;generalize st.cur.cells.length=n2 at *;generalize st.cur.vars=vs at *;generalize st.calls.length=nc at *;refine Ad func225 ntmps225 rfl rfl ?_;refine kC (HC.out _ Af) ?_;rintro _ w2 ⟨⟨⟩,x1⟩;revert X V N G;refine eE x1 ?_;intro X V N G;refine eK ?_;refine Ap (λwz=>Ext w2 wz) 7 (.pure 0 (.pure 1 (.pure 2 (.pure 3 (.pure 4 (.pure 5 (.fork 6 .tail .none))))))) mixed AR (Aa Ag) ?_;intro w4 x5 _;have M:(λwz=>Ext w2 wz) w4:=x5;simp only at M;have O:=G;revert X V N G;refine eE x5 ?_;intro X V N G;refine ⟨M,?_⟩;refine eT ?_;refine Tq rfl (Dr O) (Tq rfl Mv (Tq rfl Mv ?_));refine tC rfl rfl (hF.out _ Af Af) ?_;rintro _ af ⟨⟨⟩,x9⟩;revert M X V;refine eE x9 ?_;intro M X V;refine ⟨M,?_⟩;refine Aq rfl ?_;refine kR ?_;exact ⟨rfl,X⟩
end
def Y8 (vs:List VD) (hv:vs.length<=1000000) (av:oA) (cv:Nat) (vc nl:Value) (fb fo:Nat) (N:Nat):∀(t:Nd) (S S':nP) (a:oA) (c:Nat) (w:wD),t.size<N->t.size<=1000000000->t.sits S w a->Row w ⟨fb,fo,none⟩ [.slice av vs.length cv,vc,nl]->VDs S' w vs av ->
 Calls prog 216 #[.pointer (some ⟨fb,fo,none⟩),t.val a c] w λe w'=>e = .returned (.int .i64 (t.bad vs))/\Ext w w':=by
 induction N with
 | zero=>intro t S S' a c w h;omega
 | succ N ih=>
  rintro ⟨k,n,s,l⟩ S S' a c w hN hM O U M;have IH:=fZ ih;clear ih;simp only [Nd.sits] at O;simp only [Nd.size] at hN hM;have X:=Ne w;have hl:=Co l;have O:=B7 _ _ O;have M:=M.ltV;have bk:fb<w.heap.size:=Ci (U.at0 rfl);have HF:=fZ (λw1 h1=>OE vs hv s (· < w.heap.size) av cv w1 h1);rw [Nd.bad];change Calls prog _ #[.pointer (some ⟨fb,fo,none⟩),.agg #[.int .u8 k,.int .i64 n,str s,.slice a l.length c]] w _;generalize hq:(D6 vs s).isSome=q at HF;generalize hz:(D6 vs s).getD We=z at HF;obtain ⟨zn,zk,zl⟩:=z;have hu:FA vs s (CT k)=if q=false then 6 else if zk=CT k then 0 else 7:=by
   unfold FA;cases hf:D6 vs s with
   | none=>rw [hf] at hq;subst hq;rfl
   | some v=>rw [hf] at hq hz;subst hq;simp only [lY] at hz;rw [hz];rfl
  rw [hu];clear hq hz hu;generalize hn:CT k=nk at *;have HN:=Y7 k;rw [hn] at HN;have HN:=fZ HN;refine Ad func216 ntmps216 rfl rfl ?_;refine cS (eB [_,_,_,_] ?_);intro b1 w2 V x5 p6 z7;revert U X O M;refine eE x5 ?_;intro U X O M;refine kC (HN.out _) ?_;rintro _ w9 ⟨⟨⟩,x8⟩;revert V U X O M;refine eY x8 ?_;intro bl V U X O M;refine C1 Pa (cT ?_);refine Dv (ι:=Unit) (λ_=>[(0,.pointer (some ⟨fb,fo,none⟩)),(3,.pointer (some ⟨b1,0,none⟩))]) (λ_ w'=>Row w' ⟨fb,fo,none⟩ [.slice av vs.length cv,vc,nl]/\VDs (· < w.heap.size) w' vs av/\rowSits (· < w.heap.size) w' l a/\Blk w' b1 [.int .u8 k,.int .i64 n,str s,.slice a l.length c]/\Ext w w' /\ ¬(nk≠0/\(if q=false then (6:Int) else if zk=nk then 0 else 7)≠0)) ?_ ?_
  . focus
     refine eK ?_;refine BP rfl (λay=>?_) (λay=>?_);refine Aj (Ap (λwz=>Ext w9 wz) 12 (.pure 0 (.pure 1 (.pure 2 (.pure 3 (.pure 4 (.pure 5 (.fork 6 (.pure 7 (.pure 8 (.pure 9 (.fork 10 (.fork 11 .tail .none) .none)))) (.fork 10 (.fork 6 (.pure 7 (.pure 8 (.pure 9 (.fork 11 .tail .none)))) .none) .none)))))))) mixed AR (Aa (Aa Ag)) ?_);intro az ah _;have G:(λwz=>Ext w9 wz) az:=ah;simp only at G;have ai:=V;have aj:=U;revert V U X O M;refine eY ah ?_;intro bm V U X O M;refine ⟨G,?_⟩;refine eT ?_;refine Tq rfl (Ar Ac rfl rfl rfl (λwz hz=>mE (mw aj hz) rfl)) (Tq rfl Pf (Tq rfl (Db ai) ?_));refine Ax rfl (AM AR rfl (HF.out _ Af) (λ_ _ h=>⟨_,h.1⟩)) rfl ?_ aFh ?kra6;rintro _ bn ⟨⟨⟩,a0⟩;revert G V U X O M;refine eY a0 ?_;intro bo G V U X O M;refine ⟨G,?_⟩;refine eT ?_;refine Ax rfl (A3 Ca rfl) rfl ?_ aFh Au;rintro _ a5 ⟨a6,rfl,Z⟩;have ae:=Z.blk;dsimp only at ae;have ak:=Z.ext;have a7:=Z.pos;have a8:=Z.size;revert G V U X O M;refine eE ak ?_;intro G V U X O M;refine ⟨G,?_⟩;refine Ch [_,_,_] [_,_,_] rfl Ac rfl rfl rfl rfl rfl rfl ae rfl rfl ?_ Au;intro a9 ac;have ba:=ac.blk;have al:=ac.fr;have bb:=ac.size;revert G V U X O M;refine eF al ?_;intro G V U X O M;refine ⟨G,?_⟩;refine Aq rfl (C1 Pa (cT (Aj (cS (C1 Mv (C1 Pt (cT ?_)))))));refine I9 rfl (λam=>?_) (λam=>?_);refine kR ?_;rotate_left;refine eK ?_;refine BP rfl (λan=>?_) (λan=>?_);refine kR ?_;rotate_left;refine Am ?_;rotate_left;refine Ax rfl (A3 Ca rfl) rfl ?_ aFh Au;rintro _ bc ⟨bd,rfl,aa⟩;have ab:=aa.blk;dsimp only at ab;have ao:=aa.ext;have be:=aa.pos;have bf:=aa.size;revert G V U X O M;refine eE ao ?_;intro G V U X O M;refine ⟨G,?_⟩;refine tC rfl rfl (HF.out _ Af) ?_;rintro _ bg ⟨⟨⟩,ap⟩;revert ab G V U X O M;refine eE ap ?_;intro ab G V U X O M;refine ⟨G,?_⟩;refine eT ?_;refine Ch [_,_,_] [_,_,_] rfl Ac rfl rfl rfl rfl rfl rfl ab rfl rfl ?_ Au;intro bh af;have bi:=af.blk;have aq:=af.fr;revert G V U X O M;refine eF aq ?_;intro G V U X O M;refine ⟨G,?_⟩
     refine Aq rfl (C1 Pa (cT (Aj (cS (C1 Mv (C1 Pt (cT ?_)))))));refine I9 rfl (λar=>?_) (λar=>?_);refine kR ?_;rotate_left;refine eK ?_;refine BP rfl (λau=>?_) (λau=>?_);refine kR ?_;rotate_left;refine Am ?_;rotate_left;refine Am ?_;rotate_left
    all_goals first
     | exact ⟨by rw [AT (show q=false by assumption),AT ⟨Af,C2⟩],X⟩
     | exact ⟨by rw [AC (show ¬q=false by simp [*]),AC (show ¬zk=nk by assumption),AT ⟨Af,C2⟩],X⟩
     | exact BC () sB ⟨Af,Af,Af,Af,X,λh=>h.1 Af⟩
     | exact BC () sB ⟨Af,Af,Af,Af,X,λh=>h.2 (by rw [AC (show ¬q=false by simp [*]),AT (show zk=nk by assumption)])⟩
  clear O U M X HF HN;rintro-w1 ⟨U,M,O,hb,X,aw⟩;rw [AC aw];clear aw hn;refine Aj (cS (C1 Pf (C1 (Pl hb) (C1 Pz (C1 Mv (cT ?_))))));clear V hb;refine As ?_;refine AF (ι:=Nat) (λj=>[(0,.pointer (some ⟨fb,fo,none⟩)),(33,.slice a l.length c),(34,.int .i64 l.length),(35,.int .i64 j)])
   (λj w'=>j<=l.length/\Row w' ⟨fb,fo,none⟩ [.slice av vs.length cv,vc,nl]/\VDs (· < w.heap.size) w' vs av/\rowSits (· < w.heap.size) w' l a/\Ext w w'/\EV vs l=EV vs (l.drop j))
   (λj=>l.length-j) 0 sB ⟨gI _,U,M,O,X,rfl⟩ ?_
  clear U M O X;rintro j w1 ⟨hj,U,M,O,X,Y⟩;by_cases ad:j<l.length
  . obtain ⟨kb,ko,rfl,bp,ag⟩:=BJ O (by intro e;subst e;simp at ad);obtain ⟨xa,xc,rx,sx⟩:=ag j l[j] (fY ad);have bq:=D4 (gK ad);rw [gW ad,EV] at Y;clear ag;generalize l[j]=x at *;have HX:=fZ (IH.out x (· < w.heap.size) (· < w.heap.size) xa xc);generalize a1:x.bad vs=xb at *;obtain ⟨xk,xn,xs,xl⟩:=x;replace rx:Row w1 ⟨kb,ko+j*4,none⟩ [.int .u8 xk,.int .i64 xn,str xs,.slice xa xl.length xc]:=rx;clear a1
    focus
     refine eK ?_;refine xA [_,_,_,_] ?_;intro br bs a2;refine eI [_,_,_,_] a2 ?_;intro bt bu a3 _ _;revert U M X O sx;refine eE a3 ?_;intro U M X O sx;refine kC (HX.out _ Ab Ab Af Af Af) ?_;rintro _ bj ⟨⟨⟩,a4⟩;revert U M X O;refine eE a4 ?_;intro U M X O;refine eK ?_;refine BP rfl (λax=>?_) (λax=>?_);refine kR ?_;rotate_left;refine Am (Ah (Ai (Ak (C1 V7 (C1 Mv (Al ?_))))));rotate_left
    . exact ⟨by rw [Y,AT Af],X⟩
    . refine Av (j+1) sB ⟨Ab,U,M,O,X,?_⟩ Ab;rw [Y,AC (λh=>h Af)]
  . have:j=l.length:=by omega
    subst this;rw [lk] at Y;rw [Y];refine kR ?_;exact ⟨rfl,X⟩
def Y9 (k:Int) (hk:40<=k/\k<=49) (w:wD):Calls prog 215 #[.int .u8 k] w λe w'=>e = .returned (.bool true)/\Ext w w':=by
 have X:=Ne w;refine Ad func215 ntmps215 rfl rfl ?_
 focus
  refine eK ?_;refine AA rfl (λh=>?_) (λh=>?_);refine kR ?_;rotate_left;refine eK ?_;refine AA rfl (λG=>?_) (λG=>?_);refine kR ?_;rotate_left;refine eK ?_;refine AA rfl (λM=>?_) (λM=>?_);refine kR ?_;rotate_left;refine eK ?_;refine AA rfl (λN=>?_) (λN=>?_);refine kR ?_;rotate_left;refine eK ?_;refine AA rfl (λO=>?_) (λO=>?_);refine kR ?_;rotate_left;refine eK ?_;refine AA rfl (λU=>?_) (λU=>?_);refine kR ?_;rotate_left;refine eK ?_;refine AA rfl (λV=>?_) (λV=>?_);refine kR ?_;rotate_left;refine eK ?_;refine AA rfl (λY=>?_) (λY=>?_);refine kR ?_;rotate_left;refine eK ?_;refine AA rfl (λZ=>?_) (λZ=>?_);refine kR ?_;rotate_left;refine kR ?_;rotate_left
 all_goals first
  | exact ⟨rfl,X⟩
  | (exfalso;omega)
def UP (k:Int) (Z:¬(k=50\/k=51)) (w:wD):Calls prog 214 #[.int .u8 k] w λe w'=>e = .returned (.int .u8 (Cm k))/\Ext w w':=by
 have X:=Ne w;refine Ad func214 ntmps214 rfl rfl ?_
 focus
  refine eK ?_;refine AA rfl (λh=>?_) (λh=>?_);refine kR ?_;rotate_left;refine eK ?_;refine AA rfl (λG=>?_) (λG=>?_);refine kR ?_;rotate_left;refine eK ?_;refine AA rfl (λM=>?_) (λM=>?_);refine kR ?_;rotate_left;refine eK ?_;refine AA rfl (λN=>?_) (λN=>?_);refine kR ?_;rotate_left;refine eK ?_;refine AA rfl (λO=>?_) (λO=>?_);refine kR ?_;rotate_left;refine eK ?_;refine AA rfl (λU=>?_) (λU=>?_);refine kR ?_;rotate_left;refine eK ?_;refine AA rfl (λV=>?_) (λV=>?_);refine kR ?_;rotate_left;refine eK ?_;refine AA rfl (λY=>?_) (λY=>?_);refine kR ?_;rotate_left;refine kR ?_;rotate_left
 all_goals (refine ⟨?_,X⟩;unfold Cm)
 all_goals first
  | (subst k;rfl)
  | (repeat rw [AC Ab])
def UQ (ρ:Nat->Rl) (w w':wD) (r:Rl):Nat->Rl:=λb=>if w.heap.size<=b/\b<w'.heap.size then r else ρ b
def WC (ρ:Nat->Rl) (w w':wD) (r:Rl):Ro ρ (UQ ρ w w' r) w:=λb h=>AC Ab
def Tf (ρ:Nat->Rl) (r:Rl) {b:Nat} (h:w.heap.size<=b) (G:b<w'.heap.size):UQ ρ w w' r b=r:=AT ⟨h,G⟩
def NK {r:Rl} (h:Fresh ρ w) (G:w.heap.size<=w'.heap.size):Fresh (UQ ρ w w' r) w':=λb M=>by
 unfold UQ;rw [AC Ab];exact h b Ab
section
variable {l:Sl} {tab:Tab} {zt:Ee}
def Fd {y:Operand} {b k m cap:Nat} {sE:Sk} {zs:lV} {p:Addr} (T:TabOk P tab) (Z:Cj P zt) (ht:AB tab t=some (.slice e,sb)) (hE:AB tab e=some (sE,sz)) (hz:CC zt e=some zs) (hzl:zs.length=sz)
 (hby:Dk P e=true) (hsz:iC 0 sz=true) (hx:ev l x=some v) (hy:ev l y=some (.slice (some p) m cap)) (hown:Own w b e sz v k cs) (hr:Row w p us) (hul:us.length=m*sz) (hu:us.all mG=true) (hkm:k+m<=100000000000) (hm0:0<k+m) (hb:b<=w.heap.size) :
 BG P n l (.call ⟨.builtin .append,#[x,y],#[t,t]⟩) ty w (FQ λo w'=> ∃g cap,o = .slice (some ⟨g,0,none⟩) (k+m) cap/\Own w' b e sz (.slice (some ⟨g,0,none⟩) (k+m) cap) (k+m) (cs++us)/\Fr (λk=>v.ownBlock=some k) w w'/\(v.ownBlock=some g\/w.heap.size<=g)/\g<w'.heap.size):=by
 have hd:=DV (P:=P) (n:=n) (l:=l) (ty:=ty) T Z ht hE hz hzl hby hsz hx hy hown hr hul hu hkm hm0 hb;unfold BG at hd ⊢;intro a dst pos after g next Q ha hn c;refine hd a dst pos after g next Q ha (λv' w' hG=>?_) (λw' hG=>hG.elim);obtain ⟨g1,g2,g,cap',g3,g4⟩:=hG;exact hn v' w' ⟨g,cap',g3,g3▸g1,g2,g4,(g1.blk (k:=g) (by rw [g3];rfl)).2⟩
end
section
variable {j:Nat}
def AddR (ρ:Nat->Rl) (κ:Nat->Nat) (j fb fo:Nat) (pre post:lV) (T:TypeId) (nl:Value) (f:Frm) (w:wD):Ending->wD->Prop:=λe w'=> ∃vv vc ρ',e = .returned (.tuple #[])/\Ro ρ ρ' w/\Fresh ρ' w'/\Win w' fb fo [vv,vc,nl] pre post T/\FrameOk ρ' κ w' j f vv vc/\Fr (Fc ρ j fb) w w'
def AddR.ret {N:Value} {e:Ending} (h:AddR ρ κ j n t cs us T N f w e w'):∃v,e = .returned v:=by
 obtain ⟨_,_,_,h,-⟩:=h;exact ⟨_,h⟩
def Tg (f:Frm) (v:VD) (c Z fo:Nat) (pre post:lV) (T:TypeId) (vv vc nl:Value) (w:wD) (hF:FrameOk ρ κ w j f vv vc) (hw:Win w Z fo [vv,vc,nl] pre post T) (hr:ρ Z≠.vars j/\ρ Z≠.cels j) (an:Fresh ρ w) (hv:f.vars.length<=1000000) (hc:f.cells.length<=1000000) :
 Calls prog 158 #[.pointer (some ⟨Z,fo,none⟩),v.val,JP κ c] w (AddR ρ κ j Z fo pre post T nl ⟨f.vars++[v],f.cells++[c],f.locals⟩ w):=by
 obtain ⟨⟨ov,rv⟩,X,rc⟩:=hF;have a1:Z<w.heap.size:=hw.1.blk.lt;have F:=mx (Fc ρ j Z) w;have n1:∀k,vv.ownBlock=some k->ρ k = .vars j/\k<w.heap.size:=λk G=>⟨rv k G,(ov.blk G).2⟩
 have n2:∀k,vc.ownBlock=some k->ρ k = .cels j/\k<w.heap.size:=λk G=>⟨rc k G,(X.blk G).2⟩
 have d1:∀k,vv.ownBlock=some k -> ¬k=Z:=λk G e=>by subst e;exact hr.1 (n1 k G).1
 have d2:∀k,vc.ownBlock=some k -> ¬k=Z:=λk G e=>by subst e;exact hr.2 (n2 k G).1
 have d3:∀k,vc.ownBlock=some k -> ¬vv.ownBlock=some k:=λk G e=>by have:=(n1 k e).1;rw [(n2 k G).1] at this;cases this
 obtain ⟨vn,vk,vl⟩:=v;generalize hN:f.vars.length=N at *;generalize hM:f.cells.length=M at *;generalize hV:f.vars.flatMap VD.cells=V at *;generalize hC:f.cells.map (JP κ)=C at *;change Calls prog _ #[_,.agg #[str vn,.int .u8 vk,.int .i64 vl],.pointer (some ⟨κ c,0,none⟩)] w _;refine Ad func158 ntmps158 rfl rfl ?_;have av:=fZ an;clear an;refine cS (eB [_,_,_] ?_);intro b1 w2 h4 x5 p6 z7;revert hw F ov X;refine eE x5 ?_;intro hw F ov X;refine eK ?_;refine Ap (λwz=>Fr ((λk=>vv.ownBlock=some k)) w2 wz) 8 (.pure 0 (.pure 1 (.pure 2 (.pure 3 (.pure 4 (.pure 5 (.fork 6 (.fork 7 .tail .none) .none))))))) mixed AR (Aa Ag) ?_;intro w8 x9 _;have O:(λwz=>Fr ((λk=>vv.ownBlock=some k)) w2 wz) w8:=mt x9;simp only at O;have ao:=h4;have ap:=hw;revert hw F ov X;refine eY x9 ?_;intro a2 hw F ov X;refine ⟨O,?_⟩;refine eT ?_;refine Tq rfl (Ar Ac rfl rfl rfl (λwz hz=>mE (mN (Win.blk ap) hz (λh=>d1 _ h rfl)) rfl)) (Tq rfl (xL [_,_,_] (λwz hz=>(mu ao hz (λh=>by have:=(n1 _ h).2;omega)))) ?_);refine Ax rfl (xS [_,_,_]) rfl ?_ aFh Au;rintro _ ah ⟨a3,rfl,ad,a4⟩;have a5:=ad.blk;have aw:=ad.ext;have a6:=ad.pos;have a7:=ad.size;revert O hw F ov X;refine eE aw ?_;intro O hw F ov X;refine ⟨O,?_⟩;refine Ax rfl (Fd Ac Ca rfl rfl rfl rfl AR rfl rfl rfl Af (mJ Af) rfl rfl Ab Ab (gI _)) rfl ?_ aFh Au;rintro _ ai ⟨ae,ax,rfl,U,aa,af,a8⟩
 have a9:=aa.size;have O:=mB O aa (λk G=>gA G);have hw:=Win.fr hw aa (λh=>d1 _ h rfl);have F:=mB F aa (λk G=>gA (gB (gA (n1 k G).1)));clear ov;have X:=mO X aa (λk G Y=>d3 k G Y);refine ⟨O,?_⟩;refine Aq rfl ?_;refine eK ?_;refine A9 (Fb Z fo [_,_,_] Ac rfl rfl rfl rfl rfl rfl Af rfl rfl) (BK ?_);rintro _ ba ⟨ab,aj,bb⟩;have U:=mO U aj (λk G Y=>by (obtain rfl:=gJ (show some ae=some k from G);rcases af with h|h;exact d1 _ h Y;omega));clear hw;have F:=mB F aj (λk G=>gA (gA G));have X:=mO X aj (λk G Y=>d2 k G Y);refine eK ?_;refine Dh Ac rfl rfl rfl (Win.blk ab) rfl rfl (C1 Mv ?_);refine Az (xS [_]) rfl ?_ aFh;rintro _ ak ⟨bc,rfl,ag,bd⟩;have be:=ag.blk;have ay:=ag.ext;have bf:=ag.pos;have bg:=ag.size;revert ab U F X;refine eE ay ?_;intro ab U F X;refine Az (Fd Ac Ca rfl rfl rfl rfl AR rfl rfl rfl Af (mJ Af) rfl rfl Ab Ab (gI _)) rfl ?_ aFh;rintro _ al ⟨aq,az,rfl,ar,ac,au,bh⟩;have bi:=ac.size;have ab:=Win.fr ab ac (λh=>d2 _ h rfl);have U:=mO U ac (λk G Y=>by (obtain rfl:=gJ (show some ae=some k from G);rcases af with h|h;exact d3 _ Y h;have:=(n2 _ Y).2;omega));have F:=mB F ac (λk G=>gA (gB (gB (n2 k G).1)));clear X ac;refine eK ?_;refine A9 (Cp Z fo 1 [_,_,_] Ac rfl rfl rfl rfl rfl rfl Af rfl rfl) (BK ?_);rintro _ bj ⟨a0,am,bk⟩;have ar:=mO ar am (λk G Y=>by (obtain rfl:=gJ (show some aq=some k from G);rcases au with h|h;exact d2 _ h Y;omega));have U:=mO U am (λk G Y=>by (obtain rfl:=gJ (show some ae=some k from G);rcases af with h|h;exact d1 _ h Y;omega));have F:=mB F am (λk G=>gA (gA G));refine Al (Bi rfl ?_)
 have e1:∀b,UQ (UQ ρ ah ai (.vars j)) ak al (.cels j) b=if ak.heap.size<=b/\b<al.heap.size then .cels j else if ah.heap.size<=b/\b<ai.heap.size then .vars j else ρ b:=λb=>rfl
 refine ⟨_,_,UQ (UQ ρ ah ai (.vars j)) ak al (.cels j),rfl,λb hb=>?_,λb hb=>?_,a0,⟨⟨?_,λk G=>?_⟩,?_,λk G=>?_⟩,F⟩
 . rw [e1,AC Ab,AC Ab]
 . rw [e1,AC Ab,AC Ab];exact av.out b Ab
 . rw [kh,hV,gR,hN];assumption
 . obtain rfl:=gJ (show some ae=some k from G);rw [e1];rcases af with h|h
   . have:=(n1 _ h).2;rw [AC Ab,AC Ab];exact (n1 _ h).1
   . rw [AC Ab,AT Ab]
 . rw [jE,hC,gR,hM];assumption
 . obtain rfl:=gJ (show some aq=some k from G);rw [e1];rcases au with h|h
   . have:=(n2 _ h).2;rw [AC Ab,AC Ab];exact (n2 _ h).1
   . rw [AT Ab]
end
def OR (ops:Array Oper) (wr:List Nat) (i:Nat):Prop:= ∀(listed:Array Bool) (j:Nat) (o:Oper),DC ops listed->listed.getD j true=false->wr.contains j=true->ops[j]? = some o->(∀e∈o.after,jM .any e=true->listed.getD e.on false=true)->listed.getD i false=true
def OS (ops:Array Oper) (E wr:List Nat) (j0:Nat):Bool:=(E.all λi=>iC i ops.size&&(List.range' (i+1) (ops.size-(i+1))).any λm=>(kk m j0||E.contains m)&&Ja ops m i)&&wr.all λj=>kk j j0||Ja ops j j0
def Mo {ops:Array Oper} {E wr:List Nat} (h:OS ops E wr n=true) {i:Nat} (hE:E.contains i=true):OR ops wr i:=by
 simp only [OS,gD,iJ] at h;obtain ⟨h1,h2⟩:=h;intro G j o V ag hj ho N;have M:=h2 j (by simpa using hj);simp only [jP] at M;have O:∀o0,ops[n]? = some o0 -> ∀e∈o0.after,jM .any e=true->G.getD e.on false=true:=by
  intro o0 U;rcases M with M|M
  . have ac:=iL M;subst ac;rw [ho] at U;obtain rfl:=gJ U;exact N
  . obtain ⟨oj,e',X,ad,ae,Y⟩:=Eh M;rw [ho] at X;obtain rfl:=gJ X;have hl:=N e' ad ae;rw [Y] at hl;exact V n o0 U hl
 have key:∀d i,ops.size-i<=d->E.contains i=true->G.getD i false=true:=by
  intro d
  induction d with
  | zero=>
   intro i hd hi;have:=gV (h1 i (by simpa using hi)).1;omega
  | succ d ih=>
   intro i hd hi;have hg:=h1 i (by simpa using hi);simp only [lh,lA,gD,jP] at hg;obtain ⟨-,m,hm,Z,hw⟩:=hg;obtain ⟨om,e,aa,he,hb,ab⟩:=Eh hw;rcases Z with Z|Z
   . have af:=iL Z;subst af;have:=O om aa e he hb;rwa [ab] at this
   . have hl:=ih m Ab Z;have:=V m om aa hl e he hb;rwa [ab] at this
 exact key _ i (gP _) hE
section
variable {ops:Array Oper} {Q:Exit->Act->wD->Prop} {S2:wD->Prop} {E wr:List Nat} {K:Nat}
def Kf (P:Program) (ops:Array Oper) (Q:Exit->Act->wD->Prop) (S S2:wD->Prop) (wr:List Nat) (K:Nat):Nat->Array Bool->Act->wD->Prop
 | 0,listed,a,w=>iH .any ops listed=[]/\Q .normal a w
 | fuel+1,listed,a,w=>
  (iH .any ops listed=[]->Q .normal a w) /\
  ∀i∈iH .any ops listed,wpOp P ops Q i (λa' w'=>(wr.contains i=false->(S w->S w')/\(S2 w->S2 w'))/\(wr.contains i=true->i<K->S2 w')/\Kf P ops Q S S2 wr K fuel (listed.setIfInBounds i true) a' w') a w
def Mp:∀(G:Nat) (M:Array Bool) (a:Act) (w:wD),Kf P ops Q S S2 wr K G M a w->wpAny P .any ops Q G M a w
 | 0,_,_,_,h=>h
 | G+1,_,_,_,h=>⟨h.1,λi N=>wpOp_mono (λO w' U=>Mp G _ O w' U.2.2) (h.2 i N)⟩
def JE {i:Nat} {oi:Oper} {T:wD->Prop} (hi:ops[i]? = some oi) (hT:(OR ops wr i/\T=S)\/(D5 ops K i/\T=S2)) (ae:wr.contains i=false) (ab:∀(j:Nat) (o:Oper) cs b,ops[j]? = some o->o.op≠.select cs b)
 (hQ:∀c a w,Q (.panic c) (a.put oi.dst v) w->Q (.panic c) a w) :
 ∀(M:Nat) (G:Array Bool) (a:Act) (w:wD),DC ops G ->
  (∀j Z,ops[j]? = some Z->j≠i->G.getD j true=false->(∀e∈Z.after,jM .any e=true->e.on≠i)->oi.apart ops Z=true) ->
  i∈iH .any ops G->YieldsIf P ops T oi v a->T w ->
  Kf P ops Q S S2 wr K M (G.setIfInBounds i true) (a.put oi.dst v) w->Kf P ops Q S S2 wr K (M+1) G a w:=by
 intro M
 induction M with
 | zero=>
  intro G a w _ _ hr hy hS H;refine ⟨λh=>(by rw [h] at hr;cases hr),λj hj=>?_⟩;by_cases N:j=i
  . subst N;exact hy.wpOp hi hS ⟨λ_=>⟨id,id⟩,λe=>(by rw [ae] at e;cases e),H⟩
  . have:=ready_mono hj N;rw [H.1] at this;cases this
 | succ M ih=>
  intro G a w ac U hr hy hS H;refine ⟨λh=>(by rw [h] at hr;cases hr),λj hj=>?_⟩;by_cases N:j=i
  . subst N;exact hy.wpOp hi hS ⟨λ_=>⟨id,id⟩,λe=>(by rw [ae] at e;cases e),H⟩
  . have h1:=H.2 j (ready_mono hj N);obtain ⟨V,Z,X,Y⟩:=mem_ready.1 hj;have O:¬G.getD i false=true:=λhc=>by
     have h0:=(mem_ready.1 hr).1;rcases gQ i G.size with h'|h'
     . simp [h'] at h0 hc;rw [h0] at hc;cases hc
     . simp [iN h'] at hc
    have ah:∀w',(wr.contains j=false->(S w->S w')/\(S2 w->S2 w'))->(wr.contains j=true->j<K->S2 w')->T w':=λw' h' h2=>by
     rcases hT with ⟨ad,rfl⟩|⟨ad,rfl⟩
     . cases hej:wr.contains j
       . exact (h' hej).1 hS
       . exact absurd (ad G j Z ac V hej X Y) O
     . cases hej:wr.contains j
       . exact (h' hej).2 hS
       . rcases gQ j K with h|h
         . exact h2 hej h
         . exact absurd (ad G j Z ac h X Y) O
    have af:∀e∈Z.after,jM .any e=true->e.on≠i:=λe he hb ai=>O (ai▸Y e he hb)
    have h2:=wpOp_putIf X (U j Z X N V af) (λcs b=>ab i oi cs b hi) (λcs b=>ab j Z cs b X) hQ hy h1;have aa:∀k ok,ops[k]? = some ok->k≠i->(G.setIfInBounds j true).getD k true=false ->
     (∀e∈ok.after,jM .any e=true->e.on≠i)->oi.apart ops ok=true:=λk ok hk aj O ak=>by
     refine U k ok hk aj ?_ ak;by_cases ag:j=k
     . subst ag;exact V
     . rw [getD_set_ne true ag] at O;exact O
    refine wpOp_mono (λa' w' h3=>⟨h3.2.1,h3.2.2.1,ih (G.setIfInBounds j true) a' w' (ac.set hj) aa (ready_mono hr (l3 N)) h3.1 (ah w' h3.2.1 h3.2.2.1) ?_⟩) h2;rw [lq _ _ N];exact h3.2.2.2
end
def ScE.okW (ops:Array Oper) (E wr:List Nat) (K:Nat):ScE->Nat->Array Bool->Bool
 | .done,_,listed=>(iH .any ops listed).isEmpty
 | .pure i r,f+1,listed=>E.contains i && !(wr.contains i)&&(iH .any ops listed).contains i&&Region.free .any ops listed i&&ScE.okW ops E wr K r f (listed.setIfInBounds i true)
 | .free i r,f+1,listed=> !(wr.contains i)&&iC i K&&(iH .any ops listed).contains i&&Region.free .any ops listed i&&ScE.okW ops E wr K r f (listed.setIfInBounds i true)
 | .put i r,f+1,listed=>wr.contains i&&(iH .any ops listed==[i])&&ScE.okW ops E wr K r f (listed.setIfInBounds i true)
 | .tail k,f,listed=>jW K k&&kk (f+k) ops.size&&(List.range' k f).all (λj=>wr.contains j)&&EZ ops f k listed
 | _,_,_=>false
def IX {P:Program} {ops:Array Oper} {Q:Exit->Act->wD->Prop} {S S2:wD->Prop} {wr:List Nat} {K:Nat}:∀(f k:Nat) (G:Array Bool) (a:Act) (w:wD),K<=k->f+k=ops.size->(∀j,k<=j->j<k+f->wr.contains j=true)->EZ ops f k G=true->wpList P ops Q (ops.toList.drop k) a w->Kf P ops Q S S2 wr K f G a w
 | 0,k,G,a,w,Z,hf,O,M,h=>by
  have:ops.toList.drop k=[]:=iZ (by simp;omega);rw [this] at h;exact ⟨by simpa [EZ] using M,h⟩
 | f+1,k,G,a,w,Z,hf,O,M,h=>by
  simp only [EZ,gD,beq_iff_eq] at M;have U:k<ops.toList.length:=by simp;omega
  rw [gW U] at h;refine ⟨λe=>absurd (M.1.symm.trans e) AQ,λi V=>?_⟩;rw [M.1] at V;simp only [iB] at V;subst V;have Y:=O i (gP _) Ab;have N:∀j,i+1<=j->j<i+1+f->wr.contains j=true:=λj h1 h2=>O j Ab Ab
  have ho:ops[i]? = some ops.toList[i]:=by simp
  unfold wpList at h;unfold wpOp;rw [ho];simp only;split
  . rename_i X;rw [AT X] at h;rcases h with h|h
    . exact gA (Oper.wp_mono (λa' w' h'=>⟨λe=>(by rw [Y] at e;cases e),λ_ e=>by omega,IX f (i+1) _ a' w' Ab Ab N M.2 h'⟩) h)
    . exact gB h
  . rename_i X;rw [AC X] at h;exact ⟨λe=>(by rw [Y] at e;cases e),λ_ e=>by omega,IX f (i+1) _ _ w Ab Ab N M.2 h⟩
def HTE.anyW {P:Program} {ops:Array Oper} {Q:Exit->Act->wD->Prop} {S S2:wD->Prop} {E wr:List Nat} {K:Nat} (O:∀i,i<K->D5 ops K i) (Y:Region.noSelect ops=true) (V:∀i,E.contains i=true->OR ops wr i) (Z:C5 Q) :
 ∀(s:ScE) (f:Nat) (G:Array Bool) (a:Act) (w:wD),DC ops G->HTE P ops Q S S2 s a w->ScE.okW ops E wr K s f G=true->Kf P ops Q S S2 wr K f G a w
 | .done,f,G,a,w,U,h,M=>by
  have X:iH .any ops G=[]:=by simpa [ScE.okW] using M
  cases f with
  | zero=>exact ⟨X,h⟩
  | succ f=>exact ⟨λ_=>h,by rw [X];simp⟩
 | .tail k,f,G,a,w,U,h,M=>by
  simp only [ScE.okW,gD,iJ,lA] at M;exact IX f k G a w (gV M.1.1.1) (iL M.1.1.2) (λj h1 h2=>M.1.2 j ⟨h1,h2⟩) M.2 h
 | .pure i r,0,G,a,w,U,h,M=>by simp [ScE.okW] at M
 | .pure i r,f+1,G,a,w,U,h,M=>by
  simp only [ScE.okW,gD,ly] at M;obtain ⟨hS,o,v,ho,hy,X⟩:=h;have hi:ops[i]? = some o:=by simpa using ho
  have N:i∈iH .any ops G:=by simpa using M.1.1.2
  exact JE (T:=S) hi (gA ⟨V i M.1.1.1.1,rfl⟩) M.1.1.1.2 (kJ Y) (λc a w=>Z o.dst v c a w) f G a w U (ln hi M.1.2) N hy hS
   (HTE.anyW O Y V Z r f _ _ w (U.set N) X M.2)
 | .free i r,0,G,a,w,U,h,M=>by simp [ScE.okW] at M
 | .free i r,f+1,G,a,w,U,h,M=>by
  simp only [ScE.okW,gD,ly] at M;obtain ⟨hS,o,v,ho,hy,X⟩:=h;have hi:ops[i]? = some o:=by simpa using ho
  have N:i∈iH .any ops G:=by simpa using M.1.1.2
  have aa:=gV M.1.1.1.2;exact JE (T:=S2) hi (gB ⟨O i aa,rfl⟩) M.1.1.1.1 (kJ Y) (λc a w=>Z o.dst v c a w) f G a w U (ln hi M.1.2) N hy hS
   (HTE.anyW O Y V Z r f _ _ w (U.set N) X M.2)
 | .put i r,0,G,a,w,U,h,M=>by simp [ScE.okW] at M
 | .put i r,f+1,G,a,w,U,h,M=>by
  simp only [ScE.okW,gD,beq_iff_eq] at M;obtain ⟨⟨h1,h2⟩,h3⟩:=M;refine ⟨λe=>(by rw [h2] at e;cases e),λj hj=>?_⟩;rw [h2] at hj;simp only [iB] at hj;subst hj;have N:j∈iH .any ops G:=by rw [h2];simp
  exact wpOp_mono (λa' w' h'=>⟨λe=>(by rw [h1] at e;cases e),λ_ _=>h'.1,HTE.anyW O Y V Z r f _ a' w' (U.set N) h'.2 h3⟩) h
def Mq {Q:Exit->Act->wD->Prop} {l:Sl} {G:List Oper} (S S2:wD->Prop) (E wr:List Nat) (j0 K:Nat) (s:ScE) (hm:P.follows .mixedOrders=true) (N:(Region.noSelect G.toArray&&(jW G.length K||ID G.toArray K)&&OS G.toArray E wr j0&&ScE.okW G.toArray E wr K s G.length (kn G.length false))=true) (hQ:C5 Q)
 (h:∀w1,Ext w w1->w1.heap=w.heap->Ye P n G.toArray Q S S2 s l w1):CW P n (.region e G.toArray true) Q l w:=by
 unfold CW;intro a ha;simp only [gD] at N;have h2:=h w.drew (Ne w).drew rfl;have V:DC G.toArray (kn G.length false):=λk o _ M=>by
  exfalso;rcases gQ k G.length with X|X
  . simp [X] at M
  . simp [iN,X] at M
 have O:∀i,i<K->D5 G.toArray K i:=by
  by_cases Y:K<G.toArray.size
  . have M:=N.1.1.2;simp only [jP] at M;rcases M with M|M
    . have:=gV M;simp at Y;omega
    . exact DN M Y
  . intro i hi U j o _ hj ho _;have aa:j<G.toArray.size:=(Array.getElem?_eq_some_iff.1 ho).1;omega
 refine wp_region_any hm (Mp (S:=S) (S2:=S2) (wr:=wr) (K:=K) _ _ _ _ ?_);have:=HTE.anyW O N.1.1.1 (λi hE=>Mo N.1.2 hE) hQ s G.length (kn G.length false) a w.drew V (h2 a ha) N.2;simpa using this
def Own.cut {b m cap:Nat} {a:oA} (h:Own w b e sz (.slice a n cap) n (cs++us)) (M:cs.length=m*sz) (V:m<=n):Own w b e sz (.slice a m cap) m cs:=by
 obtain ⟨h1,⟨G,N⟩|⟨g,O,cur,G,N,X,h5,Y,Z,h8⟩⟩:=h
 . obtain rfl:m=0:=by omega
   refine ⟨by simpa using M,gA ⟨?_,rfl⟩⟩;rw [<-G,N]
 . simp only [iF] at G;obtain ⟨rfl,-,rfl⟩:=G;refine ⟨by simpa using M,gB ⟨g,cap,cur,rfl,N,X,Ab,Y,Z,?_⟩⟩;have U:=congrArg (List.take (m*sz)) h8;rw [List.take_take,lu (kF _ V),List.take_left' M] at U;exact U
def Za (l:List VD):(l.flatMap VD.cells).length=l.length*3:=by
 induction l with
 | nil=>rfl
 | cons v r h=>rw [jZ,gR,h];simp;omega
def Own.le {b cap:Nat} {a:oA} (h:Own w b e sz (.slice a n cap) n cs):n<=cap:=by
 obtain ⟨U,⟨G,N⟩|⟨g,M,cur,G,N,V,O,X,Y,Z⟩⟩:=h
 . omega
 . simp only [iF] at G;obtain ⟨-,-,rfl⟩:=G;exact O
section
variable {K:List (Int×Int)} {m:Nat}
def StR (ρ:Nat->Rl) (sb:Nat) (st:Stp) (r:Int) (w:wD):Ending->wD->Prop:=λe w'=> ∃ ρ' κ',e = .returned (.int .i64 r)/\Ro ρ ρ' w/\StoreAt ρ' κ' w' sb st/\Fr (λk=>Mg (ρ k)) w w'
def StR.ret {r:Int} {e:Ending} (h:StR ρ sb st r w e w'):∃v,e = .returned v:=by
 obtain ⟨_,_,h,-⟩:=h;exact ⟨_,h⟩
def StR.same {r:Int} (h:StoreAt ρ κ w' sb st) (x:Ext w w'):StR ρ sb st r w (.returned (.int .i64 r)) w':=⟨ρ,κ,rfl,Ro.refl _ _,h,mt x⟩
def StoreAt.drop (h:StoreAt ρ κ w sb st):∃N O U ca V tp,Blk w sb [N,O,U,.slice ca st.calls.length V,tp]/\st.calls.length<=V /\
 ∀(l:List Frm) (f:Frm),st.calls=l++[f] -> ∀w',Fr (· = sb) w w'->Blk w' sb [N,O,U,.slice ca l.length V,tp]->StoreAt ρ κ w' sb { st with calls:=l }:=by
 obtain ⟨Y,Z,⟨N,O,cv,tb,cs,h2,h3,X,h5,h6⟩,h7⟩:=h;have aa:∃a c,cv = .slice a st.calls.length c:=by
  rcases X.1.row with ⟨rfl,hn,-⟩|⟨g,cap,rfl,-⟩
  . exact ⟨none,0,by rw [hn]⟩
  . exact ⟨_,_,rfl⟩
 obtain ⟨ca,V,rfl⟩:=aa;refine ⟨N,O,_,ca,V,_,h2,X.1.le,λl f hc w' x hb=>?_⟩;rw [hc] at h5;obtain ⟨ab,vv,vc,rfl,h8,-⟩:=(FramesOk.snoc l 1 f cs).1 h5;have ac:=FramesOk.len _ _ _ h8;have M:∀ {r:Rl},r≠.store -> ∀k,k=sb->ρ k≠r:=λn1 k G e=>by subst G;exact n1 (by rw [<-e,Y])
 have h9:=X.1;rw [hc] at h9;rw [gR,kB] at h9;refine ⟨Y,Z.mv x,⟨N,O,_,tb,ab,hb,h3.move x (λk G=>⟨M AQ k G,M AQ k G⟩) (Ro.refl _ _) (λ_ _=>rfl),⟨?_,λk G=>X.2 k ?_⟩,FramesOk.move x (Ro.refl _ _) _ _ _ h8 (λk G i _ _=>⟨M AQ k G,M AQ k G⟩) (λ_ _ _ _=>rfl),h6.move x (λk G=>⟨M AQ k G,M AQ k G,M AQ k G⟩) (Ro.refl _ _)⟩,λc xs hx=>(h7 c xs hx).move x (λk G=>⟨M AQ k G,M AQ k G⟩) (Ro.refl _ _) rfl⟩
 . exact (h9.cut (m:=l.length) (by rw [ac]) Ab).fr x (λk G e=>by
    subst e;have:=X.2 k (by cases ca<;>exact G);rw [Y] at this;cases this)
 . cases ca<;>exact G
def Zb (hw:st.WF K m) (w:wD) (h:StoreAt ρ κ w sb st) :
 Calls prog 213 #[.pointer (some ⟨sb,0,none⟩)] w (StR ρ sb (st.leaves).2 (st.leaves).1 w):=by
 have X:=Ne w;have am:=hw.nc;have Z:=h.role;obtain ⟨bv,bc,an,ca,cc,tp,hb,ao,M⟩:=h.drop;rcases jU st.calls with O|⟨l,f,O⟩
 . have e:st.leaves=(20,st):=by unfold Stp.leaves;rw [AT (gA O)]
   rw [e];have hn:st.calls.length=0:=by rw [O];rfl
   clear M;generalize st.calls.length=n at *;subst hn;refine Ad func213 ntmps213 rfl rfl ?_;refine eK ?_;refine C1 (A2 Ac rfl rfl) ?_;refine kR ?_;exact StR.same Af X
 . rw [kD] at O;have N:st.cur=f:=by unfold Stp.cur;rw [O];simp
   obtain ⟨fb,fo,pre,post,T,vv,vc,U,-,V,hf,-⟩:=h.open;have G:=V.blk;have HC:=fZ (λw1 h=>Eu fb fo st.calls.length sb Ab w1 h);have hn:st.calls.length=l.length+1:=by rw [O];simp
   have ae:st.calls≠[]:=by rw [O];simp
   rw [N] at G;clear hf V;have aa:=fZ (M l f O);clear M;have af:((st.calls.length:Int)-1)=(l.length:Int):=by omega
   have ag:l.length<=cc:=by omega
   by_cases h0:0<f.locals
   . have e:st.leaves=(20,st):=by unfold Stp.leaves;rw [AT (gB (by rw [N];exact h0))]
     rw [e];clear aa;refine Ad func213 ntmps213 rfl rfl ?_;refine eK ?_;refine C1 (A2 Ac rfl rfl) ?_;refine kC (HC.out _ Af) ?_;rintro _ ap ⟨⟨⟩,ah⟩;revert h X G;refine eE ah ?_;intro h X G;refine eK ?_;refine C1 (Pw G) ?_;refine kR ?_;exact StR.same Af X
   . have e:st.leaves=(0,{ st with calls:=l }):=by unfold Stp.leaves;rw [AC (by rw [N];intro h;rcases h with h|h;exact ae h;exact h0 h),O];simp
     rw [e];have F:=mx (· = sb) w;refine Ad func213 ntmps213 rfl rfl ?_;refine eK ?_;refine C1 (A2 Ac rfl rfl) ?_;refine kC (HC.out _ Af) ?_;rintro _ ab ⟨⟨⟩,ai⟩;revert hb U G F;refine eE ai ?_;intro hb U G F;refine eK ?_;refine C1 (Pw G) ?_;refine eK ?_;refine Ap (λwz=>Ext ab wz) 12 (.pure 0 (.pure 1 (.pure 2 (.pure 3 (.pure 4 (.pure 5 (.pure 6 (.pure 7 (.pure 8 (.pure 9 (.pure 10 (.pure 11 .tail)))))))))))) mixed AR (Aa Ag) ?_;intro aj ac _;have Y:(λwz=>Ext ab wz) aj:=ac;simp only at Y;have ak:=hb;revert hb U F;refine eE ac ?_;intro hb U F;refine ⟨Y,?_⟩;refine eT ?_;refine Tq rfl (AL rfl rfl (gG _ Ab)) (Tq rfl (Dn Ac rfl rfl rfl rfl af ag) ?_);refine Aq rfl ?_;refine eK ?_;refine eV [_] [_,_,_,_,_] hb ?_;intro aq al ad _;clear hb h G;have F:=F.fr ad Ab;refine kR ?_;exact ⟨ρ,κ,rfl,Ro.refl _ _,aa.out _ F Af,F.weaken (λk hk=>by subst hk;rw [Z];trivial)⟩
def Zc (hw:st.WF K m) (hm:m<=1000000) (s:List UInt8) (x:Int) (w:World) (h:StoreAt ρ κ w sb st) :
 Calls prog 193 #[.pointer (some ⟨sb,0,none⟩),str s,.int .i64 x] w (StR ρ sb (st.closes s x).2 (st.closes s x).1 w):=by
 have X:=Ne w;have c3:=hw.nc;have c4:=hw.curm;have a1:=hw.cur;have a8:=a1.len;have a9:=a1.loc;obtain ⟨fb,fo,pre,post,T,vv,vc,bc,am,G,hf,a2⟩:=h.open;have HC:=fZ (λw1 h=>Eu fb fo st.calls.length sb Ab w1 h)
 rcases jU st.cur.vars with hv|⟨vs,v,hv⟩
 . have h0:st.cur.locals=0:=by rw [hv] at a9;simpa using a9
   have e:st.closes s x=(6,st):=by unfold Stp.closes;simp only;rw [AT (gA h0)]
   rw [e];obtain ⟨av,cv,rfl,bk⟩:=GQ (S:=λ_=>True) hf.v.1 (λ_ _=>trivial);have V:=G.blk;rw [h0] at V;refine Ad func193 ntmps193 rfl rfl ?_
   refine cS (C1 Pa (cT (Aj (cS (C1 Mv (C1 (A2 Ac rfl rfl) (cT (AO rfl (Am (Ai (cS (C1 Mv (cC rfl (HC.out _ Af) ?_)))))))))))));rintro _ w2 ⟨⟨⟩,x1⟩;revert h X V;refine eE x1 ?_;intro h X V;refine C1 Pa (cN (C1 Mv (C1 Pn (C1 Pg (C1 (MR V) (C1 Pz (C1 (AL rfl rfl (gG _ Ab)) (C1 Pa (cT (Aj (cS (C1 Mv (C1 Pn (C1 Pf (C1 (Pw V) (C1 V1 (C1 Mv (Vu (Vu (Vu (Vu (Vu (Vu (Vu (Vu (Vu (Vu (C1 ZN (cT (Bq rfl (cS (C1 Pa (cT (AU (At (AW rfl rfl ?_))))))))))))))))))))))))))))))))))))
   exact StR.same Af X
 rw [kD] at hv
 have a3:st.cur.vars.length=vs.length+1:=by rw [hv];simp
 obtain ⟨cs,c,a4⟩:∃cs c,st.cur.cells=cs++[c]:=by
  rcases jU st.cur.cells with h'|⟨cs,c,h'⟩
  . rw [h',a3] at a8
    simp at a8
  . exact ⟨cs,c,by rw [h',kD]⟩
 have a5:st.cur.cells.length=vs.length+1:=by omega
 have an:cs.length=vs.length:=by rw [a4] at a5;simpa using a5
 have bd:st.cur.vars[vs.length]? = some v:=by rw [hv];simp
 have a6:st.cur.cells[vs.length]? = some c:=by rw [a4,gU Ab];simp [an]
 have bw:c<st.heap.length:=by rw [hw.len];exact a1.lt (iI a6)
 have be:=hw.cell c _ (a1.kind _ _ _ bd a6);obtain ⟨c5,vi,ak,bl⟩:=h.cells _ _ (Ev bw);obtain ⟨ai,ci,rfl⟩:=bl.1.shape
 have e:st.closes s x=if st.cur.locals=0\/v.name≠s then (6,st) else if v.kind=1/\(st.items c).getD 0 0≠x\/v.kind=3/\0<(st.items c).length then (16,st) else (0,st.setCur ⟨vs,cs,st.cur.locals-1⟩):=by
  unfold Stp.closes
  simp only;rw [a3,Nat.add_sub_cancel];rw [gY,bd,gY (l:=st.cur.cells),a6];simp only [lY];rw [hv,a4]
  simp
 rw [e];obtain ⟨av,cv,rfl,bk⟩:=GQ (S:=λ_=>True) hf.v.1 (λ_ _=>trivial);obtain ⟨ac,cc,rfl,bx⟩:=Mk hf.c.1;obtain ⟨kb,ko,rfl,-,bm⟩:=bk.get (by intro e;rw [e] at hv;simp at hv);obtain ⟨gc,rfl,r1⟩:=bx.get a6;have r0:=bm _ _ bd;have rv:=hf.v.2;have rc:=hf.c.2;have U:=hf.v.1;have Y:=hf.c.1;have lv:=U.le;have lc:=Y.le;rw [a3] at U lv;rw [a5] at Y lc;rw [hv,kh] at U;rw [a4,jE] at Y;replace U:=U.cut (m:=vs.length) (Za _) Ab;replace Y:=Y.cut (m:=vs.length) (by simp [an]) Ab
 have hd:∀k,(k:Nat)=fb->ρ k≠.vars st.calls.length/\ρ k≠.cels st.calls.length:=λk M=>by
  subst M
  rcases am with h|h<;>rw [h]<;>exact ⟨AQ,AQ⟩
 have aa:∀k,(iA (some ⟨kb,ko,none⟩) vs.length cv).ownBlock=some k -> ¬k=fb:=λk M O=>(hd k O).1 (rv k M)
 have ab:∀k,(iA (some ⟨gc,0,none⟩) vs.length cc).ownBlock=some k -> ¬k=fb:=λk M O=>(hd k O).2 (rc k M)
 have bz:=fZ (a2 ρ κ);have HF:=fZ h.fresh;have b0:=bl.1.at;have F:=mx (· = fb) w;obtain ⟨vn,vk,vl⟩:=v
 unfold JP at r1
 rw [a3] at G;rw [a5] at G;have V:=G.blk
 have hi:(((vs.length+1:Nat):Int)-1).toNat=vs.length:=by omega
 have al:(((vs.length+1:Nat):Int)-1)=(vs.length:Int):=by omega
 have bf:vs.length<=cv:=by omega
 have bg:vs.length<=cc:=by omega
 replace r0:Row w ⟨kb,ko+(((vs.length+1:Nat):Int)-1).toNat*3,none⟩ [str vn,.int .u8 vk,.int .i64 vl]:=by rw [hi];exact r0
 replace r1:Row w ⟨gc,0+(((vs.length+1:Nat):Int)-1).toNat*1,none⟩ [.pointer (some ⟨κ c,0,none⟩)]:=by rw [hi];exact r1
 simp only at be ⊢
 by_cases h6:st.cur.locals=0\/vn≠s
 . rw [AT h6]
   generalize hL:st.cur.locals=L at *
   refine Ad func193 ntmps193 rfl rfl ?_
   focus
    refine cS (C1 Pa (cT (Aj (cS (C1 Mv (C1 (A2 Ac rfl rfl) (cT (AO rfl (Am (Ai (cS (C1 Mv (cC rfl (HC.out _ Af) ?_)))))))))))));rintro _ c6 ⟨⟨⟩,b1⟩;revert h X r0 V;refine eE b1 ?_;intro h X r0 V;refine C1 Pa (cN (C1 Mv (C1 Pn (C1 Pg (C1 (MR V) (C1 Pz (C1 (AL rfl rfl (gG _ Ab)) (C1 Pa (cT (Aj (cS (C1 Mv (C1 Pn (C1 Pf (C1 (Pw V) (C1 V1 (C1 Mv (B4 rfl rfl rfl (λb2=>?_) (λb2=>?_)))))))))))))))))));refine EJ (EJ (EJ (EJ (EJ (EJ (EJ (EJ (EJ (EJ (C1 Oc (cT (Bq rfl (cS (C1 Pa (cT (AU (At (AW rfl rfl ?_))))))))))))))))));rotate_left;refine E2 (C1 Mv (E2 (C1 Pn (E2 (C1 Pg (E2 (C1 (MR V) (E2 (C1 Mv (E2 (C1 Pi (E2 (C1 Pg (E2 (C1 (MR r0) (E2 (C1 Mv (E2 (C1 V9 (C1 MU (cT (BP rfl (λb3=>?_) (λb3=>?_)))))))))))))))))))))));refine cS (C1 Pa (cT (AU (At (AW rfl rfl ?_)))));rotate_left;refine Am (Ai ?_);rotate_left
   . exact StR.same Af X
   . exact StR.same Af X
   . exact (h6.elim (λh=>by omega) (λh=>h Af)).elim
 rw [AC h6]
 have h7:¬st.cur.locals=0:=λh=>h6 (gA h)
 have h8:vn=s:=Decidable.byContradiction λh=>h6 (gB h)
 subst h8;have c7:=be.le
 have ad:∀w',Fr (· = fb) w w'->Win w' fb fo [.slice (some ⟨kb,ko,none⟩) vs.length cv,.slice (some ⟨gc,0,none⟩) vs.length cc,.int .i64 ((st.cur.locals:Int)-1)] pre post T->Own w' 0 77 3 (.slice (some ⟨kb,ko,none⟩) vs.length cv) vs.length (vs.flatMap VD.cells)->Own w' 0 234 1 (.slice (some ⟨gc,0,none⟩) vs.length cc) vs.length (cs.map (JP κ))->StR ρ sb (st.setCur ⟨vs,cs,st.cur.locals-1⟩) 0 w (.returned (.int .i64 0)) w':=λw' x h1 h2 h3=>by
  rw [show ((st.cur.locals:Int)-1)=((st.cur.locals-1:Nat):Int) by omega] at h1
  exact ⟨ρ,κ,rfl,Ro.refl _ _,bz.out w' ⟨vs,cs,st.cur.locals-1⟩ _ _ (Ro.refl _ _) (HF.out.mv x) (λ_ _ _ _=>rfl) (λ_ _=>rfl) (x.weaken (λk M=>gA M)) h1 ⟨⟨h2,rv⟩,by rw [an];exact h3,rc⟩,x.weaken (λk M=>by subst M;rcases am with h|h<;>rw [h]<;>trivial)⟩
 replace ad:=fZ ad
 by_cases h1:vk=1
 . have bn:(st.items c).length=1:=by rcases be with ⟨-,h⟩|⟨h,-⟩|⟨h,-⟩<;>simp only at * <;> omega
   obtain ⟨gi,go,rfl,b4⟩:=b0.get (by intro e;rw [e] at bn;simp at bn);have r2:=nF b4 (i:=(0:Int).toNat) Ab;simp only [show (0:Int).toNat=0 from rfl] at r2;subst h1
   generalize c8:(st.items c).getD 0 0=v0 at *
   generalize (st.items c).length=xn at *
   generalize κ c=cb at *
   refine Ad func193 ntmps193 rfl rfl ?_
   focus
    refine cS (C1 Pa (cT (Aj (cS (C1 Mv (C1 (A2 Ac rfl rfl) (cT (AO rfl (Am (Ai (cS (C1 Mv (cC rfl (HC.out _ Af) ?_)))))))))))));rintro _ a7 ⟨⟨⟩,b5⟩;revert h X G U Y F r0 r2 r1 ak;refine eE b5 ?_;intro h X G U Y F r0 r2 r1 ak;refine C1 Pa (cN (C1 Mv (C1 Pn (C1 Pg (Do Ac rfl rfl rfl (Win.blk G) rfl rfl (C1 Pz (C1 (AL rfl rfl (gG _ Ab)) (C1 Pa (cT (Aj (cS (C1 Mv (C1 Pn (C1 Pf (Dh Ac rfl rfl rfl (Win.blk G) rfl rfl (C1 V1 (C1 Mv (Ej (C1 Mv (Ej (C1 Pn (Ej (C1 Pg (Ej (Do Ac rfl rfl rfl (Win.blk G) rfl rfl (Ej (C1 Mv (Ej (C1 Pi (Ej (C1 Pg (Ej (C1 (MR r0) (Ej (C1 Mv (Ej (C1 V9 (C1 MV (cT (M4 rfl (not_not_intro rfl) (Am (Ai (cS (C1 Mv (C1 Pn (C1 Pf (Dh Ac rfl rfl rfl (Win.blk G) rfl rfl (C1 Mv (C1 Pi (C1 (MR r1) (C1 Pn (C1 Pg (C1 (Pl ak) (C1 Pa (cT (Aj (cS (C1 Mv (C1 Pn (C1 Pg (Do Ac rfl rfl rfl (Win.blk G) rfl rfl (C1 Mv (C1 Pi (C1 Pf (C1 (Pw r0) (C1 V1 (C1 Mv ?_)))))))))))))))))))))))))))))))))))))))))))))))))))))))))))))))))));refine Pc (C1 Mv (Pc (C1 Pi (Pc (C1 (Pw r2) (Pc (C1 Mv (Pc (C1 V2 (C1 ZN (C1 Mv (B4 rfl rfl rfl (λb6=>?_) (λb6=>?_)))))))))))));refine EJ (EJ (EJ (EJ (EJ (EJ (EJ (EJ (EJ (EJ (Ds rfl rfl rfl rfl (Ds rfl rfl rfl rfl (Ds rfl rfl rfl rfl (EJ (C1 Oc (cT (Bq rfl (cS (C1 Pa (cT (AU (At (AW rfl rfl ?_))))))))))))))))))))))
    rotate_left;refine E2 (C1 Mv (E2 (C1 Pn (E2 (C1 Pg (E2 (Do Ac rfl rfl rfl (Win.blk G) rfl rfl (E2 (C1 Mv (E2 (C1 Pi (E2 (C1 Pf (E2 (C1 (Pw r0) (E2 (C1 V1 (E2 (C1 Mv (XV (XV (XV (E2 (C1 ZO (C1 MU (cT (AO rfl (Am (Ai (Aj (Mq (λZ=>Ext a7 Z) (λZ=>Fr (λx=>x=fb) a7 Z) [0,2,3,4,5,6,7,8,9,10,11,14,15] [16,17,18,19] 16 17 (.pure 0 (.free 1 (.pure 2 (.pure 3 (.pure 4 (.pure 5 (.pure 6 (.pure 7 (.pure 8 (.pure 9 (.pure 10 (.pure 11 (.free 12 (.free 13 (.pure 14 (.pure 15 (.put 16 (.tail 17)))))))))))))))))) mixed AR (Aa Ag) ?_)))))))))))))))))))))))))))))));intro bo bh _;have bp:(λZ=>Ext a7 Z) bo:=bh;simp only at bp;have ao:(λZ=>Fr (λx=>x=fb) a7 Z) bo:=mt bh;simp only at ao;have bq:=h;have ap:=bc;have N:=G;have ba:=U;revert G U Y F;refine eE bh ?_;intro G U Y F;refine Ao Af rfl (Aw rfl) rfl (Bl Af rfl (Aw rfl) rfl (Ao Af rfl (Aw rfl) rfl (Ao Af rfl (BH rfl) rfl (Ao Af rfl (Cs Ac rfl rfl rfl) rfl (Ao Af rfl (Ar Ac rfl rfl rfl (λZ hz=>mE (mw (Win.blk N) hz) rfl)) rfl (Ao Af rfl (Aw rfl) rfl ?_))))))
    refine Ao Af rfl (Dn Ac rfl rfl rfl rfl al bf) rfl (Ao Af rfl (Aw rfl) rfl (Ao Af rfl (BH rfl) rfl (Ao Af rfl (A1 Ac rfl rfl rfl) rfl (Ao Af rfl (Ar Ac rfl rfl rfl (λZ hz=>Row.at (mw (Win.blk N) hz) rfl)) rfl (Bl Af rfl (Aw rfl) rfl (Bl Af rfl (Dn Ac rfl rfl rfl rfl al bg) rfl (Ao Af rfl (BH rfl) rfl (Ao Af rfl (Cs Ac rfl rfl rfl) rfl (Du rfl (Fb fb fo [_,_,_] Ac rfl rfl rfl rfl rfl rfl Af rfl rfl) (BK ?_))))))))));rintro _ ca ⟨cd,ag,ce⟩;replace ao:=ao.fr ag Ab;replace U:=mO U ag (λk M O=>aa k M O);replace Y:=mO Y ag (λk M O=>ab k M O);replace F:=F.fr ag Ab;refine ⟨Af,(Dt rfl (C1 Pn (C1 Pf (A9 (Cp fb fo 1 [_,_,_] Ac rfl rfl rfl rfl rfl rfl Af rfl rfl) (BK ?_)))))⟩;rintro _ cf ⟨br,aq,cg⟩;replace U:=mO U aq (λk M O=>aa k M O);replace Y:=mO Y aq (λk M O=>ab k M O)
    replace F:=F.fr aq Ab;refine cN (C1 Mv (C1 Pn (C1 Pf (Dh Ac rfl rfl rfl (Win.blk br) rfl rfl (C1 (AL rfl rfl (gG _ Ab)) (C1 Pn (C1 Pf (A9 (Cp fb fo 2 [_,_,_] Ac rfl rfl rfl rfl rfl rfl Af rfl rfl) (BK ?_)))))))));rintro _ ch ⟨cj,ar,ck⟩;replace U:=mO U ar (λk M O=>aa k M O);replace Y:=mO Y ar (λk M O=>ab k M O);replace F:=F.fr ar Ab;refine cN (C1 Pa (cT (AU (AW rfl rfl ?_))));rotate_left
   . rw [AT (gA ⟨rfl,Af⟩)]
     exact StR.same Af X
   . rw [AC (λh=>by rcases h with ⟨-,h⟩|⟨h,-⟩;exact absurd h Af;simp at h)]
     exact ad.out _ F Af Af Af
 . generalize (st.items c).length=xn at *
   generalize κ c=cb at *
   refine Ad func193 ntmps193 rfl rfl ?_
   focus
    refine cS (C1 Pa (cT (Aj (cS (C1 Mv (C1 (A2 Ac rfl rfl) (cT (AO rfl (Am (Ai (cS (C1 Mv (cC rfl (HC.out _ Af) ?_)))))))))))));rintro _ ae ⟨⟨⟩,b7⟩;revert h X G U Y F r0 r1 ak;refine eE b7 ?_;intro h X G U Y F r0 r1 ak;refine C1 Pa (cN (C1 Mv (C1 Pn (C1 Pg (Do Ac rfl rfl rfl (Win.blk G) rfl rfl (C1 Pz (C1 (AL rfl rfl (gG _ Ab)) (C1 Pa (cT (Aj (cS (C1 Mv (C1 Pn (C1 Pf (Dh Ac rfl rfl rfl (Win.blk G) rfl rfl (C1 V1 (C1 Mv (Ej (C1 Mv (Ej (C1 Pn (Ej (C1 Pg (Ej (Do Ac rfl rfl rfl (Win.blk G) rfl rfl (Ej (C1 Mv (Ej (C1 Pi (Ej (C1 Pg (Ej (C1 (MR r0) (Ej (C1 Mv (Ej (C1 V9 (C1 MV (cT (M4 rfl (not_not_intro rfl) (Am (Ai (cS (C1 Mv (C1 Pn (C1 Pf (Dh Ac rfl rfl rfl (Win.blk G) rfl rfl (C1 Mv (C1 Pi (C1 (MR r1) (C1 Pn (C1 Pg (C1 (Pl ak) (C1 Pa (cT (Aj (cS (C1 Mv (C1 Pn (C1 Pg (Do Ac rfl rfl rfl (Win.blk G) rfl rfl (C1 Mv (C1 Pi (C1 Pf (C1 (Pw r0) (C1 V1 (C1 Mv ?_)))))))))))))))))))))))))))))))))))))))))))))))))))))))))))))))))));refine Im (Im (Im (Im (Im (C1 MU (C1 Mv (AP rfl rfl rfl (rfl) (C1 Mv (AP rfl rfl rfl (rfl) (C1 Pn (AP rfl rfl rfl (rfl) (C1 Pg (AP rfl rfl rfl (rfl) (Do Ac rfl rfl rfl (Win.blk G) rfl rfl (AP rfl rfl rfl (rfl) (C1 Mv (AP rfl rfl rfl (rfl) (C1 Pi (AP rfl rfl rfl (rfl) (C1 Pf (AP rfl rfl rfl (rfl) (C1 (Pw r0) (AP rfl rfl rfl (rfl) ?_)))))))))))))))))))))))
    refine C1 V1 (AP rfl rfl rfl (rfl) (C1 Mv (B4 rfl rfl rfl (λb8=>?_) (λb8=>?_))));refine Vk (C1 Mv (Vk (C1 Pz (Vk (C1 V5 (AP rfl rfl rfl (rfl) (C1 Oc (C1 (Bu rfl rfl rfl) (cT (AA rfl (λb9=>?_) (λb9=>?_)))))))))));refine cS (C1 Pa (cT (AU (At (AW rfl rfl ?_)))));rotate_left;refine Am (Ai (Aj (Mq (λZ=>Ext ae Z) (λZ=>Fr (λx=>x=fb) ae Z) [0,2,3,4,5,6,7,8,9,10,11,14,15] [16,17,18,19] 16 17 (.pure 0 (.free 1 (.pure 2 (.pure 3 (.pure 4 (.pure 5 (.pure 6 (.pure 7 (.pure 8 (.pure 9 (.pure 10 (.pure 11 (.free 12 (.free 13 (.pure 14 (.pure 15 (.put 16 (.tail 17)))))))))))))))))) mixed AR (Aa Ag) ?_)));intro bs bi _;have bt:(λZ=>Ext ae Z) bs:=bi;simp only at bt;have au:(λZ=>Fr (λx=>x=fb) ae Z) bs:=mt bi;simp only at au;have bq:=h;have ap:=bc;have N:=G;have ba:=U;revert G U Y F;refine eE bi ?_;intro G U Y F;refine Ao Af rfl (Aw rfl) rfl (Bl Af rfl (Aw rfl) rfl (Ao Af rfl (Aw rfl) rfl (Ao Af rfl (BH rfl) rfl (Ao Af rfl (Cs Ac rfl rfl rfl) rfl (Ao Af rfl (Ar Ac rfl rfl rfl (λZ hz=>mE (mw (Win.blk N) hz) rfl)) rfl ?_)))))
    refine Ao Af rfl (Aw rfl) rfl (Ao Af rfl (Dn Ac rfl rfl rfl rfl al bf) rfl (Ao Af rfl (Aw rfl) rfl (Ao Af rfl (BH rfl) rfl (Ao Af rfl (A1 Ac rfl rfl rfl) rfl (Ao Af rfl (Ar Ac rfl rfl rfl (λZ hz=>Row.at (mw (Win.blk N) hz) rfl)) rfl (Bl Af rfl (Aw rfl) rfl (Bl Af rfl (Dn Ac rfl rfl rfl rfl al bg) rfl (Ao Af rfl (BH rfl) rfl (Ao Af rfl (Cs Ac rfl rfl rfl) rfl (Du rfl (Fb fb fo [_,_,_] Ac rfl rfl rfl rfl rfl rfl Af rfl rfl) (BK ?_)))))))))));rintro _ cl ⟨cm,ah,cn⟩;replace au:=au.fr ah Ab;replace U:=mO U ah (λk M O=>aa k M O);replace Y:=mO Y ah (λk M O=>ab k M O);replace F:=F.fr ah Ab;refine ⟨Af,(Dt rfl (C1 Pn (C1 Pf (A9 (Cp fb fo 1 [_,_,_] Ac rfl rfl rfl rfl rfl rfl Af rfl rfl) (BK ?_)))))⟩;rintro _ co ⟨bu,aw,cp⟩;replace U:=mO U aw (λk M O=>aa k M O)
    replace Y:=mO Y aw (λk M O=>ab k M O);replace F:=F.fr aw Ab;refine cN (C1 Mv (C1 Pn (C1 Pf (Dh Ac rfl rfl rfl (Win.blk bu) rfl rfl (C1 (AL rfl rfl (gG _ Ab)) (C1 Pn (C1 Pf (A9 (Cp fb fo 2 [_,_,_] Ac rfl rfl rfl rfl rfl rfl Af rfl rfl) (BK ?_)))))))));rintro _ cq ⟨cr,ax,ct⟩;replace U:=mO U ax (λk M O=>aa k M O);replace Y:=mO Y ax (λk M O=>ab k M O);replace F:=F.fr ax Ab;refine cN (C1 Pa (cT (AU (AW rfl rfl ?_))));rotate_left;refine Im (Im (Im (AP rfl rfl rfl (rfl) (C1 MU (C1 (Bu rfl rfl rfl) (cT (AO rfl (Am (Ai (Aj (Mq (λZ=>Ext ae Z) (λZ=>Fr (λx=>x=fb) ae Z) [0,2,3,4,5,6,7,8,9,10,11,14,15] [16,17,18,19] 16 17 (.pure 0 (.free 1 (.pure 2 (.pure 3 (.pure 4 (.pure 5 (.pure 6 (.pure 7 (.pure 8 (.pure 9 (.pure 10 (.pure 11 (.free 12 (.free 13 (.pure 14 (.pure 15 (.put 16 (.tail 17)))))))))))))))))) mixed AR (Aa Ag) ?_)))))))))));intro bb ay _;have bj:(λZ=>Ext ae Z) bb:=ay;simp only at bj;have af:(λZ=>Fr (λx=>x=fb) ae Z) bb:=mt ay;simp only at af;have bq:=h;have ap:=bc;have N:=G;have ba:=U;revert G U Y F;refine eE ay ?_
    intro G U Y F;refine Ao Af rfl (Aw rfl) rfl (Bl Af rfl (Aw rfl) rfl (Ao Af rfl (Aw rfl) rfl (Ao Af rfl (BH rfl) rfl (Ao Af rfl (Cs Ac rfl rfl rfl) rfl (Ao Af rfl (Ar Ac rfl rfl rfl (λZ hz=>mE (mw (Win.blk N) hz) rfl)) rfl (Ao Af rfl (Aw rfl) rfl (Ao Af rfl (Dn Ac rfl rfl rfl rfl al bf) rfl (Ao Af rfl (Aw rfl) rfl (Ao Af rfl (BH rfl) rfl (Ao Af rfl (A1 Ac rfl rfl rfl) rfl (Ao Af rfl (Ar Ac rfl rfl rfl (λZ hz=>Row.at (mw (Win.blk N) hz) rfl)) rfl (Bl Af rfl (Aw rfl) rfl ?_))))))))))));refine Bl Af rfl (Dn Ac rfl rfl rfl rfl al bg) rfl (Ao Af rfl (BH rfl) rfl (Ao Af rfl (Cs Ac rfl rfl rfl) rfl (Du rfl (Fb fb fo [_,_,_] Ac rfl rfl rfl rfl rfl rfl Af rfl rfl) (BK ?_))));rintro _ cu ⟨cw,aj,cx⟩;replace af:=af.fr aj Ab;replace U:=mO U aj (λk M O=>aa k M O)
    replace Y:=mO Y aj (λk M O=>ab k M O);replace F:=F.fr aj Ab;refine ⟨Af,(Dt rfl (C1 Pn (C1 Pf (A9 (Cp fb fo 1 [_,_,_] Ac rfl rfl rfl rfl rfl rfl Af rfl rfl) (BK ?_)))))⟩;rintro _ cy ⟨bv,az,cz⟩;replace U:=mO U az (λk M O=>aa k M O);replace Y:=mO Y az (λk M O=>ab k M O);replace F:=F.fr az Ab;refine cN (C1 Mv (C1 Pn (C1 Pf (Dh Ac rfl rfl rfl (Win.blk bv) rfl rfl (C1 (AL rfl rfl (gG _ Ab)) (C1 Pn (C1 Pf (A9 (Cp fb fo 2 [_,_,_] Ac rfl rfl rfl rfl rfl rfl Af rfl rfl) (BK ?_)))))))));rintro _ c0 ⟨c1,a0,c2⟩;replace U:=mO U a0 (λk M O=>aa k M O);replace Y:=mO Y a0 (λk M O=>ab k M O);replace F:=F.fr a0 Ab;refine cN (C1 Pa (cT (AU (AW rfl rfl ?_))));rotate_left
   . rw [AT (gB ⟨Af,Ab⟩)]
     exact StR.same Af X
   . rw [AC (λh=>by rcases h with ⟨h,-⟩|⟨-,h⟩;exact absurd h Af;omega)]
     exact ad.out _ F Af Af Af
   . rw [AC (λh=>by rcases h with ⟨h,-⟩|⟨h,-⟩;exact absurd h Af;exact absurd h Af)]
     exact ad.out _ F Af Af Af
end
section
variable {K:List (Int×Int)} {m:Nat}
def StoreAt.newCell (h:StoreAt ρ κ w sb st) (M:CellAt ρ κ w st.heap.length xs):StoreAt ρ κ w sb { st with heap:=st.heap++[xs] }:=by
 obtain ⟨N,O,U,V⟩:=h;refine ⟨N,O,U,λc ys G=>?_⟩;simp only at G;rcases lC c st.heap.length with h|h|h
 . rw [gN h] at G;exact V c ys G
 . subst h;rw [gU (gP _)] at G;simp only [kp,gX,gE] at G;subst G;exact M
 . rw [gM (by simp;omega)] at G;cases G
def KW (st:Stp) (f:Frm):(st.setCur f).heap=st.heap:=by
 unfold mX;split<;>rfl
def Stp.WF.cells_lt (h:st.WF K m) (G:f∈st.base::st.calls) {c:Nat} (M:c∈f.cells):c<st.heap.length:=by
 rw [h.len];exact (h.all' f G).lt M
def WD {N:Nat} {vc:Value} {v:VD} {κ':Nat->Nat} {ρ':Nat->Rl} {cb:Nat} (hw:st.WF K m) (G:QE ρ κ w sb st N n cs us T) (M:ρ N = .store\/ρ N = .calls) (hκ:∀c,c≠st.heap.length->κ' c=κ c) (O:κ' st.heap.length=cb) (hr:Ro ρ ρ' w) (Y:Fresh ρ' w') (x:Fr (Fc ρ st.calls.length N) w w')
 (U:Win w' N n [vv,vc,.int .i64 ((st.cur.locals:Int)+1)] cs us T) (V:FrameOk ρ' κ' w' st.calls.length ⟨st.cur.vars++[v],st.cur.cells++[st.heap.length],st.cur.locals⟩ vv vc) (Z:ρ' cb = .cell st.heap.length) (X:∃u,Blk w' cb [u]/\OwnR ρ' (.items st.heap.length) w' u xs) :
 StR ρ sb { st.setCur ⟨st.cur.vars++[v],st.cur.cells++[st.heap.length],st.cur.locals+1⟩ with heap:=st.heap++[xs] } 0 w (.returned (.int .i64 0)) w':=by
 have h1:=G ρ' κ' w' ⟨st.cur.vars++[v],st.cur.cells++[st.heap.length],st.cur.locals+1⟩ vv vc hr Y (λf V c X=>hκ c (by have:=hw.cells_lt V X;omega)) (λc X=>hκ c Ab) x (by simpa using U) ⟨V.v,V.c⟩;have h2:=h1.newCell (xs:=xs) (by
  rw [KW];exact ⟨by rw [O];exact Z,by rw [O];exact X⟩)
 rw [KW] at h2;refine ⟨ρ',κ',rfl,hr,h2,x.weaken (λk hk=>?_)⟩;rcases hk with rfl|h|h
 . rcases M with h|h<;>rw [h]<;>trivial
 . rw [h];trivial
 . rw [h];trivial
def FB (ρ:Nat->Rl) (n cb ib:Nat):Nat->Rl:=λb=>if b=cb then .cell n else if b=ib then .items n else ρ b
def O6 (κ:Nat->Nat) (n cb:Nat):Nat->Nat:=λc=>if c=n then cb else κ c
def QM {j N:Nat} {vc:Value} (hf:FrameOk ρ κ w j f vv vc) (V:Fresh ρ w) (Y:N<w.heap.size) (U:ρ N = .store\/ρ N = .calls) (Z:∀c∈f.cells,c≠n) (w1:wD) (cb G:Nat) (X:Ext w w1) (aa:w.heap.size<=cb) (ab:w.heap.size<=G) (h4:cb<w1.heap.size) (h5:G<w1.heap.size) :
 FrameOk (FB ρ n cb G) (O6 κ n cb) w1 j f vv vc/\(FB ρ n cb G N≠.vars j/\FB ρ n cb G N≠.cels j)/\Fresh (FB ρ n cb G) w1/\(∀k,Fc (FB ρ n cb G) j N k->Fc ρ j N k\/w.heap.size<=k) /\ ¬Fc (FB ρ n cb G) j N cb /\ ¬Fc (FB ρ n cb G) j N G:=by
 have e:∀b,b<w.heap.size->FB ρ n cb G b=ρ b:=λb hb=>by unfold FB;rw [AC Ab,AC Ab]
 have e1:FB ρ n cb G cb = .cell n:=by unfold FB;rw [AT rfl]
 have O:FB ρ n cb G G = .cell n\/FB ρ n cb G G = .items n:=by
  unfold FB;by_cases h:G=cb
  . rw [AT h];exact gA rfl
  . rw [AC h,AT rfl];exact gB rfl
 refine ⟨hf.move (Fr.none X) (λ_ h=>h.elim) e (λc hc=>AC (Z c hc)),?_,λb hb=>?_,λk M=>?_,λM=>?_,λM=>?_⟩
 . rw [e _ Y];rcases U with h|h<;>rw [h]<;>exact ⟨AQ,AQ⟩
 . unfold FB;rw [AC Ab,AC Ab];exact V b Ab
 . rcases gQ k w.heap.size with h|h
   . left;unfold Fc at M ⊢;rw [e k h] at M;exact M
   . exact gB h
 . unfold Fc at M;rw [e1] at M;rcases M with h|h|h
   . omega
   . cases h
   . cases h
 . unfold Fc at M;rcases M with h|h|h
   . omega
   . rcases O with O|O<;>rw [O] at h<;>cases h
   . rcases O with O|O<;>rw [O] at h<;>cases h
def aR (hw:st.WF K m) (hm:m<=100000) (v:VD) (hk:v.kind=1\/v.kind=3) (hl:v.len=0) (x:Int) (w:wD) (h:StoreAt ρ κ w sb st) :
 Calls prog 192 #[.pointer (some ⟨sb,0,none⟩),v.val,.int .i64 x] w (StR ρ sb (st.opens v x).2 (st.opens v x).1 w):=by
 have X:=Ne w;have co:=hw.nc;have cp:=hw.curm;have az:=hw.cur;have bu:=az.len;have bv:=az.loc;obtain ⟨fb,fo,pre,post,T,vv,vc,N,af,M,hf,an⟩:=h.open;have HC:=fZ (λw1 h=>Eu fb fo st.calls.length sb Ab w1 h);obtain ⟨av,cv,rfl,O⟩:=GQ (S:=λ_=>True) hf.v.1 (λ_ _=>trivial);have hF:=λw1 h1 h2=>Mm st.cur.vars Ab v.name (λ_=>True) av cv vc (.int .i64 st.cur.locals) fb fo w1 h1 h2
 obtain ⟨vn,vk,vl⟩:=v;simp only at hk hl hF;subst hl;change Calls prog _ #[_,.agg #[str vn,.int .u8 vk,.int .i64 0],_] w _;cases hi:Cu vn st.cur.vars with
 | some i=>
  have e:st.opens ⟨vn,vk,0⟩ x=(22,st):=by unfold Stp.opens;rw [AT (by simp [hi])]
  rw [show CI st.cur.vars vn=(i:Int) by unfold CI;rw [hi]] at hF;have hF:=fZ hF;rw [e];have G:=M.blk;generalize st.cur.vars=vs at *;refine Ad func192 ntmps192 rfl rfl ?_
  focus
   refine cS (eB [_,_,_] ?_);intro b1 w2 h4 x5 p6 z7;revert h X N O G;refine eE x5 ?_;intro h X N O G;refine eK ?_;refine C1 (A2 Ac rfl rfl) (eK ?_);refine B4 rfl rfl rfl (λc8=>?_) (λc8=>?_);refine kC (HC.out _ Af) ?_;rintro _ cq ⟨⟨⟩,x9⟩;revert h4 h X N O G;refine eY x9 ?_;intro cr h4 h X N O G;refine kC (hF.out _ Af Af) ?_;rintro _ ct ⟨⟨⟩,bg⟩;revert h4 h X N O G;refine eY bg ?_;intro cu h4 h X N O G;refine kR ?_;rotate_left;refine kC (HC.out _ Af) ?_;rintro _ cw ⟨⟨⟩,bh⟩;revert h4 h X N O G;refine eY bh ?_;intro cx h4 h X N O G;refine kC (hF.out _ Af Af) ?_;rintro _ cy ⟨⟨⟩,bi⟩;revert h4 h X N O G;refine eY bi ?_;intro cz h4 h X N O G;refine kR ?_;rotate_left
  . exact StR.same Af X
  . exact StR.same Af X
 | none=>
  rw [show CI st.cur.vars vn = -1 by unfold CI;rw [hi]] at hF;have hF:=fZ hF;have e:st.opens ⟨vn,vk,0⟩ x=(0,{ st.setCur ⟨st.cur.vars++[⟨vn,vk,0⟩],st.cur.cells++[st.heap.length],st.cur.locals+1⟩ with heap:=st.heap++[if vk=1 then [x] else []] }):=by unfold Stp.opens;rw [AC (by simp [hi])]
  rw [e];have aq:=fZ (λxs κ' ρ' w' vv vc cb=>WD (v:=⟨vn,vk,0⟩) (xs:=xs) (κ':=κ') (ρ':=ρ') (w':=w') (vv:=vv) (vc:=vc) (cb:=cb) hw an af);have c0:=fZ h.fresh;have bj:fb<w.heap.size:=M.1.blk.lt;have G:=M.blk;have F:=mx (Fc ρ st.calls.length fb) w;have HA:=fZ (λw1 cb ib X bk bl h4 h5=>QM (κ:=κ) (n:=st.heap.length) hf h.fresh bj af (λc hc=>by have:=hw.cells_lt (OP st) hc;omega) w1 cb ib X bk bl h4 h5);rcases hk with rfl|rfl
  . refine Ad func192 ntmps192 rfl rfl ?_;refine cS (K8 rfl rfl rfl ?_);intro c1 c2 au U;have bm:=au.ext;have c3:=au.pos;have c4:=au.size;revert X N O M G F;refine eE bm ?_;intro X N O M G F;refine eK ?_;refine C1 (A2 Ac rfl rfl) (cT (AO rfl (Am (Ai (Aj (cS (C1 Pf (C1 (Pl (nw U)) (C1 V2 (C1 Mv (XV (XV (XV (C1 ZO (C1 Mv (AP rfl rfl rfl (rfl) (C1 Pf (AP rfl rfl rfl (rfl) (C1 (Pl (nw U)) (kC (HC.out _ Af) ?_))))))))))))))))))));rintro _ c5 ⟨⟨⟩,bn⟩;revert U X N O M G F;refine eY bn ?_;intro bw U X N O M G F;refine C1 Pa (cT (Aj (cS (C1 Mv (C1 Pg (C1 (Pl (nw U)) (cC rfl (hF.out _ Af Af) ?_)))))));rintro _ bx ⟨⟨⟩,a0⟩;revert U X N O M G F;refine eY a0 ?_;intro bz U X N O M G F;refine eK ?_;refine C1 (xB [_]) (K8 rfl rfl rfl ?_);intro aa b0 ag ah;have a1:=ag.ext;have b2:=ag.pos;have b3:=ag.size;revert U X N O M G F;refine eE a1 ?_;intro U X N O M G F;refine C1 Pa (cT (Aj (cS (C1 Pf (C1 (Pl (nw U)) (eK ?_))))));refine Az (xS [_]) rfl ?_ aFh;rintro _ b4 ⟨ar,rfl,ai,a2⟩;have Y:TB _ _ _ _:=a2;have a3:=ai.ext;have b5:=ai.pos;have b6:=ai.size;revert ah U X N O M G F;refine eE a3 ?_;intro ah U X N O M G F;refine eK ?_;refine JS [_] [_] Ac rfl rfl rfl rfl rfl rfl (nw ah) rfl rfl ?_;intro a4 aj;have ab:=aj.blk;have ak:=aj.fr;have b7:=aj.size;have Y:=Y.fr ak Ab;revert U X;refine eF ak ?_;intro U X;revert M G F;refine eF ak ?_;intro M G F;refine cT ?_
    obtain ⟨k1,k2,k3,k4,k5,k6⟩:=HA.out a4 aa ar X Ab Ab Ab Ab;have al:=fZ (λw1 h1 h2 h3=>Tg (κ:=O6 κ st.heap.length aa) st.cur ⟨vn,1,0⟩ st.heap.length fb fo pre post T (.slice av st.cur.vars.length cv) vc (.int .i64 st.cur.locals) w1 h1 h2 k2 h3 Ab Ab);have k3:=fZ k3;rw [show JP (O6 κ st.heap.length aa) st.heap.length = .pointer (some ⟨aa,0,none⟩) by unfold JP O6;rw [AT rfl]] at al;refine eK ?_;refine AH [_,_,_] Ac rfl rfl rfl (nw U) rfl rfl rfl (C1 Mv (eQ rfl (al.out _ k1 M k3.out) ?_));rintro _ c6 ⟨b8,b9,a5,⟨⟩,ao,bo,bp,a6,ap⟩;have ca:=ap.size;have ab:=mu ab ap (k5);have Y:=TB.fr Y ap (k6);have F:=mB F ap (k4);refine eK ?_;refine Dh Ac rfl rfl rfl (Win.blk bp) rfl rfl (eK ?_);refine A9 (Cp fb fo 2 [_,_,_] Ac rfl rfl rfl rfl rfl rfl Af rfl rfl) (BK ?_);rintro _ a7 ⟨a8,ad,cc⟩;have cd:=ad.size;have a6:=FrameOk.fr a6 ad (λk hk=>by (rw [show k=fb from hk,ao fb Ab];exact k2));revert ab Y;refine eF ad ?_;intro ab Y;have F:=mB F ad (λk hk=>gA (gA hk));refine kR ?_;refine aq.out [x] (O6 κ st.heap.length aa) a5 a7 _ _ aa (λc hc=>AC hc) (AT rfl) (λb hb=>?_) (λb hb=>bo b Ab) F a8 Af ?_ ⟨_,ab,OwnI.mk (xs:=[x]) (zs:=[]) (gI _) (by exact Y) Rv,λk hk=>?_⟩
    . rw [ao b Ab];unfold FB;rw [AC Ab,AC Ab]
    . rw [ao _ Ab];exact AT rfl
    . obtain rfl:=gJ (show some ar=some k from hk);rw [ao _ Ab];unfold FB;rw [AC Ab,AT rfl]
  . refine Ad func192 ntmps192 rfl rfl ?_;refine cS (K8 rfl rfl rfl ?_);intro c7 c9 aw V;have bq:=aw.ext;have da:=aw.pos;have db:=aw.size;revert X N O M G F;refine eE bq ?_;intro X N O M G F;refine eK ?_;refine C1 (A2 Ac rfl rfl) (cT (AO rfl (Am (Ai (Aj (cS (C1 Pf (C1 (Pl (nw V)) (C1 V2 (C1 Mv (Pc (C1 Pf (Pc (C1 (Pl (nw V)) (Pc (C1 V2 (C1 ZN (C1 Mv (dZ (C1 Pf (dZ (C1 (Pl (nw V)) (kC (HC.out _ Af) ?_)))))))))))))))))))))));rintro _ dc ⟨⟨⟩,br⟩;revert V X N O M G F;refine eY br ?_;intro ce V X N O M G F;refine C1 Pa (cT (Aj (cS (C1 Mv (C1 Pg (C1 (Pl (nw V)) (cC rfl (hF.out _ Af Af) ?_)))))));rintro _ cf ⟨⟨⟩,a9⟩;revert V X N O M G F;refine eY a9 ?_;intro cg V X N O M G F;refine eK ?_;refine C1 (xB [_]) (K8 rfl rfl rfl ?_);intro Z ba am ac;have bb:=am.ext;have ch:=am.pos;have ci:=am.size;revert V X N O M G F;refine eE bb ?_;intro V X N O M G F;refine C1 Pa (cT (Aj (cS (C1 Pf (C1 (Pl (nw V)) (eK ?_))))));obtain ⟨k1,k2,k3,k4,k5,k6⟩:=HA.out ba Z Z X Ab Ab Ab Ab;have al:=fZ (λw1 h1 h2 h3=>Tg (κ:=O6 κ st.heap.length Z) st.cur ⟨vn,3,0⟩ st.heap.length fb fo pre post T (.slice av st.cur.vars.length cv) vc (.int .i64 st.cur.locals) w1 h1 h2 k2 h3 Ab Ab);have k3:=fZ k3;rw [show JP (O6 κ st.heap.length Z) st.heap.length = .pointer (some ⟨Z,0,none⟩) by unfold JP O6;rw [AT rfl]] at al
    refine eK ?_;refine AH [_,_,_] Ac rfl rfl rfl (nw V) rfl rfl rfl (C1 Mv (eQ rfl (al.out _ k1 M k3.out) ?_));rintro _ dd ⟨cj,ck,bc,⟨⟩,ax,bs,bt,bd,ay⟩;have cl:=ay.size;have ac:=TB.fr ac ay (k5);have F:=mB F ay (k4);refine eK ?_;refine Dh Ac rfl rfl rfl (Win.blk bt) rfl rfl (eK ?_);refine A9 (Cp fb fo 2 [_,_,_] Ac rfl rfl rfl rfl rfl rfl Af rfl rfl) (BK ?_);rintro _ be ⟨bf,ae,cm⟩;have cn:=ae.size;have bd:=FrameOk.fr bd ae (λk hk=>by (rw [show k=fb from hk,ax fb Ab];exact k2));have ac:=ac.fr ae Ab;have F:=mB F ae (λk hk=>gA (gA hk));refine kR ?_;refine aq.out [] (O6 κ st.heap.length Z) bc be _ _ Z (λc hc=>AC hc) (AT rfl) (λb hb=>?_) (λb hb=>bs b Ab) F bf Af ?_ ⟨_,ac.blk,OwnI.nil,λk hk=>(kO _ hk.symm).elim⟩
    . rw [ax b Ab];unfold FB;rw [AC Ab,AC Ab]
    . rw [ax _ Ab];exact AT rfl
end
end Bk
