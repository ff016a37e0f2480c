/- Texts that the proofs of GradebookAll need. No condition. (Part 3 of 6.) -/
import Derived.Test.YteiiipaobncfgaaGreatPGam2
set_option linter.unusedSimpArgs false
set_option linter.unusedVariables false
set_option linter.defProp false
set_option maxRecDepth 100000
set_option maxHeartbeats 4000000
open Go.Proofs.Tryz
open Or renaming inl->iG,inr->iH
open Go.Result renaming andThen->iP
open Except renaming bind->i6
open Go renaming Calls->i9
open Go.Value renaming slice->jf,int->jz,ownBlock->km
open Nat renaming blt->jg,ble->jW,beq->ke
open Go.Region renaming ready->jj,binds->jN
open List renaming replicate->jn,range->jQ
open Go.Builtin renaming zeroCells->jG
open Go.IntKind renaming wrap->jP
open Array renaming replicate->jZ
open Go.Oper renaming wp->kh
open Go.Addr renaming add->ki
open Go.Sem renaming run->kG
namespace Bk
abbrev nt:=@SV.sits.fr
abbrev nx:=@OwnI.fr
abbrev nA:=@OwnQ.nil
abbrev nC:=@SV.sits.wide
abbrev nE:=@OwnQ.fr
abbrev nF:=@Keeps.of_fr
abbrev nI:=@IntsAt.at
end Bk
open Bk.Nd renaming size->mR
open Bk.Value renaming one->mW
namespace Bk
open Go Go.RowKit
section
variable {P:Program} {n:Nat} {l:Sl} {S:wD->Prop} {tab:Tab} {zt:EA} {ty:TypeId} {w:wD}
def QZ {x y z:Operand} {t e M sz len cap:Nat} {sE:Sk} {a:oA} {k N:IntKind} (T:TabOk P tab) (Y:AD tab t=some (.slice e,M)) (Z:AD tab e=some (sE,sz)) (hx:ev l x=some (.slice a len cap)) (hy:ev l y=some (.int k (len:Int))) (hz:ev l z=some (.int N (len:Int))) (hm:len<=cap) :
 Br P n l S (.slice t x none (some y) (some z)) ty (.slice a len len):=by
 unfold Br;intro aa w ab pos after g O _;have V:P.underlying t=some (.slice e):=(T _ _ _ Y).under;have h:P.elem t=e:=by simp [Program.elem,V]
 have G:P.underlying t=some (.slice (P.elem t)):=by rw [h];exact V
 obtain ⟨i,hi,hs⟩:=(T _ _ _ Z).info;have U:(Go.sizeOf e).run P w = .ok sz w:=by simp [Go.sizeOf,typeInfo,program,kG,bind,Sem.bind,pure,hi,hs]
 have h1:(Instr.sliceAt t (.slice a len cap) none (some (.int k (len:Int))) (some (.int N (len:Int)))).run P w = .ok (.slice a len len) w:=by
  rw [run_sliceAt_slice w t _ _ _ _ G,run_slice_hm w t a len cap G k N len len Ab Ab Ab];rw [h,U];simp only [iP,sliced,Int.toNat_natCast,kD,lQ];by_cases X:len=0
  . rw [AG X]
  . rw [At X];cases a<;>simp [ki]
 simp [execOp,O.ev hx,O.ev hy,O.ev hz,iV,h1,iP]
def C7 {x y:Operand} {t e sz1 sz m cap:Nat} {sE:Sk} {zs:lV} {a:oA} {p:Addr} {cs us:lV} {R:nP} (T:TabOk P tab) (Z:Ct P zt) (ht:AD tab t=some (.slice e,sz1)) (hE:AD tab e=some (sE,sz)) (hz:CS zt e=some zs) (hzl:zs.length=sz)
 (hby:Dt P e=true) (hsz:jg 0 sz=true) (hx:ev l x=some (.slice a m m)) (hy:ev l y=some (.slice (some p) 1 cap)) (hs:Rows R w cs a) (hcl:cs.length=m*sz) (hr:Row w p us) (hul:us.length=1*sz) (hu:us.all mW=true) (hm:m<=1000000000) :
 BG P n l (.call ⟨.builtin .append,#[x,y],#[t,t]⟩) ty w (Ge λo w'=> ∃g cap',o = .slice (some ⟨g,0,none⟩) (m+1) cap'/\m+1<=cap'/\Row w' ⟨g,0,none⟩ (cs++us)/\w.heap.size<=g/\g<w'.heap.size/\Ext w w'):=by
 obtain ⟨i,v0,z1,z2,z3⟩:=E8 Z hz;obtain ⟨i',hi',hs'⟩:=(T _ _ _ hE).info;rw [z1] at hi';obtain rfl:=iQ hi';have hbb:i.bytes<=1000:=by
  unfold Dt at hby;rw [z1] at hby;exact jc hby
 have hzs:v0.cells.size=sz:=by rw [z3];simpa using hzl
 have hsz':0<sz:=jc hsz;have hbytes:(m+1)*i.bytes<=140737488355328:=by have:=mC (show m+1<=1000000001 by omega) hbb;omega
 have hnews:∀j u,us[j]? = some u->w.cell? (p.add j)=some u:=λj u hj=>hr j u hj
 have hu':P.underlying t=some (.slice e):=(T _ _ _ ht).under;have c:m+1<=maxLen:=by unfold maxLen;omega
 have key:∃g cap' w',(Builtin.append_ #[t,t] ty #[.slice a m m,.slice (some p) 1 cap]).run P w = .ok (.slice (some ⟨g,0,none⟩) (m+1) cap') w'/\m+1<=cap'/\Row w' ⟨g,0,none⟩ (cs++us)/\w.heap.size<=g/\g<w'.heap.size/\Ext w w':=by
  have fin:∀(v':Value) (w':wD),w'.ownsRow w.heap.size e sz v' (m+1) (cs++us)->w.grownBy w' none -> ∃g cap',v' = .slice (some ⟨g,0,none⟩) (m+1) cap'/\m+1<=cap'/\Row w' ⟨g,0,none⟩ (cs++us)/\w.heap.size<=g/\g<w'.heap.size/\Ext w w':=λv' w' h1 h2=>by
   have ho:Own w' w.heap.size e sz v' (m+1) (cs++us):=h1;have hx:Ext w w':=⟨h2.os,h2.tape,h2.output,h2.size,λk hk=>h2.block k hk AN⟩
   rcases ho.row with ⟨-,h0,-⟩|⟨g,cap',rfl,hg,hob,hrr⟩
   . omega
   . exact ⟨g,cap',rfl,T3 ho,hrr,hg,(ho.blk hob).2,hx⟩
  cases a with
  | some b=>
   obtain ⟨v',w',hrun,h1,h2⟩:=run_append_arg_grows (P:=P) w t ty e i v0 sz i.bytes hu' z1 z2 hs' rfl hzs hsz' b m m cs hcl (λj u hj=>by
    rcases hs with rfl|⟨b',o,hb,-,hrow⟩
    . simp at hj
    . obtain rfl:=iQ hb;exact hrow j u hj) p 1 cap us hul hnews Ab c hbytes
   obtain ⟨g,cap',rfl,k⟩:=fin v' w' h1 h2;exact ⟨g,cap',w',hrun,k⟩
  | none=>
   have d:cs=[]:=by
    rcases hs with rfl|⟨b',o,hb,-⟩
    . rfl
    . cases hb
   subst d;have f:m=0:=by
    simp only [ji] at hcl;rcases mr m with h|h
    . exact h
    . have:=Nat.mul_pos h hsz';omega
   subst f;have h1c:∀u∈us,u.oneCell'=true:=λu hm=>by rw [<-TO];exact jr.1 hu u hm
   obtain ⟨v',w',hrun,h1,h2,-⟩:=run_append_own (P:=P) w w.heap.size t ty e i v0 sz i.bytes hu' z1 z2 hs' rfl hzs hsz' (.slice none 0 0) 0 [] nB p 1 cap us hul hnews h1c (by unfold maxLen;omega) (by simpa using hbytes) (iW _);obtain ⟨g,cap',rfl,k⟩:=fin v' w' (by simpa using h1) (by simpa [km] using h2);exact ⟨g,cap',w',hrun,k⟩
 obtain ⟨g,cap',w',hrun,k⟩:=key;unfold BG;intro act dst pos after gd next Q ha hn _;have e1:(execOp act.eval ⟨dst,.call ⟨.builtin .append,#[x,y],#[t,t]⟩,ty,pos,after,gd⟩).run P w = .ok (.value (.slice (some ⟨g,0,none⟩) (m+1) cap')) w':=by
  simp only [execOp,resolve,invoke,builtin,iV,je,jV,lY,jo,lw,ha.ev hx,ha.ev hy,hrun]
 unfold kh;rw [e1];exact hn _ _ ⟨g,cap',rfl,k⟩
end
open Go.Proofs
variable {G c:Nat} {w w':wD} {l:List PD} {S:nP} {v:Value} {a:oA}
def KN:(prog.fieldsOf 77).toList.map (λf=>(f.name == "_",f.type,f.offset))=[(false,9,0),(false,5,1),(false,3,2)]:=by kernel_rfl
def Q0:prog.underlying 77=some (.struct (prog.fieldsOf 77)):=by kernel_rfl
def Q1:prog.stoodInHeld 77=false:=by kernel_rfl
def Q2:prog.eqGuardType prog.depth 77=false:=by kernel_rfl
def IX {P:Program} {d:Nat} {xs:Array Value} {w:wD}:∀(G:List Field),(∀f∈G,∃v,(part f.type xs f.offset).run P w = .ok v w/\(Op.equalIn d f.type v v).run P w = .ok true w)->(Op.eqFields d xs xs G).run P w = .ok true w
 | [],_=>by simp [Op.eqFields]
 | f::G,h=>by
  obtain ⟨v,N,O⟩:=h f jx;have M:=IX (P:=P) (d:=d) (xs:=xs) (w:=w) G (λg U=>h g (js _ U));unfold Op.eqFields;split
  . simp only [iV,N,O,jV,mE,jv,if_false,M]
  . exact M
def Er {P:Program} {tab:Tab} {t sz h:Nat} {s:Sk} {cs:lV} (T:TabOk P tab) (G:AD tab t=some (s,sz)) (M:s.agg=false) (N:cs[h]? = some v) (w:wD):(part t cs.toArray h).run P w = .ok v w:=by
 simp [part,iV,CB (T _ _ _ G),M,iP,N]
def Q3 (v:VD) (w:wD):(Op.equalIn 10000 77 v.val v.val).run prog w = .ok true w:=by
 rw [show (10000:Nat)=9999+1 from rfl,run_equalIn_agg w 9999 _ _ _ Q0 Q1];refine IX _ (λf N=>?_);have M:(f.name == "_",f.type,f.offset)∈(prog.fieldsOf 77).toList.map (λf=>(f.name == "_",f.type,f.offset)):=List.mem_map.2 ⟨f,N,rfl⟩;rw [KN] at M;simp only [iU,jB,or_false,lC] at M
 rcases M with ⟨-,h,G⟩|⟨-,h,G⟩|⟨-,h,G⟩
 . rw [h,G]
   refine ⟨str v.name,Er (cs:=v.cells) Ac rfl rfl rfl w,?_⟩
   rw [run_equalIn_string w 9998 _ _ _ (show prog.underlying 9=some .string from (Ac 9 .str 1 rfl).under)];simp
 . rw [h,G]
   refine ⟨.int .u8 v.kind,Er (cs:=v.cells) Ac rfl rfl rfl w,?_⟩
   rw [run_equalIn_int w 9998 _ _ .u8 _ _ (show prog.underlying 5=some (.int .u8) from (Ac 5 (.int .u8) 1 rfl).under)];simp
 . rw [h,G]
   refine ⟨.int .i64 v.len,Er (cs:=v.cells) Ac rfl rfl rfl w,?_⟩
   rw [run_equalIn_int w 9998 _ _ .i64 _ _ (show prog.underlying 3=some (.int .i64) from (Ac 3 (.int .i64) 1 rfl).under)];simp
def Vr {n:Nat} {l:Sl} {S:wD->Prop} {ty t':TypeId} {x y:Operand} {v:VD} (G:ev l x=some v.val) (M:ev l y=some v.val):Br prog n l S (.binOp .neq 77 x y t') ty (.bool false):=by
 unfold Br;intro a w N pos after g h _;have O:=run_eqGuard_agg (P:=prog) w .neq 77 x y v.cells.toArray v.cells.toArray Q2;have U:(binOp .neq 77 v.val v.val).run prog w = .ok (.bool false) w:=by
  rw [run_neq_struct,Q3];rfl
 simp only [execOp,h.ev G,h.ev M,iV,O,U,jV,je]
attribute [local irreducible] Go.Calls
def PDs.ltA (h:PDs S w l a):PDs (· < w.heap.size) w l a:=by
 rcases h with h|⟨b,o,N,h2,M⟩
 . exact iG h
 . cases l with
   | nil=>exact iG rfl
   | cons v r=>
    obtain ⟨_,_,_,_,G,-,-⟩:=M 0 v rfl;refine iH ⟨b,o,N,Cs (mO G rfl),λi x O=>?_⟩;obtain ⟨U,V,X,Y,G,Z,hs⟩:=M i x O;exact ⟨U,V,X,Y,G,Z.lt2.wide (λ_ h=>h.2),Cd _ _ hs⟩
structure PG.few (g:PG):Prop where
 nv:g.vars.length<=1000000
 np:g.procs.length<=1000000
 main:g.main.size<=1000000
 procs:∀p∈g.procs,p.params.length<=1000000/\p.body.size<=1000000
def PK (l:List VD) (V:l.length<=1000000) (s:lB) (S:nP) (a:oA) (c:Nat) (w:wD) (G:VDs S w l a) :
 Calls prog 105 #[.slice a l.length c,str s] w λe w'=>e = .returned (.int .i64 (Fg l s))/\Ext w w':=by
 have X:=Ne w;have M:=iF (PJ l V s);unfold Fg;generalize Eb l s=o at *;cases o with
 | none=>
  dsimp only [Option.isSome,Option.getD] at M ⊢;refine Ad func105 ntmps105 rfl rfl (kC (M.out _ _ _ _ Ae) ?_);rintro _ w2 ⟨⟨⟩,Y⟩;revert G X;refine eE Y ?_;intro G X;refine eK ?_;refine xA [_,_,_] ?_;intro b4 w5 Z;refine eI [_,_,_] Z ?_;intro w7 h8 x9 _ _;revert G X;refine eE x9 ?_;intro G X;refine kR ?_;exact ⟨rfl,X⟩
 | some v=>
  obtain ⟨vn,vk,vl⟩:=v;dsimp only [Option.isSome,Option.getD] at M ⊢;refine Ad func105 ntmps105 rfl rfl (kC (M.out _ _ _ _ Ae) ?_);rintro _ aa ⟨⟨⟩,N⟩;revert G X;refine eE N ?_;intro G X;refine eK ?_;refine xA [_,_,_] ?_;intro ab ac h;refine Dz [_,_,_] Ac rfl rfl rfl rfl rfl rfl h rfl ?_;intro ad h;have O:=h.blk;dsimp only at O;have U:=h.ext;revert G X;refine eE U ?_;intro G X;refine kR ?_;exact ⟨rfl,X⟩
def fE (l:List VD) (V:l.length<=1000000) (s:lB) (k:Int) (S:nP) (a:oA) (c:Nat) (w:wD) (hs:VDs S w l a) :
 Calls prog 172 #[.slice a l.length c,str s,.int .u8 k] w λe w'=>e = .returned (.int .i64 (El l s k))/\Ext w w':=by
 have X:=Ne w;have M:=iF (PJ l V s);unfold El;generalize Eb l s=o at *;cases o with
 | none=>
  dsimp only [Option.isSome,Option.getD] at M;refine Ad func172 ntmps172 rfl rfl (kC (M.out _ _ _ _ Ae) ?_);rintro _ w2 ⟨⟨⟩,Y⟩;have X:=X.ext Y;refine eK ?_;refine xA [_,_,_] ?_;intro b4 w5 Z;refine eI [_,_,_] Z ?_;intro w7 _ x9 _ _;have X:=X.ext x9;refine kR ?_;exact ⟨rfl,X⟩
 | some v=>
  obtain ⟨vn,vk,vl⟩:=v;dsimp only [Option.isSome,Option.getD] at M ⊢;refine Ad func172 ntmps172 rfl rfl ?_
  focus
   refine kC (M.out _ _ _ _ Ae) ?_;rintro _ aa ⟨⟨⟩,N⟩;have X:=X.ext N;refine eK ?_;refine xA [_,_,_] ?_;intro ab ac h;refine Dz [_,_,_] Ac rfl rfl rfl rfl rfl rfl h rfl ?_;intro ad h;have O:=h.blk;dsimp only at O;have U:=h.ext;have X:=X.ext U;refine eK ?_;refine BT rfl (λG=>?_) (λG=>?_);refine kR ?_;rotate_left;refine kR ?_;rotate_left
  all_goals exact ⟨by simp [*],X⟩
def Gz (ps:List PD) (s:lB):Int:=match Cf ps s with
 | some i=>(i:Int)
 | none=> -1
def PDs.get (h:PDs S w l a) (G:l≠[]):∃b o,a=some ⟨b,o,none⟩/\S b /\ ∀i p,l[i]? = some p->eX S w b (o+i*6) p:=by
 rcases h with h|⟨b,o,M,N,O⟩
 . exact absurd h G
 . exact ⟨b,o,M,N,λi v U=>O i v U⟩
def Zl (p:PD) (M N:oA) (O U h:Nat) (s:lB) (w:wD) (G:Blk w h [str s]):Calls prog 143 #[.agg (p.cells M O N U).toArray,pt h] w λe w'=>e = .returned (.bool (decide (p.name=s)))/\Ext w w':=by
 have X:=Ne w;refine Ad func143 ntmps143 rfl rfl (cS (eB [_,_,_,_,_,_] ?_));intro Y Z h4 V _ _;revert G X;refine eE V ?_;intro G X;refine kR ?_;exact ⟨rfl,X⟩
def IY {α:Type} {f:α->Bool} {l:List α} {j:Nat} (h:j<l.length) (M:(l.take j).findIdx? f=none):(l.take (j+1)).findIdx? f=if f l[j]=true then some j else none:=by
 rw [iI h,lN,M];by_cases G:f l[j]=true
 . simp [G,lU];omega
 . simp [G,lU]
def IZ {α:Type} {f:α->Bool} {l:List α} {j i:Nat} (h:(l.take j).findIdx? f=some i):l.findIdx? f=some i:=by
 rw [<-jA j l,lN,h];rfl
def Xg (l:List PD) (hl:l.length<=1000000) (s:lB) (S:nP) (a:oA) (c O:Nat) (w:wD) (G:PDs S w l a) (U:Blk w O [str s]) :
 Calls prog 142 #[.slice a l.length c,.func (.func 143) #[] #[pt O]] w λe w'=>e = .returned (.int .i64 (Gz l s))/\Ext w w':=by
 have X:=Ne w;have G:=G.ltA;refine Ad func142 ntmps142 rfl rfl (cS (C1 Pa (cT (Aj (cS (C1 Mv (C1 Pz (C1 Mv (cT ?_)))))))));refine Au ?_;refine AP (ι:=Nat) (λj=>[(0,.slice a l.length c),(1,.func (.func 143) #[] #[pt O]),(6,.slice a l.length c),(7,.int .i64 l.length),(8,.int .i64 j)])
  (λj w'=>j<=l.length/\PDs (· < w.heap.size) w' l a/\Blk w' O [str s]/\Ext w w'/\(l.take j).findIdx? (λp=>decide (p.name=s))=none)
  (λj=>l.length-j) 0 sB ⟨iT _,G,U,X,rfl⟩ ?_
 rintro j w1 ⟨hj,G,U,X,M⟩;by_cases N:j<l.length
 . obtain ⟨kb,ko,rfl,kS,V⟩:=G.get (by intro e;subst e;simp at N);obtain ⟨pa,pc,ba,bc,ry,-,-⟩:=V j l[j] (iE N);have Y:=IY N M;have Z:l[j].name=s->Gz l s=j:=λh=>by
    rw [AG (by simpa using h)] at Y;rw [Gz,Cf,IZ Y]
   generalize l[j]=y at *
   focus
    refine eK ?_;refine Aw (A9 (fi:=[]) (ca:=[pt O]) AU rfl rfl (Zl y pa ba pc bc _ s _ Ae) (λ_ _ h=>⟨_,h.1⟩)) rfl ?_ aFh;rintro _ ac ⟨⟨⟩,aa⟩;revert U X G;refine eE aa ?_;intro U X G;refine cT (Az rfl (λab=>?_) (λab=>?_));refine kR ?_;rotate_left;refine Ao (Ah (Ai (Al (C1 V7 (C1 Mv (Ak ?_))))));rotate_left
   . exact ⟨by rw [Z Ae],X⟩
   . exact AA (j+1) sB ⟨Ab,G,U,X,Y.trans (At (by simpa using Ae))⟩ Ab
 . obtain rfl:j=l.length:=by omega
   rw [iZ] at M;have he:Gz l s = -1:=by rw [Gz,Cf,M]
   rw [he];refine kR ?_;exact ⟨rfl,X⟩
def PL (g:PG) (U:g.procs.length<=1000000) (s:lB) (S:nP) (V:oA) (vc:Nat) (N:oA) (Y:Nat) (Z:oA) (mc:Nat) (w:wD) (h:PDs S w g.procs N) :
 Calls prog 106 #[.agg (g.cells V vc N Y Z mc).toArray,str s] w λe w'=>e = .returned (.int .i64 (Gz g.procs s))/\Ext w w':=by
 have X:=Ne w;have h:=h.ltA;refine Ad func106 ntmps106 rfl rfl (cS (eB [_,_,_,_,_,_] ?_));intro b1 w2 O x5 _ _;revert X h;refine eE x5 ?_;intro X h;refine eB [_] ?_;intro b8 w9 aa G _ _;revert O X h;refine eE G ?_;intro O X h;refine eK ?_;refine C1 (B6 rfl) (cC rfl (Xg _ U s _ _ _ _ _ Ae Ae) ?_);rintro _ ab ⟨⟨⟩,M⟩;have X:=X.ext M;refine kR ?_;exact ⟨rfl,X⟩
def Zm (a:oA) (n c:Nat) (w:wD) (h:n<=c) (G:n<=1000000):Calls prog 173 #[.slice a n c] w λe w'=>e = .returned (.slice a n n)/\w=w':=by
 refine Ad func173 ntmps173 rfl rfl (eK ?_);refine C1 (QZ Ac rfl rfl rfl rfl rfl h) (kR ?_);exact ⟨rfl,rfl⟩
def LY (a:oA) (n c:Nat) (w:wD) (h:n<=c) (G:n<=1000000):Calls prog 174 #[.slice a n c] w λe w'=>e = .returned (.slice a n n)/\w=w':=by
 refine Ad func174 ntmps174 rfl rfl (eK ?_);refine C1 (QZ Ac rfl rfl rfl rfl rfl h) (kR ?_);exact ⟨rfl,rfl⟩
def PathAt (S:nP) (w:wD) (a:oA) (n c:Nat):Prop:=(n<=c/\(a=none->c=0)) /\ ∃cs:lV,cs.length=n*1/\cs.all mW=true/\Rows S w cs a
def PathAt.nil:PathAt S w none 0 0:=⟨⟨iW _,λ_=>rfl⟩,[],rfl,rfl,iG rfl⟩
def PathAt.ext {S:nP} {w w':wD} {a:oA} {n c:Nat} (h:PathAt S w a n c) (x:Ext w w'):PathAt S w' a n c:=⟨h.1,by obtain ⟨cs,G,M,N⟩:=h.2;exact ⟨cs,G,M,N.ext x⟩⟩
instance {n:Nat}:LfE w w' (PathAt S w a n c) (PathAt S w' a n c):=⟨λx h=>Bk.PathAt.ext h x⟩
def PathAt.fr {S T:nP} {w w':wD} {a:oA} {n c:Nat} (h:PathAt S w a n c) (x:Fr T w w') (G:∀b,S b -> ¬T b):PathAt S w' a n c:=⟨h.1,by obtain ⟨cs,M,N,O⟩:=h.2;exact ⟨cs,M,N,O.fr x G⟩⟩
instance {T:nP} {n:Nat}:LfF T w w' (PathAt S w a n c) (∀b,S b -> ¬T b) (PathAt S w' a n c):=⟨λx s h=>Bk.PathAt.fr h x s⟩
def PathAt.clone {n:Nat} (h:PathAt S w a n c) (V:n<=1000000):Calls prog 88 #[.slice a n c] w (SliceR n w):=by
 obtain ⟨⟨X,G⟩,cs,M,N,O⟩:=h;cases a with
 | some p=>exact Ln cs n M N Ab S p c w O
 | none=>
  have U:=G rfl;subst U;obtain rfl:n=0:=by omega
  exact Lo w
def ChildR (n:Nat) (w:wD):Ending->wD->Prop:=λe w'=> ∃g c,e = .returned (.slice (some ⟨g,0,none⟩) (n+1) c)/\PathAt (λb=>w.heap.size<=b/\b<w'.heap.size) w' (some ⟨g,0,none⟩) (n+1) c/\Ext w w'
def ChildR.ret {n:Nat} {e:Ending} (h:ChildR n w e w'):∃v,e = .returned v:=by
 obtain ⟨_,_,h,-⟩:=h;exact ⟨_,h⟩
def Ug (i:Int) (S:nP) (a:oA) (n c:Nat) (w:wD) (V:n<=1000000) (Y:PathAt S w a n c):Calls prog 145 #[.slice a n c,.int .i64 i] w (ChildR n w):=by
 have X:=Ne w;obtain ⟨⟨Z,-⟩,cs,U,h2,h⟩:=Y;have h:=h.ltA;refine Ad func145 ntmps145 rfl rfl (kC (Zm _ _ _ _ Z V) ?_);rintro _ w1 ⟨⟨⟩,rfl⟩;refine C1 Mv (Aw (xS [_]) rfl ?_ aFh);rintro _ w3 ⟨b2,rfl,G,t5⟩;have h6:=G.blk;have x7:=G.ext;have p8:=G.pos;have z9:=G.size;revert X h;refine eE x7 ?_;intro X h;refine Aw (C7 Ac CC rfl rfl rfl rfl AU rfl rfl rfl Ae U (mS Ae) rfl rfl Ab) rfl ?_ aFh;rintro _ aa ⟨ab,M,rfl,N,ac,ad,ae,O⟩;have X:=X.ext O;refine kR ?_;exact ⟨_,_,rfl,⟨⟨N,λe=>by cases e⟩,cs++[.int .i64 i],by simp [U],by rw [mb,h2];rfl,iH ⟨_,_,rfl,⟨Ab,Ab⟩,Ae⟩⟩,X⟩
def InnerR (S:nP) (L:List VD) (w:wD):Ending->wD->Prop:=λe w'=> ∃a c,e = .returned (.slice a L.length c)/\L.length<=c/\VDs (λb=>S b\/(w.heap.size<=b/\b<w'.heap.size)) w' L a/\Ext w w'
def InnerR.ret {L:List VD} {e:Ending} (h:InnerR S L w e w'):∃v,e = .returned v:=by
 obtain ⟨_,_,h,-⟩:=h;exact ⟨_,h⟩
def MA {l:List VD} {v:VD} {g:Nat} (h:l.length+1<=c) (G:Row w' ⟨g,0,none⟩ (l.flatMap VD.cells++v.cells)) (M:w.heap.size<=g) (N:g<w'.heap.size) (X:Ext w w'):InnerR S (l++[v]) w (.returned (.slice (some ⟨g,0,none⟩) (l.length+1) c)) w':=by
 refine ⟨some ⟨g,0,none⟩,c,AN,by simpa using h,Mx (iH ⟨g,0,rfl,iH ⟨M,N⟩,?_⟩),X⟩;rw [kB];simpa using G
def Zn (k n:Int) (s:lB) (kl:List Nd) (ka:oA) (kc i:Nat) (l:List VD) (hl:l.length<=1000000) (S:nP) (a:oA) (c:Nat) (w:wD) (hc:l.length<=c) (hs:VDs S w l a) :
 Calls prog 147 #[(Nd.mk k n s kl).val ka kc,.int .i64 i,.slice a l.length c] w (InnerR S (C4 k s i l) w):=by
 have X:=Ne w;have h1:=Hs Pv l;have hs:=QM hs;have N:=hs.ltA;show Calls prog 147 #[.agg #[.int .u8 k,.int .i64 n,str s,.slice ka kl.length kc],.int .i64 i,.slice a l.length c] w (InnerR S (C4 k s i l) w);by_cases V:k=54/\i=1
 . have hv:C4 k s i l=l++[⟨s,1,0⟩]:=by unfold C4;rw [AG V]
   rw [hv];obtain ⟨rfl,rfl⟩:=V;refine Ad func147 ntmps147 rfl rfl ?_
   focus
    refine cS (eB [_,_,_,_] ?_);intro b1 w2 h4 x5 p6 z7;revert X N;refine eE x5 ?_;intro X N;refine eK ?_;refine Aq (λwz=>Ext w2 wz) 6 (.pure 0 (.pure 2 (.pure 3 (.pure 4 (.fork 1 (.fork 5 .tail .none) (.fork 5 (.fork 1 .tail .none) .none)))))) mixed AU (Aa (Af (Aa Ag))) ?_;intro w8 x9 _;have M:(λwz=>Ext w2 wz) w8:=x9;simp only at M;have ay:=h4;revert X N;refine eY x9 ?_;intro bq X N;refine ⟨M,?_⟩;refine eT ?_;refine Tq rfl (xB [_,_,_]) ?_;refine AC rfl (AM AU rfl (LY _ _ _ _ hc hl) (λ_ _ h=>⟨_,h.1⟩)) rfl ?_ aFh ?kr12;rintro _ br ⟨⟨⟩,rfl⟩;refine ⟨M,?_⟩;refine AC rfl (xS [_,_,_]) rfl ?_ aFh Ay;rintro _ bs ⟨bt,rfl,Y,bu⟩;have bv:=Y.blk;have al:=Y.ext;have bw:=Y.pos;have z22:=Y.size;revert M X N;refine eE al ?_;intro M X N;refine ⟨M,?_⟩;refine Ar rfl ?_;refine Aw (C7 Ac CC rfl rfl rfl rfl AU rfl rfl rfl Ae h1 (mS Ae) rfl rfl Ab) rfl ?_ aFh;rintro _ bx ⟨bz,aj,rfl,b0,b2,b3,b4,am⟩;have X:=X.ext am;refine kR ?_;rotate_left;refine AC rfl (xS [_,_,_]) rfl ?_ aFh Ay;rintro _ b5 ⟨b6,rfl,Z,b7⟩;have b8:=Z.blk;have an:=Z.ext;have b9:=Z.pos;have ca:=Z.size;revert M X N;refine eE an ?_;intro M X N;refine ⟨M,?_⟩;refine tC rfl rfl (LY _ _ _ _ hc hl) ?_;rintro _ cb ⟨⟨⟩,rfl⟩;refine ⟨M,?_⟩;refine Ar rfl ?_;refine Aw (C7 Ac CC rfl rfl rfl rfl AU rfl rfl rfl Ae h1 (mS Ae) rfl rfl Ab) rfl ?_ aFh;rintro _ cc ⟨cd,ak,rfl,ce,cf,cg,ch,ao⟩;have X:=X.ext ao;refine kR ?_;rotate_left
   all_goals exact MA (v:=⟨s,1,0⟩) Ae Ae Ab Ae X
 by_cases aa:k=55/\i=0
 . have hv:C4 k s i l=l++[⟨s,3,0⟩]:=by unfold C4;rw [At V,AG aa]
   rw [hv];obtain ⟨rfl,rfl⟩:=aa;refine Ad func147 ntmps147 rfl rfl ?_
   focus
    refine cS (eB [_,_,_,_] ?_);intro ci ab ap aq cj ck;revert X N;refine eE aq ?_;intro X N;refine eK ?_;refine Aq (λwz=>Ext ab wz) 6 (.pure 0 (.pure 2 (.pure 3 (.pure 4 (.fork 1 (.fork 5 .tail .none) (.fork 5 (.fork 1 .tail .none) .none)))))) mixed AU (Aa (Af (Aa Ag))) ?_;intro ar ac _;have G:(λwz=>Ext ab wz) ar:=ac;simp only at G;have au:=ap;revert X N;refine eY ac ?_;intro az X N;refine ⟨G,?_⟩;refine eT ?_;refine Tq rfl (xB [_,_,_]) ?_;refine AC rfl (AM AU rfl (LY _ _ _ _ hc hl) (λ_ _ h=>⟨_,h.1⟩)) rfl ?_ aFh ?kra12;rintro _ a0 ⟨⟨⟩,rfl⟩;refine ⟨G,?_⟩;refine AC rfl (xS [_,_,_]) rfl ?_ aFh Ay;rintro _ a1 ⟨a2,rfl,O,a3⟩;have a4:=O.blk;have ad:=O.ext;have a5:=O.pos;have a6:=O.size;revert G X N;refine eE ad ?_;intro G X N;refine ⟨G,?_⟩;refine Ar rfl ?_;refine Aw (C7 Ac CC rfl rfl rfl rfl AU rfl rfl rfl Ae h1 (mS Ae) rfl rfl Ab) rfl ?_ aFh;rintro _ a7 ⟨a8,ae,rfl,a9,ba,bb,bc,af⟩;have X:=X.ext af;refine kR ?_;rotate_left;refine AC rfl (xS [_,_,_]) rfl ?_ aFh Ay;rintro _ bd ⟨be,rfl,U,bf⟩;have bg:=U.blk;have ag:=U.ext;have bh:=U.pos;have bi:=U.size;revert G X N;refine eE ag ?_;intro G X N;refine ⟨G,?_⟩;refine tC rfl rfl (LY _ _ _ _ hc hl) ?_;rintro _ bj ⟨⟨⟩,rfl⟩;refine ⟨G,?_⟩;refine Ar rfl ?_;refine Aw (C7 Ac CC rfl rfl rfl rfl AU rfl rfl rfl Ae h1 (mS Ae) rfl rfl Ab) rfl ?_ aFh;rintro _ bk ⟨bl,ah,rfl,bm,bn,bo,bp,ai⟩;have X:=X.ext ai;refine kR ?_;rotate_left
   all_goals exact MA (v:=⟨s,3,0⟩) Ae Ae Ab Ae X
 . have hv:C4 k s i l=l:=by unfold C4;rw [At V,At aa]
   rw [hv];refine Ad func147 ntmps147 rfl rfl ?_
   focus
    refine cS (eB [_,_,_,_] ?_);intro cl cm cn av _ _;revert X hs;refine eE av ?_;intro X hs;refine eK ?_;refine B8 rfl rfl rfl (λaw=>?_) (λaw=>?_);refine kR ?_;rotate_left;refine eK ?_;refine B8 rfl rfl rfl (λax=>?_) (λax=>?_);refine kR ?_;rotate_left;refine kR ?_;rotate_left
   all_goals exact ⟨_,_,rfl,hc,(Mx Ae).wide (λ_ h=>iG h),X⟩
def Q4 {ps:List PD} {s:lB} {i:Nat} (h:Cf ps s=some i):i<ps.length:=by
 unfold Cf at h;obtain ⟨G,-⟩:=List.findIdx?_eq_some_iff_getElem.1 h;exact G
set_option maxHeartbeats 8000000 in
def Zo (g:PG) (hg:g.procs.length<=1000000) (k n:Int) (s:lB) (l:List Nd) (ka:oA) (kc:Nat) (v:List VD) (hv:v.length<=1000000) (S S':nP) (va:oA) (vc:Nat) (pa:oA) (pc:Nat) (ma:oA) (mc:Nat) (a:oA) (c:Nat) (w:wD) (G:PDs S w g.procs pa) (hs:VDs S' w v a) :
 Calls prog 144 #[.agg (g.cells va vc pa pc ma mc).toArray,(Nd.mk k n s l).val ka kc,.slice a v.length c] w λe w'=>e = .returned (.int .i64 (CH g.procs v k s l.length))/\Ext w w':=by
 have X:=Ne w;have G:=G.ltA;have HU:=iF (fE v hv s);have HF:=iF (PK v hv s);have HP:=iF (PL g hg s);show Calls prog 144 #[.agg (g.cells va vc pa pc ma mc).toArray,.agg #[.int .u8 k,.int .i64 n,str s,.slice ka l.length kc],.slice a v.length c] w _;refine Ad func144 ntmps144 rfl rfl ?_
 focus
  refine cS (eB [_,_,_,_,_,_] ?_);intro b1 w2 Y x5 _ _;revert hs X G;refine eE x5 ?_;intro hs X G;refine eB [_,_,_,_] ?_;intro b8 w9 V ac _ az;revert Y hs X G;refine eE ac ?_;intro Y hs X G;refine eK ?_;refine Az rfl (λad=>?_) (λad=>?_);rotate_left;rotate_left
 . have N:CH g.procs v k s l.length=El v s 1:=by unfold CH;rw [AG Ab]
   rw [N];refine kC (HU.out _ _ _ _ _ Ae) ?_;rintro _ a0 ⟨⟨⟩,ae⟩;have X:=X.ext ae;refine kR ?_;exact ⟨rfl,X⟩
 focus
  refine eK ?_;refine Az rfl (λaf=>?_) (λaf=>?_);rotate_left;refine Aj ?_;rotate_left
 . have N:CH g.procs v k s l.length=El v s 2:=by unfold CH;rw [At Ab,AG Ab]
   rw [N];refine kC (HU.out _ _ _ _ _ Ae) ?_;rintro _ a1 ⟨⟨⟩,ag⟩;have X:=X.ext ag;refine kR ?_;exact ⟨rfl,X⟩
 refine DE (ι:=Unit) (λ_=>[(2,.slice a v.length c),(3,pt b1),(4,pt b8),(9,.int .u8 k),(22,.bool (decide (k=4\/k=5\/k=44\/k=45)))]) (λ_ w'=>w'=w9) ?_ ?_
 . focus
    refine eK ?_;refine Az rfl (λah=>?_) (λah=>?_);refine Ao ?_;rotate_left;refine eK ?_;refine Az rfl (λai=>?_) (λai=>?_);refine Ao ?_;rotate_left;refine eK ?_;refine Az rfl (λaj=>?_) (λaj=>?_);refine Ao ?_;rotate_left;refine eK ?_;rotate_left
   all_goals exact BQ () (An rfl (An rfl (An rfl (An rfl (B4 rfl (congrArg Value.bool (decide_eq_decide.2 Ab)) BL))))) rfl
 rintro-u1 h;subst h
 focus
  refine Az rfl (λak=>?_) (λak=>?_);rotate_left;refine Aj ?_;rotate_left
 . have N:CH g.procs v k s l.length=El v s 3:=by unfold CH;rw [At Ab,At Ab,AG Ab]
   rw [N];refine kC (HU.out _ _ _ _ _ Ae) ?_;rintro _ a2 ⟨⟨⟩,al⟩;have X:=X.ext al;refine kR ?_;exact ⟨rfl,X⟩
 refine DE (ι:=Unit) (λ_=>[(2,.slice a v.length c),(3,pt b1),(4,pt b8),(9,.int .u8 k),(31,.bool (decide (k=54\/k=55)))]) (λ_ w'=>w'=u1) ?_ ?_
 . focus
    refine eK ?_;refine Az rfl (λam=>?_) (λam=>?_);refine Ao ?_;rotate_left;refine eK ?_;rotate_left
   all_goals exact BQ () (An rfl (An rfl (An rfl (An rfl (B4 rfl (congrArg Value.bool (decide_eq_decide.2 Ab)) BL))))) rfl
 rintro-u2 h;subst h
 focus
  refine Az rfl (λan=>?_) (λan=>?_);rotate_left;refine Aj ?_;rotate_left
 . have N:CH g.procs v k s l.length=Fg v s:=by unfold CH;rw [At Ab,At Ab,At Ab,AG Ab]
   rw [N];refine kC (HF.out _ _ _ _ Ae) ?_;rintro _ a3 ⟨⟨⟩,ao⟩;have X:=X.ext ao;refine kR ?_;exact ⟨rfl,X⟩
 refine DE (ι:=Unit) (λ_=>[(2,.slice a v.length c),(3,pt b1),(4,pt b8),(9,.int .u8 k),(38,.bool (decide (k=50\/k=51)))]) (λ_ w'=>w'=u2) ?_ ?_
 . focus
    refine eK ?_;refine Az rfl (λap=>?_) (λap=>?_);refine Ao ?_;rotate_left;refine eK ?_;rotate_left
   all_goals exact BQ () (An rfl (An rfl (An rfl (An rfl (B4 rfl (congrArg Value.bool (decide_eq_decide.2 Ab)) BL))))) rfl
 rintro-u3 h;subst h
 focus
  refine Az rfl (λaq=>?_) (λaq=>?_);rotate_left;refine kR ?_;rotate_left
 . have N:CH g.procs v k s l.length=Qn g.procs s l.length:=by unfold CH;rw [At Ab,At Ab,At Ab,At Ab,AG Ab]
   rw [N];unfold Qn;have M:=iF (HP.out (· < w.heap.size) va vc pa pc ma mc);unfold Gz at M;cases hq:Cf g.procs s with
   | none=>
    rw [hq] at M;dsimp only at M;refine kC (M.out _ Ae) ?_;rintro _ a4 ⟨⟨⟩,ar⟩;have X:=X.ext ar;refine kR ?_;exact ⟨rfl,X⟩
   | some i=>
    rw [hq] at M;dsimp only at M;have hi:=Q4 hq;obtain ⟨kb,ko,rfl,kS,O⟩:=G.get (by intro e;rw [e] at hi;simp at hi);obtain ⟨qa,qc,ba,bc,r0,-,-⟩:=O i g.procs[i] (iE hi);have hm:((g.procs[i]?.map λp=>p.params.length).getD 0)=g.procs[i].params.length:=by rw [iE hi];rfl
    dsimp only;rw [hm];clear O hm hq;generalize g.procs[i]=y at *
    focus
     refine kC (M.out _ Ae) ?_;rintro _ Z ⟨⟨⟩,au⟩;revert V X Y r0;refine eE au ?_;intro V X Y r0;refine eK ?_;refine Aq (λwz=>Ext Z wz) 10 (.pure 0 (.pure 1 (.pure 2 (.pure 3 (.pure 4 (.pure 5 (.pure 6 (.pure 7 (.pure 8 (.pure 9 .tail)))))))))) mixed AU (Aa (Af (Aa Ag))) ?_;intro av aa _;have U:(λwz=>Ext Z wz) av:=aa;simp only at U;have aw:=V;have ay:=Y;have ab:=r0;have X:=X.ext aa;refine ⟨U,?_⟩;refine eT ?_;refine Tq rfl (Dr ab) (Tq rfl Pz ?_);refine Ar rfl ?_;refine eK ?_;refine BT rfl (λax=>?_) (λax=>?_);refine kR ?_;rotate_left;refine kR ?_;rotate_left
    . rw [At Ab];exact ⟨rfl,X⟩
    . rw [AG Ab];exact ⟨rfl,X⟩
 . have N:CH g.procs v k s l.length=0:=by unfold CH;rw [At Ab,At Ab,At Ab,At Ab,At Ab]
   rw [N];exact ⟨rfl,X⟩
set_option maxHeartbeats 8000000 in
def Q5 (g:PG) (hg:g.procs.length<=1000000) (k n:Int) (s:lB) (l:List Nd) (hl:l.length<=1000000) (i:Nat) (hi:i<l.length) (v:List VD) (hv:v.length<=1000000) (S S' bo:nP) (va:oA) (vc:Nat) (pa:oA) (pc:Nat) (ma:oA) (mc:Nat) (ka:oA) (kc:Nat) (a:oA) (c:Nat) (w:wD) (h:PDs S w g.procs pa) (al:rowSits bo w l ka) (M:VDs S' w v a) :
 Calls prog 146 #[.agg (g.cells va vc pa pc ma mc).toArray,(Nd.mk k n s l).val ka kc,.int .i64 i,.slice a v.length c] w λe w'=>e = .returned (.int .i64 (Qo g.procs v s l.length i (l[i]'hi).name))/\Ext w w':=by
 have X:=Ne w;have h:=h.ltA;have al:=Ch _ _ al;obtain ⟨xb,xo,rfl,xS,ap⟩:=BI al (by intro e;subst e;simp at hi);obtain ⟨xa,xc,G,-⟩:=ap i l[i] (iE hi);clear ap al;have HF:=iF (PJ v hv (l[i]).name);have HP:=iF (PL g hg s (· < w.heap.size) va vc pa pc ma mc);unfold Gz at HP;unfold Qo;generalize l[i]=x at *;show Calls prog 146 #[.agg (g.cells va vc pa pc ma mc).toArray,.agg #[.int .u8 k,.int .i64 n,str s,.slice (some ⟨xb,xo,none⟩) l.length kc],.int .i64 i,.slice a v.length c] w _;generalize Eb v x.name=o at *;cases o with
 | none=>
  dsimp only [Option.isSome,Option.getD] at HF;refine Ad func146 ntmps146 rfl rfl ?_;refine cS (eB [_,_,_,_,_,_] ?_);intro b1 w2 h4 x5 _ _;revert M X h G;refine eE x5 ?_;intro M X h G;refine eB [_,_,_,_] ?_;intro b8 w9 am bp _ _;revert h4 M X h G;refine eE bp ?_;intro h4 M X h G;refine eK ?_;refine C1 (Pw G) (cC rfl (HF.out _ _ _ _ Ae) ?_);rintro _ cf ⟨⟨⟩,bq⟩;revert am h4 M X h G;refine eE bq ?_;intro am h4 M X h G;refine eK ?_;refine xA [_,_,_] ?_;intro cg ch br;refine eI [_,_,_] br ?_;intro ci cj bs _ _;revert am h4 M X h G;refine eE bs ?_;intro am h4 M X h G;refine kR ?_;exact ⟨rfl,X⟩
 | some d=>
  obtain ⟨dn,dk,dl⟩:=d;dsimp only [Option.isSome,Option.getD] at HF ⊢;cases hq:Cf g.procs s with
  | none=>
   rw [hq] at HP;dsimp only [Option.bind] at HP ⊢;refine Ad func146 ntmps146 rfl rfl ?_;refine cS (eB [_,_,_,_,_,_] ?_);intro ck cl ab bt _ _;revert M X h G;refine eE bt ?_;intro M X h G;refine eB [_,_,_,_] ?_;intro cm cn Y a2 _ _;revert ab M X h G;refine eE a2 ?_;intro ab M X h G;refine eK ?_;refine C1 (Pw G) (cC rfl (HF.out _ _ _ _ Ae) ?_);rintro _ bw ⟨⟨⟩,a3⟩;revert Y ab M X h G;refine eE a3 ?_;intro Y ab M X h G;refine eK ?_;refine xA [_,_,_] ?_;intro bx bz ae;refine Dz [_,_,_] Ac rfl rfl rfl rfl rfl rfl ae rfl ?_;intro b0 ae;have ac:=ae.blk;dsimp only at ac;have a4:=ae.ext;revert Y ab M X h G;refine eE a4 ?_;intro Y ab M X h G;refine kC (HP.out _ Ae) ?_;rintro _ aq ⟨⟨⟩,a5⟩;revert ac Y ab M X h G;refine eE a5 ?_;intro ac Y ab M X h G;refine eK ?_;refine Aq (λwz=>Ext aq wz) 13 (.pure 0 (.pure 1 (.pure 2 (.pure 3 (.pure 4 (.pure 5 (.pure 6 (.pure 7 (.pure 8 (.pure 9 (.pure 10 (.pure 11 (.pure 12 .tail))))))))))))) mixed AU (Aa (Aa Ag)) ?_;intro a6 ar _;have ah:(λwz=>Ext aq wz) a6:=ar;simp only at ah;revert ac Y ab M X h G;refine eE ar ?_;intro ac Y ab M X h G;refine ⟨ah,?_⟩;refine Tq rfl Mv (Tq rfl V3 (Tq rfl Mv (eM rfl (eM rfl (eM rfl (eM rfl (eM rfl (eM rfl (eM rfl (eM rfl (eM rfl ?_)))))))))))
   refine eM rfl ?_;refine Ar rfl ?_;refine kR ?_;exact ⟨rfl,X⟩
  | some j=>
   rw [hq] at HP;have hj:=Q4 hq;dsimp only [Option.bind] at HP ⊢;rw [iE hj];dsimp only;obtain ⟨kb,ko,rfl,kS,au⟩:=h.get (by intro e;rw [e] at hj;simp at hj);obtain ⟨qa,qc,ba,bc,O,az,-⟩:=au j g.procs[j] (iE hj);clear au hq;generalize g.procs[j]=y at *;by_cases hm:l.length=y.params.length
   . rw [At Ab];obtain ⟨zb,zo,rfl,zS,a7⟩:=az.get (by intro e;rw [e] at hm;simp only [ji] at hm;omega);have r1:=a7 i (y.params[i]'(by omega)) (iE Ab);rw [iE Ab];dsimp only;clear a7 az;generalize y.params[i]'(by omega)=q at *;obtain ⟨qn,qk,ql⟩:=q;replace r1:Row w ⟨zb,zo+i*3,none⟩ [str qn,.int .u8 qk,.int .i64 ql]:=r1;dsimp only;refine Ad func146 ntmps146 rfl rfl ?_
     focus
      refine cS (eB [_,_,_,_,_,_] ?_);intro co cp V bu _ _;revert M X G h O r1;refine eE bu ?_;intro M X G h O r1;refine eB [_,_,_,_] ?_;intro cq cr N a8 _ _;revert V M X G h O r1;refine eE a8 ?_;intro V M X G h O r1;refine eK ?_;refine C1 (Pw G) (cC rfl (HF.out _ _ _ _ Ae) ?_);rintro _ b2 ⟨⟨⟩,a9⟩;revert N V M X G h O r1;refine eE a9 ?_;intro N V M X G h O r1;refine eK ?_;refine xA [_,_,_] ?_;intro b3 b4 af;refine Dz [_,_,_] Ac rfl rfl rfl rfl rfl rfl af rfl ?_;intro b5 af;have Z:=af.blk;dsimp only at Z;have bb:=af.ext;revert N V M X G h O r1;refine eE bb ?_;intro N V M X G h O r1;refine kC (HP.out _ Ae) ?_;rintro _ av ⟨⟨⟩,bd⟩;revert Z N V M X G h O r1;refine eE bd ?_;intro Z N V M X G h O r1;refine eK ?_;refine Aq (λwz=>Ext av wz) 13 (.pure 0 (.pure 1 (.pure 2 (.pure 3 (.pure 4 (.pure 5 (.pure 6 (.pure 7 (.pure 8 (.pure 9 (.pure 10 (.pure 11 (.pure 12 .tail))))))))))))) mixed AU (Aa (Aa Ag)) ?_;intro be aw _;have ai:(λwz=>Ext av wz) be:=aw;simp only at ai;have an:=N;have a0:=V;have aj:=O;revert Z N V M X G h O r1;refine eE aw ?_;intro Z N V M X G h O r1;refine ⟨ai,?_⟩;refine Tq rfl Mv (Tq rfl V3 (Tq rfl Mv (eN rfl (AX Ac rfl rfl rfl) (eN rfl (Ap Ac rfl rfl rfl (λwz hz=>mM (mN an hz) rfl)) (eN rfl (DT Ac rfl rfl) (eN rfl (AX Ac rfl rfl rfl) (eN rfl (Ap Ac rfl rfl rfl (λwz hz=>mM (mN a0 hz) rfl)) (eN rfl (Av rfl) (eN rfl (AK Ac rfl rfl rfl rfl Ab Ab) (eN rfl (AX Ac rfl rfl rfl) (eN rfl (Ap Ac rfl rfl rfl (λwz hz=>nJ (mJ aj hz) rfl)) ?_)))))))))));refine eN rfl (DT Ac rfl rfl) ?_;refine Ar rfl ?_;refine eK ?_;refine C1 (Pw O) ?_;refine eK ?_;refine xA [_,_,_] ?_;intro b6 b7 bf;refine eI [_,_,_] bf ?_;intro b9 ca bg _ _;revert Z N V M X G h O r1;refine eE bg ?_;intro Z N V M X G h O r1;refine eK ?_;refine B8 rfl rfl rfl (λbh=>?_) (λbh=>?_)
      refine kR ?_;rotate_left;refine eK ?_;refine BT rfl (λbi=>?_) (λbi=>?_);refine kR ?_;rotate_left;refine kR ?_;rotate_left
     all_goals exact ⟨by simp [*],X⟩
   . rw [AG Ab];clear az;refine Ad func146 ntmps146 rfl rfl ?_;refine cS (eB [_,_,_,_,_,_] ?_);intro ct cu aa bv _ _;revert M X G h O;refine eE bv ?_;intro M X G h O;refine eB [_,_,_,_] ?_;intro cv cw U bj _ _;revert aa M X G h O;refine eE bj ?_;intro aa M X G h O;refine eK ?_;refine C1 (Pw G) (cC rfl (HF.out _ _ _ _ Ae) ?_);rintro _ cb ⟨⟨⟩,bk⟩;revert U aa M X G h O;refine eE bk ?_;intro U aa M X G h O;refine eK ?_;refine xA [_,_,_] ?_;intro cc cd ag;refine Dz [_,_,_] Ac rfl rfl rfl rfl rfl rfl ag rfl ?_;intro ce ag;have ad:=ag.blk;dsimp only at ad;have bl:=ag.ext;revert U aa M X G h O;refine eE bl ?_;intro U aa M X G h O;refine kC (HP.out _ Ae) ?_;rintro _ ax ⟨⟨⟩,bm⟩;revert ad U aa M X G h O;refine eE bm ?_;intro ad U aa M X G h O;refine eK ?_;refine Aq (λwz=>Ext ax wz) 13 (.pure 0 (.pure 1 (.pure 2 (.pure 3 (.pure 4 (.pure 5 (.pure 6 (.pure 7 (.pure 8 (.pure 9 (.pure 10 (.pure 11 (.pure 12 .tail))))))))))))) mixed AU (Aa (Aa Ag)) ?_;intro bn ay _;have ak:(λwz=>Ext ax wz) bn:=ay;simp only at ak;have ao:=U;have a1:=aa;have aj:=O;revert ad U aa M X G h O;refine eE ay ?_;intro ad U aa M X G h O;refine ⟨ak,?_⟩;refine Tq rfl Mv (Tq rfl V3 (Tq rfl Mv (eN rfl (AX Ac rfl rfl rfl) (eN rfl (Ap Ac rfl rfl rfl (λwz hz=>mM (mN ao hz) rfl)) (eN rfl (DT Ac rfl rfl) (eN rfl (AX Ac rfl rfl rfl) (eN rfl (Ap Ac rfl rfl rfl (λwz hz=>mM (mN a1 hz) rfl)) (eN rfl (Av rfl) (eN rfl (AK Ac rfl rfl rfl rfl Ab Ab) (eN rfl (AX Ac rfl rfl rfl) (eN rfl (Ap Ac rfl rfl rfl (λwz hz=>nJ (mJ aj hz) rfl)) ?_)))))))))));refine eN rfl (DT Ac rfl rfl) ?_;refine Ar rfl ?_;refine kR ?_
     all_goals exact ⟨rfl,X⟩
structure FS (c fb m:Nat) (w:wD) (v:Value):Prop where
 cell:Blk w fb [v]
 own:OwnQ (Hx 4) w (λ_=>False) c 165 v (jn m ())
 ne:v.ownBlock≠some fb
 le:c<=w.heap.size
structure Eff (fb:Nat) (w:wD) (v:Value) (w':wD) (v':Value):Prop where
 fr:Fr (λk=>k=fb\/v.ownBlock=some k) w w'
 new:∀g,v'.ownBlock=some g->v.ownBlock=some g\/w.heap.size<=g
def Eff.of_ext (x:Ext w w'):Eff G w v w' v:=⟨⟨x.os,x.tape,x.output,x.size,λ_ M _=>x.block M⟩,λ_ h=>iG h⟩
def Eff.trans {G:Nat} {w w1 N:wD} {v O U:Value} (h:Eff G w v w1 O) (k:Eff G w1 O N U):Eff G w v N U:=by
 have X:=h.fr.size;refine ⟨⟨k.fr.os.trans h.fr.os,k.fr.tape.trans h.fr.tape,k.fr.output.trans h.fr.output,jM X k.fr.size,λi Y M=>?_⟩,λg Z=>?_⟩
 . refine (k.fr.block i Ab (λe=>?_)).trans (h.fr.block i Y M);rcases e with e|e
   . exact M (iG e)
   . rcases h.new i e with e|e
     . exact M (iH e)
     . omega
 . rcases k.new g Z with V|V
   . exact h.new g V
   . exact iH Ab
def Kp (fb:Nat) (w:wD) (v:Value) (b:Nat):Prop:=b<w.heap.size/\b≠fb/\v.ownBlock≠some b
def Kp.eff {M:Value} {b:Nat} (h:Kp G w v b) (k:Eff G w v w' M):Kp G w' M b:=by
 have:=k.fr.size;refine ⟨by have:=h.1;omega,h.2.1,λe=>?_⟩;rcases k.new b e with e|e
 . exact h.2.2 e
 . have:=h.1;omega
def Kp.grow {b:Nat} (h:Kp G w v b) (M:w.heap.size<=w'.heap.size):Kp G w' v b:=⟨jX h.1 M,h.2⟩
def Kp.not {b:Nat} (h:Kp G w v b):¬(b=G\/v.ownBlock=some b):=λe=>e.elim h.2.1 h.2.2
def FS.ext {c G m:Nat} {w w':wD} {v:Value} (h:FS c G m w v) (x:Ext w w'):FS c G m w' v:=⟨h.cell.ext x,h.own.ext x,h.ne,jM h.le x.size⟩
instance {m:Nat}:LfE w w' (FS c G m w v) (FS c G m w' v):=⟨λx h=>Bk.FS.ext h x⟩
def FS.fr {c G m:Nat} {S:nP} {w w':wD} {v:Value} (h:FS c G m w v) (x:Fr S w w') (M:∀k,S k->k≠G/\v.ownBlock≠some k):FS c G m w' v:=⟨h.cell.fr x (λe=>(M _ e).1 rfl),h.own.fr x (λk N=>⟨id,(M k N).2⟩),h.ne,jM h.le x.size⟩
instance {m:Nat}:LfF S w w' (FS c G m w v) (∀k,S k->k≠G/\v.ownBlock≠some k) (FS c G m w' v):=⟨λx s h=>Bk.FS.fr h x s⟩
def RepR (c fb m:Nat) (w:wD) (v:Value):Ending->wD->Prop:=λe w'=>e = .returned (.tuple #[]) /\ ∃v',FS c fb m w' v'/\Fr (λk=>k=fb\/v.ownBlock=some k) w w' /\ ∀g,v'.ownBlock=some g->v.ownBlock=some g\/w.heap.size<=g
def RepR.ret {m:Nat} {e:Ending} (h:RepR c G m w v e w'):∃v,e = .returned v:=⟨_,h.1⟩
def Hz (c fb m:Nat) (v:Value) (p Y:Int) (s:lB) (S:nP) (pa:oA) (pn pc:Nat) (w:wD) (hm:m<=1000000000) (hn:pn<=1000000) (hp:PathAt S w pa pn pc) (hf:FS c fb m w v) :
 Calls prog 104 #[.int .i64 p,.slice pa pn pc,str s,.int .i64 Y,pt fb] w (RepR c fb (m+Pd Y) w v):=by
 obtain ⟨N,Z,ad,hc⟩:=hf;have HC:=iF (λ(w:wD) (h:PathAt S w pa pn pc)=>h.clone hn);have X:=Ne w;by_cases he:Y=0
 . subst he;have e0:m+Pd 0=m:=rfl;rw [e0];refine Ad func104 ntmps104 rfl rfl ?_;refine cS (C1 Mv (C1 V2 (cT (LT (Ao (Bm rfl ?_))))));exact ⟨rfl,v,⟨N,Z,ad,by have:=X.size;omega⟩,(Eff.of_ext X).fr,λ_ h=>iG h⟩
 . have e1:Pd Y=1:=At he;rw [e1];have af:∀g,v.ownBlock=some g->g<w.heap.size/\g≠fb:=λg hg=>⟨Z.lt hg,λe=>ad (e▸hg)⟩
   have a0:=N.lt;have ae:jn m ()++[()]=jn (m+1) ():=by rw [mg]
   have al:(jn m ()).length<=1000000000:=by simp;omega
   have O:=mI (λk=>k=fb\/v.ownBlock=some k) w;refine Ad func104 ntmps104 rfl rfl ?_;refine eK ?_;refine Aq (λwz=>Ext w wz) 8 (.pure 0 (.pure 1 (.pure 2 (.pure 4 (.pure 5 (.fork 3 (.pure 6 (.fork 7 .tail .none)) .none)))))) mixed AU Ag ?_;intro aj ag _;have G:(λwz=>Ext w wz) aj:=ag;simp only at G;have am:=N;revert hp N Z O;refine eY ag ?_;intro a1 hp N Z O;refine ⟨G,?_⟩;refine eT ?_;refine tC rfl rfl (HC.out _ Ae) ?_;rintro _ a2 ⟨a3,a4,⟨⟩,ak⟩;revert G N Z O;refine eY ak ?_;intro an G N Z O;refine ⟨G,?_⟩;refine Tq rfl (xB [_,_,_,_]) ?_;refine AC rfl (xS [_,_,_,_]) rfl ?_ aFh Ay;rintro _ ao ⟨ap,rfl,M,aq⟩;have ar:=M.blk;have ah:=M.ext;have au:=M.pos;have av:=M.size;revert G N Z O;refine eE ah ?_;intro G N Z O;refine ⟨G,?_⟩;refine Ar rfl ?_;refine Aw (GZ (R:=λ_=>False) (sh:=Hx 4) (z:=()) Ac CC rfl rfl rfl rfl AU rfl rfl rfl Ae (λ_ h=>by exact h) (mS Ae) ⟨rfl,rfl⟩ Ab Ab) rfl ?_ aFh;rintro _ aw ⟨U,ai,rfl,aa,V,ax,ab⟩;clear hp;have N:=mH N ab (λh=>by have:=af _ h;omega);clear Z;have O:=mL O ab (λk hk=>iG (iH hk));refine eS [_] N ?_;intro ay az ac _;clear N;have aa:=nE aa ac (λk hk=>⟨id,λe=>by (obtain rfl:=iQ (show some U=some k from e);rcases V with h|h;have:=af _ h;omega;omega)⟩);have O:=O.fr ac Ab;refine Ak (Bm rfl ?_)
   have a5:=O.size;refine ⟨rfl,_,⟨Ae,by rw [<-ae];assumption,λe=>?_,Ab⟩,O,λg hg=>?_⟩
   . obtain rfl:=iQ (show some U=some fb from e);rcases V with h|h
     . exact ad h
     . omega
   obtain rfl:=iQ (show some U=some g from hg);rcases V with h|h
   . exact iG h
   . exact iH Ab
def Xh (c fb:Nat) (rf:FuncId) (ca:lV) (E:wD->Value->Prop):Prop:=
 (∀w v w' v',E w v->Eff fb w v w' v'->E w' v') /\
 ∀(m:Nat) (v:Value) (err:Int) (s:lB) (S:nP) (pa:oA) (pn pc:Nat) (w:wD),m<=1000000000->pn<=1000000->PathAt S w pa pn pc->FS c fb m w v->E w v ->
  Calls prog rf ([.slice pa pn pc,str s,.int .i64 err]++ca).toArray w (RepR c fb (m+Pd err) w v)
def MB (fb:Nat):Value:=.func (.func 104) #[] #[.pointer (some ⟨fb,0,none⟩)]
def Vs (c G N O:Nat) (i:Int):Xh c G 108 [pt N,pt O] (λw v=>Blk w N [MB G]/\Blk w O [.int .i64 i]/\Kp G w v N/\Kp G w v O):=by
 refine ⟨λw v w' v' ⟨U,V,h3,X⟩ k=>⟨U.fr k.fr h3.not,V.fr k.fr X.not,h3.eff k,X.eff k⟩,?_⟩;rintro m v M s S Z pn pc w hm hn hp hf ⟨U,V,-,-⟩;have HR:=iF (Hz c G m v i M s S Z pn pc w hm hn hp hf);unfold MB at U;show Calls prog 108 #[.slice Z pn pc,str s,.int .i64 M,pt N,pt O] w _;have Y:=mI (λk=>k=G\/v.ownBlock=some k) w;refine Ad func108 ntmps108 rfl rfl (eK ?_);refine Aw (A9 (fi:=[]) (ca:=[pt G]) AU rfl rfl HR.out (λ_ _ h=>h.ret)) rfl ?_ aFh;rintro _ w5 ⟨⟨⟩,aa,V,f3,X⟩;have Y:=mL Y f3 (λk hk=>iG hk);refine Ak (Bm rfl ?_);exact ⟨rfl,_,Ae,Y,Ae⟩
def Vt (c G N O:Nat) (g:PG) (va:oA) (vc:Nat) (U:oA) (V:Nat) (ma:oA) (mc:Nat):Xh c G 109 [pt N,pt O] (λw v=>Blk w N [MB G]/\Blk w O (g.cells va vc U V ma mc)/\Kp G w v N/\Kp G w v O):=by
 refine ⟨λw v w' v' ⟨X,Y,h3,Z⟩ k=>⟨X.fr k.fr h3.not,Y.fr k.fr Z.not,h3.eff k,Z.eff k⟩,?_⟩;rintro m v M s S pa pn pc w hm hn hp hf ⟨X,Y,-,-⟩;have HR:=iF (Hz c G m v g.procs.length M s S pa pn pc w hm hn hp hf);unfold MB at X;show Calls prog 109 #[.slice pa pn pc,str s,.int .i64 M,pt N,pt O] w _;have X2:=mI (λk=>k=G\/v.ownBlock=some k) w;refine Ad func109 ntmps109 rfl rfl (eK ?_);refine Aw (A9 (fi:=[]) (ca:=[pt G]) AU rfl rfl HR.out (λ_ _ h=>h.ret)) rfl ?_ aFh;rintro _ w5 ⟨⟨⟩,aa,Y,f3,Z⟩;have X2:=mL X2 f3 (λk hk=>iG hk);refine Ak (Bm rfl ?_);exact ⟨rfl,_,Ae,X2,Ae⟩
def PM (e:Int):Pd e<=1:=by unfold Pd;split<;>omega
def MC (ps:List PD) (v:List VD) (s:lB) (m:Nat):∀(l:List Nd) (i:Nat),FX ps v s m i l<=l.length
 | [],_=>by simp [FX]
 | t::r,i=>by
  have:=PM (Qo ps v s m i t.name);have:=MC ps v s m r (i+1);simp only [FX,iM];omega
mutual
def S5 (ps:List PD):∀(t:Nd) (v:List VD),t.flt ps v<=t.size
 | .mk k n s l,v=>by
  have h1:=PM (CH ps v k s l.length);have h2:=MC ps v s l.length l 0;have h3:=Cz l;have h4:=KO ps l v k s 0;simp only [Nd.flt,mR];split<;>omega
def KO (ps:List PD):∀(l:List Nd) (v:List VD) (k:Int) (s:lB) (i:Nat),CU ps v k s i l<=AV l
 | [],_,_,_,_=>by simp [CU]
 | t::r,v,k,s,i=>by
  have:=S5 ps t (C4 k s i v);have:=KO ps r v k s (i+1);simp only [CU,AV];omega
end
def Ls (ps:List PD) (v:List VD) (k:Int) (s:lB):∀(l:List Nd) (j i:Nat) (h:j<l.length),CU ps v k s i (l.take (j+1))=CU ps v k s i (l.take j)+(l[j]).flt ps (C4 k s (i+j) v)
 | t::r,0,i,_=>by simp [CU]
 | t::r,j+1,i,h=>by
  simp only [jH,CU,lg];rw [Ls ps v k s r j (i+1) (by simpa using h)];rw [show i+1+j=i+(j+1) by omega];omega
def MD (ps:List PD) (v:List VD) (s:lB) (m:Nat):∀(l:List Nd) (j i:Nat) (h:j<l.length),FX ps v s m i (l.take (j+1))=FX ps v s m i (l.take j)+Pd (Qo ps v s m (i+j) (l[j]).name)
 | t::r,0,i,_=>by simp [FX]
 | t::r,j+1,i,h=>by
  simp only [jH,FX,lg];rw [MD ps v s m r j (i+1) (by simpa using h)];rw [show i+1+j=i+(j+1) by omega];omega
def I0:∀(l:List Nd) {j:Nat} (h:j<l.length),AV (l.take j)+l[j].size<=AV l
 | t::r,0,_=>by simp [AV]
 | t::r,j+1,h=>by
  have:=I0 r (j:=j) (by simpa using h);simp only [jH,AV,lg];omega
set_option maxHeartbeats 8000000 in
def Q6 (c fb:Nat) (dq:c<=fb) (rf:FuncId) (ca:lV) (bo:B0 prog rf=true) (E:wD->Value->Prop) (hR:Xh c fb rf ca E) (g:PG) (hg:g.procs.length<=1000000) (va:oA) (vc:Nat) (pa:oA) (pc:Nat) (ma:oA) (mc:Nat) (N:Nat) :
 ∀(t:Nd) (vs:List VD) (Sv Sp:nP) (ta:oA) (tc:Nat) (la:oA) (lc:Nat) (qa:oA) (qn qc:Nat) (w:wD) (v:Value) (m:Nat),t.size<N->vs.length+t.size<=1000000->qn+t.size<=1000000->m+t.size<=1000000000->t.sits (· < c) w ta->PDs (· < c) w g.procs pa->VDs Sv w vs la->vs.length<=lc->PathAt Sp w qa qn qc->(∀b,Sv b->Kp fb w v b)->(∀b,Sp b->Kp fb w v b)->FS c fb m w v->E w v ->
  Calls prog 107 #[.agg (g.cells va vc pa pc ma mc).toArray,t.val ta tc,.slice qa qn qc,.slice la vs.length lc,.func (.func rf) #[] ca.toArray] w (RepR c fb (m+t.flt g.procs vs) w v):=by
 induction N with
 | zero=>intro t vs Sv Sp ta tc la lc qa qn qc w v m h;omega
 | succ N ih=>
  rintro ⟨k,n,s,l⟩ vs Sv Sp ta tc la lc qa qn qc w v m hN ck cl cm V M O bd U be bf hF hE;have hz:(Nd.mk k n s l).size=1+AV l:=by rw [mR]
  have c0:=Cz l;rw [hz] at hN ck cl cm;have IH:=iF ih;have aq:=iF hR.1;have bp:=iF hR.2;have a5:∀b,Sv b -> ¬(b=fb\/v.ownBlock=some b):=λb Z=>(be b Z).not
  have a6:∀b,Sp b -> ¬(b=fb\/v.ownBlock=some b):=λb Z=>(bf b Z).not
  have al:∀g,v.ownBlock=some g->c<=g/\g<w.heap.size:=λg hg=>⟨hF.own.ge hg,hF.own.lt hg⟩
  have dr:=hF.cell.lt;have ar:=iF be;have a0:=iF bf;have bq:=iF (Zo g hg k n s l ta tc vs Ab (· < c) Sv va vc pa pc ma mc la lc);have a7:=iF (λ(w':wD) (x:Ext w w') (p:PathAt Sp w' qa qn qc)=>bp.out m v (CH g.procs vs k s l.length) s Sp qa qn qc w' Ab Ab p (hF.ext x) (aq.out _ _ _ _ hE (Eff.of_ext x)));have bg:=iF hE;clear ih hR be bf hE hF;have X:=Ne w;have X2:=mI (λk=>k=fb\/v.ownBlock=some k) w;have V:=EL V;show Calls prog 107 #[.agg (g.cells va vc pa pc ma mc).toArray,.agg #[.int .u8 k,.int .i64 n,str s,.slice ta l.length tc],.slice qa qn qc,.slice la vs.length lc,.func (.func rf) #[] ca.toArray] w _;refine Ad func107 ntmps107 rfl rfl ?_;refine cS (eB [_,_,_,_,_,_] ?_);intro b1 w2 Y x5 p6 z7;revert M O U X X2 V;refine eE x5 ?_;intro M O U X X2 V;refine eB [_,_,_,_] ?_;intro b8 w9 G cn ds dt;revert Y M O U X X2 V;refine eE cn ?_;intro Y M O U X X2 V;refine eK ?_;refine Aq (λwz=>Ext w9 wz) 8 (.pure 0 (.pure 1 (.pure 2 (.pure 3 (.pure 4 (.pure 5 (.pure 6 (.fork 7 .tail .none)))))))) mixed AU (Aa Ag) ?_;intro co br _;have ah:(λwz=>Ext w9 wz) co:=br;simp only at ah;have ac:=G;have ai:=Y;revert G Y M O U X X2 V;refine eY br ?_;intro du G Y M O U X X2 V;refine ⟨ah,?_⟩;refine eT ?_;refine Tq rfl (xL [_,_,_,_,_,_] (λwz hz=>(mN ai hz))) (Tq rfl (xL [_,_,_,_] (λwz hz=>(mN ac hz))) (Tq rfl Mv ?_));refine tC rfl rfl (bq.out _ Ae Ae) ?_;rintro _ dv ⟨⟨⟩,cp⟩;revert ah G Y M O U X X2 V;refine eY cp ?_;intro z22 ah G Y M O U X X2 V;refine ⟨ah,?_⟩;refine Ar rfl ?_;refine Aw (A9 (fi:=[]) (ca:=ca) bo rfl rfl (a7.out _ Ae Ae) (λ_ _ h=>h.ret)) rfl ?_ aFh
  rintro _ a1 ⟨⟨⟩,an,a2,aj,a3⟩;have z28:=aj.size;have G:=mH G aj (λh=>by (rcases h with h|h;omega;have:=al _ h;omega));have Y:=mH Y aj (λh=>by (rcases h with h|h;omega;have:=al _ h;omega));have M:=PDs.fr M aj (λb Z h=>by (rcases h with h|h;omega;have:=al _ h;omega));have O:=nd O aj (a5);have U:=PathAt.fr U aj (a6);have X2:=mL X2 aj (λk hk=>iG hk);have V:=nb V aj (λb Z h=>by (rcases h with h|h;omega;have:=al _ h;omega));refine cT (Aj ?_);have e1:Eff fb w v a1 an:=⟨X2,λg hg=>(a3 g hg).imp id λh=>by omega⟩;have k1:Kp fb a1 an b1:=⟨Y.lt,Ab,λe=>by rcases a3 _ e with h|h;(have:=al _ h;omega);omega⟩;have k8:Kp fb a1 an b8:=⟨G.lt,Ab,λe=>by rcases a3 _ e with h|h;(have:=al _ h;omega);omega⟩;have EE:=iF (aq.out);have bs:=iF (aq.out _ _ _ _ bg.out e1);have a8:(Nd.mk k n s l).flt g.procs vs=Pd (CH g.procs vs k s l.length)+(if k=50\/k=51 then FX g.procs vs s l.length 0 l else CU g.procs vs k s 0 l):=by rw [Nd.flt]
  rw [a8];have dw:=PM (CH g.procs vs k s l.length);clear a8;generalize Pd (CH g.procs vs k s l.length)=m0 at *;clear a7 bq a5 a6 al a3 X2;generalize an=v1 at *;refine E2 (ι:=Unit) (λ_=>[(2,.slice qa qn qc),(3,.slice la vs.length lc),(4,.func (.func rf) #[] ca.toArray),(5,pt b1),(6,pt b8),(30,.bool (decide (k=50\/k=51)))]) (λ_ w'=>w'=a1) ?_ ?_
  . focus
     refine eK ?_;refine B8 rfl rfl rfl (λcq=>?_) (λcq=>?_);refine FR (FR (FR (C1 TR (Ak ?_))));rotate_left;refine FQ (C1 Pg (FQ (C1 (Pl G) (FQ (C1 V1 (C1 Ss (Ak ?_)))))));rotate_left
    all_goals exact BQ () (An rfl (An rfl (An rfl (An rfl (An rfl (B4 rfl (congrArg Value.bool (by first|exact (decide_eq_true Ab).symm|exact decide_eq_decide.2 Ab)) BL)))))) rfl
  rintro-w0 h;subst h;by_cases hk:k=50\/k=51
  . rw [AG hk];clear IH;refine YO (Aj (cS (C1 Pf (C1 (Pl G) (C1 Pz (C1 Mv (cT ?_)))))));refine Au ?_;refine AP (ι:=Nat×Value) (λx=>[(2,.slice qa qn qc),(3,.slice la vs.length lc),(4,.func (.func rf) #[] ca.toArray),(5,pt b1),(6,pt b8),(32,.slice ta l.length tc),(33,.int .i64 l.length),(34,.int .i64 x.1)])
     (λx w'=>x.1<=l.length/\FS c fb (m+m0+FX g.procs vs s l.length 0 (l.take x.1)) w' x.2/\Eff fb w v w' x.2/\Kp fb w' x.2 b1/\Kp fb w' x.2 b8/\Blk w' b8 [.int .u8 k,.int .i64 n,str s,.slice ta l.length tc]/\Blk w' b1 (g.cells va vc pa pc ma mc)/\PDs (· < c) w' g.procs pa/\VDs Sv w' vs la/\PathAt Sp w' qa qn qc/\rowSits (· < c) w' l ta)
     (λx=>l.length-x.1) (0,v1) sB ⟨iT _,a2,e1,k1,k8,G,Y,M,O,U,V⟩ ?_
    clear a2 e1 k1 k8 G Y M O U V bs;rintro ⟨j,vj⟩ w3 ⟨hj,hF,e3,k1,k8,G,Y,M,O,U,V⟩;simp only at hj hF e3 k1 k8 G Y M O U V;by_cases ag:j<l.length
    . have ad:∀g,vj.ownBlock=some g->c<=g/\g<w3.heap.size/\g≠b1/\g≠b8:=λg hg=>⟨hF.own.ge hg,hF.own.lt hg,λe=>k1.2.2 (e▸hg),λe=>k8.2.2 (e▸hg)⟩
      have au:∀b,Sv b -> ¬(b=fb\/vj.ownBlock=some b):=λb Z=>((ar.out b Z).eff e3).not
      have av:∀b,Sp b -> ¬(b=fb\/vj.ownBlock=some b):=λb Z=>((a0.out b Z).eff e3).not
      have aw:∀b,Sv b->b<w3.heap.size:=λb Z=>((ar.out b Z).eff e3).1
      have ax:∀b,Sp b->b<w3.heap.size:=λb Z=>((a0.out b Z).eff e3).1
      have bh:=k1.not;have bi:=k8.not;have cr:=k8.1;have bj:=iF (EE.out _ _ _ _ bg.out e3);have bt:=MC g.procs vs s l.length (l.take j) 0;rw [jp] at bt;have am:=MD g.procs vs s l.length l j 0 ag;rw [jC] at am;obtain ⟨kb,ko,rfl,kS,ak⟩:=BI V (by intro e;subst e;simp at ag);obtain ⟨xa,xc,rx,-⟩:=ak j l[j] (iE ag);have bu:=iF (Q5 g hg k n s l Ab j ag vs Ab);have ay:=iF (λ(w':wD) (x:Ext w3 w') (S:nP) (pa:oA) (pn pc:Nat) (hp:pn<=1000000) (p:PathAt S w' pa pn pc)=>bp.out (m+m0+FX g.procs vs s l.length 0 (l.take j)) vj (Qo g.procs vs s l.length j l[j].name) l[j].name S pa pn pc w' Ab hp p (hF.ext x) (aq.out _ _ _ _ bj.out (Eff.of_ext x)));have E3:=iF e3;clear ak hF e3;have az:m+m0+FX g.procs vs s l.length 0 (l.take (j+1))=m+m0+FX g.procs vs s l.length 0 (l.take j)+Pd (Qo g.procs vs s l.length j l[j].name):=by rw [am];omega
      rw [<-az] at ay;clear am az;generalize l[j]=x at *;generalize Qo g.procs vs s l.length j x.name=ex at *;have X3:=Ne w3;have X4:=mI (λk=>k=fb\/vj.ownBlock=some k) w3;refine eK ?_;refine eA [_,_,_,_] ?_;intro dx dy ct cu dz d0;revert Y M O U G V X3 X4;refine eE cu ?_;intro Y M O U G V X3 X4;refine C1 Pa (eS [_,_,_,_] ct ?_);intro bv bw ao c1;revert Y M;refine eF ao ?_;intro Y M;have O:=nd O ao (λb Z e=>by have:=aw b Z;omega);have U:=PathAt.fr U ao (λb Z e=>by have:=ax b Z;omega);revert G V X3 X4;refine eF ao ?_;intro G V X3 X4;refine cT (Aq (λwz=>Ext bv wz) 11 (.pure 0 (.pure 1 (.pure 2 (.pure 4 (.pure 5 (.pure 6 (.pure 7 (.pure 8 (.pure 9 (.fork 3 (.fork 10 .tail .none) .none)))))))))) mixed AU (Af (Aa (Aa (Af (Aa (Aa Ag)))))) ?_);intro bx a9 _;have aa:(λwz=>Ext bv wz) bx:=a9;simp only at aa;have cj:=bw;have ai:=Y;have ac:=G;revert Y M O U G V X3 X4;refine eY a9 ?_;intro c2 Y M O U G V X3 X4;refine ⟨aa,?_⟩;refine eT ?_;refine Tq rfl (xL [_,_,_,_,_,_] (λwz hz=>(mN ai hz))) (Tq rfl (xL [_,_,_,_] (λwz hz=>(mN ac hz))) (Tq rfl Mv (Tq rfl Mv ?_)));refine tC rfl rfl (Ug _ _ _ _ _ _ Ab Ae) ?_;rintro _ c3 ⟨c4,c5,⟨⟩,ba,bz⟩;revert aa Y M O U G V X3 X4;refine eY bz ?_;intro c6 aa Y M O U G V X3 X4;refine ⟨aa,?_⟩;refine tC rfl rfl (bu.out _ _ _ _ _ _ _ _ _ _ _ _ _ _ Ae Ae Ae) ?_;rintro _ c7 ⟨⟨⟩,b0⟩;revert ba aa Y M O U G V X3 X4;refine eY b0 ?_;intro c8 ba aa Y M O U G V X3 X4;refine ⟨aa,?_⟩;refine Ar rfl ?_;refine Aw (A9 (fi:=[]) (ca:=ca) bo rfl rfl (ay.out _ Ae _ _ _ _ Ab Ae) (λ_ _ h=>h.ret)) rfl ?_ aFh;rintro _ b2 ⟨⟨⟩,bk,b3,ae,b4⟩;have Y:=mH Y ae (bh);have M:=PDs.fr M ae (λb Z h=>by (rcases h with h|h;omega;have:=ad _ h;omega));have O:=nd O ae (au);have U:=PathAt.fr U ae (av);have G:=mH G ae (bi);have V:=nb V ae (λb Z h=>by (rcases h with h|h;omega;have:=ad _ h;omega));clear rx;have X4:=mL X4 ae (λk hk=>iG hk);refine Ak (Ah (Ai (Al (C1 V7 (C1 Mv (Ak ?_))))))
      have e4:Eff fb w3 vj b2 bk:=⟨X4,λg hg=>(b4 g hg).imp id λh=>by omega⟩
      exact AA (j+1,_) sB ⟨by simp only;omega,b3,E3.out.trans e4,k1.eff e4,k8.eff e4,G,Y,M,O,U,V⟩ (by simp only;omega)
    . obtain rfl:j=l.length:=by omega
      rw [iZ] at hF;refine eK ?_;refine EZ rfl ?_;rw [<-mm];exact ⟨rfl,vj,hF,e3.fr,e3.new⟩
  . rw [At hk];refine YN (Ao (Ai (cS (C1 Pf (C1 (Pl G) (C1 Pz (C1 Mv (cT ?_))))))));refine Au ?_;refine AP (ι:=Nat×Value) (λx=>[(2,.slice qa qn qc),(3,.slice la vs.length lc),(4,.func (.func rf) #[] ca.toArray),(5,pt b1),(6,pt b8),(53,.slice ta l.length tc),(54,.int .i64 l.length),(55,.int .i64 x.1)])
     (λx w'=>x.1<=l.length/\FS c fb (m+m0+CU g.procs vs k s 0 (l.take x.1)) w' x.2/\Eff fb w v w' x.2/\Kp fb w' x.2 b1/\Kp fb w' x.2 b8/\Blk w' b8 [.int .u8 k,.int .i64 n,str s,.slice ta l.length tc]/\Blk w' b1 (g.cells va vc pa pc ma mc)/\PDs (· < c) w' g.procs pa/\VDs Sv w' vs la/\PathAt Sp w' qa qn qc/\rowSits (· < c) w' l ta)
     (λx=>l.length-x.1) (0,v1) sB ⟨iT _,a2,e1,k1,k8,G,Y,M,O,U,V⟩ ?_
    clear a2 e1 k1 k8 G Y M O U V bs;rintro ⟨j,vj⟩ w3 ⟨hj,hF,e3,k1,k8,G,Y,M,O,U,V⟩;simp only at hj hF e3 k1 k8 G Y M O U V;by_cases ag:j<l.length
    . have ad:∀g,vj.ownBlock=some g->c<=g/\g<w3.heap.size/\g≠b1/\g≠b8:=λg hg=>⟨hF.own.ge hg,hF.own.lt hg,λe=>k1.2.2 (e▸hg),λe=>k8.2.2 (e▸hg)⟩
      have au:∀b,Sv b -> ¬(b=fb\/vj.ownBlock=some b):=λb Z=>((ar.out b Z).eff e3).not
      have av:∀b,Sp b -> ¬(b=fb\/vj.ownBlock=some b):=λb Z=>((a0.out b Z).eff e3).not
      have aw:∀b,Sv b->b<w3.heap.size:=λb Z=>((ar.out b Z).eff e3).1
      have ax:∀b,Sp b->b<w3.heap.size:=λb Z=>((a0.out b Z).eff e3).1
      have bh:=k1.not;have bi:=k8.not;have cr:=k8.1;have c9:=hF.cell.lt;have da:=hF.le;have bj:=iF (EE.out _ _ _ _ bg.out e3);have d1:=KO g.procs (l.take j) vs k s 0;have am:=Ls g.procs vs k s l j 0 ag;rw [jC] at am;have d2:=I0 l ag;obtain ⟨kb,ko,rfl,kS,ak⟩:=BI V (by intro e;subst e;simp at ag);obtain ⟨xa,xc,rx,sx⟩:=ak j l[j] (iE ag);have db:(C4 k s j vs).length<=vs.length+1:=by unfold C4;split<;>(try split)<;>simp
      have HV:=iF (λ(w':wD) (x:Ext w3 w') (bl bm:nP) (b5:oA) (b6:Nat) (b7:oA) (b9:Nat) (V:(l[j]).sits (· < c) w' xa) (M:PDs (· < c) w' g.procs pa) (O:VDs bl w' (C4 k s j vs) b5) (bd:(C4 k s j vs).length<=b6) (U:PathAt bm w' b7 (qn+1) b9) (cv:∀b,bl b->Sv b\/(w3.heap.size<=b/\b<w'.heap.size)) (cw:∀b,bm b->w3.heap.size<=b/\b<w'.heap.size)=>
       IH.out l[j] (C4 k s j vs) bl bm xa xc b5 b6 b7 (qn+1) b9 w' vj (m+m0+CU g.procs vs k s 0 (l.take j)) Ab Ab Ab Ab V M O bd U
        (λb Z=>by
         rcases cv b Z with h|h
         . exact ((ar.out b h).eff e3).eff (Eff.of_ext x)
         . exact ⟨h.2,Ab,λe=>by have:=ad _ e;omega⟩)
        (λb Z=>by have h:=cw b Z;exact ⟨h.2,Ab,λe=>by have:=ad _ e;omega⟩) (hF.ext x) (aq.out _ _ _ _ bj.out (Eff.of_ext x)))
      have az:m+m0+CU g.procs vs k s 0 (l.take (j+1))=m+m0+CU g.procs vs k s 0 (l.take j)+(l[j]).flt g.procs (C4 k s j vs):=by rw [am];omega
      rw [<-az] at HV;have cx:=iF (Zn k n s l (some ⟨kb,ko,none⟩) tc j vs Ab Sv la lc);have E3:=iF e3;clear ak hF e3 am az;generalize C4 k s j vs=d3 at *;generalize l[j]=x at *;have X3:=Ne w3;have X4:=mI (λk=>k=fb\/vj.ownBlock=some k) w3;refine eK ?_;refine eA [_,_,_,_] ?_;intro d4 d5 cy cz d6 d7;revert Y M O U G V sx X3 X4;refine eE cz ?_;intro Y M O U G V sx X3 X4;refine C1 Pa (eS [_,_,_,_] cy ?_);intro cb cc ap dc;revert Y M;refine eF ap ?_;intro Y M;have O:=nd O ap (λb Z e=>by have:=aw b Z;omega);have U:=PathAt.fr U ap (λb Z e=>by have:=ax b Z;omega);revert G V sx X3 X4;refine eF ap ?_;intro G V sx X3 X4;refine cT (Aq (λwz=>Ext cb wz) 10 (.pure 0 (.pure 1 (.pure 2 (.pure 3 (.pure 5 (.pure 6 (.pure 7 (.pure 9 (.fork 4 (.fork 8 .tail .none) .none))))))))) mixed AU (Af (Aa (Aa (Af Ag)))) ?_);intro cd bb _;have ab:(λwz=>Ext cb wz) cd:=bb;simp only at ab;have a4:=cc;have ai:=Y;have ac:=G;revert Y M O U G V sx X3 X4;refine eY bb ?_;intro dd Y M O U G V sx X3 X4;refine ⟨ab,?_⟩;refine Tq rfl (xL [_,_,_,_,_,_] (λwz hz=>(mN ai hz))) (Tq rfl (xL [_,_,_,_] (λwz hz=>(mN a4 hz))) (Tq rfl Mv (Tq rfl Mv (Tq rfl (xL [_,_,_,_] (λwz hz=>(mN ac hz))) ?_))));refine eT ?_;refine tC rfl rfl (Ug _ _ _ _ _ _ Ab Ae) ?_
      rintro _ de ⟨df,dg,⟨⟩,bc,ce⟩;revert ab Y M O U G V sx X3 X4;refine eY ce ?_;intro dh ab Y M O U G V sx X3 X4;refine ⟨ab,?_⟩;refine tC rfl rfl (cx.out _ bd Ae) ?_;rintro _ di ⟨dk,dl,⟨⟩,dm,dn,cf⟩;revert bc ab Y M O U G V sx X3 X4;refine eY cf ?_;intro dp bc ab Y M O U G V sx X3 X4;refine ⟨ab,?_⟩;refine Ar rfl (cC rfl (HV.out _ Ae _ _ _ _ _ _ Ae Ae Ae Ab Ae (by (intro b Z;rcases Z with Z|Z;exact iG Z;exact iH ⟨Ab,Ab⟩)) (by (intro b Z;exact ⟨Ab,Ab⟩))) ?_);rintro _ cg ⟨⟨⟩,bn,ch,af,ci⟩;have Y:=mH Y af (bh);have M:=PDs.fr M af (λb Z h=>by (rcases h with h|h;omega;have:=ad _ h;omega));have O:=nd O af (au);have U:=PathAt.fr U af (av);have G:=mH G af (bi);have V:=nb V af (λb Z h=>by (rcases h with h|h;omega;have:=ad _ h;omega));clear rx;have X4:=mL X4 af (λk hk=>iG hk);refine Ak (Ah (Ai (Al (C1 V7 (C1 Mv (Ak ?_))))));have e4:Eff fb w3 vj cg bn:=⟨X4,λg hg=>(ci g hg).imp id λh=>by omega⟩
      exact AA (j+1,_) sB ⟨by simp only;omega,ch,E3.out.trans e4,k1.eff e4,k8.eff e4,G,Y,M,O,U,V⟩ (by simp only;omega)
    . obtain rfl:j=l.length:=by omega
      rw [iZ] at hF;refine cS (C1 V3 (cT (Aj (DA (Ca (AB (AB (A0 (Bm rfl ?_)))))))));rw [<-mm];exact ⟨rfl,vj,hF,e3.fr,e3.new⟩
def bJ (S:nP) (w:wD) (b o:Nat) (p:PD):Prop:= ∃pa pc ba bc,Row w ⟨b,o,none⟩ (p.cells pa pc ba bc)/\VDs S w p.params pa/\p.body.sits S w ba/\p.params.length<=pc
def PDsC (S:nP) (w:wD) (l:List PD) (a:oA):Prop:=Arr S 6 (bJ S) w l a
def PDsC.pds (h:PDsC S w l a):PDs S w l a:=h.mono aFh (λ_ _ _ _ _ ⟨G,pc,ba,bc,h1,h2,h3,_⟩=>⟨G,pc,ba,bc,h1,h2,h3⟩)
def PDsC.ext {S:nP} {w w':wD} {l:List PD} {a:oA} (h:PDsC S w l a) (x:Ext w w'):PDsC S w' l a:=
 h.mono aFh (λ_ _ _ _ _ ⟨G,pc,ba,bc,h1,h2,h3,h4⟩=>⟨G,pc,ba,bc,h1.ext x,h2.ext x,h3.ext x,h4⟩)
instance:LfE w w' (PDsC S w l a) (PDsC S w' l a):=⟨λx h=>Bk.PDsC.ext h x⟩
def PDsC.fr {S T:nP} {w w':wD} {l:List PD} {a:oA} (h:PDsC S w l a) (x:Fr T w w') (G:∀b,S b -> ¬T b):PDsC S w' l a:=
 h.mono aFh (λb _ _ _ M ⟨N,pc,ba,bc,h1,h2,h3,h4⟩=>⟨N,pc,ba,bc,h1.fr x (G b M),h2.fr x G,h3.fr x G,h4⟩)
instance {T:nP}:LfF T w w' (PDsC S w l a) (∀b,S b -> ¬T b) (PDsC S w' l a):=⟨λx s h=>Bk.PDsC.fr h x s⟩
def PDsC.get (h:PDsC S w l a) (G:l≠[]):∃b o,a=some ⟨b,o,none⟩/\S b /\ ∀i p,l[i]? = some p->bJ S w b (o+i*6) p:=by
 rcases h with h|⟨b,o,M,N,O⟩
 . exact absurd h G
 . exact ⟨b,o,M,N,λi v U=>O i v U⟩
def PDsC.ltA (h:PDsC S w l a):PDsC (· < w.heap.size) w l a:=by
 rcases h with h|⟨b,o,V,h2,G⟩
 . exact iG h
 . cases l with
   | nil=>exact iG rfl
   | cons p r=>
    obtain ⟨M,N,O,U,X,-⟩:=G 0 p rfl;refine iH ⟨b,o,V,Cs (X.at0 rfl),λi v Y=>?_⟩;obtain ⟨M,N,O,U,k1,Z,k3,k4⟩:=G i v Y;exact ⟨M,N,O,U,k1,Z.lt2.wide (λ_ h=>h.2),Cd _ _ k3,k4⟩
def Fc:Shape PD where
 sz:=6
 rep:=λw S p cs=> ∃pa pc ba bc,cs=p.cells pa pc ba bc/\VDs S w p.params pa/\p.body.sits S w ba/\p.params.length<=pc
 len:=λ⟨_,_,_,_,h,_⟩=>by rw [h];rfl
 one:=λ⟨_,_,_,_,h,_⟩=>by rw [h];rfl
 mono:=λ⟨pa,pc,ba,bc,h,h1,h2,h3⟩ hS hc=>⟨pa,pc,ba,bc,h,h1.move hS hc,Nd.sits_mono hS hc _ ba h2,h3⟩
 lt:=λ⟨pa,pc,ba,bc,h,h1,h2,h3⟩=>⟨pa,pc,ba,bc,h,h1.lt2,Gs _ ba h2,h3⟩
def PDsC.wide {S S':nP} {w:wD} {l:List PD} {a:oA} (h:PDsC S w l a) (G:∀b,S b->S' b):PDsC S' w l a:=
 h.mono G (λ_ _ _ _ _ ⟨M,pc,ba,bc,h1,h2,h3,h4⟩=>⟨M,pc,ba,bc,h1,h2.wide G,mK h3 G,h4⟩)
def OwnL.pdsC {B e:Nat} {len cap:Nat} {xs:List PD} (h:OwnL Fc w B e (.slice a len cap) xs) (M:∀b,B<=b->S b):PDsC S w xs a:=by
 by_cases O:xs=[]
 . exact iG O
 . obtain ⟨g,U,V,X,G⟩:=h.rows O;simp only [jm] at V;obtain ⟨rfl,-,-⟩:=V;refine iH ⟨g,0,rfl,M g X,λi x Y=>?_⟩;obtain ⟨cs,Z,pa,pc,ba,bc,rfl,h1,h2,h3⟩:=G i x Y;exact ⟨pa,pc,ba,bc,by simpa [Fc] using Z,h1.wide (λb N=>M b N.1),h2.wide (λb N=>M b N.1),h3⟩
def H7:∀(l acc:List VD) (i:Nat) (h:i<l.length),Cu acc (l.take (i+1))=Cu acc (l.take i)+Pd (Fg (acc++l.take i) (l[i]).name)
 | v::r,acc,0,_=>by simp [Cu]
 | v::r,acc,i+1,h=>by
  simp only [jH,Cu,lg];rw [H7 r (acc++[v]) i (by simpa using h)];simp only [jk,lK];omega
def Fw:∀(l acc:List VD),Cu acc l<=l.length
 | [],_=>by simp [Cu]
 | v::r,acc=>by
  have:=PM (Fg acc v.name);have:=Fw r (acc++[v]);simp only [Cu,iM];omega
def ME (ps:List PD) (i:Nat) (p:PD):Nat:=(if (Cf ps p.name).getD i<i then 1 else 0)+Cu [] p.params+p.body.flt ps p.params
def Lt (ps:List PD):∀(l:List PD) (i j:Nat) (h:j<l.length),DS ps i (l.take (j+1))=DS ps i (l.take j)+ME ps (i+j) l[j]
 | p::r,i,0,_=>by simp [DS,ME]
 | p::r,i,j+1,h=>by
  simp only [jH,DS,lg];rw [Lt ps r (i+1) j (by simpa using h)];rw [show i+1+j=i+(j+1) by omega];omega
def Xi {ps:List PD} {i:Nat} (h:i<ps.length):decide (Gz ps (ps[i]).name<(i:Int))=decide ((Cf ps (ps[i]).name).getD i<i):=by
 unfold Gz;cases hq:Cf ps (ps[i]).name with
 | none=>
  exfalso;unfold Cf at hq;rw [List.findIdx?_eq_none_iff] at hq;have:=hq ps[i] (iS h);simp at this
 | some j=>simp
def VD.ok (v:VD):Bool:=Cv v.name&&if v.kind=1\/v.kind=3 then v.len==0 else if v.kind=2 then decide (1<=v.len)&&decide (v.len<=16) else false
def Hb (l:List VD):Bool:=l.all VD.ok
mutual
def Nd.lim:Nd->Int->Int->Bool×Int
 | .mk _ _ _ l,d,m=>if d=0\/m=0 then (false,m) else C8 l (d-1) (m-1)
def C8:List Nd->Int->Int->Bool×Int
 | [],_,m=>(true,m)
 | t::r,d,m=>if (t.lim d m).1 then C8 r d (t.lim d m).2 else (false,(t.lim d m).2)
end
def Fi (t:Nd):Bool:=(t.lim 80 2000).1&&t.isBlock
def PD.ok (p:PD):Bool:=Cv p.name&&decide (p.params.length<=8)&&Hb p.params&&Fi p.body
def PG.ok (g:PG):Bool:=decide (g.vars.length<=32)&&decide (g.procs.length<=64)&&Hb g.vars&&g.procs.all PD.ok&&Fi g.main
end Bk
namespace Bk
open Go Go.RowKit Go.Proofs
variable {G:List (lB×Value)} {r e t n sz:Nat} {w w':wD} {x:Operand} {l:List (Int×Int)} {S T:nP} {N:oA} {v:Value} {g:PG} {P:Program} {xs:List Int} {m:Option Nat} {ty:TypeId} {ps:List PD} {q:Bool} {k:Int} {s:lB}
structure VD.wf (v:VD):Prop where
 name:v.name.length<=9223372036854775807
 k0:0<=v.kind
 k1:v.kind<=255
 l0 : -9223372036854775808<=v.len
 l1:v.len<=9223372036854775807
def Q7 {l:List VD} {j:Nat} (h:j<l.length) (G:l[j].ok=false):Hb l=false:=by
 unfold Hb;rw [mx];exact ⟨l[j],iS h,by simp [G]⟩
def S6 {l:List VD} (h:∀j (N:j<l.length),l[j].ok=true):Hb l=true:=by
 unfold Hb;rw [jr];intro x G;obtain ⟨i,M,rfl⟩:=List.mem_iff_getElem.1 G;exact h i M
def MF (l:List VD) (S:nP) (a:oA) (c:Nat) (w:wD) (hl:l.length<=9223372036854775807) (ab:∀v∈l,v.wf) (hs:VDs S w l a) :
 Calls prog 102 #[.slice a l.length c] w λe w'=>e = .returned (.bool (Hb l))/\Ext w w':=by
 refine Ad func102 ntmps102 rfl rfl (eK ?_);refine AP (ι:=Nat) (λj=>[(7,.int .i64 j),(6,.int .i64 l.length),(5,.slice a l.length c)]) (λj w'=>Ext w w'/\j<=l.length /\ ∀i (U:i<l.length),i<j->l[i].ok=true) (λj=>l.length-j) 0 sB ⟨Ne _,Ab,Ab⟩ ?_;rintro j w1 ⟨x1,hj,Y⟩;have HA:=iF Y;by_cases V:j<l.length
 . obtain ⟨kb,ko,rfl,-,Z⟩:=m5 (hs.ext x1) Ab;have rx:Row w1 ⟨kb,ko+j*3,none⟩ l[j].cells:=Z j l[j] (iE V);have wf:=ab l[j] (iS V);have ac:=wf.name;have HF:l[j].ok=false->Hb l=false:=Q7 V;have X:=iF HF;generalize hv:l[j]=v at *;have HE:=iF hv;refine eK ?_;refine Hk CC rfl rfl ?_;intro b2 w2 N;refine JF Ac rfl rfl rfl rfl rfl rfl (N) rfl ?_;intro w2 N;have h2:=N.blk;have x2:=N.ext;refine kC (KK v.name _ ac) ?_;rintro _ w3 ⟨⟨⟩,x3⟩;have G:Ext w w3:=(by refine m8 ?_ Ae;refine m8 ?_ Ae;assumption);have h3:=h2.ext x3;cases hnm:Cv v.name
   . try rw [hnm]
     refine C1 Pt (Ak (Ai (Hg rfl (by rfl) (eK ?_))));refine AT results102 rfl ?_;exact ⟨AY (X.out (by simp [VD.ok,hnm])).symm,G⟩
   try rw [hnm]
   by_cases M:v.kind=1\/v.kind=3
   . by_cases h0:v.len=0
     . have h:v.ok=true:=by simp [VD.ok,hnm,M,h0]
       rcases M with M|M
       . refine C1 Pt (Ak (Ai (Hh rfl (by rfl) ?_)));refine eK ?_;refine AA (j+1) sB ⟨G,Ab,λi U aa=>?_⟩ Ab;by_cases e:i=j
         . subst e;exact HE.out▸h
         . exact HA.out i U Ab
       . refine C1 Pt (Ak (Ai (Hh rfl (by rfl) ?_)));refine eK ?_;refine AA (j+1) sB ⟨G,Ab,λi U aa=>?_⟩ Ab;by_cases e:i=j
         . subst e;exact HE.out▸h
         . exact HA.out i U Ab
     . have h:v.ok=false:=by simp [VD.ok,hnm,M,h0]
       rcases M with M|M
       . refine C1 Pt (Ak (Ai (Hh rfl (by rfl) ?_)));refine eK ?_;refine AT results102 rfl ?_;exact ⟨AY (X.out h).symm,G⟩
       . refine C1 Pt (Ak (Ai (Hh rfl (by rfl) ?_)));refine eK ?_;refine AT results102 rfl ?_;exact ⟨AY (X.out h).symm,G⟩
   . have ad:v.kind≠1:=λe=>M (iG e)
     have ae:v.kind≠3:=λe=>M (iH e)
     by_cases O:v.kind=2
     . by_cases af:v.len<1
       . have h:v.ok=false:=by simp [VD.ok,hnm,O];omega
         refine C1 Pt (Ak (Ai (Hh rfl (by rfl) (Ao (Ai (Aj (Al (C1 Pf (C1 NN (Ak (Ai ?_)))))))))));refine Au (Aj (Aj (Al (C1 V1 (C1 Pa (Ak (Ai (YN (Al (C1 V1 (C1 Pa (Ak (Ai (YN (Aj (Al (C1 V1 (C1 Pa (Ak (Ai (YO (Aj (Al (C1 Pf (C1 NN (C1 V3 (C1 Mv (BB rfl rfl rfl Ae rfl (BB rfl rfl rfl Ae rfl (BB rfl rfl rfl Ae rfl (C1 TR (Ak (Ai (Hg rfl (by rfl) (eK ?_)))))))))))))))))))))))))))))))))));refine AT results102 rfl ?_;exact ⟨AY (X.out h).symm,G⟩
       . by_cases ag:16<v.len
         . have h:v.ok=false:=by simp [VD.ok,hnm,O];omega
           refine C1 Pt (Ak (Ai (Hh rfl (by rfl) (Ao (Ai (Aj (Al (C1 Pf (C1 NN (Ak (Ai ?_)))))))))));refine Au (Aj (Aj (Al (C1 V1 (C1 Pa (Ak (Ai (YN (Al (C1 V1 (C1 Pa (Ak (Ai (YN (Aj (Al (C1 V1 (C1 Pa (Ak (Ai (YO (Aj (Al (C1 Pf (C1 NN (C1 V3 (C1 Mv (Bl rfl rfl rfl Ae (C1 Pf (Bl rfl rfl rfl Ae (C1 NN (Bl rfl rfl rfl Ae (eK ?_)))))))))))))))))))))))))))))))));refine AT results102 rfl ?_;exact ⟨AY (X.out h).symm,G⟩
         . have h:v.ok=true:=by simp [VD.ok,hnm,O];omega
           refine C1 Pt (Ak (Ai (Hh rfl (by rfl) (Ao (Ai (Aj (Al (C1 Pf (C1 NN (Ak (Ai ?_)))))))))));refine Au (Aj (Aj (Al (C1 V1 (C1 Pa (Ak (Ai (YN (Al (C1 V1 (C1 Pa (Ak (Ai (YN (Aj (Al (C1 V1 (C1 Pa (Ak (Ai (YO (Aj (Al (C1 Pf (C1 NN (C1 V3 (C1 Mv (Bl rfl rfl rfl Ae (C1 Pf (Bl rfl rfl rfl Ae (C1 NN (Bl rfl rfl rfl Ae (eK ?_)))))))))))))))))))))))))))))))));refine AA (j+1) sB ⟨G,Ab,λi U aa=>?_⟩ Ab;by_cases e:i=j
           . subst e;exact HE.out▸h
           . exact HA.out i U Ab
     . have h:v.ok=false:=by simp [VD.ok,hnm,ad,O,ae]
       refine C1 Pt (Ak (Ai (Hh rfl (by rfl) (eK ?_))));refine AT results102 rfl ?_;exact ⟨AY (X.out h).symm,G⟩
 . refine eK ?_;refine AT results102 rfl ?_;exact ⟨AY (S6 (λi U=>HA.out i U Ab)).symm,x1⟩
mutual
def PN:∀(t:Nd) (d m:Int),0<=m->0<=(t.lim d m).2/\(t.lim d m).2<=m
 | .mk _ _ s l,d,m,hm=>by
  simp only [Nd.lim];split
  . exact ⟨hm,mh _⟩
  . have:=Oi l (d-1) (m-1) Ab;omega
def Oi:∀(l:List Nd) (d m:Int),0<=m->0<=(C8 l d m).2/\(C8 l d m).2<=m
 | [],d,m,hm=>by simp only [C8];omega
 | t::r,d,m,hm=>by
  have h1:=PN t d m hm;simp only [C8];split
  . have:=Oi r d (t.lim d m).2 h1.1;omega
  . omega
end
def Q8 (l:List Nd) (j:Nat) (h:j<l.length) (d m:Int):C8 (l.drop j) d m=if (l[j].lim d m).1 then C8 (l.drop (j+1)) d (l[j].lim d m).2 else (false,(l[j].lim d m).2):=by
 rw [jd h,C8]
def Vu (N:Nat):∀(t:Nd) (S:nP) (a:oA) (c:Nat) (d m:Int) (M:Nat) (w:wD),t.size<N->t.wf->0<=d->d<=1000000->0<=m->m<=1000000->t.sits S w a -> ¬S M->Blk w M [.int .i64 m] ->
 Calls prog 139 #[t.val a c,.int .i64 d,pt M] w λe w'=>e = .returned (.bool (t.lim d m).1)/\Blk w' M [.int .i64 (t.lim d m).2]/\Fr (· = M) w w':=by
 induction N with
 | zero=>intro t S a c d m M w h;omega
 | succ N ih=>
  intro t S a c d m M w hN ab ar au av aw hs hS hb;have IH:=iF ih;obtain ⟨k,n,s,l⟩:=t;simp only [Nd.wf,mR] at ab hN;simp only [Nd.val,Nd.kind,Nd.num,Nd.name,Nd.kids,Nd.lim];simp only [Nd.sits] at hs;obtain ⟨-,-,-,-,-,ax,ag⟩:=ab;have aq:=hb.lt;by_cases X:d=0\/m=0
  . rw [AG X];refine Ad func139 ntmps139 rfl rfl (eK ?_);refine L3 rfl rfl rfl ?_;intro b1 w1 G;have h1:=G.blk;have x1:=G.ext;have Y:=hb.ext x1;by_cases hd:d=0
    . refine C1 Pa (Ak (Ai (Aj (Aj (Al (C1 Mv (C1 V1 (C1 Mv (BB rfl rfl rfl Ae rfl (BB rfl rfl rfl Ae rfl (BB rfl rfl rfl Ae rfl ?_)))))))))));refine BB rfl rfl rfl Ae rfl (C1 TR (Ak (Ai (Hg rfl (by rfl) (eK ?_)))));refine AT results139 rfl ?_;exact ⟨rfl,Y,.of_ext x1⟩
    . have hm:m=0:=by omega
      refine C1 Pa (Ak (Ai (Aj (Aj (Al (C1 Mv (C1 V1 (C1 Mv (Bl rfl rfl rfl Ae (C1 Mv (Bl rfl rfl rfl Ae (C1 Pn (Bl rfl rfl rfl Ae (C1 NN (Bl rfl rfl rfl Ae (eK ?_))))))))))))))));refine AT results139 rfl ?_;exact ⟨rfl,Y,.of_ext x1⟩
  . rw [At X];have hd:d≠0:=λe=>X (iG e)
    have hm:m≠0:=λe=>X (iH e)
    refine Ad func139 ntmps139 rfl rfl (eK ?_);refine L3 rfl rfl rfl ?_;intro b1 w1 G;have h1:=G.blk;have x1:=G.ext;have p1:=G.pos;have Y:=hb.ext x1;have ah:=hs.ext x1;refine C1 Pa (Ak (Ai (Aj (Aj (Al (C1 Mv (C1 V1 (C1 Mv (Bl rfl rfl rfl Ae (C1 Mv (Bl rfl rfl rfl Ae (C1 Pn (Bl rfl rfl rfl Ae (C1 NN (Bl rfl rfl rfl Ae (C1 V1 (C1 Ss (Ak (Ai (YN (Ao (Ai (Aj (Al (C1 Mv (C1 Pn (C1 NN (Dg (by exact AL rfl rfl (iO _ Ab)) rfl (C1 Pn (L4 Ac rfl rfl rfl rfl rfl rfl (Y) rfl ?_))))))))))))))))))))))))))))));intro w2 O;have ai:Blk w2 M [.int .i64 (m-1)]:=O.blk;have h2:=h1.put O Ab;have aj:rowSits S w2 l a:=ah.fr O.fr (λb hb e=>hS (e▸hb));have f2:Fr (· = M) w w2:=(mG x1).trans O.fr;have ay:w2.heap.size=b1+1:=by rw [O.size,G.size]
    have ak:=iF aj;refine eK ?_;refine AP (ι:=Nat) (λx=>[(25,.int .i64 x),(24,.int .i64 l.length),(23,.slice a l.length c),(2,pt M),(1,.int .i64 d)]) (λx w'=>Fr (· = M) w2 w'/\x<=l.length /\ ∃V,Blk w' M [.int .i64 V]/\0<=V/\V<=1000000/\C8 l (d-1) (m-1)=C8 (l.drop x) (d-1) V) (λx=>l.length-x) 0 sB ⟨mI _ _,iT _,m-1,ai,Ab,Ab,rfl⟩ ?_;rintro j w3 ⟨f3,hj,V,ac,aa,ad,al⟩;have HR:=iF al;by_cases U:j<l.length
    . have am:rowSits S w3 l a:=ak.out.fr f3 (λb hb e=>hS (e▸hb));obtain ⟨kb,ko,rfl,az,ae⟩:=BI am (by intro e;subst e;simp at U);obtain ⟨xa,xc,rx,sx⟩:=ae j l[j] (iE U);have an:=BD ag l[j] (iS U);have a0:=Ej (iS U);have HD:=iF (Q8 l j U (d-1) V);generalize l[j]=x at *;have ao:=PN x (d-1) V aa;refine eK ?_;refine Hk CC rfl rfl ?_;intro b4 w4 Z;refine JF Ac rfl rfl rfl rfl rfl rfl (Z) rfl ?_;intro w4 Z;have h4:=Z.blk;have x4:=Z.ext;have ap:=ac.ext x4;refine Ak (Ai (Aj (Al (Dg (by exact BE Ac rfl rfl rfl (by exact λwz hz=>by (try subst hz);exact (mS Ae)) (by rfl)) rfl (C1 Mv (Dg (by exact AL rfl rfl (iO _ Ab)) rfl (C1 Mv (cC rfl (IH.out x S xa xc (d-1) V M _ Ab an Ab Ab aa ad (sx.ext x4) hS ap) ?_))))))));rintro _ w5 ⟨⟨⟩,af,f5⟩;have f35:Fr (· = M) w2 w5:=f3.trans ((mG x4).trans f5);cases X:(x.lim (d-1) V).1
      . try rw [X]
        refine C1 Pt (Ak (Ai (Hg rfl (by rfl) (eK ?_))));refine AT results139 rfl ?_;rw [HR.out,HD.out,X];exact ⟨rfl,af,f2.trans f35⟩
      . try rw [X]
        refine C1 Pt (Ak (Ai (Hh rfl (by rfl) (eK ?_))));refine AA (j+1) sB ⟨f35,Ab,(x.lim (d-1) V).2,af,ao.1,Ab,?_⟩ Ab;rw [HR.out,HD.out,X];rfl
    . refine eK ?_;refine AT results139 rfl ?_;have:l.drop j=[]:=jK Ab;rw [HR.out,this];exact ⟨rfl,ac,f2.trans f3⟩
def Ext.fr1 {a b c:wD} (h:Ext a b) (k:Fr (· = r) b c) (N:a.heap.size<=r):Ext a c:=
 ⟨k.os.trans (Below.os h),k.tape.trans (mD h),k.output.trans (mu h),jM h.size k.size,λi M=>(k.block i (jX M h.size) Ab).trans (h.block M)⟩
def Xj (t:Nd) (a:oA) (h:t.sits S w a):t.sits (λb=>S b/\b<w.heap.size) w a:=by
 have key:∀N:Nat,(∀(l:List Nd) (a:oA),AV l<N->rowSits S w l a->rowSits (λb=>S b/\b<w.heap.size) w l a):=by
  intro N
  induction N with
  | zero=>intro l a h;omega
  | succ N G=>
   intro l a M h;cases l with
   | nil=>simp [rowSits]
   | cons x r=>
    simp only [rowSits] at h ⊢;obtain ⟨b,o,O,c,rfl,X,U,Y,Z,h3,V,hr⟩:=h;have hb:=Cs U;simp only [AV] at M;have hx:=Nd.size_pos x;obtain ⟨k,n,s,l⟩:=x;simp only [mR] at M;refine ⟨b,o,O,c,rfl,⟨X,hb⟩,U,Y,Z,h3,?_,G r _ Ab hr⟩;simp only [Nd.sits] at V ⊢;exact G l O Ab V
 obtain ⟨k,n,s,l⟩:=t;simp only [Nd.sits] at h ⊢;exact key (AV l+1) l a Ab h
def Q9 (t:Nd) (S:nP) (a:oA) (c:Nat) (w:wD) (N:t.wf) (X:t.sits S w a) :
 Calls prog 103 #[t.val a c] w λe w'=>e = .returned (.bool (Fi t))/\Ext w w':=by
 have O:=Xj t a X;refine Ad func103 ntmps103 rfl rfl (eK ?_);refine L3 rfl rfl rfl ?_;intro b1 w1 M;have h1:=M.blk;have x1:=M.ext;have p1:=M.pos;have z1:=M.size;refine eK ?_;refine Hk CC rfl rfl ?_;intro b2 Y G;refine JF Ac rfl rfl rfl rfl rfl rfl (G) rfl ?_;intro Y G;have x2:=G.ext;have h2:=h1.ext x2;have aa:=G.pos;refine Ak (Ai (Aj (Al (Dg (by exact BE Ac rfl rfl rfl (by exact λwz U=>by (try subst U);exact (mS Ae)) (by rfl)) rfl (cC rfl (Vu (t.size+1) t _ a c 80 2000 b2 _ Ab N Ab Ab Ab Ab (O.ext (by refine m8 ?_ Ae;assumption)) (λh=>by omega) G.blk) ?_)))));rintro _ w3 ⟨⟨⟩,-,Z⟩;have V:Ext w w3:=Ext.fr1 (b:=Y) (by refine m8 ?_ Ae;assumption) Z Ab;have h3:=h2.fr Z Ab;cases hq:(t.lim 80 2000).1
 . try rw [hq]
   refine eK ?_;refine AT results103 rfl ?_;exact ⟨AY (by simp [Fi,hq]),V⟩
 . try rw [hq]
   refine C1 Mv (Bn rfl rfl rfl (rfl) (Dg (by exact BE Ac rfl rfl rfl (by exact λwz U=>by (try subst U);exact (mS Ae)) (by rfl)) rfl (Bn rfl rfl rfl (rfl) (cC rfl (Vd S t N a c _ (X.ext V)) ?_))));rintro _ w4 ⟨⟨⟩,x4⟩;refine eK ?_;refine AT results103 rfl ?_;exact ⟨AY (by simp [Fi,hq]),V.trans x4⟩
structure PD.wf (p:PD):Prop where
 name:p.name.length<=9223372036854775807
 len:p.params.length<=9223372036854775807
 params:∀v∈p.params,v.wf
 body:p.body.wf
structure PG.wf (g:PG):Prop where
 nv:g.vars.length<=9223372036854775807
 np:g.procs.length<=9223372036854775807
 vars:∀v∈g.vars,v.wf
 procs:∀p∈g.procs,p.wf
 main:g.main.wf
def Ra {l:List PD} {j:Nat} (h:j<l.length) (G:l[j].ok=false):l.all PD.ok=false:=by
 rw [mx];exact ⟨l[j],iS h,by simp [G]⟩
def S7 {l:List PD} (h:∀j (N:j<l.length),l[j].ok=true):l.all PD.ok=true:=by
 rw [jr];intro x G;obtain ⟨i,M,rfl⟩:=List.mem_iff_getElem.1 G;exact h i M
def Zp (g:PG) (S:nP) (va:oA) (vc:Nat) (pa:oA) (pc:Nat) (ma:oA) (mc:Nat) (w:wD) (h:g.wf) (hs:g.sits S w va pa ma) :
 Calls prog 68 #[.agg (g.cells va vc pa pc ma mc).toArray] w λe w'=>e = .returned (.bool g.ok)/\Ext w w':=by
 have ab:=h.nv;have ah:=h.np;refine Ad func68 ntmps68 rfl rfl ?_;refine eK ?_;refine L3 rfl rfl rfl ?_;intro b1 w1 X;have h1:=X.blk;have x1:=X.ext;by_cases c1:32<g.vars.length
 . refine C1 Pa (Ak (Ai (Aj (Aj (Al (C1 Pg (C1 NN (C1 Pz (C1 V5 (C1 Mv (BB rfl rfl rfl Ab rfl ?_)))))))))));refine BB rfl rfl rfl Ab rfl (BB rfl rfl rfl Ab rfl (BB rfl rfl rfl Ab rfl (C1 bC (C1 Mv (Bh rfl rfl rfl (rfl) rfl (Bh rfl rfl rfl (rfl) rfl (Bh rfl rfl rfl (rfl) rfl (Bh rfl rfl rfl (rfl) rfl (C1 (Cm rfl rfl rfl) (Ak (Ai ?_)))))))))));refine Hg rfl (by rfl) ?_;refine eK ?_;refine AT results68 rfl ?_;exact ⟨AY (by simp [PG.ok];omega),x1⟩
 by_cases c2:64<g.procs.length
 . refine C1 Pa (Ak (Ai (Aj (Aj (Al (C1 Pg (C1 NN (C1 Pz (C1 V5 (C1 Mv (Bl rfl rfl rfl Ab ?_)))))))))));refine C1 Pf (Bl rfl rfl rfl Ab (C1 NN (Bl rfl rfl rfl Ab (C1 Pz (Bl rfl rfl rfl Ab (C1 V5 (C1 N2 (C1 Mv (BB rfl rfl rfl Ab rfl (BB rfl rfl rfl Ab rfl (BB rfl rfl rfl Ab rfl ?_)))))))))));refine BB rfl rfl rfl Ab rfl (C1 bC (Ak (Ai (Hg rfl (by rfl) ?_))));refine eK ?_;refine AT results68 rfl ?_;exact ⟨AY (by simp [PG.ok];omega),x1⟩
 refine C1 Pa (Ak (Ai (Aj (Aj (Al (C1 Pg (C1 NN (C1 Pz (C1 V5 (C1 Mv (Bl rfl rfl rfl Ab ?_)))))))))));refine C1 Pf (Bl rfl rfl rfl Ab (C1 NN (Bl rfl rfl rfl Ab (C1 Pz (Bl rfl rfl rfl Ab (C1 V5 (C1 N2 (C1 Mv (Bl rfl rfl rfl Ab (C1 Pg (Bl rfl rfl rfl Ab ?_)))))))))));refine C1 NN (Bl rfl rfl rfl Ab (cC rfl (MF g.vars S va vc _ ab h.vars (hs.vars.ext x1)) ?_));rintro _ w2 ⟨⟨⟩,x2⟩;cases hq:Hb g.vars
 . try rw [hq]
   refine Bl rfl rfl rfl Ab (C1 Pt (C1 N2 (Ak (Ai (Hg rfl (by rfl) ?_)))));refine eK ?_;refine AT results68 rfl ?_;exact ⟨AY (by simp [PG.ok,hq]),x1.trans x2⟩
 try rw [hq]
 have h2:=h1.ext x2;refine Bl rfl rfl rfl Ab (C1 Pt (C1 N2 (Ak (Ai (Hh rfl (by rfl) ?_)))));refine eK ?_;refine AP (ι:=Nat) (λj=>[(24,.int .i64 j),(23,.int .i64 g.procs.length),(22,.slice pa g.procs.length pc),(1,pt b1)]) (λj w'=>Ext w2 w'/\j<=g.procs.length /\ ∀i (hi:i<g.procs.length),i<j->g.procs[i].ok=true) (λj=>g.procs.length-j) 0 sB ⟨Ne _,Ab,Ab⟩ ?_;rintro j w3 ⟨x3,hj,Y⟩;have HA:=iF Y;have G:Ext w w3:=(by refine m8 ?_ Ae;refine m8 ?_ Ae;assumption)
 by_cases U:j<g.procs.length
 . have ac:PDs S w3 g.procs pa:=hs.procs.ext G;obtain ⟨kb,ko,rfl,-,Z⟩:=m5 ac Ab;obtain ⟨qa,qc,ba,bc,rx,sv,sb⟩:=Z j g.procs[j] (iE U);have wf:=h.procs g.procs[j] (iS U);have ad:=wf.name;have ae:=wf.len;have HN:=iF (Ra U);generalize hv:g.procs[j]=p at *;have HE:=iF hv;refine eK ?_;refine Hk CC rfl rfl ?_;intro b4 w4 M;refine JF Ac rfl rfl rfl rfl rfl rfl (M) rfl ?_;intro w4 M;have h4:=M.blk;have x4:=M.ext;refine kC (KK p.name _ ad) ?_;rintro _ w5 ⟨⟨⟩,x5⟩;have V:Ext w w5:=G.trans (x4.trans x5);have N:Ext w3 w5:=x4.trans x5;have h5:=h4.ext x5;cases hnm:Cv p.name
   . try rw [hnm]
     refine C1 Pt (C1 Mv (Bh rfl rfl rfl (rfl) rfl (Bh rfl rfl rfl (rfl) rfl (Bh rfl rfl rfl (rfl) rfl (Bh rfl rfl rfl (rfl) rfl (C1 (Cm rfl rfl rfl) (C1 Mv (Bh rfl rfl rfl (rfl) rfl (Bh rfl rfl rfl (rfl) rfl (Bh rfl rfl rfl (rfl) rfl (Bh rfl rfl rfl (rfl) rfl ?_)))))))))));refine C1 (Cm rfl rfl rfl) (C1 Mv (Bh rfl rfl rfl (rfl) rfl (Bh rfl rfl rfl (rfl) rfl (Bh rfl rfl rfl (rfl) rfl (Bh rfl rfl rfl (rfl) rfl (C1 (Cm rfl rfl rfl) (Ak (Ai (Hg rfl (by rfl) ?_)))))))));refine eK ?_;refine AT results68 rfl ?_;exact ⟨AY (by simp [PG.ok,HN.out (by simp [PD.ok,hnm])]),V⟩
   try rw [hnm]
   by_cases c3:8<p.params.length
   . refine C1 Pt (C1 Mv (Bn rfl rfl rfl (rfl) (C1 Pf (Bn rfl rfl rfl (rfl) (C1 NN (Bn rfl rfl rfl (rfl) (C1 Pz (Bn rfl rfl rfl (rfl) (C1 V5 (C1 (BZ rfl rfl rfl) (C1 Mv ?_)))))))))));refine BB rfl rfl rfl Ab rfl (BB rfl rfl rfl Ab rfl (BB rfl rfl rfl Ab rfl (BB rfl rfl rfl Ab rfl (C1 bC (C1 Mv (Bh rfl rfl rfl (rfl) rfl (Bh rfl rfl rfl (rfl) rfl (Bh rfl rfl rfl (rfl) rfl (Bh rfl rfl rfl (rfl) rfl (C1 (Cm rfl rfl rfl) (Ak ?_)))))))))));refine Ai (Hg rfl (by rfl) ?_);refine eK ?_;refine AT results68 rfl ?_;exact ⟨AY (by simp [PG.ok,HN.out (by simp [PD.ok,hnm];omega)]),V⟩
   refine C1 Pt (C1 Mv (Bn rfl rfl rfl (rfl) (C1 Pf (Bn rfl rfl rfl (rfl) (C1 NN (Bn rfl rfl rfl (rfl) (C1 Pz (Bn rfl rfl rfl (rfl) (C1 V5 (C1 (BZ rfl rfl rfl) (C1 Mv ?_)))))))))));refine Bl rfl rfl rfl Ab (C1 Pf (Bl rfl rfl rfl Ab (C1 NN (Bl rfl rfl rfl Ab (cC rfl (MF p.params S qa qc _ ae wf.params (sv.ext N)) ?_)))));rintro _ w6 ⟨⟨⟩,x6⟩;have aa:Ext w w6:=V.trans x6;have O:Ext w3 w6:=N.trans x6;have h6:=h5.ext x6;cases hq2:Hb p.params
   . try rw [hq2]
     refine Bl rfl rfl rfl Ab (C1 Pt (C1 N2 (C1 Mv (Bh rfl rfl rfl (rfl) rfl (Bh rfl rfl rfl (rfl) rfl (Bh rfl rfl rfl (rfl) rfl (Bh rfl rfl rfl (rfl) rfl (C1 (Cm rfl rfl rfl) (Ak (Ai (Hg rfl (by rfl) ?_)))))))))));refine eK ?_;refine AT results68 rfl ?_;exact ⟨AY (by simp [PG.ok,HN.out (by simp [PD.ok,hq2])]),aa⟩
   try rw [hq2]
   refine Bl rfl rfl rfl Ab (C1 Pt (C1 N2 (C1 Mv (Bn rfl rfl rfl (rfl) (C1 Pf (Bn rfl rfl rfl (rfl) ?_))))));refine Dg (by exact E1 Ac rfl rfl rfl (by exact λwz hz=>by (try subst hz);assumption) (by rfl)) rfl ?_;refine Bn rfl rfl rfl (rfl) (cC rfl (Q9 p.body S ba bc _ wf.body (sb.ext O)) ?_);rintro _ w7 ⟨⟨⟩,x7⟩;have af:Ext w w7:=aa.trans x7;cases hq3:Fi p.body
   . try rw [hq3]
     refine Bn rfl rfl rfl (rfl) (C1 Pt (C1 (BZ rfl rfl rfl) (Ak (Ai (Hg rfl (by rfl) ?_)))));refine eK ?_;refine AT results68 rfl ?_;exact ⟨AY (by simp [PG.ok,HN.out (by simp [PD.ok,hq3])]),af⟩
   try rw [hq3]
   have ag:p.ok=true:=by simp [PD.ok,hnm,hq2,hq3];omega
   refine Bn rfl rfl rfl (rfl) (C1 Pt (C1 (BZ rfl rfl rfl) (Ak (Ai (Hh rfl (by rfl) ?_)))));refine eK ?_;refine AA (j+1) sB ⟨x3.trans (O.trans x7),Ab,λi hi ai=>?_⟩ Ab;by_cases e:i=j
   . subst e;exact HE.out▸ag
   . exact HA.out i hi Ab
 . have h3:=h2.ext x3;refine Aj (Al (C1 V3 (Ak (Ai (Aj (DA (Ca (AB (AB (A0 (Ai ?_)))))))))));refine Aj (Al (C1 Pf ?_));refine Dg (by exact E1 Ac rfl rfl rfl (by exact λwz hz=>by (try subst hz);assumption) (by rfl)) rfl ?_;refine cC rfl (Q9 g.main S ma mc _ h.main (hs.main.ext G)) ?_;rintro _ w4 ⟨⟨⟩,x4⟩;refine eK ?_;refine AT results68 rfl ?_;refine ⟨AY ?_,G.trans x4⟩;have:=S7 (λi hi=>HA.out i hi Ab);simp [PG.ok,hq,this];omega
def Ke:∀l:List Nd,0<=Bt l
 | []=>by simp [Bt]
 | t::r=>by have:=Ke r;simp only [Bt];omega
mutual
def Uh:∀(t:Nd) (d m:Int),t.depth<=d->(t.size:Int)<=m->t.lim d m=(true,m-t.size)
 | .mk _ _ _ l,d,m,hd,hm=>by
  simp only [Nd.depth] at hd;simp only [mR] at hm;have h0:0<=Bt l:=Ke l;unfold Nd.lim;rw [At Ab,MG l (d-1) (m-1) Ab Ab];simp only [mR];congr 1;omega
def MG:∀(l:List Nd) (d m:Int),Bt l<=d->(AV l:Int)<=m->C8 l d m=(true,m-AV l)
 | [],d,m,_,_=>by simp [C8,AV]
 | t::r,d,m,hd,hm=>by
  simp only [Bt] at hd;simp only [AV] at hm;have h1:=Uh t d m Ab Ab;unfold C8;rw [h1];simp only [if_true];rw [MG r d _ Ab Ab];simp only [AV];congr 1;omega
end
mutual
def MH:∀(t:Nd) (d m:Int),0<=d->(t.lim d m).1=true->t.depth<=d
 | .mk _ _ s l,d,m,hd,h=>by
  simp only [Nd.lim] at h;split at h
  . simp at h
  . have:=I1 l (d-1) (m-1) Ab h;simp only [Nd.depth];omega
def I1:∀(l:List Nd) (d m:Int),0<=d->(C8 l d m).1=true->Bt l<=d
 | [],d,m,hd,_=>by simp only [Bt];exact hd
 | t::r,d,m,hd,h=>by
  simp only [C8] at h;split at h
  . rename_i ht;have h1:=MH t d m hd ht;have h2:=I1 r d _ hd h;simp only [Bt];omega
  . simp at h
end
mutual
def Oj:∀(t:Nd) (d m:Int),0<=m->(t.lim d m).1=true->(t.size:Int)+(t.lim d m).2<=m
 | .mk _ _ s l,d,m,hm,h=>by
  simp only [Nd.lim] at h ⊢;split at h
  . simp at h
  . rename_i hn;rw [At hn];have:=Kf l (d-1) (m-1) Ab h;simp only [mR];omega
def Kf:∀(l:List Nd) (d m:Int),0<=m->(C8 l d m).1=true->(AV l:Int)+(C8 l d m).2<=m
 | [],d,m,hm,_=>by simp only [C8,AV];omega
 | t::r,d,m,hm,h=>by
  simp only [C8] at h ⊢;split at h
  . rename_i ht;rw [AG ht];have h1:=Oj t d m hm ht;have h0:=PN t d m hm;have h2:=Kf r d (t.lim d m).2 h0.1 h;simp only [AV];omega
  . simp at h
end
def body_iff {t:Nd}:Fi t=true↔t.isBlock=true/\t.depth<=80/\t.size<=2000:=by
 constructor
 . intro h;simp only [Fi,iJ] at h;have G:=Oj t 80 2000 Ab h.1;have M:=PN t 80 2000 Ab;exact ⟨h.2,MH t 80 2000 Ab h.1,Ab⟩
 . rintro ⟨G,M,N⟩;simp only [Fi,iJ];refine ⟨?_,G⟩;rw [Uh t 80 2000 M Ab]
def DV (h:g.ok=true):g.vars.length<=32/\g.procs.length<=64/\Hb g.vars=true/\(∀p∈g.procs,p.ok=true)/\Fi g.main=true:=by
 simp only [PG.ok,iJ,decide_eq_true_eq] at h;obtain ⟨⟨⟨⟨G,M⟩,N⟩,O⟩,U⟩:=h;exact ⟨G,M,N,jr.1 O,U⟩
def DO {p:PD} (h:p.ok=true):Cv p.name=true/\p.params.length<=8/\Hb p.params=true/\Fi p.body=true:=by
 simp only [PD.ok,iJ,decide_eq_true_eq] at h;obtain ⟨⟨⟨G,M⟩,N⟩,O⟩:=h;exact ⟨G,M,N,O⟩
def PD.map (f:Nd->Nd) (p:PD):PD:=⟨p.name,p.params,f p.body⟩
def PG.inv (f:Nd->Nd) (q:Bool) (g:PG):PG:=⟨g.vars,g.procs.map (PD.map f),g.main.inv q⟩
def Vv {f:Nd->Nd} (q:Bool) (h:g.wf) (G:g.ok=true) (N:∀p∈g.procs,(f p.body).wf):(g.inv f q).wf:=by
 obtain ⟨V,X,Y,Z,O⟩:=DV G;refine ⟨h.nv,by simpa [PG.inv] using h.np,h.vars,λp U=>?_,(cG q (g.main.size+1) g.main Ab (iH (body_iff.1 O).1)).wf h.main⟩;obtain ⟨x,M,rfl⟩:=List.mem_map.1 U;have:=h.procs x M;exact ⟨this.name,this.len,this.params,N x M⟩
def MI (h:g.ok=true):g.main.isBlock=true:=(body_iff.1 (DV h).2.2.2.2).1
def Xk (h:g.ok=true):∀p∈g.procs,p.body.isBlock=true:=λp G=>(body_iff.1 (DO ((DV h).2.2.2.1 p G)).2.2.2).1
attribute [local irreducible] Go.Calls
def F7 {b:Bool} (G:g.wf) (h:g.ok=b) (S:nP) (M:oA) (vc:Nat) (N:oA) (U:Nat) (O:oA) (V:Nat) (w:wD) (X:g.sits S w M N O) :
 Calls prog 68 #[.agg (g.cells M vc N U O V).toArray] w λe w'=>e = .returned (.bool b)/\Ext w w':=by
 have:=Zp g S M vc N U O V w G X;rw [h] at this;exact this
def PG.sits.ltA {S:nP} {w:wD} {g:PG} {G M N:oA} (h:g.sits S w G M N):g.sits (· < w.heap.size) w G M N:=⟨h.vars.lt2.wide λ_ h=>h.2,h.procs.ltA,Cd _ _ h.main⟩
def S8 (f:Nd->Nd) (l:List PD) (j:Nat) (h:j<l.length):(l.take (j+1)).map (PD.map f)=(l.take j).map (PD.map f)++[(l[j]).map f]:=by
 rw [iI h,jJ];rfl
def Lu (u:PG) (k:Int) (w:wD):Ending->wD->Prop:=λe w'=> ∃va vc pa pc ma mc,e = .returned (.tuple #[.agg (u.cells va vc pa pc ma mc).toArray,.int .i64 k])/\u.sits (λb=>w.heap.size<=b/\b<w'.heap.size) w' va pa ma/\PDsC (λb=>w.heap.size<=b/\b<w'.heap.size) w' u.procs pa/\u.vars.length<=vc/\Ext w w'
def PDsC.lt2 {S:nP} {w:wD} {l:List PD} {a:oA} (h:PDsC S w l a):PDsC (λb=>S b/\b<w.heap.size) w l a:=by
 rcases h with h|⟨b,o,N,O,M⟩
 . exact iG h
 . cases l with
   | nil=>exact iG rfl
   | cons v r=>
    obtain ⟨_,_,_,_,G,-,-⟩:=M 0 v rfl;refine iH ⟨b,o,N,⟨O,Cs (mO G rfl)⟩,λi x U=>?_⟩;obtain ⟨V,X,Y,Z,G,hv,hs,hc⟩:=M i x U;exact ⟨V,X,Y,Z,G,hv.lt2,Gs _ _ hs,hc⟩
def Xl {f:Nd->Nd} {G O:oA} {vc:Nat} {xs:List PD} {S2:nP} (hx:xs=g.procs.map (PD.map f)) (hv:VDs T w' g.vars G) (hc:g.vars.length<=vc) (ho:OwnL Fc w' n e (.slice N xs.length r) xs) (hm:(g.main.inv q).sits S2 w' O) (X:Ext w w') (k1:∀b,T b->w.heap.size<=b) (k2:∀b,S2 b->w.heap.size<=b) (kM:w.heap.size<=n) :
 Lu (g.inv f q) 0 w (.returned (.tuple #[.agg #[.slice G g.vars.length vc,.slice N xs.length r,.int .u8 (g.main.inv q).kind,.int .i64 (g.main.inv q).num,str (g.main.inv q).name,.slice O (g.main.inv q).kids.length t],.int .i64 0])) w':=by
 subst hx;have Z:=PDsC.wide (PDsC.lt2 (ho.pdsC (S:=λb=>n<=b) (λb hb=>hb))) (S':=λb=>w.heap.size<=b/\b<w'.heap.size) λb h=>⟨Ab,h.2⟩
 exact ⟨G,vc,N,r,O,t,rfl,⟨hv.lt2.wide λb h=>⟨k1 b h.1,h.2⟩,Z.pds,mK (Gs _ _ hm) λb h=>⟨k2 b h.1,h.2⟩⟩,Z,hc,X⟩
def S9 (q:Bool) (am:Nat) (f:Nd->Nd) (bt:B0 prog am=true) (g:PG) (a0:g.wf) (a1:g.ok=true) (hf:g.few) (hm:g.main.isBlock=true)
 (HB:∀p∈g.procs,∀(S:nP) (a:oA) (c:Nat) (w:wD),p.body.sits S w a->Calls prog am #[p.body.val a c] w (CopyR (f p.body) w))
 (S:nP) (va:oA) (vc:Nat) (pa:oA) (pc:Nat) (ma:oA) (mc:Nat) (w:wD) (hs:g.sits S w va pa ma) :
 Calls prog 71 #[.agg (g.cells va vc pa pc ma mc).toArray,.func (.func am) #[] #[],.bool q] w (Lu (g.inv f q) 0 w):=by
 have X:=Ne w;obtain ⟨nv,np,bu,a2⟩:=hf;have HV:=iF (F7 a0 a1);have HI:=iF (Xe q g.main bu (iH hm));have HC:=iF (Is g.vars Ab);have HP:=iF HB;have HQ:=iF a2;clear a0 a1 hm HB a2;have hs:=hs.ltA;refine Ad func71 ntmps71 rfl rfl ?_;refine cS (eB [_,_,_,_,_,_] ?_);intro b1 w2 h4 x5 p6 z7;revert X hs;refine eE x5 ?_;intro X hs;refine eA [_,_,_,_,_,_] ?_;intro b8 w9 M bv d4 d5;revert h4 X hs;refine eE bv ?_;intro h4 X hs;refine kC (HV.out _ _ _ _ _ _ _ _ Ae) ?_;rintro _ a3 ⟨⟨⟩,bw⟩;revert M h4 X hs;refine eY bw ?_;intro d6 M h4 X hs;refine C1 Pt (cT (Ba rfl (Ao (Ai ?_))));refine E2 (ι:=Nat×oA×Nat×oA×Nat) (λx=>[(1,.func (.func am) #[] #[]),(3,pt b1),(6,pt b8),(8,pt x.1)])
  (λx w'=>Blk w' x.1 [.slice x.2.1 g.vars.length x.2.2.1,.slice none 0 0,.int .u8 (g.main.inv q).kind,.int .i64 (g.main.inv q).num,str (g.main.inv q).name,.slice x.2.2.2.1 (g.main.inv q).kids.length x.2.2.2.2]/\VDs (λb=>b8<b/\b≠x.1/\b<w'.heap.size) w' g.vars x.2.1/\(g.main.inv q).sits (λb=>b8<b/\b≠x.1/\b<w'.heap.size) w' x.2.2.2.1/\b8<x.1/\x.1<w'.heap.size/\g.vars.length<=x.2.2.1 /\
   Blk w' b1 [.slice va g.vars.length vc,.slice pa g.procs.length pc,.int .u8 g.main.kind,.int .i64 g.main.num,str g.main.name,.slice ma g.main.kids.length mc]/\Blk w' b8 [.slice none 0 0,.slice none 0 0,.int .u8 0,.int .i64 0,str [],.slice none 0 0]/\g.sits (· < w.heap.size) w' va pa ma/\Ext w w') ?_ ?_
 . clear HP HQ HV;have hv:=hs.vars;have ac:=hs.main
   focus
    refine Aq (λwz=>Ext a3 wz) 9 (.pure 0 (.pure 1 (.pure 3 (.pure 4 (.pure 5 (.fork 2 (.fork 6 (.pure 7 (.fork 8 .tail .none)) (.fork 8 (.fork 6 (.pure 7 .tail) .none) .none)) (.fork 8 (.fork 2 (.fork 6 (.pure 7 .tail) .none) .none) .none))))))) mixed AU (Aa Ag) ?_;intro bx a4 _;have G:(λwz=>Ext a3 wz) bx:=a4;simp only at G;have a5:=h4;revert M h4 X hs hv ac;refine eY a4 ?_;intro d7 M h4 X hs hv ac;refine ⟨G,?_⟩;refine eT ?_;refine Tq rfl (xL [_,_,_,_] (λwz hz=>(mN a5 hz))) (Tq rfl Mv ?_);refine AC rfl (AM AU rfl (HC.out _ _ _ _ Ae) (λ_ _ h=>h.ret)) rfl ?_ aFh ?kra5;rintro _ cb ⟨d8,d9,⟨⟩,ab,bz,cc⟩;revert G M h4 X hs ac;refine eY bz ?_;intro cd G M h4 X hs ac;refine ⟨G,?_⟩;refine AC rfl (AM AU rfl (HI.out _ _ _ _ Ae) (λ_ _ h=>h.ret)) rfl ?_ aFh ?kra13;rintro _ ce ⟨cf,cg,⟨⟩,af,a6⟩;revert ab G M h4 X hs;refine eY a6 ?_;intro ch ab G M h4 X hs;refine ⟨G,?_⟩;refine Tq rfl (xB [_,_,_,_,_,_]) ?_;refine AC rfl (A2 CC rfl) rfl ?_ aFh Ay;rintro _ ci ⟨cj,rfl,ag⟩;have aq:=ag.blk;dsimp only at aq;have a7:=ag.ext;have ck:=ag.pos;have cl:=ag.size;revert af ab G M h4 X hs;refine eE a7 ?_;intro af ab G M h4 X hs;refine ⟨G,?_⟩;refine Ar rfl (eS [_,_,_,_,_,_] aq ?_);intro cm cn a8 co;revert af ab M h4 X hs;refine eF a8 ?_;intro af ab M h4 X hs;refine Ak ?_;rotate_left;refine AC rfl (A2 CC rfl) rfl ?_ aFh Ay;rintro _ cp ⟨cq,rfl,ah⟩;have ai:=ah.blk;dsimp only at ai;have a9:=ah.ext;have cr:=ah.pos;have ct:=ah.size;revert ab G M h4 X hs ac;refine eE a9 ?_;intro ab G M h4 X hs ac;refine ⟨G,?_⟩;refine tC rfl rfl (HI.out _ _ _ _ Ae) ?_;rintro _ cu ⟨cv,cw,⟨⟩,ar,ba⟩;revert ai ab G M h4 X hs;refine eY ba ?_;intro cx ai ab G M h4 X hs;refine ⟨G,?_⟩;refine Tq rfl (xB [_,_,_,_,_,_]) ?_;refine Ar rfl (eS [_,_,_,_,_,_] ai ?_);intro cy cz bb c0;revert ar ab M h4 X hs;refine eF bb ?_;intro ar ab M h4 X hs;refine Ak ?_;rotate_left;refine AC rfl (A2 CC rfl) rfl ?_ aFh Ay;rintro _ c1 ⟨c2,rfl,aj⟩
    have ad:=aj.blk;dsimp only at ad;have bc:=aj.ext;have c3:=aj.pos;have c4:=aj.size;revert G M h4 X hs hv ac;refine eE bc ?_;intro G M h4 X hs hv ac;refine ⟨G,?_⟩;refine tC rfl rfl (HC.out _ _ _ _ Ae) ?_;rintro _ c5 ⟨c6,c7,⟨⟩,ak,bd,c8⟩;revert ad G M h4 X hs ac;refine eY bd ?_;intro c9 ad G M h4 X hs ac;refine ⟨G,?_⟩;refine tC rfl rfl (HI.out _ _ _ _ Ae) ?_;rintro _ da ⟨db,dc,⟨⟩,au,be⟩;revert ak ad G M h4 X hs;refine eY be ?_;intro dd ak ad G M h4 X hs;refine ⟨G,?_⟩;refine Tq rfl (xB [_,_,_,_,_,_]) ?_;refine Ar rfl (eS [_,_,_,_,_,_] ad ?_);intro de df bf dg;revert au ak M h4 X hs;refine eF bf ?_;intro au ak M h4 X hs;refine Ak ?_;rotate_left
   . exact BQ (_,_,_,_,_) sB ⟨Ae,nG Ae (λb h=>⟨Ab,Ab,Ab⟩),mK Ae (λb h=>⟨Ab,Ab,Ab⟩),Ab,Ab,Ae,Ae,Ae,Ae,Ae⟩
   . exact BQ (_,_,_,_,_) sB ⟨Ae,nG Ae (λb h=>⟨Ab,Ab,Ab⟩),mK Ae (λb h=>⟨Ab,Ab,Ab⟩),Ab,Ab,Ae,Ae,Ae,Ae,Ae⟩
   . exact BQ (_,_,_,_,_) sB ⟨Ae,nG Ae (λb h=>⟨Ab,Ab,Ab⟩),mK Ae (λb h=>⟨Ab,Ab,Ab⟩),Ab,Ab,Ae,Ae,Ae,Ae,Ae⟩
 . clear h4 M hs X;rintro ⟨bq,bg,b0,bh,b2⟩ w1 ⟨Y,U,V,o1,o2,bi,Z,aa,hs,X⟩;simp only at Y U V o1 o2 bi;have hp:=hs.procs;have hz:=iW w1.heap.size;clear hs HV HI HC;refine Aj (cS (C1 Pf (C1 (Pl Z) (C1 Pz (C1 Mv (cT (Au ?_)))))));refine AP (ι:=Nat×List PD×oA×Nat) (λx=>[(1,.func (.func am) #[] #[]),(3,pt b1),(6,pt b8),(8,pt bq),(24,.slice pa g.procs.length pc),(25,.int .i64 g.procs.length),(26,.int .i64 x.1)])
    (λx w'=>OwnL Fc w' w1.heap.size 116 (.slice x.2.2.1 x.2.1.length x.2.2.2) x.2.1/\x.2.1=(g.procs.take x.1).map (PD.map f)/\x.1<=g.procs.length/\Blk w' bq [.slice bg g.vars.length b0,.slice x.2.2.1 x.2.1.length x.2.2.2,.int .u8 (g.main.inv q).kind,.int .i64 (g.main.inv q).num,str (g.main.inv q).name,.slice bh (g.main.inv q).kids.length b2]/\VDs (λb=>b8<b/\b≠bq/\b<w1.heap.size) w' g.vars bg/\(g.main.inv q).sits (λb=>b8<b/\b≠bq/\b<w1.heap.size) w' bh /\
     Blk w' b1 [.slice va g.vars.length vc,.slice pa g.procs.length pc,.int .u8 g.main.kind,.int .i64 g.main.num,str g.main.name,.slice ma g.main.kids.length mc]/\Blk w' b8 [.slice none 0 0,.slice none 0 0,.int .u8 0,.int .i64 0,str [],.slice none 0 0]/\PDs (· < w.heap.size) w' g.procs pa/\Ext w w'/\w1.heap.size<=w'.heap.size)
    (λx=>g.procs.length-x.1) (0,[],none,0) sB ⟨OwnL.nil,AN,iT _,Y,U,V,Z,aa,hp,X,hz⟩ ?_
   clear Y U V Z aa hp X hz;rintro ⟨j,xs,ra,rc⟩ w3 ⟨N,an,hj,Y,U,V,Z,aa,hp,X,hz⟩;simp only at N an hj Y;have bj:∀g',(jf ra xs.length rc).ownBlock=some g'->w1.heap.size<=g'/\g'<w3.heap.size:=λg' h=>⟨N.ge h,N.lt h⟩
   have ea:xs.length<=1000000:=by rw [an,kz,jp];omega
   refine nq (m:=[(1,.func (.func am) #[] #[]),(3,pt b1),(6,pt b8),(8,pt bq),(24,.slice pa g.procs.length pc),(25,.int .i64 g.procs.length),(26,.int .i64 (j:Int))]) ?_ sB;by_cases ap:j<g.procs.length
   . obtain ⟨kb,ko,rfl,kS,hk⟩:=m5 hp Ab;obtain ⟨xa,xc,ya,yc,rx,vx,sx⟩:=hk j _ (iE ap);have HX:=iF (HP.out _ (iS ap));have eb:=HQ.out _ (iS ap);have HC:=iF (Is g.procs[j].params Ab);have ay:xs++[(g.procs[j]).map f]=(g.procs.take (j+1)).map (PD.map f):=by rw [an,S8 f _ j ap]
     clear hk HP HQ an;generalize g.procs[j]=x at *;refine eK ?_;refine xA [_,_,_,_,_,_] ?_;intro ec ed b3;refine eI [_,_,_,_,_,_] b3 ?_;intro bk bl b4 ee ef;revert N Y U V aa X Z hp vx sx;refine eE b4 ?_;intro N Y U V aa X Z hp vx sx;refine cT (Aq (λwz=>Ext bk wz) 13 (.pure 0 (.pure 1 (.pure 2 (.pure 3 (.pure 4 (.pure 5 (.pure 7 (.pure 8 (.pure 9 (.fork 6 (.fork 10 (.pure 11 (.fork 12 .tail .none)) .none) .none)))))))))) mixed AU (Af (Aa (Aa (Af (Aa Ag))))) ?_);intro b5 av _;have O:(λwz=>Ext bk wz) b5:=av;simp only at O;have az:=bl;have b6:=Y;revert N Y U V aa X Z hp vx sx;refine eY av ?_;intro dh N Y U V aa X Z hp vx sx;refine ⟨O,?_⟩;refine eT ?_;refine Tq rfl (xL [_,_,_,_] (λwz hz=>(mN az hz))) ?_;refine tC rfl rfl (HC.out _ _ _ _ Ae) ?_;rintro _ di ⟨dk,dl,⟨⟩,ae,bm,dm⟩;revert O N Y U V aa X Z hp sx;refine eY bm ?_;intro dn O N Y U V aa X Z hp sx;refine ⟨O,?_⟩;refine AC rfl (A9 (fi:=[]) (ca:=[]) bt rfl rfl (HX.out _ _ _ _ Ae) (λ_ _ h=>h.ret)) rfl ?_ aFh Ay;rintro _ dp ⟨dq,dr,⟨⟩,ao,bn⟩;revert ae O N Y U V aa X Z hp;refine eY bn ?_;intro ds ae O N Y U V aa X Z hp;refine ⟨O,?_⟩;refine Tq rfl (xB [_,_,_,_,_,_]) ?_;refine AC rfl (xS [_,_,_,_,_,_]) rfl ?_ aFh Ay;rintro _ dt ⟨du,rfl,al,dv⟩;have bo:=al.blk;have bp:=al.ext;have dw:=al.pos;have dx:=al.size;revert ao ae O N Y U V aa X Z hp;refine eE bp ?_;intro ao ae O N Y U V aa X Z hp;refine ⟨O,?_⟩;refine Ar rfl ?_;refine Aw (GR (sh:=Fc) (z:=x.map f) Ac CC rfl rfl rfl rfl AU rfl rfl rfl Ae (mS Ae) ⟨_,_,_,_,rfl,nG Ae (λb h=>⟨Ab,λe=>by have:=bj _ e;omega⟩),mK Ae (λb h=>⟨Ab,λe=>by have:=bj _ e;omega⟩),Ae⟩ Ab Ab) rfl ?_ aFh;rintro _ dy ⟨dz,bs,rfl,aw,ax⟩;have d0:=ax.size;clear bo ao ae bl N;revert Y U V aa X Z hp;refine eF ax ?_;intro Y U V aa X Z hp;refine C1 Pf (eV [_] [_,_,_,_,_,_] Y ?_);intro d1 d2 br d3;clear Y;revert aw U V aa X Z hp
     refine eF br ?_;intro aw U V aa X Z hp;refine Ak (Ah (Ai (Al (C1 V7 (C1 Mv (Ak ?_))))));exact AA (j+1,xs++[x.map f],some ⟨_,0,none⟩,_) sB ⟨Ae,ay,by simp only;omega,Ae,U,V,Z,aa,hp,X,Ab⟩ (by simp only;omega)
   . have b7:j=g.procs.length:=by omega
     subst b7;rw [iZ] at an;refine eK ?_;refine eS [_,_,_,_,_,_] aa ?_;intro eg eh b9 _;revert N U V X;refine eF b9 ?_;intro N U V X;refine C1 Pa (cT (AR ?_));refine C6 rfl Ac rfl rfl rfl Ae rfl rfl ?_;exact Xl an U bi N V X (λb h=>by omega) (λb h=>by omega) Ab
def LZ (h:g.ok=true):g.few:=by
 obtain ⟨U,V,-,G,M⟩:=DV h;obtain ⟨-,-,X⟩:=body_iff.1 M;refine ⟨Ab,Ab,Ab,λp N=>?_⟩;obtain ⟨-,Y,-,O⟩:=DO (G p N);obtain ⟨-,-,Z⟩:=body_iff.1 O;exact ⟨Ab,Ab⟩
def PG.inv_id (q:Bool) (g:PG):g.inv id q=⟨g.vars,g.procs,g.main.inv q⟩:=by
 unfold PG.inv;congr 1
 conv=>rhs;rw [<-List.map_id g.procs]
 refine List.map_congr_left λp _=>?_
 obtain ⟨a,b,c⟩:=p;rfl
def cQ (G:g.wf) (h:g.ok=true) (S:nP) (M:oA) (vc:Nat) (N:oA) (V:Nat) (O:oA) (X:Nat) (w:wD) (U:g.sits S w M N O) :
 Calls prog 71 #[.agg (g.cells M vc N V O X).toArray,.func (.func 59) #[] #[],.bool false] w (Lu (g.inv id false) 0 w):=
 S9 false 59 id AU g G h (LZ h) (MI h) (λp Y S a c w U=>JY p.body ((LZ h).procs p Y).2 S a c w U) S M vc N V O X w U
def Ol {u:PG} {M G:oA} {vc:Nat} (V:u.sits (λb=>t<=b/\b<n) w' M G N) (hp:PDsC (λb=>t<=b/\b<n) w' u.procs G) (hc:u.vars.length<=vc) (X:Ext w w') (hl:w.heap.size<=t) (hh:n<=w'.heap.size):Lu u k w (.returned (.tuple #[.agg #[.slice M u.vars.length vc,.slice G u.procs.length r,.int .u8 u.main.kind,.int .i64 u.main.num,str u.main.name,.slice N u.main.kids.length e],.int .i64 k])) w':=
 ⟨M,vc,G,r,N,e,rfl,⟨V.vars.wide λb h=>by omega,PDs.wide V.procs λb h=>by omega,mK V.main λb h=>by omega⟩,PDsC.wide hp λb h=>by omega,hc,X⟩
def Rb (u g:PG) (Z:∀(S:nP) (N:oA) (vc:Nat) (O:oA) (pc:Nat) (U:oA) (mc:Nat) (w:wD),g.sits S w N O U ->
      Calls prog 71 #[.agg (g.cells N vc O pc U mc).toArray,.func (.func 59) #[] #[],.bool false] w (Lu u k w))
 (S:nP) (N:oA) (vc:Nat) (O:oA) (pc:Nat) (U:oA) (mc:Nat) (w:wD) (M:g.sits S w N O U) :
 Calls prog 42 #[.agg (g.cells N vc O pc U mc).toArray] w (Lu u k w):=by
 have X:=Ne w;have M:=M.ltA;have Z:=iF Z;refine Ad func42 ntmps42 rfl rfl (cS (eB [_,_,_,_,_,_] ?_));intro b1 w2 h4 x5 p6 z7;revert X M;refine eE x5 ?_;intro X M;refine eA [_,_,_,_,_,_] ?_;intro b8 w9 G aa aj ak;revert h4 X M;refine eE aa ?_;intro h4 X M;refine eK ?_;refine Aw (AM AU rfl (Z.out _ _ _ _ _ _ _ _ Ae) (λ_ _ ⟨_,_,_,_,_,_,h⟩=>⟨_,h.1⟩)) rfl ?_ aFh;rintro _ al ⟨ad,ae,af,ag,ah,ai,⟨⟩,V,Y,am,ab⟩;revert G X;refine eE ab ?_;intro G X;refine eK ?_;refine eS [_,_,_,_,_,_] G ?_;intro an ao ac ap;revert V Y X;refine eF ac ?_;intro V Y X;refine eK ?_;refine C6 rfl Ac rfl rfl rfl Ae rfl rfl ?_;exact Ol Ae Ae Ae X Ab Ab
def Lv (h:g.wf) (G:g.ok=true) (S:nP) (M:oA) (vc:Nat) (N:oA) (U:Nat) (O:oA) (V:Nat) (w:wD) (X:g.sits S w M N O) :
 Calls prog 42 #[.agg (g.cells M vc N U O V).toArray] w (Lu (g.inv id false) 0 w):=Rb _ g (cQ h G) S M vc N U O V w X
def LenR (n:Nat) (w:wD):Ending->wD->Prop:=λe w'=> ∃a c,e = .returned (.slice a n c)/\Ext w w'
def LenR.ret {e:Ending} (h:LenR n w e w'):∃v,e = .returned v:=by
 obtain ⟨_,_,h,-⟩:=h;exact ⟨_,h⟩
def VDs.take {S:nP} {w:wD} {l:List VD} {a:oA} (h:VDs S w l a) (i:Nat):VDs S w (l.take i) a:=by
 rcases h with h|⟨b,o,M,N,O⟩
 . exact iG (by rw [h];simp)
 . refine iH ⟨b,o,M,N,λj v G=>O j v ?_⟩;rw [mo] at G;split at G
   . exact G
   . cases G
def KP (ps:List PD) (K:Nat):∀(l:List PD) (i:Nat),(∀(i:Nat) (p:PD),p∈l->ME ps i p<=K)->DS ps i l<=l.length*K
 | [],_,_=>by simp [DS]
 | p::r,i,h=>by
  have G:=h i p AN;have N:=KP ps K r (i+1) (λi q M=>h i q (by simp [M]));unfold ME at G;simp only [DS,iM,kH];omega
def MJ {w1:wD} {M:Value} (x:Fr (λk=>k=r\/v.ownBlock=some k) w w') (h:∀g,M.ownBlock=some g->v.ownBlock=some g\/w1.heap.size<=g) (O:w.heap.size<=w1.heap.size):Eff r w v w' M:=⟨x,λg N=>(h g N).imp id λh=>by omega⟩
def Rc {b:Nat} (h:Blk w b [v]) (G:mW v=true):PathAt (λ_=>True) w (some ⟨b,0,none⟩) 1 1:=⟨⟨iW _,λe=>by cases e⟩,[v],rfl,by simp [G],iH ⟨b,0,rfl,trivial,h.row⟩⟩
set_option maxHeartbeats 8000000 in
def Kg (g:PG) (cu:g.wf) (bt:g.ok=true) (S:nP) (va:oA) (vc:Nat) (pa:oA) (pc:Nat) (ma:oA) (mc:Nat) (w:wD) (hs:g.sits S w va pa ma) (G:PDsC S w g.procs pa) (cv:g.vars.length<=vc) :
 Calls prog 69 #[.agg (g.cells va vc pa pc ma mc).toArray] w (LenR g.flt w):=by
 have dq:=LZ bt;have HV:=iF (F7 cu bt);have O:=hs.vars.ltV;have U:=Cd _ _ hs.main;have G:=G.ltA;have hs:=hs.ltA;have X:=Ne w;refine Ad func69 ntmps69 rfl rfl ?_;refine cS (eB [_,_,_,_,_,_] ?_);intro b1 w2 h4 x5 p6 z7;revert O U G hs X;refine eE x5 ?_;intro O U G hs X;refine eK ?_;refine cC rfl (HV.out _ _ _ _ _ _ _ _ Ae) ?_;rintro _ w9 ⟨⟨⟩,x8⟩;revert h4 O U G hs X;refine eY x8 ?_;intro e6 h4 O U G hs X;refine eK ?_;refine eA [_] ?_;intro Z e7 bu cw e8 e9;revert h4 O U G hs X;refine eE cw ?_;intro h4 O U G hs X;refine cN (C1 (B6 rfl) (xA [_] ?_));intro ai fa cx;refine eI [_] cx ?_;intro bv V cy fb fc;revert bu h4 O U G hs X;refine eE cy ?_;intro bu h4 O U G hs X;refine cT (Aj (cS (C1 Pg (C1 (Pl h4) (C1 Pz (C1 Mv (cT ?_)))))));obtain ⟨o1,o2,-,o4,o5⟩:=DV bt;have cz:FS w.heap.size Z 0 bv (.slice none 0 0):=⟨bu,nA,by simp [km],Ab⟩;have k1:Kp Z bv (.slice none 0 0) b1:=⟨Ab,Ab,by simp [km]⟩;have kR:Kp Z bv (.slice none 0 0) ai:=⟨Ab,Ab,by simp [km]⟩;refine Au ?_;refine AP (ι:=Nat×Value) (λx=>[(1,pt b1),(3,pt Z),(4,pt ai),(16,.slice va g.vars.length vc),(17,.int .i64 g.vars.length),(18,.int .i64 x.1)])
  (λx w'=>x.1<=g.vars.length/\FS w.heap.size Z (Cu [] (g.vars.take x.1)) w' x.2/\Kp Z w' x.2 b1/\Kp Z w' x.2 ai/\Blk w' ai [MB Z]/\Blk w' b1 (g.cells va vc pa pc ma mc)/\VDs (· < w.heap.size) w' g.vars va/\g.main.sits (· < w.heap.size) w' ma/\PDsC (· < w.heap.size) w' g.procs pa/\Ext w w')
  (λx=>g.vars.length-x.1) (0,.slice none 0 0) sB ⟨iT _,cz,k1,kR,V,h4,O,U,G,X⟩ ?_
 rintro ⟨j,vj⟩ w3 ⟨hj,hF,k1,kR,V,h4,O,U,G,X⟩;simp only at hj hF k1 kR V h4 O U G X;by_cases ap:j<g.vars.length
 . have N:∀q,vj.ownBlock=some q->w.heap.size<=q/\q<w3.heap.size/\q≠b1/\q≠ai:=λq hq=>⟨hF.own.ge hq,hF.own.lt hq,λe=>k1.2.2 (e▸hq),λe=>kR.2.2 (e▸hq)⟩
   have ax:=k1.not;have ay:=kR.not;have bw:=k1.1;have bx:=kR.1;have bp:=hF.cell.lt;have b6:=X.size;obtain ⟨kb,ko,rfl,kS,az⟩:=O.get (by intro e;rw [e] at ap;simp at ap);have r0:=az j g.vars[j] (iE ap);have bz:(g.vars.take j).length=j:=by simp;omega
   have c0:=Fw (g.vars.take j) [];have ad:=O.take j;have a0:=iF (PK (g.vars.take j) Ab g.vars[j].name);rw [bz] at a0;have a1:=H7 g.vars [] j ap;rw [kF] at a1;have ak:=iF (λ(w':wD) (x:Ext w3 w') (S:nP) (qa:oA) (qn qc:Nat) (hq:qn<=1000000) (p:PathAt S w' qa qn qc)=>Hz w.heap.size Z (Cu [] (g.vars.take j)) vj (-1) (Fg (g.vars.take j) g.vars[j].name) g.vars[j].name S qa qn qc w' Ab hq p (hF.ext x));rw [<-a1] at ak;have hm:(j:Int)=(j:Int):=rfl;generalize g.vars[j]=x at *;obtain ⟨xn,xk,xl⟩:=x;dsimp only at a0 ak;replace r0:Row w3 ⟨kb,ko+j*3,none⟩ [str xn,.int .u8 xk,.int .i64 xl]:=r0;generalize Fg (g.vars.take j) xn=ex at *;unfold MB at V;have X3:=Ne w3;have X4:=mI (λk=>k=Z\/vj.ownBlock=some k) w3
   focus
    refine eK ?_;refine eA [_,_,_] ?_;intro fd fe c5 c6 ff fg;revert V U G X h4 O ad r0 X3 X4;refine eE c6 ?_;intro V U G X h4 O ad r0 X3 X4;refine C1 Pa (eS [_,_,_] c5 ?_);intro b7 ag b8 dr;revert V U G X h4 O ad r0 X3 X4;refine eF b8 ?_;intro V U G X h4 O ad r0 X3 X4;refine cT (Aq (λwz=>Ext b7 wz) 12 (.pure 0 (.pure 1 (.pure 3 (.pure 4 (.pure 5 (.pure 6 (.pure 7 (.pure 8 (.pure 9 (.pure 10 (.fork 2 (.fork 11 .tail .none) (.fork 11 (.fork 2 .tail .none) .none)))))))))))) mixed AU (Af (Aa (Aa (Af (Aa Ag))))) ?_);intro b9 bq _;have af:(λwz=>Ext b7 wz) b9:=bq;simp only at af;have bl:=ag;have bb:=V;have bd:=U;have be:=G;have bf:=h4;have bg:=O;have b0:=ad;have br:=r0;revert ag V U G X h4 O ad r0 X3 X4;refine eY bq ?_;intro ds ag V U G X h4 O ad r0 X3 X4;refine ⟨af,?_⟩;refine eT ?_;refine Tq rfl (DN Ac rfl rfl rfl rfl hm Ab) (Tq rfl Pg (Tq rfl (Db bl) ?_));refine AC rfl (xS [_]) rfl ?_ aFh ?kra18;rintro _ dt ⟨du,rfl,a7,dv⟩;have a2:=a7.blk;dsimp only at a2;have cb:=a7.ext;have dw:=a7.pos;have dx:=a7.size;revert af ag V U G X h4 O ad r0 X3 X4;refine eE cb ?_;intro af ag V U G X h4 O ad r0 X3 X4;refine ⟨af,?_⟩;refine tC rfl rfl (a0.out _ _ _ _ ad) ?_;rintro _ dy ⟨⟨⟩,cc⟩;revert a2 af ag V U G X h4 O ad r0 X3 X4;refine eY cc ?_;intro dz a2 af ag V U G X h4 O ad r0 X3 X4;refine ⟨af,?_⟩;refine Ar rfl ?_;refine Aw (A9 (fi:=[]) (ca:=[pt Z]) AU rfl rfl (ak.out _ Ae _ _ _ _ Ab (Rc Ae rfl)) (λ_ _ h=>h.ret)) rfl ?_ aFh;rintro _ d0 ⟨⟨⟩,c7,d2,al,d3⟩;have d4:=al.size;have a2:=mH a2 al (λh=>by (rcases h with h|h;omega;have:=N _ h;omega));have ag:=mH ag al (λh=>by (rcases h with h|h;omega;have:=N _ h;omega));have V:=mH V al (ay);have U:=mF U al (λb hb h=>by (rcases h with h|h;omega;have:=N _ h;omega));have G:=PDsC.fr G al (λb hb h=>by (rcases h with h|h;omega;have:=N _ h;omega));have X:=mQ X al (λk hk=>by (rcases hk with h|h;omega;have:=N _ h;omega));have h4:=mH h4 al (ax);have O:=nd O al (λb hb h=>by (rcases h with h|h;omega;have:=N _ h;omega))
    have ad:=nd ad al (λb hb h=>by (rcases h with h|h;omega;have:=N _ h;omega));have X4:=mL X4 al (λk hk=>iG hk);refine Ak (Ah (Ai (Al (C1 V7 (C1 Mv (Ak ?_))))));rotate_left;refine tC rfl rfl (a0.out _ _ _ _ ad) ?_;rintro _ d5 ⟨⟨⟩,cd⟩;revert af ag V U G X h4 O ad r0 X3 X4;refine eY cd ?_;intro d6 af ag V U G X h4 O ad r0 X3 X4;refine ⟨af,?_⟩;refine AC rfl (xS [_]) rfl ?_ aFh Ay;rintro _ d7 ⟨d8,rfl,a8,d9⟩;have bh:=a8.blk;dsimp only at bh;have ce:=a8.ext;have ea:=a8.pos;have eb:=a8.size;revert af ag V U G X h4 O ad r0 X3 X4;refine eE ce ?_;intro af ag V U G X h4 O ad r0 X3 X4;refine ⟨af,?_⟩;refine Ar rfl ?_;refine Aw (A9 (fi:=[]) (ca:=[pt Z]) AU rfl rfl (ak.out _ Ae _ _ _ _ Ab (Rc Ae rfl)) (λ_ _ h=>h.ret)) rfl ?_ aFh;rintro _ ec ⟨⟨⟩,c8,ed,am,ee⟩;have ef:=am.size;have bh:=mH bh am (λh=>by (rcases h with h|h;omega;have:=N _ h;omega));have ag:=mH ag am (λh=>by (rcases h with h|h;omega;have:=N _ h;omega));have V:=mH V am (ay);have U:=mF U am (λb hb h=>by (rcases h with h|h;omega;have:=N _ h;omega));have G:=PDsC.fr G am (λb hb h=>by (rcases h with h|h;omega;have:=N _ h;omega));have X:=mQ X am (λk hk=>by (rcases hk with h|h;omega;have:=N _ h;omega));have h4:=mH h4 am (ax);have O:=nd O am (λb hb h=>by (rcases h with h|h;omega;have:=N _ h;omega));have ad:=nd ad am (λb hb h=>by (rcases h with h|h;omega;have:=N _ h;omega));have X4:=mL X4 am (λk hk=>iG hk);refine Ak (Ah (Ai (Al (C1 V7 (C1 Mv (Ak ?_))))));rotate_left
   . have e4:=MJ X4 Ae Ab;exact AA (j+1,_) sB ⟨by simp only;omega,Ae,k1.eff e4,kR.eff e4,V,h4,O,U,G,X⟩ (by simp only;omega)
   . have e4:=MJ X4 Ae Ab;exact AA (j+1,_) sB ⟨by simp only;omega,Ae,k1.eff e4,kR.eff e4,V,h4,O,U,G,X⟩ (by simp only;omega)
 . obtain rfl:j=g.vars.length:=by omega
   rw [iZ] at hF;refine cS (C1 V3 (cT (Aj (DA (Ca (AB (AB (A0 (Ai (Aj (cS ?_)))))))))));refine C1 Pf (C1 (Pl h4) (C1 Pz (C1 Mv (cT ?_))));refine Au ?_;refine AP (ι:=Nat×Value) (λx=>[(1,pt b1),(3,pt Z),(4,pt ai),(38,.slice pa g.procs.length pc),(39,.int .i64 g.procs.length),(40,.int .i64 x.1)])
    (λx w'=>x.1<=g.procs.length/\FS w.heap.size Z (Cu [] g.vars+DS g.procs 0 (g.procs.take x.1)) w' x.2/\Kp Z w' x.2 b1/\Kp Z w' x.2 ai/\Blk w' ai [MB Z]/\Blk w' b1 (g.cells va vc pa pc ma mc)/\VDs (· < w.heap.size) w' g.vars va/\g.main.sits (· < w.heap.size) w' ma/\PDsC (· < w.heap.size) w' g.procs pa/\Ext w w')
    (λx=>g.procs.length-x.1) (0,vj) sB ⟨iT _,hF,k1,kR,V,h4,O,U,G,X⟩ ?_
   rintro ⟨j,vj⟩ w3 ⟨hj,hF,k1,kR,V,h4,O,U,G,X⟩;simp only at hj hF k1 kR V h4 O U G X;have c0:=Fw g.vars [];by_cases ap:j<g.procs.length
   . have N:∀q,vj.ownBlock=some q->w.heap.size<=q/\q<w3.heap.size/\q≠b1/\q≠ai:=λq hq=>⟨hF.own.ge hq,hF.own.lt hq,λe=>k1.2.2 (e▸hq),λe=>kR.2.2 (e▸hq)⟩
     have ax:=k1.not;have ay:=kR.not;have bw:=k1.1;have bx:=kR.1;have bp:=hF.cell.lt;have b6:=X.size;have cf:=KP g.procs 2009 (g.procs.take j) 0 (λi p hp=>by
      obtain ⟨c1,c2,-,c4⟩:=DO (o4 p (jY hp));obtain ⟨-,-,c3⟩:=body_iff.1 c4;have h1:=Fw p.params [];have h2:=S5 g.procs p.body p.params;unfold ME;split<;>omega)
     have c9:(g.procs.take j).length*2009<=64*2009:=kq _ (by simp;omega);have a1:=Lt g.procs g.procs 0 j ap;rw [jC] at a1;have da:=Xi ap;obtain ⟨c1,c2,-,c4⟩:=DO (o4 _ (iS ap));obtain ⟨-,-,c3⟩:=body_iff.1 c4;have ae:=G.pds;obtain ⟨kb,ko,rfl,kS,az⟩:=G.get (by intro e;rw [e] at ap;simp at ap);obtain ⟨qa,qc,ba,bc,r0,ab,ac,db⟩:=az j g.procs[j] (iE ap);have dc:=iF (PL g Ab g.procs[j].name (· < w.heap.size) va vc (some ⟨kb,ko,none⟩) pc ma mc);generalize hM:Cu [] g.vars+DS g.procs 0 (g.procs.take j)=M at *;have fh:M<=1000000:=by omega
     generalize Gz g.procs g.procs[j].name=np at *;generalize g.procs[j]=x at *;refine eK ?_;refine eA [_] ?_;intro av fj b2 dd fk fl;revert V O U X h4 G ae hF r0 ab ac;refine eE dd ?_;intro V O U X h4 G ae hF r0 ab ac;refine eA [_,_,_,_,_,_] ?_;intro a3 eg bi cg eh ei;revert b2 V O U X h4 G ae hF r0 ab ac;refine eE cg ?_;intro b2 V O U X h4 G ae hF r0 ab ac;refine eS [_] b2 ?_;intro ej Y bj ek;revert bi V O U X h4 G ae;refine eF bj ?_;intro bi V O U X h4 G ae;have hF:=FS.fr hF bj (λk hk=>⟨Ab,λe=>by have:=N _ e;omega⟩);revert r0 ab ac;refine eF bj ?_;intro r0 ab ac;refine eS [_,_,_,_,_,_] bi ?_;intro an aa bk el;revert Y V O U X h4 G ae;refine eF bk ?_;intro Y V O U X h4 G ae;have hF:=FS.fr hF bk (λk hk=>⟨Ab,λe=>by have:=N _ e;omega⟩);revert r0 ab ac;refine eF bk ?_;intro r0 ab ac;refine cT (Aj ?_);have aq:Kp Z an vj av:=⟨Ab,Ab,λe=>by have:=N _ e;omega⟩;have aw:Kp Z an vj a3:=⟨Ab,Ab,λe=>by have:=N _ e;omega⟩;have k1:=k1.grow (w':=an) Ab;have kR:=kR.grow (w':=an) Ab;have ak:=iF (λ(w':wD) (x':Ext an w')=>Hz w.heap.size Z M vj j 22 x.name (λ_=>True) none 0 0 w' Ab Ab PathAt.nil (hF.ext x'));rw [show M+Pd 22=M+1 from rfl] at ak;refine DE (ι:=Value) (λ_=>[(1,pt b1),(3,pt Z),(4,pt ai),(38,.slice (some ⟨kb,ko,none⟩) g.procs.length pc),(39,.int .i64 g.procs.length),(40,.int .i64 j),(7,pt av),(8,pt a3)]) (λv2 w'=>FS w.heap.size Z (M+(if np<(j:Int) then 1 else 0)) w' v2/\Kp Z w' v2 b1/\Kp Z w' v2 ai/\Kp Z w' v2 av/\Kp Z w' v2 a3/\Blk w' ai [MB Z]/\Blk w' b1 (g.cells va vc (some ⟨kb,ko,none⟩) pc ma mc)/\VDs (· < w.heap.size) w' g.vars va/\g.main.sits (· < w.heap.size) w' ma/\PDsC (· < w.heap.size) w' g.procs (some ⟨kb,ko,none⟩)/\Ext w w'/\Blk w' av [.int .i64 j]/\Blk w' a3 (x.cells qa qc ba bc)/\VDs (· < w.heap.size) w' x.params qa/\x.body.sits (· < w.heap.size) w' ba) ?_ ?_
     . have X3:=Ne an;have X4:=mI (λk=>k=Z\/vj.ownBlock=some k) an;unfold MB at V
       focus
        refine Aj (Aq (λwz=>Ext an wz) 5 (.pure 0 (.pure 1 (.pure 2 (.pure 4 (.fork 3 .tail .none))))) mixed AU (Aa (Aa (Af (Aa (Aa (Af (Aa Ag))))))) ?_);intro de ch _;have a4:(λwz=>Ext an wz) de:=ch;simp only at a4;have bm:=aa;have bn:=Y;have bb:=V;have bg:=O;have bd:=U;have bf:=h4;have be:=G;have ct:=ae;have em:=hF;have br:=r0;have b3:=ab;have b4:=ac;revert aa Y V O U X h4 G ae hF r0 ab ac X3 X4;refine eY ch ?_;intro fm aa Y V O U X h4 G ae hF r0 ab ac X3 X4;refine ⟨a4,?_⟩;refine Tq rfl (xL [_,_,_,_,_,_] (λwz hz=>(mN bf hz))) ?_;refine eT ?_;refine tC rfl rfl (dc.out _ Ae) ?_;rintro _ fo ⟨⟨⟩,df⟩;revert a4 aa Y V O U X h4 G ae hF r0 ab ac X3 X4;refine eY df ?_;intro fp a4 aa Y V O U X h4 G ae hF r0 ab ac X3 X4;refine ⟨a4,?_⟩;refine Ar rfl ?_;refine eK ?_;refine Az rfl (λdg=>?_) (λdg=>?_);refine eK ?_;refine Aw (A9 (fi:=[]) (ca:=[pt Z]) AU rfl rfl (ak.out _ Ae) (λ_ _ h=>h.ret)) rfl ?_ aFh;rintro _ en ⟨⟨⟩,dh,eo,aj,ep⟩;have eq:=aj.size;have aa:=mH aa aj (λh=>by (rcases h with h|h;omega;have:=N _ h;omega));have Y:=mH Y aj (λh=>by (rcases h with h|h;omega;have:=N _ h;omega));have V:=mH V aj (ay);have O:=nd O aj (λb hb h=>by (rcases h with h|h;omega;have:=N _ h;omega));have U:=mF U aj (λb hb h=>by (rcases h with h|h;omega;have:=N _ h;omega));have X:=mQ X aj (λk hk=>by (rcases hk with h|h;omega;have:=N _ h;omega));have h4:=mH h4 aj (ax);have G:=PDsC.fr G aj (λb hb h=>by (rcases h with h|h;omega;have:=N _ h;omega));have ae:=PDs.fr ae aj (λb hb h=>by (rcases h with h|h;omega;have:=N _ h;omega));have ab:=nd ab aj (λb hb h=>by (rcases h with h|h;omega;have:=N _ h;omega));have ac:=mF ac aj (λb hb h=>by (rcases h with h|h;omega;have:=N _ h;omega));have X4:=mL X4 aj (λk hk=>iG hk);refine Ak ?_;rotate_left;refine Ao ?_;rotate_left
       . have e4:=MJ X4 Ae Ab;exact BQ _ sB ⟨by rw [AG Ae];assumption,k1.eff e4,kR.eff e4,aq.eff e4,aw.eff e4,V,h4,O,U,G,X,Y,aa,ab,ac⟩
       . exact BQ vj sB ⟨by rw [At Ae];exact hF,k1.grow Ab,kR.grow Ab,aq.grow Ab,aw.grow Ab,V,h4,O,U,G,X,Y,aa,ab,ac⟩
     . rintro v2 w4 ⟨hF,k1,kR,aq,aw,V,h4,O,U,G,X,Y,aa,ab,ac⟩;obtain ⟨d1,b5⟩:∃d1:Nat,d1=(if np<(j:Int) then 1 else 0):=⟨_,rfl⟩
       have er:d1<=1:=by rw [b5];split<;>omega
       rw [<-b5] at hF;refine Aj (cS (C1 Pf (C1 (Pl aa) (C1 Pz (C1 Mv (cT ?_))))));refine Au ?_;refine AP (ι:=Nat×Value) (λy=>[(1,pt b1),(3,pt Z),(4,pt ai),(38,.slice (some ⟨kb,ko,none⟩) g.procs.length pc),(39,.int .i64 g.procs.length),(40,.int .i64 j),(7,pt av),(8,pt a3),(57,.slice qa x.params.length qc),(58,.int .i64 x.params.length),(59,.int .i64 y.1)])
        (λy w'=>y.1<=x.params.length/\FS w.heap.size Z (M+d1+Cu [] (x.params.take y.1)) w' y.2/\Kp Z w' y.2 b1/\Kp Z w' y.2 ai/\Kp Z w' y.2 av/\Kp Z w' y.2 a3/\Blk w' ai [MB Z]/\Blk w' b1 (g.cells va vc (some ⟨kb,ko,none⟩) pc ma mc)/\VDs (· < w.heap.size) w' g.vars va/\g.main.sits (· < w.heap.size) w' ma/\PDsC (· < w.heap.size) w' g.procs (some ⟨kb,ko,none⟩)/\Ext w w'/\Blk w' av [.int .i64 j]/\Blk w' a3 (x.cells qa qc ba bc)/\VDs (· < w.heap.size) w' x.params qa/\x.body.sits (· < w.heap.size) w' ba)
        (λy=>x.params.length-y.1) (0,v2) sB ⟨iT _,hF,k1,kR,aq,aw,V,h4,O,U,G,X,Y,aa,ab,ac⟩ ?_
       rintro ⟨i,vi⟩ w5 ⟨hi,hF,k1,kR,aq,aw,V,h4,O,U,G,X,Y,aa,ab,ac⟩;simp only at hi hF k1 kR aq aw V h4 O U G X Y aa ab ac;have di:=Fw (x.params.take i) [];have N:∀q,vi.ownBlock=some q->w.heap.size<=q/\q<w5.heap.size/\q≠b1/\q≠ai/\q≠av/\q≠a3:=λq hq=>⟨hF.own.ge hq,hF.own.lt hq,λe=>k1.2.2 (e▸hq),λe=>kR.2.2 (e▸hq),λe=>aq.2.2 (e▸hq),λe=>aw.2.2 (e▸hq)⟩
       have ax:=k1.not;have ay:=kR.not;have bw:=k1.1;have bx:=kR.1;have ci:=aq.not;have cj:=aw.not;have fq:=aq.1;have fs:=aw.1;have et:=hF.cell.lt;by_cases a9:i<x.params.length
       . obtain ⟨zb,zo,rfl,zS,az⟩:=ab.get (by intro e;rw [e] at a9;simp at a9);have r0:=az i x.params[i] (iE a9);have bz:(x.params.take i).length=i:=by simp;omega
         have ad:=ab.take i;have a0:=iF (PK (x.params.take i) Ab x.params[i].name);rw [bz] at a0;have a1:=H7 x.params [] i a9;rw [kF] at a1;have ck:M+d1+Cu [] (x.params.take (i+1))=M+d1+Cu [] (x.params.take i)+Pd (Fg (x.params.take i) x.params[i].name):=by rw [a1];omega
         have ak:=iF (λ(w':wD) (x':Ext w5 w')=>Hz w.heap.size Z (M+d1+Cu [] (x.params.take i)) vi j (Fg (x.params.take i) x.params[i].name) x.params[i].name (λ_=>True) none 0 0 w' Ab Ab PathAt.nil (hF.ext x'));rw [<-ck] at ak;have hm:(i:Int)=(i:Int):=rfl;generalize x.params[i]=y at *;obtain ⟨yn,yk,yl⟩:=y;dsimp only at a0 ak;replace r0:Row w5 ⟨zb,zo+i*3,none⟩ [str yn,.int .u8 yk,.int .i64 yl]:=r0;generalize Fg (x.params.take i) yn=ex at *;unfold MB at V;have X3:=Ne w5;have X4:=mI (λk=>k=Z\/vi.ownBlock=some k) w5;refine eK ?_;refine eA [_,_,_] ?_;intro ft fu dk dl fv fw;revert V h4 O U G X Y ac aa ab ad r0 X3 X4;refine eE dl ?_;intro V h4 O U G X Y ac aa ab ad r0 X3 X4;refine C1 Pa (eS [_,_,_] dk ?_);intro cl ar cm eu;revert V h4 O U G X Y ac aa ab ad r0 X3 X4;refine eF cm ?_;intro V h4 O U G X Y ac aa ab ad r0 X3 X4;refine cT (Aq (λwz=>Ext cl wz) 11 (.pure 0 (.pure 1 (.pure 2 (.pure 3 (.pure 4 (.pure 5 (.pure 6 (.pure 7 (.pure 8 (.pure 9 (.fork 10 .tail .none))))))))))) mixed AU (Af (Aa (Aa (Af (Aa (Af (Aa (Aa (Af (Aa Ag)))))))))) ?_);intro cn bs _;have au:(λwz=>Ext cl wz) cn:=bs;simp only at au;have bo:=ar;have bb:=V;have bf:=h4;have bg:=O;have bd:=U;have be:=G;have bn:=Y;have b4:=ac;have bm:=aa;have b3:=ab;have b0:=ad;have br:=r0;revert ar V h4 O U G X Y ac aa ab ad r0 X3 X4;refine eY bs ?_;intro ew ar V h4 O U G X Y ac aa ab ad r0 X3 X4;refine ⟨au,?_⟩;refine eT ?_;refine Tq rfl (DN Ac rfl rfl rfl rfl hm Ab) (Tq rfl Pg (Tq rfl (Db bo) ?_));refine tC rfl rfl (a0.out _ _ _ _ ad) ?_
         rintro _ ey ⟨⟨⟩,co⟩;revert au ar V h4 O U G X Y ac aa ab ad r0 X3 X4;refine eY co ?_;intro ez au ar V h4 O U G X Y ac aa ab ad r0 X3 X4;refine ⟨au,?_⟩;refine Ar rfl ?_;refine Aw (A9 (fi:=[]) (ca:=[pt Z]) AU rfl rfl (ak.out _ Ae) (λ_ _ h=>h.ret)) rfl ?_ aFh;rintro _ e0 ⟨⟨⟩,dm,e1,ah,e2⟩;have e3:=ah.size;have ar:=mH ar ah (λh=>by (rcases h with h|h;omega;have:=N _ h;omega));have V:=mH V ah (ay);have h4:=mH h4 ah (ax);have O:=nd O ah (λb hb h=>by (rcases h with h|h;omega;have:=N _ h;omega));have U:=mF U ah (λb hb h=>by (rcases h with h|h;omega;have:=N _ h;omega));have G:=PDsC.fr G ah (λb hb h=>by (rcases h with h|h;omega;have:=N _ h;omega));have X:=mQ X ah (λk hk=>by (rcases hk with h|h;omega;have:=N _ h;omega));have Y:=mH Y ah (ci);have ac:=mF ac ah (λb hb h=>by (rcases h with h|h;omega;have:=N _ h;omega));have aa:=mH aa ah (cj);have ab:=nd ab ah (λb hb h=>by (rcases h with h|h;omega;have:=N _ h;omega));have ad:=nd ad ah (λb hb h=>by (rcases h with h|h;omega;have:=N _ h;omega));have X4:=mL X4 ah (λk hk=>iG hk);refine Ak (Ah (Ai (Al (C1 V7 (C1 Mv (Ak ?_))))))
         have e4:=MJ X4 Ae Ab;exact AA (i+1,_) sB ⟨by simp only;omega,Ae,k1.eff e4,kR.eff e4,aq.eff e4,aw.eff e4,V,h4,O,U,G,X,Y,aa,ab,ac⟩ (by simp only;omega)
       . obtain rfl:i=x.params.length:=by omega
         rw [iZ] at hF di;have a5:=iF (λ(w':wD) (x':Ext w5 w') (h1:x.body.sits (· < w.heap.size) w' ba) (h2:PDs (· < w.heap.size) w' g.procs (some ⟨kb,ko,none⟩)) (h3:VDs (· < w.heap.size) w' x.params qa)=>
          Q6 w.heap.size Z Ab 108 [pt ai,pt av] AU _ (Vs w.heap.size Z ai av j) g Ab va vc (some ⟨kb,ko,none⟩) pc ma mc (x.body.size+1)
           x.body x.params (· < w.heap.size) (λ_=>False) ba bc qa qc none 0 0 w' vi (M+d1+Cu [] x.params) Ab Ab Ab Ab h1 h2 h3 db PathAt.nil
           (λb hb=>⟨by have:=x'.size;have:=X.size;omega,Ab,λe=>by have:=N _ e;omega⟩) (λ_ h=>h.elim) (hF.ext x') ⟨V.ext x',Y.ext x',kR.grow x'.size,aq.grow x'.size⟩)
         have cp:M+d1+Cu [] x.params+x.body.flt g.procs x.params=Cu [] g.vars+DS g.procs 0 (g.procs.take (j+1)):=by
          have dn:d1=if (Cf g.procs x.name).getD j<j then 1 else 0:=by
           rw [b5];have h:=decide_eq_decide.1 da;by_cases h1:np<(j:Int)
           . rw [AG h1,AG (h.1 h1)]
           . rw [At h1,At (λe=>h1 (h.2 e))]
          rw [a1,dn,ME];omega
         rw [cp] at a5;have ae:=G.pds;have X3:=Ne w5;have X4:=mI (λk=>k=Z\/vi.ownBlock=some k) w5;refine eK ?_;refine C1 (B6 rfl) (cC rfl (a5.out _ Ae Ae Ae Ae) ?_);rintro _ fx ⟨⟨⟩,e5,fy,ao,fz⟩;have f0:=ao.size;have V:=mH V ao (ay);have h4:=mH h4 ao (ax);have O:=nd O ao (λb hb h=>by (rcases h with h|h;omega;have:=N _ h;omega));have U:=mF U ao (λb hb h=>by (rcases h with h|h;omega;have:=N _ h;omega));have G:=PDsC.fr G ao (λb hb h=>by (rcases h with h|h;omega;have:=N _ h;omega));have X:=mQ X ao (λk hk=>by (rcases hk with h|h;omega;have:=N _ h;omega));have Y:=mH Y ao (ci);have aa:=mH aa ao (cj);have ab:=nd ab ao (λb hb h=>by (rcases h with h|h;omega;have:=N _ h;omega));have ac:=mF ac ao (λb hb h=>by (rcases h with h|h;omega;have:=N _ h;omega));have ae:=PDs.fr ae ao (λb hb h=>by (rcases h with h|h;omega;have:=N _ h;omega));have X4:=mL X4 ao (λk hk=>iG hk);refine Ak (Ah (Ai (Al (C1 V7 (C1 Mv (Ak ?_))))));have e4:=MJ X4 Ae Ab;exact AA (j+1,_) sB ⟨by simp only;omega,Ae,k1.eff e4,kR.eff e4,V,h4,O,U,G,X⟩ (by simp only;omega)
   . obtain rfl:j=g.procs.length:=by omega
     rw [iZ] at hF;have N:∀q,vj.ownBlock=some q->w.heap.size<=q/\q<w3.heap.size/\q≠b1/\q≠ai:=λq hq=>⟨hF.own.ge hq,hF.own.lt hq,λe=>k1.2.2 (e▸hq),λe=>kR.2.2 (e▸hq)⟩
     have ax:=k1.not;have ay:=kR.not;have bw:=k1.1;have bx:=kR.1;have bp:=hF.cell.lt;have b6:=X.size;obtain ⟨-,-,c3⟩:=body_iff.1 o5;have cf:=KP g.procs 2009 g.procs 0 (λi p hp=>by
      obtain ⟨c1,c2,-,c4⟩:=DO (o4 p hp);obtain ⟨-,-,c3⟩:=body_iff.1 c4;have h1:=Fw p.params [];have h2:=S5 g.procs p.body p.params;unfold ME;split<;>omega)
     have c9:g.procs.length*2009<=64*2009:=kq _ o2;have ae:=G.pds;have a5:=iF (λ(w':wD) (x':Ext w3 w') (h1:g.main.sits (· < w.heap.size) w' ma) (h2:PDs (· < w.heap.size) w' g.procs pa) (h3:VDs (· < w.heap.size) w' g.vars va)=>
      Q6 w.heap.size Z Ab 109 [pt ai,pt b1] AU _ (Vt w.heap.size Z ai b1 g va vc pa pc ma mc) g Ab va vc pa pc ma mc (g.main.size+1)
       g.main g.vars (· < w.heap.size) (λ_=>False) ma mc va vc none 0 0 w' vj (Cu [] g.vars+DS g.procs 0 g.procs) Ab Ab Ab Ab h1 h2 h3 cv PathAt.nil
       (λb hb=>⟨by have:=x'.size;omega,Ab,λe=>by have:=N _ e;omega⟩) (λ_ h=>h.elim) (hF.ext x') ⟨V.ext x',h4.ext x',kR.grow x'.size,k1.grow x'.size⟩)
     rw [show Cu [] g.vars+DS g.procs 0 g.procs+g.main.flt g.procs g.vars=g.flt from rfl] at a5;have X3:=Ne w3;refine eK ?_;refine C1 (B6 rfl) (cC rfl (a5.out _ Ae Ae Ae Ae) ?_);rintro _ f1 ⟨⟨⟩,cq,cr,a6,f2⟩;have f3:=a6.size;have V:=mH V a6 (ay);have h4:=mH h4 a6 (ax);have O:=nd O a6 (λb hb h=>by (rcases h with h|h;omega;have:=N _ h;omega));have U:=mF U a6 (λb hb h=>by (rcases h with h|h;omega;have:=N _ h;omega));have G:=PDsC.fr G a6 (λb hb h=>by (rcases h with h|h;omega;have:=N _ h;omega));have X:=mQ X a6 (λk hk=>by (rcases hk with h|h;omega;have:=N _ h;omega));have ae:=PDs.fr ae a6 (λb hb h=>by (rcases h with h|h;omega;have:=N _ h;omega));refine cT ?_;have dp:∃a c,cq = .slice a g.flt c:=by
      obtain ⟨f4,h1,-⟩:=cr.own.ex;rw [List.length_replicate] at h1;rcases h1.row with ⟨h2,h0,-⟩|⟨q,cap,h2,-⟩
      . exact ⟨none,0,by rw [h2,h0]⟩
      . exact ⟨_,_,h2⟩
     have hc:=cr.cell;obtain ⟨ra,rc,rfl⟩:=dp;refine eK ?_;refine xR ?_;exact ⟨_,_,rfl,X⟩
def Ia {x:Nd}:∀ {l:List Nd},x∈BV l -> ∃t∈l,x∈t.walk
 | [],h=>by simp [BV] at h
 | t::r,h=>by
  simp only [BV,jD] at h;rcases h with h|h
  . exact ⟨t,AN,h⟩
  . obtain ⟨u,G,M⟩:=Ia h;exact ⟨u,by simp [G],M⟩
def Vw {n:Int} {l:List Nd} (h:(Nd.mk k n s l).good):∀x∈l,x.good:=by
 intro x G;rcases h with h|h|h
 . cases B3 h with
   | call _ _ _ U=>exact iH (iH (GO (jr.1 U x G)))
   | upd _ M N=>simp only [iU,jB,or_false] at G;rcases G with rfl|rfl<;>first|exact iH (iH (Be Ae))|exact iH (iH Ae)
   | swap M N=>simp only [iU,jB,or_false] at G;rcases G with rfl|rfl<;>exact iH (iH (Be Ae))
   | stack _ _ M=>simp only [iU,jB,or_false] at G;rw [G];exact iH (iH (Be M))
   | tape _ M=>simp only [iU,jB,or_false] at G;rw [G];exact iH (iH (Be M))
   | branch _ M N V X=>simp only [iU,jB,or_false] at G;rcases G with rfl|rfl|rfl|rfl<;>first|exact iH (iH Ae)|exact iH (iG Ae)
   | local_ _ M N V=>simp only [iU,jB,or_false] at G;rcases G with rfl|rfl|rfl<;>first|exact iH (iH Ae)|exact iH (iG Ae)
   | lstack _ M=>simp only [iU,jB,or_false] at G;rw [G];exact iH (iG M)
 . obtain ⟨e,O⟩:=D5 h;simp only [Nd.kids] at O;exact iG (rowStmt_iff.1 O x G)
 . exact iH (iH ((Iz h).2.1 x G))
def Vx (N:Nat):∀t:Nd,t.size<N->t.good->t.wf -> ∀x∈t.walk,x.good/\x.wf/\x.size<=t.size:=by
 induction N with
 | zero=>intro t h;omega
 | succ N X=>
  rintro ⟨k,n,s,l⟩ Y V M x G;rw [Nd.walk,iU] at G;rcases G with rfl|G
  . exact ⟨V,M,iW _⟩
  . obtain ⟨t,O,U⟩:=Ia G;have hs:=CP O;simp only [mR] at Y ⊢;obtain ⟨Z,h2,h3⟩:=X t Ab (Vw V t O) (BD (by simp only [Nd.wf] at M;exact M.2.2.2.2.2.2) t O) x U;exact ⟨Z,h2,Ab⟩
def MK {t:Nd} (h:t.isBlock=true) (G:t.wf):∀x∈t.walk,x.good/\x.wf/\x.size<=t.size:=Vx (t.size+1) t Ab (iH (iG h)) G
def Kh {l:Sl} {tab:Tab} {zt:EA} {y:Operand} {B c d:Nat} {a:oA} {sE:Sk} {zs:lV} {ys:List Int} (T:TabOk P tab) (Z:Ct P zt) (ht:AD tab t=some (.slice e,r)) (hE:AD tab e=some (sE,4)) (hz:CS zt e=some zs) (hzl:zs.length=4)
 (hby:Dt P e=true) (hx:ev l x=some (.slice a xs.length c)) (hy:ev l y=some (.slice N ys.length d)) (hox:OwnQ rejShape w (λ_=>False) B e (.slice a xs.length c) xs) (hoy:OwnQ rejShape w (λ_=>False) sz e (.slice N ys.length d) ys) (hxn:xs=[]->a=none/\c=0) (hyn:ys=[]->N=none/\d=0) (hlen:xs.length+ys.length<=10000000000) (hB:B<=w.heap.size) :
 BG P n l (.call ⟨.builtin .append,#[x,y],#[t,t]⟩) ty w (Ge λo w'=> ∃a2 c2,o = .slice a2 (xs++ys).length c2/\OwnQ rejShape w' (λ_=>False) B e (.slice a2 (xs++ys).length c2) (xs++ys)/\Fr (λk=>(jf a xs.length c).ownBlock=some k) w w'/\(xs++ys=[]->a2=none/\c2=0)):=by
 by_cases b:ys=[]
 . obtain ⟨rfl,rfl⟩:=hyn b;subst b;rw [lE];obtain ⟨i,hi,hs⟩:=(T _ _ _ hE).info;have hun:=(T _ _ _ ht).under;have key:(Builtin.append_ #[t,t] ty #[.slice a xs.length c,.slice none 0 0]).run P w = .ok (.slice a xs.length c) w:=by
    obtain ⟨css,h1,-⟩:=hox.ex;exact run_append_owned_none (P:=P) w B t ty e i 4 hun hi _ xs.length css.flatten h1
   unfold BG;intro act dst pos after g next Q ha hn _;have e1:(execOp act.eval ⟨dst,.call ⟨.builtin .append,#[x,y],#[t,t]⟩,ty,pos,after,g⟩).run P w = .ok (.value (.slice a xs.length c)) w:=by
    simp only [ji] at hy;simp only [execOp,resolve,invoke,builtin,iV,je,jV,lY,jo,lw,ha.ev hx,ha.ev hy,key]
   unfold kh;rw [e1];exact hn _ _ ⟨a,c,rfl,hox,mI _ _,hxn⟩
 . obtain ⟨css,h1,h2,h3⟩:=hox.ex;obtain ⟨cys,k1,k2,k3⟩:=hoy.ex;have hpos:0<ys.length:=List.length_pos_iff.2 b;rcases k1.row with ⟨-,h0,-⟩|⟨g,cap,hv,-,-,hr⟩
   . omega
   simp only [jm] at hv;obtain ⟨rfl,-,-⟩:=hv;have hone:cys.flatten.all mW=true:=by
    rw [jr];intro u hu;obtain ⟨cs,hcs,hu⟩:=List.mem_flatten.1 hu;obtain ⟨j,hj,rfl⟩:=List.mem_iff_getElem.1 hcs;have:=rejShape.one (k3 j ys[j] cys[j] (iE Ab) (iE hj));exact jr.1 this u hu
   have hd:=Ea (P:=P) (n:=n) (l:=l) (ty:=ty) T Z ht hE hz hzl hby rfl hx hy h1 hr k1.1 hone Ab Ab hB;unfold BG at hd ⊢;intro act dst pos after gd next Q ha hn f;refine hd act dst pos after gd next Q ha (λv' w' hG=>?_) (λw' hG=>hG.elim);obtain ⟨g1,g2,g',cap',rfl,g4⟩:=hG;refine hn _ w' ⟨some ⟨g',0,none⟩,cap',by rw [iX],⟨css++cys,by rw [lz,iX];exact g1,by simp [h2,k2],λj z ds hz hd=>?_⟩,g2,λe=>by simp [b] at e⟩;by_cases hj:j<xs.length
   . rw [iN hj] at hz;rw [iN Ab] at hd;exact h3 j z ds hz hd
   . rw [iY Ab] at hz;rw [iY Ab,h2] at hd;exact k3 _ z ds hz hd
def C9 (ps:List PD):List Int:=ps.flatMap λp=>Ck p.body.walk
def PG.errs (g:PG):List Int:=if g.flt=0 then C9 g.procs++Ck g.main.walk else []
def Rd {j:Nat} (h:j<ps.length):C9 (ps.take (j+1))=C9 (ps.take j)++Ck (ps[j]).body.walk:=by
 unfold C9;rw [iI h,kB];simp
def ML (K:Nat):∀ps:List PD,(∀p∈ps,p.body.size<=K)->(C9 ps).length<=ps.length*K
 | [],_=>by simp [C9]
 | p::r,h=>by
  have N:=ML K r (λq G=>h q (by simp [G]));have M:=G3 p.body.walk;rw [Hy] at M;have O:=h p AN;have e:C9 (p::r)=Ck p.body.walk++C9 r:=by simp [C9]
  rw [e,iX,iM,kH];omega
set_option maxHeartbeats 8000000 in
def Re (g:PG) (aa:g.wf) (ah:g.ok=true) (S:nP) (va:oA) (vc:Nat) (pa:oA) (pc:Nat) (ma:oA) (mc:Nat) (w:wD) (Y:g.sits S w va pa ma) (G:PDsC S w g.procs pa) (al:g.vars.length<=vc) :
 Calls prog 70 #[.agg (g.cells va vc pa pc ma mc).toArray] w (ChkR g.errs w):=by
 have HV:=iF (F7 aa ah);have HS:=iF (λS va vc pa pc ma mc w Y hp hv=>Kg g aa ah S va vc pa pc ma mc w Y hp hv);obtain ⟨o1,o2,-,o4,o5⟩:=DV ah;have G:=G.ltA;have Y:=Y.ltA;have X:=Ne w;by_cases hf:g.flt=0
 . have he:g.errs=C9 g.procs++Ck g.main.walk:=AG hf;rw [he];rw [hf] at HS;have N:=Y.main;obtain ⟨b1,-,b3⟩:=body_iff.1 o5;have HM:=iF (Uf (-1) g.main Ab (λx hx=>by
    obtain ⟨h1,h2,h3⟩:=MK b1 aa.main x hx;exact ⟨h1,h2,Ab⟩))
   refine Ad func70 ntmps70 rfl rfl (cS (eB [_,_,_,_,_,_] ?_));intro b1 w2 O x5 p6 z7;revert G Y X N;refine eE x5 ?_;intro G Y X N;refine kC (HV.out _ _ _ _ _ _ _ _ Ae) ?_;rintro _ w9 ⟨⟨⟩,x8⟩;revert O G Y X N;refine eE x8 ?_;intro O G Y X N;refine kQ (HS.out _ _ _ _ _ _ _ _ Ae Ae al) ?_;rintro _ bk ⟨bl,bm,⟨⟩,au⟩;revert O G X N;refine eE au ?_;intro O G X N;refine Bn rfl rfl rfl (rfl) (C1 Pz (Bn rfl rfl rfl (rfl) (C1 V5 (C1 (BZ rfl rfl rfl) (cT (LT (Ao (Ai (cS (C1 Pa (cT (Aj (cS (C1 Pf (C1 (Pl O) (C1 Pz (C1 Mv (cT ?_))))))))))))))))));refine Au ?_;refine AP (ι:=Nat×oA×Nat) (λy=>[(1,pt b1),(3,.slice y.2.1 (C9 (g.procs.take y.1)).length y.2.2),(16,.slice pa g.procs.length pc),(17,.int .i64 g.procs.length),(18,.int .i64 y.1)])
    (λy w'=>y.1<=g.procs.length/\OwnQ rejShape w' (λ_=>False) (w.heap.size+1) 140 (.slice y.2.1 (C9 (g.procs.take y.1)).length y.2.2) (C9 (g.procs.take y.1))/\(C9 (g.procs.take y.1)=[]->y.2.1=none/\y.2.2=0)/\Blk w' b1 (g.cells va vc pa pc ma mc)/\PDsC (· < w.heap.size) w' g.procs pa/\g.main.sits (· < w.heap.size) w' ma/\Ext w w')
    (λy=>g.procs.length-y.1) (0,none,0) sB ⟨iT _,nA,λ_=>⟨rfl,rfl⟩,O,G,N,X⟩ ?_
   rintro ⟨j,ra,rc⟩ w3 ⟨hj,M,ab,O,G,N,X⟩;simp only at hj M ab O G N X;have U:∀q,(jf ra (C9 (g.procs.take j)).length rc).ownBlock=some q->w.heap.size+1<=q/\q<w3.heap.size:=λq hq=>⟨M.ge hq,M.lt hq⟩
   have av:=ML 2000 (g.procs.take j) (λp hp=>(body_iff.1 (DO (o4 p (jY hp))).2.2.2).2.2);have aw:(g.procs.take j).length*2000<=64*2000:=kq _ (by simp;omega);have bn:=O.lt;by_cases Z:j<g.procs.length
   . obtain ⟨kb,ko,rfl,kS,am⟩:=G.get (by intro e;rw [e] at Z;simp at Z);obtain ⟨qa,qc,ba,bc,r0,-,ac,-⟩:=am j g.procs[j] (iE Z);obtain ⟨d1,-,d3⟩:=body_iff.1 (DO (o4 _ (iS Z))).2.2.2;have ax:=Rd Z;have ai:=G3 (g.procs[j]).body.walk;rw [Hy] at ai;have HC:=iF (Uf j (g.procs[j]).body Ab (λx hx=>by
      obtain ⟨h1,h2,h3⟩:=MK d1 (aa.procs _ (iS Z)).body x hx;exact ⟨h1,h2,Ab⟩))
     generalize g.procs[j]=x at *;generalize Ck x.body.walk=ys at *;generalize hE:C9 (g.procs.take j)=E at *;refine eK ?_;refine eA [_,_,_,_,_,_] ?_;intro bo bp ay az bq br;revert N X O G ac M;refine eE az ?_;intro N X O G ac M;refine C1 Pa (eS [_,_,_,_,_,_] ay ?_);intro bs a3 ad a4;revert N X O G ac;refine eF ad ?_;intro N X O G ac;have M:=nE M ad (λk hk=>⟨id,λe=>by have:=U _ e;omega⟩);refine kQ (HC.out _ _ _ _ Ae) ?_;rintro _ a5 ⟨a6,a7,⟨⟩,a8,an,a9⟩;revert N X O G M;refine eY an ?_;intro bb N X O G M;refine Aw (Kh Ac CC rfl rfl rfl rfl AU rfl rfl Ae Ae ab Ae Ab Ab) rfl ?_ aFh;rintro _ bd ⟨aj,ak,rfl,ae,V,af⟩;have N:=mF N V (λb hb h=>by have:=U _ h;omega);have X:=mQ X V (λk hk=>by have:=U _ hk;omega);have O:=mH O V (λh=>by have:=U _ h;omega);have G:=PDsC.fr G V (λb hb h=>by have:=U _ h;omega);refine C1 Pa (Ak (Ah (Ai (Al (C1 V7 (C1 Mv (Ak ?_)))))));rw [<-ax] at ae af ⊢;exact AA (j+1,aj,ak) sB ⟨by simp only;omega,ae,af,O,G,N,X⟩ (by simp only;omega)
   . obtain rfl:j=g.procs.length:=by omega
     rw [iZ] at M ab av U;refine nq (m:=[(1,pt b1),(3,.slice ra (C9 g.procs).length rc),(16,.slice pa g.procs.length pc),(17,.int .i64 g.procs.length),(18,.int .i64 g.procs.length)]) ?_ (An rfl (B4 rfl (by simp only [iZ]) (An rfl (An rfl (An rfl BL)))));have ai:=G3 g.main.walk;rw [Hy] at ai;rw [iZ] at aw;generalize Ck g.main.walk=ys at *;generalize hE:C9 g.procs=E at *;rw [hE] at *;refine kQ (HM.out _ _ _ _ Ae) ?_;rintro _ bt ⟨bu,bv,⟨⟩,bw,a0,bx⟩;revert X M;refine eY a0 ?_;intro bz X M;refine Aw (Kh Ac CC rfl rfl rfl rfl AU rfl rfl Ae Ae ab Ae Ab Ab) rfl ?_ aFh;rintro _ be ⟨bf,bg,rfl,ag,ao,ap⟩;have X:=mQ X ao (λk hk=>by have:=U _ hk;omega);refine kR ?_;exact ⟨_,_,rfl,OwnQ.below ag (λk hk=>by have:=ag.ge hk;omega),X,ap⟩
 . have he:g.errs=[]:=At hf;rw [he];refine Ad func70 ntmps70 rfl rfl (cS (eB [_,_,_,_,_,_] ?_));intro b0 b2 aq a1 _ _;revert G Y X;refine eE a1 ?_;intro G Y X;refine kC (HV.out _ _ _ _ _ _ _ _ Ae) ?_;rintro _ b4 ⟨⟨⟩,a2⟩;revert aq G Y X;refine eE a2 ?_;intro aq G Y X;refine kQ (HS.out _ _ _ _ _ _ _ _ Ae Ae al) ?_;rintro _ bh ⟨bi,bj,⟨⟩,ar⟩;have X:=X.ext ar;refine kR ?_;all_goals exact ⟨none,0,rfl,nA,X,λ_=>⟨rfl,rfl⟩⟩
def PG.acc (g:PG):Prop:=g.ok=true/\g.flt=0/\g.errs=[]
def fF (g:PG) (N:g.wf) (S:nP) (va:oA) (vc:Nat) (V:oA) (pc:Nat) (ma:oA) (mc:Nat) (w:wD) (M:g.sits S w va V ma) (G:PDsC S w g.procs V) (Y:g.vars.length<=vc) :
 Calls prog 41 #[.agg (g.cells va vc V pc ma mc).toArray] w λe w'=> ∃q,e = .returned (.bool q)/\(q=true↔g.acc)/\Ext w w':=by
 have X:=Ne w;have M:=M.ltA;have G:=G.ltA;cases hok:g.ok
 . have Z:=iF (F7 N hok);have hn:¬g.acc:=λh=>by rw [h.1] at hok;cases hok
   refine Ad func41 ntmps41 rfl rfl (cS (eB [_,_,_,_,_,_] ?_));intro b1 w2 h4 x5 _ _;revert X M;refine eE x5 ?_;intro X M;refine kC (Z.out _ _ _ _ _ _ _ _ Ae) ?_;rintro _ w9 ⟨⟨⟩,x8⟩;have X:=X.ext x8;refine kR ?_;exact ⟨_,rfl,⟨(λh=>nomatch h),λh=>absurd h hn⟩,X⟩
 have Z:=iF (F7 N hok);have HC:=iF (λw1 h1 h2=>Kg g N hok (· < w.heap.size) va vc V pc ma mc w1 h1 h2 Y);have HE:=iF (λw1 h1 h2=>Re g N hok (· < w.heap.size) va vc V pc ma mc w1 h1 h2 Y);by_cases h0:g.flt=0
 . rw [h0] at HC;have hq:g.acc↔g.errs.length=0:=⟨λh=>by rw [h.2.2];rfl,λh=>⟨hok,h0,kv h⟩⟩;rw [hq];generalize g.errs=xs at *;by_cases hx:xs.length=0
   . refine Ad func41 ntmps41 rfl rfl ?_;refine cS (eB [_,_,_,_,_,_] ?_);intro a8 a9 O ag _ _;revert X M G;refine eE ag ?_;intro X M G;refine kC (Z.out _ _ _ _ _ _ _ _ Ae) ?_;rintro _ ba ⟨⟨⟩,ah⟩;revert O X M G;refine eE ah ?_;intro O X M G;refine kQ (HC.out _ Ae Ae) ?_;rintro _ am ⟨an,ao,⟨⟩,aa⟩;revert O X M G;refine eE aa ?_;intro O X M G;refine kQ (HE.out _ Ae Ae) ?_;rintro _ ap ⟨aq,ar,⟨⟩,au,ab,av⟩;have X:=X.ext ab;refine kR ?_;exact ⟨_,rfl,by simp [hx],X⟩
   . refine Ad func41 ntmps41 rfl rfl ?_;refine cS (eB [_,_,_,_,_,_] ?_);intro bb bc U ai _ _;revert X M G;refine eE ai ?_;intro X M G;refine kC (Z.out _ _ _ _ _ _ _ _ Ae) ?_;rintro _ bd ⟨⟨⟩,aj⟩;revert U X M G;refine eE aj ?_;intro U X M G;refine kQ (HC.out _ Ae Ae) ?_;rintro _ aw ⟨ax,ay,⟨⟩,ac⟩;revert U X M G;refine eE ac ?_;intro U X M G;refine kQ (HE.out _ Ae Ae) ?_;rintro _ az ⟨a0,a1,⟨⟩,a2,ad,a3⟩;have X:=X.ext ad;refine kR ?_;exact ⟨_,rfl,by simp [hx],X⟩
 . have hn:¬g.acc:=λh=>h0 h.2.1
   have a4:0<g.flt:=Nat.pos_of_ne_zero h0;generalize g.flt=nf at *;refine Ad func41 ntmps41 rfl rfl (cS (eB [_,_,_,_,_,_] ?_));intro be bf ae ak _ _;revert X M G;refine eE ak ?_;intro X M G;refine kC (Z.out _ _ _ _ _ _ _ _ Ae) ?_;rintro _ bg ⟨⟨⟩,al⟩;revert ae X M G;refine eE al ?_;intro ae X M G;refine kQ (HC.out _ Ae Ae) ?_;rintro _ a5 ⟨a6,a7,⟨⟩,af⟩;have X:=X.ext af;refine kR ?_;exact ⟨_,rfl,⟨(λh=>nomatch h),λh=>absurd h hn⟩,X⟩
structure EX where
 name:lB
 points:Int
 fuel:Int
 box:BoxV
 g:PG
def EX.cells (e:EX) (va:oA) (vc:Nat) (pa:oA) (pc:Nat) (ma:oA) (mc:Nat):lV:=
 [str e.name,.int .i64 e.points,.int .i64 e.fuel,.int .i64 e.box.v,.int .i64 e.box.l,.int .i64 e.box.i,.slice va e.g.vars.length vc,.slice pa e.g.procs.length pc,.int .u8 e.g.main.kind,.int .i64 e.g.main.num,str e.g.main.name,.slice ma e.g.main.kids.length mc]
def PG.pinv (g:PG):PG:=⟨g.vars,g.procs,g.main.inv false⟩
def EX.num (e:EX):Prop:=Cv e.name=true/\(1<=e.points/\e.points<=1000)/\0<=e.fuel/\e.fuel<=1000000
instance (e:EX):Decidable e.num:=by unfold EX.num;infer_instance
instance (g:PG):Decidable g.acc:=by unfold PG.acc;infer_instance
def EX.valid (e:EX):Prop:=e.num/\e.g.acc/\e.g.pinv.acc/\(Hu e.g.vars e.box).2=0/\(Hu e.g.vars e.box).1<=65536
instance (e:EX):Decidable e.valid:=by unfold EX.valid;infer_instance
def PG.pinv_eq (g:PG):g.pinv=g.inv id false:=(PG.inv_id false g).symm
def PG.pinv_wf (h:g.wf) (G:g.ok=true):g.pinv.wf:=by
 rw [PG.pinv_eq];exact Vv false h G (λp M=>(h.procs p M).body)
def PO {l:Sl} {S:wD->Prop} {t t':TypeId} {y:Operand} {a b m:Int} (G:ev l x=some (.int .i64 a)) (M:ev l y=some (.int .i64 b)) (N:min a b=m):Br P n l S (.call ⟨.builtin .min,#[x,y],#[t,t']⟩) ty (.int .i64 m):=by
 unfold Br;intro c w O pos after g h _;have e:(if b<a then b else a)=m:=by rw [<-N];split<;>omega
 simp [execOp,resolve,invoke,builtin,Builtin.min_,Builtin.min2,h.ev G,h.ev M,e]
def Om (x y:Int) (h:1<=x/\x<=1099511627777) (U:1<=y/\y<=1099511627777) (w:wD) :
 Calls prog 73 #[.int .i64 x,.int .i64 y] w λe w'=>e = .returned (.int .i64 (FZ x y))/\Ext w w':=by
 have X:=Ne w;have V:(1099511627776:Int).tdiv y=1099511627776/y:=Int.tdiv_eq_ediv_of_nonneg Ab;have h2:0<=(1099511627776:Int)/y:=Int.ediv_nonneg Ab Ab;have h3:(1099511627776:Int)/y<=1099511627776:=Int.ediv_le_self _ Ab;have G:jP .i64 ((1099511627776:Int).tdiv y)=1099511627776/y:=by rw [V];exact iO _ Ab
 have Y:y≠0:=by omega
 by_cases M:1099511627776/y<x
 . rw [show FZ x y=1099511627777 by unfold FZ;rw [AG M]];generalize (1099511627776:Int)/y=q at *;refine Ad func73 ntmps73 rfl rfl (eK ?_);refine C1 (Ip rfl rfl Ae G) (kR ?_);exact ⟨rfl,X⟩
 . have N:=Pq h.1 h.2 U.1;have e:FZ x y=x*y:=by unfold FZ;rw [At M]
   rw [e] at N ⊢;obtain ⟨m,O⟩:∃m,x*y=m:=⟨_,rfl⟩;rw [O] at N ⊢;have Z:jP .i64 (x*y)=m:=by rw [O];exact iO _ Ab
   generalize (1099511627776:Int)/y=q at *;refine Ad func73 ntmps73 rfl rfl (eK ?_);refine C1 (Ip rfl rfl Ae G) (eK ?_);refine C1 (Io rfl rfl Z) (kR ?_);exact ⟨rfl,X⟩
def Rf (p:Int×Int) (y:Int) (hp:0<=p.1/\p.1<=1000) (hq:0<=p.2/\p.2<=1000) (V:1<=y/\y<=1099511627777) (w:wD) :
 Calls prog 74 #[.agg #[.int .i64 p.1,.int .i64 p.2],.int .i64 y] w λe w'=>e = .returned (.int .i64 (Mu p y))/\Ext w w':=by
 have X:=Ne w;obtain ⟨G,ab⟩:=p;simp only at hp hq;unfold Mu;obtain ⟨N,rfl⟩:=Int.eq_ofNat_of_zero_le hq.1;rw [show ((N:Int)+1).toNat=N+1 by omega];have HS:=iF (λn=>Ps G y V.1 n);have HP:=iF (λn=>Pr G y V.1 n);have HC:=iF (λx h w1=>Om x y h V w1);have HZ:=iF (λn=>show Mt G y (n+1)=(if G<=n then min ((Mt G y n).1+(Mt G y n).2) 1099511627777 else (Mt G y n).1,FZ (Mt G y n).2 y) from rfl);refine Ad func74 ntmps74 rfl rfl (cS (Du [_,_] rfl rfl rfl ?_));intro b1 w2 n3;have M:=n3.blk;dsimp only at M;have x5:=n3.ext;have X:=X.ext x5;refine C1 Pa (cN (C1 Pa (C1 Pa (cT (Aj (cS (C1 Pf (C1 (Pl M) (C1 V7 (C1 Mv (cT ?_)))))))))));refine Au ?_;refine AP (ι:=Nat) (λj=>[(1,.int .i64 y),(2,pt b1),(5,.int .i64 (Mt G y j).1),(6,.int .i64 (Mt G y j).2),(10,.int .i64 ((N:Int)+1)),(11,.int .i64 j)])
  (λj w'=>j<=N+1/\Blk w' b1 [.int .i64 G,.int .i64 N]/\Ext w w') (λj=>N+1-j) 0 sB ⟨iT _,M,X⟩ ?_
 rintro j w1 ⟨hj,M,X⟩;by_cases ac:j<N+1
 . have hs:=HS.out j;have O:=HP.out j;have U:=HZ.out j;have Y:=iF (HC.out _ O);generalize Mt G y j=r at *;obtain ⟨r1,r2⟩:=r;simp only at hs O U Y;by_cases hl:G<=(j:Int)
   . rw [AG hl] at U;refine eK ?_;refine C1 (PO rfl rfl rfl) (kC (Y.out _) ?_);rintro _ ad ⟨⟨⟩,Z⟩;revert M X;refine eE Z ?_;intro M X;refine C1 Pa (Ak (Ah (Ai (Al (C1 V7 (C1 Mv (Ak ?_)))))));exact AA (j+1) (by rw [U];(refine An rfl ?_;refine An rfl ?_;refine An rfl ?_;refine An rfl ?_;refine An rfl ?_;refine An rfl ?_;exact BL)) ⟨Ab,Ae,X⟩ Ab
   . rw [At hl] at U;refine kC (Y.out _) ?_;rintro _ ae ⟨⟨⟩,aa⟩;revert M X;refine eE aa ?_;intro M X;refine C1 Pa (Ak (Ah (Ai (Al (C1 V7 (C1 Mv (Ak ?_)))))));exact AA (j+1) (by rw [U];(refine An rfl ?_;refine An rfl ?_;refine An rfl ?_;refine An rfl ?_;refine An rfl ?_;refine An rfl ?_;exact BL)) ⟨Ab,Ae,X⟩ Ab
 . obtain rfl:j=N+1:=by omega
   generalize (Mt G y (N+1)).1=s at *;refine kR ?_;exact ⟨rfl,X⟩
def E5:Shape (List Int) where
 sz:=1
 rep:=λw S xs cs=> ∃a c,cs=[.slice a xs.length c]/\Rows S w (AZ xs) a
 len:=λ⟨_,_,h,_⟩=>by rw [h];rfl
 one:=λ⟨_,_,h,_⟩=>by rw [h];rfl
 mono:=λ⟨a,c,h,h2⟩ hS hc=>⟨a,c,h,h2.move hS (λb o v hb h=>hc b o v hb h)⟩
 lt:=λ⟨a,c,h,h2⟩=>⟨a,c,h,h2.lt2⟩
def OwnQ.ics {R:nP} {B:Nat} {a:oA} {len cap:Nat} {xs:List (List Int)} (h:OwnQ E5 w R B e (.slice a len cap) xs) (U:∀b,R b->S b) (V:∀b,B<=b->b<w.heap.size->S b):ICs S w xs a:=by
 by_cases M:xs=[]
 . exact iG M
 . obtain ⟨g,N,O,X,Y,G⟩:=h.rows M;simp only [jm] at O;obtain ⟨rfl,-,-⟩:=O;refine iH ⟨g,0,rfl,V g X Y,λi x Z=>?_⟩;obtain ⟨cs,hr,a,c,rfl,h2⟩:=G i x Z;exact ⟨a,c,by simpa [E5] using hr,h2.wide U⟩
def Gi {a:oA} (h:Rows S w (AZ xs) a):IntsAt w xs a:=h.wide λ_ _=>trivial
def OwnI.rowsI {B:Nat} {a:oA} {c:Nat} (h:OwnI w B (.slice a n c) xs) (O:∀k,(jf a n c).ownBlock=some k->S k):Rows S w (AZ xs) a:=by
 rcases h.open with ⟨G,M⟩|⟨g,cap,zs,G,M,U,V,X⟩
 . subst M;exact iG rfl
 . simp only [jm] at G;obtain ⟨rfl,-,-⟩:=G;refine iH ⟨g,0,rfl,O g rfl,λi v N=>?_⟩;exact (U.blk.row) i v (by rw [iN];exact N;exact (List.getElem?_eq_some_iff.1 N).1)
def SvR (s:SV) (w:wD):Ending->wD->Prop:=λe w'=> ∃a c ta tc oa oc,e = .returned (.agg (s.row a c ta tc oa oc).toArray)/\s.sits (λb=>w.heap.size<=b/\b<w'.heap.size) w' a ta oa/\Ext w w'
def SvR.ret {s:SV} {e:Ending} (h:SvR s w e w'):∃v,e = .returned v:=by
 obtain ⟨_,_,_,_,_,_,h,-⟩:=h;exact ⟨_,h⟩
def CloneS (xs:List Int) (w:wD):Ending->wD->Prop:=λe w'=> ∃a c,e = .returned (.slice a xs.length c)/\Rows (λb=>w.heap.size<=b/\b<w'.heap.size) w' (AZ xs) a/\Ext w w'
def CloneS.ret {e:Ending} (h:CloneS xs w e w'):∃v,e = .returned v:=by
 obtain ⟨_,_,h,-⟩:=h;exact ⟨_,h⟩
def Ib (xs:List Int) (G:xs.length<=1000000) (S:nP) (a:oA) (c:Nat) (w:wD) (h:Rows S w (AZ xs) a):Calls prog 88 #[.slice a xs.length c] w (CloneS xs w):=
 (FF xs G a c w (Gi h)).mono λ_ _ ⟨a,c,h1,h2,h3,h4⟩=>⟨a,c,h1,h2.rowsI h3,h4⟩
def KQ (s:SV) (S:nP) (a ta oa:oA) (c tc oc:Nat) (w:wD) (hn:s.cells.length<=1000000) (hc:∀xs∈s.cells,xs.length<=1000000) (ht:s.tin.length<=1000000) (ho:s.tout.length<=1000000) (hv:s.sits S w a ta oa) :
 Calls prog 50 #[.agg (s.row a c ta tc oa oc).toArray] w (SvR s w):=by
 have X:=Ne w;have hv:=hv.ltA;obtain ⟨cells,tin,tout⟩:=s;obtain ⟨G,ae,Y⟩:=hv;simp only at G ae Y hn hc ht ho;have H1:=iF (λw1 h=>Ib tin ht (· < w.heap.size) ta tc w1 h);have H2:=iF (λw1 h=>Ib tout ho (· < w.heap.size) oa oc w1 h);have HC:=iF hc;clear hc;change Calls prog _ #[.agg #[.slice a cells.length c,.slice ta tin.length tc,.slice oa tout.length oc]] w _;refine Ad func50 ntmps50 rfl rfl ?_;refine cS (eB [_,_,_] ?_);intro b1 w2 h4 x5 p6 z7;revert X G ae Y;refine eE x5 ?_;intro X G ae Y;refine eA [_,_,_] ?_;intro b8 w9 N bh dg dh;revert h4 X G ae Y;refine eE bh ?_;intro h4 X G ae Y;refine cT ?_;refine E2 (ι:=Nat×oA×Nat×oA×Nat) (λx=>[(1,pt b1),(2,pt b8),(3,pt x.1)])
  (λx w'=>Blk w' x.1 [.slice none 0 0,.slice x.2.1 tin.length x.2.2.1,.slice x.2.2.2.1 tout.length x.2.2.2.2]/\Rows (λb=>b8<b/\b≠x.1/\b<w'.heap.size) w' (AZ tin) x.2.1/\Rows (λb=>b8<b/\b≠x.1/\b<w'.heap.size) w' (AZ tout) x.2.2.2.1/\b8<x.1/\x.1<w'.heap.size/\Blk w' b1 [.slice a cells.length c,.slice ta tin.length tc,.slice oa tout.length oc]/\Blk w' b8 [.slice none 0 0,.slice none 0 0,.slice none 0 0]/\ICs (· < w.heap.size) w' cells a/\Ext w w') ?_ ?_
 . focus
    refine Aq (λwz=>Ext w9 wz) 8 (.pure 0 (.pure 1 (.pure 3 (.pure 4 (.fork 2 (.fork 5 (.pure 6 (.fork 7 .tail .none)) (.fork 7 (.fork 5 (.pure 6 .tail) .none) .none)) (.fork 7 (.fork 2 (.fork 5 (.pure 6 .tail) .none) .none) .none)))))) mixed AU (Aa Ag) ?_;intro bi ax _;have M:(λwz=>Ext w9 wz) bi:=ax;simp only at M;have bo:=h4;revert N h4 X G ae Y;refine eY ax ?_;intro di N h4 X G ae Y;refine ⟨M,?_⟩;refine eT ?_;refine AC rfl (AM AU rfl (H1.out _ Ae) (λ_ _ h=>h.ret)) rfl ?_ aFh ?kra5;rintro _ bp ⟨dk,dl,⟨⟩,ad,bj⟩;revert M N h4 X G Y;refine eY bj ?_;intro br M N h4 X G Y;refine ⟨M,?_⟩;refine AC rfl (AM AU rfl (H2.out _ Ae) (λ_ _ h=>h.ret)) rfl ?_ aFh ?kra12;rintro _ bs ⟨bt,bu,⟨⟩,ah,ay⟩;revert ad M N h4 X G;refine eY ay ?_;intro bv ad M N h4 X G;refine ⟨M,?_⟩;refine Tq rfl (xB [_,_,_]) ?_;refine AC rfl (A2 CC rfl) rfl ?_ aFh Ay;rintro _ bw ⟨bx,rfl,ai⟩;have aq:=ai.blk;dsimp only at aq;have az:=ai.ext;have bz:=ai.pos;have b0:=ai.size;revert ah ad M N h4 X G;refine eE az ?_;intro ah ad M N h4 X G;refine ⟨M,?_⟩;refine Ar rfl (eS [_,_,_] aq ?_);intro b2 b3 a0 b4;revert ah ad N h4 X G;refine eF a0 ?_;intro ah ad N h4 X G;refine Ak ?_;rotate_left;refine AC rfl (A2 CC rfl) rfl ?_ aFh Ay;rintro _ b5 ⟨b6,rfl,aj⟩;have ak:=aj.blk;dsimp only at ak;have a3:=aj.ext;have b7:=aj.pos;have b9:=aj.size;revert ad M N h4 X G Y;refine eE a3 ?_;intro ad M N h4 X G Y;refine ⟨M,?_⟩;refine tC rfl rfl (H2.out _ Ae) ?_;rintro _ ca ⟨cb,cc,⟨⟩,ar,a4⟩;revert ak ad M N h4 X G;refine eY a4 ?_;intro cd ak ad M N h4 X G;refine ⟨M,?_⟩;refine Tq rfl (xB [_,_,_]) ?_;refine Ar rfl (eS [_,_,_] ak ?_);intro ce cf a5 cg;revert ar ad N h4 X G;refine eF a5 ?_;intro ar ad N h4 X G;refine Ak ?_;rotate_left;refine AC rfl (A2 CC rfl) rfl ?_ aFh Ay;rintro _ ch ⟨ci,rfl,al⟩;have af:=al.blk;dsimp only at af;have a6:=al.ext;have cj:=al.pos;have ck:=al.size;revert M N h4 X G ae Y
    refine eE a6 ?_;intro M N h4 X G ae Y;refine ⟨M,?_⟩;refine tC rfl rfl (H1.out _ Ae) ?_;rintro _ cl ⟨cm,cn,⟨⟩,am,a7⟩;revert af M N h4 X G Y;refine eY a7 ?_;intro co af M N h4 X G Y;refine ⟨M,?_⟩;refine tC rfl rfl (H2.out _ Ae) ?_;rintro _ cp ⟨cq,cr,⟨⟩,au,a8⟩;revert am af M N h4 X G;refine eY a8 ?_;intro ct am af M N h4 X G;refine ⟨M,?_⟩;refine Tq rfl (xB [_,_,_]) ?_;refine Ar rfl (eS [_,_,_] af ?_);intro cu cv a9 cw;revert au am N h4 X G;refine eF a9 ?_;intro au am N h4 X G;refine Ak ?_;rotate_left
   all_goals exact BQ (_,_,_,_,_) sC ⟨Ae,Rows.wide Ae (λb h=>⟨Ab,by simp only;omega,Ab⟩),Rows.wide Ae (λb h=>⟨Ab,by simp only;omega,Ab⟩),by simp only;omega,by simp only;omega,Ae,Ae,Ae,X⟩
 . clear h4 N G ae Y X H1 H2;rintro ⟨bq,a1,c1,a2,c2⟩ w1 ⟨Z,U,V,o1,o2,ba,aa,G,X⟩;simp only at Z U V o1 o2;refine Aj (cS (C1 Pg (C1 (Pl ba) (C1 Pz (C1 Mv (cT ?_))))));refine Au ?_;refine AP (ι:=Nat) (λj=>[(1,pt b1),(2,pt b8),(3,pt bq),(14,.slice a cells.length c),(15,.int .i64 cells.length),(16,.int .i64 j)])
    (λj w'=> ∃ra rc,j<=cells.length/\OwnQ E5 w' (λb=>w1.heap.size<=b) w1.heap.size 43 (.slice ra (cells.take j).length rc) (cells.take j)/\Blk w' bq [.slice ra (cells.take j).length rc,.slice a1 tin.length c1,.slice a2 tout.length c2]/\Rows (λb=>b8<b/\b≠bq/\b<w1.heap.size) w' (AZ tin) a1/\Rows (λb=>b8<b/\b≠bq/\b<w1.heap.size) w' (AZ tout) a2/\Blk w' b8 [.slice none 0 0,.slice none 0 0,.slice none 0 0]/\ICs (· < w.heap.size) w' cells a/\Ext w w'/\w1.heap.size<=w'.heap.size)
    (λj=>cells.length-j) 0 sB ⟨none,0,iT _,nA,Z,U,V,aa,G,X,iW _⟩ ?_
   clear Z U V aa G X ba;rintro j w3 ⟨ra,rc,hj,O,Z,U,V,aa,G,X,hz⟩;have ag:∀g',(jf ra (cells.take j).length rc).ownBlock=some g'->w1.heap.size<=g'/\g'<w3.heap.size:=λg' h=>⟨O.ge h,O.lt h⟩
   have dm:(cells.take j).length<=1000000:=by rw [jp];omega
   by_cases ap:j<cells.length
   . have O:=O.ltR;obtain ⟨db,dn,rfl,dS,hd⟩:=G.get (by intro e;subst e;simp at ap);obtain ⟨xa,xc,ry,bb⟩:=hd j _ (iE ap);have HX:=iF (λw1 (h:Rows (· < w.heap.size) w1 (AZ cells[j]) xa)=>Ib cells[j] (HC.out _ (iS ap)) (· < w.heap.size) xa xc w1 h);have ao:cells.take j++[cells[j]]=cells.take (j+1):=(iI ap).symm;clear hd HC;generalize cells[j]=x at *;generalize cells.take j=ys at *;refine eK ?_;refine Aq (λwz=>Ext w3 wz) 5 (.pure 0 (.pure 1 (.pure 2 (.fork 3 (.fork 4 .tail .none) .none)))) mixed AU (Af (Aa (Aa (Af (Aa Ag))))) ?_;intro bk bc _;have ab:(λwz=>Ext w3 wz) bk:=bc;simp only at ab;have bl:=Z;revert U V aa X G bb Z O;refine eY bc ?_;intro dp U V aa X G bb Z O;refine ⟨ab,?_⟩;refine eT ?_;refine tC rfl rfl (HX.out _ Ae) ?_;rintro _ cx ⟨dq,dr,⟨⟩,bd,bm⟩;revert ab U V aa X G Z O;refine eY bm ?_;intro cy ab U V aa X G Z O;refine ⟨ab,?_⟩;refine AC rfl (xS [_]) rfl ?_ aFh Ay;rintro _ cz ⟨c0,rfl,an,c3⟩;have c4:=an.blk;have be:=an.ext;have c5:=an.pos;have c6:=an.size;revert bd ab U V aa X G Z O;refine eE be ?_;intro bd ab U V aa X G Z O;refine ⟨ab,?_⟩;refine Ar rfl (Dk (R:=λb=>w1.heap.size<=b) (sh:=E5) (z:=x) Ac CC rfl rfl rfl rfl AU rfl rfl rfl Ae (λ_ h=>by exact h.1) (mS Ae) ⟨_,_,rfl,Rows.wide Ae (λb h=>by (try dsimp only at h);exact ⟨Ab,λe=>by have:=ag _ e;omega⟩)⟩ Ab Ab rfl ?_)
     rintro c7 bf c8 av c9 da ac;have dc:=ac.size;have U:=Rows.fr U ac (λb hb hT=>by have:=ag _ hT;(try dsimp only at hb);omega);have V:=Rows.fr V ac (λb hb hT=>by have:=ag _ hT;(try dsimp only at hb);omega);have aa:=mH aa ac (λe=>by have:=ag _ e;omega);have X:=mQ X ac (λk hk=>by have:=ag _ hk;omega);have G:=ICs.fr G ac (λb hb hT=>by have:=ag _ hT;(try dsimp only at hb);omega);clear ry;have Z:=mH Z ac (λe=>by have:=ag _ e;omega);clear O ac;refine C1 Pg (eV [_] [_,_,_] Z ?_);intro dd de aw df;clear Z;have av:=nE av aw (λk hk=>⟨λh=>by (try dsimp only at hk h);omega,λe=>by have:=OwnQ.ge Ae e;(try dsimp only at hk);omega⟩);revert U V aa X G;refine eF aw ?_;intro U V aa X G;refine Ak (Ah (Ai (Al (C1 V7 (C1 Mv (Ak ?_))))));exact AA (j+1) sB ⟨some ⟨_,0,none⟩,_,Ab,by rw [<-ao];assumption,by rw [<-ao];assumption,U,V,aa,G,X,Ab⟩ Ab
   . obtain rfl:j=cells.length:=by omega
     rw [iZ] at *;refine eK ?_;refine eS [_,_,_] aa ?_;intro ds bn bg dt;revert U V X;refine eF bg ?_;intro U V X;have O:=nE O bg (λk hk=>⟨λh=>by (try dsimp only at hk h);omega,λe=>by have:=OwnQ.ge Ae e;(try dsimp only at hk);omega⟩);refine kX bn ?_;exact ⟨_,_,_,_,_,_,rfl,⟨O.ltR.ics (λb h=>⟨Ab,Ab⟩) (λb h1 h2=>⟨Ab,h2⟩),U.wide (λb h=>⟨Ab,Ab⟩),V.wide (λb h=>⟨Ab,Ab⟩)⟩,X⟩
section
variable {α:Type} {c:α->Value} {S':nP} {l:List α} {a:oA}
end
def Ui {α:Type} (c:α->Value) (h1:∀x,mW (c x)=true):Shape α where
 sz:=1
 rep:=λ_ _ v cs=>cs=[c v]
 len:=λh=>by rw [h];rfl
 one:=λh=>by rw [h];simp [h1]
 mono:=λh _ _=>h
 lt:=λh=>h
abbrev gL (i:Int):Value:=.int .i64 i
abbrev Da:Shape Int:=Ui gL (λ_=>rfl)
abbrev strShape:Shape lB:=Ui str (λ_=>rfl)
def Dc (vs:List VD):List (List Int):=vs.map λv=>jn (CV v).toNat 0
def ArrS.blkJ {C D g:Nat} (h:ArrS Da C D w g xs):Blk w g (AZ xs):=by
 obtain ⟨G,N,V,O⟩:=h.ex;have e:G.flatten=AZ xs:=by
  have:G=xs.map λx=>[jz .i64 x]:=by
   apply kw ;intro i;rw [jl];rcases i7 i xs.length with M|M
   . have U:G[i]? = some G[i]:=iE Ab;have:=O i xs[i] G[i] (iE M) U;rw [U,iE M];exact congrArg some this
   . rw [iR M,iR Ab];rfl
  rw [this];unfold AZ;clear this N V O h
  induction xs with
  | nil=>rfl
  | cons x xs X=>simp [X]
 rwa [e] at N
def ArrS.rowsJ {C D g:Nat} (h:ArrS Da C D w g xs) (G:S g):Rows S w (AZ xs) (some ⟨g,0,none⟩):=iH ⟨g,0,rfl,G,h.blkJ.row⟩
def NewSR (vs:List VD) (w:wD):Ending->wD->Prop:=λe w'=> ∃a c ta tc,e = .returned (.tuple #[.agg #[.slice a vs.length c,.slice ta 0 tc,.slice none 0 0],.int .i64 0])/\ICs (λb=>w.heap.size<=b/\b<w'.heap.size) w' (Dc vs) a/\Ext w w'
def NewSR.ret {vs:List VD} {e:Ending} (h:NewSR vs w e w'):∃v,e = .returned v:=by
 obtain ⟨_,_,_,_,h,-⟩:=h;exact ⟨_,h⟩
def Zq (l:List VD) (O:l.length<=1000000) (U:¬C5 l) (S:nP) (a:oA) (c:Nat) (w:wD) (N:VDs S w l a) :
 Calls prog 112 #[.slice a l.length c,.slice none 0 0] w λe w'=>e = .returned (.tuple #[.agg #[.slice none 0 0,.slice none 0 0,.slice none 0 0],.int .i64 3])/\Ext w w':=by
 have X:=Ne w;have V:Hid (∀w1,VDs S w1 l a->Calls prog 152 #[.slice a l.length c] w1 λe w'=>e = .returned (.bool false)/\Ext w1 w'):=iF λw1 h=>(Pp l O S a c w1 h).mono λe w' ⟨q,h1,h2,h3⟩=>⟨by rw [h1,show q=false by cases q with|false=>rfl|true=>exact absurd (h2.1 rfl) U],h3⟩
 refine Ad func112 ntmps112 rfl rfl (cS (eA [_,_,_] ?_));intro b1 w2 G Y p7 z8;revert N X;refine eE Y ?_;intro N X;refine kC (V.out _ Ae) ?_;rintro _ Z ⟨⟨⟩,x9⟩;revert G X;refine eE x9 ?_;intro G X;refine eK ?_;refine C1 (xB [_,_,_]) (eS [_,_,_] G ?_);intro aa ab M _;have X:=X.fr M Ab;refine eK ?_;refine C6 rfl Ac rfl rfl rfl Ae rfl rfl ?_;exact ⟨rfl,X⟩
def Zr (l:List VD) (hv:C5 l) (S:nP) (a:oA) (c:Nat) (w:wD) (U:VDs S w l a) :
 Calls prog 112 #[.slice a l.length c,.slice none 0 0] w (NewSR l w):=by
 have X:=Ne w;replace U:VDs (· < w.heap.size) w l a:=U.lt2.wide λ_ h=>h.2
 have hl:l.length<=1000000:=by have:=hv.1;omega
 have HV:Hid (∀w1,VDs (· < w.heap.size) w1 l a->Calls prog 152 #[.slice a l.length c] w1 λe w'=>e = .returned (.bool true)/\Ext w1 w'):=iF λw1 h=>(Pp l hl (· < w.heap.size) a c w1 h).mono λe w' ⟨q,h1,h2,h3⟩=>⟨by rw [h1,h2.2 hv],h3⟩
 have HN:Hid (∀w1,Calls prog 88 #[.slice none 0 0] w1 (CloneS [] w1)):=iF λw1=>Ib [] AN (λ_=>True) none 0 w1 (iG rfl)
 have hz:(Dc l).length=l.length:=by simp [Dc]
 refine Ad func112 ntmps112 rfl rfl (cS (eA [_,_,_] ?_));intro b1 w2 V x6 p7 z8;revert X U;refine eE x6 ?_;intro X U;refine kC (HV.out _ Ae) ?_;rintro _ bq ⟨⟨⟩,x9⟩;revert V X U;refine eY x9 ?_;intro br V X U;refine kQ (HN.out _) ?_;rintro _ bs ⟨aj,ak,⟨⟩,bt,av⟩;revert V X U;refine eY av ?_;intro bu V X U;refine C1 (xB [_,_,_]) (xA [_,_,_] ?_);intro al bv aw;refine eI [_,_,_] aw ?_;intro aa O ax bw bx;revert V X U;refine eE ax ?_;intro V X U;refine cT (Aj (cS (C1 Mv (C1 Pz (C1 Mv (cT ?_))))));refine Au ?_;refine AP (ι:=Nat) (λj=>[(4,pt b1),(6,pt al),(20,.slice a l.length c),(21,.int .i64 l.length),(22,.int .i64 j)])
  (λj w'=> ∃ra rc,j<=l.length/\OwnQ E5 w' (λb=>aa.heap.size<=b) aa.heap.size 43 (.slice ra ((Dc l).take j).length rc) ((Dc l).take j)/\Blk w' al [.slice ra ((Dc l).take j).length rc,.slice aj 0 ak,.slice none 0 0]/\Blk w' b1 [.slice none 0 0,.slice none 0 0,.slice none 0 0]/\VDs (· < w.heap.size) w' l a/\Ext w w'/\aa.heap.size<=w'.heap.size)
  (λj=>l.length-j) 0 sB ⟨none,0,iT _,nA,O,V,U,X,iW _⟩ ?_
 rintro j w3 ⟨ra,rc,hj,G,O,V,U,X,bz⟩;have ab:∀g',(jf ra ((Dc l).take j).length rc).ownBlock=some g'->aa.heap.size<=g'/\g'<w3.heap.size:=λg' h=>⟨G.ge h,G.lt h⟩
 have b0:((Dc l).take j).length<=1000000:=by rw [jp];omega
 by_cases am:j<l.length
 . have G:=G.ltR;obtain ⟨kb,ko,rfl,kS,hk⟩:=m5 U Ab;have rx:=hk j _ (iE am);have ay:=hv.2 _ (iS am);have az:0<=CV l[j]/\CV l[j]<=16:=by unfold CV;unfold IL at ay;split<;>omega
   obtain ⟨N,hN⟩:=Int.eq_ofNat_of_zero_le az.1;have HX:Hid (∀w1,Calls prog 153 #[l[j].val] w1 λe w'=>e = .returned (.int .i64 (N:Int))/\Ext w1 w'):=iF λw1=>by rw [<-hN];exact T1 l[j] w1
   have ac:(Dc l).take j++[jn N 0]=(Dc l).take (j+1):=by
    rw [iI Ab];congr 2;simp only [Dc,lx,hN,Int.toNat_natCast]
   have a4:N<=16:=by omega
   generalize l[j]=x at *;obtain ⟨xn,xk,xl⟩:=x;replace rx:Row w3 ⟨kb,ko+j*3,none⟩ [str xn,.int .u8 xk,.int .i64 xl]:=rx;unfold VD.val at HX;dsimp only at HX;generalize (Dc l).take j=ys at *;refine eK ?_;refine xA [_,_,_] ?_;intro b2 b3 a0;refine eI [_,_,_] a0 ?_;intro an a1 a2 b4 b5;revert V X U O G;refine eE a2 ?_;intro V X U O G;refine cT (Aq (λwz=>Ext an wz) 6 (.pure 0 (.pure 1 (.pure 2 (.fork 3 (.fork 4 (.fork 5 .tail .none) .none) .none)))) mixed AU (Af (Aa (Aa (Af (Aa Ag))))) ?_);intro a3 ad _;have M:(λwz=>Ext an wz) a3:=ad;simp only at M;have ah:=a1;have ai:=O;revert V X U O G;refine eY ad ?_;intro a5 V X U O G;refine ⟨M,(Tq rfl Pg (Tq rfl (Db ai) (Tq rfl (xL [_,_,_] (λwz hz=>(mN ah hz))) (tC rfl rfl (HX.out _) ?_))))⟩;rintro _ a6 ⟨⟨⟩,ao⟩;revert M V X U O G;refine eY ao ?_;intro a7 M V X U O G;refine ⟨M,(AC rfl (Dq (sh:=Da) (C:=0) (D:=0) (N:=N) (z:=0) Ac CC rfl rfl rfl rfl AU rfl rfl Ab (λ_ _=>rfl)) rfl ?_ aFh Ay)⟩;rintro _ a8 ⟨a9,rfl,ae,ba,bb,ap⟩;revert M V X U O G;refine eE ap ?_;intro M V X U O G;refine ⟨M,(AC rfl (xS [_]) rfl ?_ aFh Ay)⟩;rintro _ bc ⟨bd,rfl,Z,be⟩;have bf:=Z.blk;have aq:=Z.ext;have bg:=Z.pos;have bh:=Z.size;revert ae M V X U O G;refine eE aq ?_;intro ae M V X U O G;refine ⟨M,(Ar rfl (Dk (R:=λb=>aa.heap.size<=b) (sh:=E5) (z:=jn N 0) Ac CC rfl rfl rfl rfl AU rfl rfl rfl Ae (λ_ h=>by exact h.1) (mS Ae) ⟨_,_,by rw [List.length_replicate],ArrS.rowsJ Ae ⟨Ab,λe=>by have:=ab _ e;omega⟩⟩ Ab Ab rfl ?_))⟩;rintro bi ar bj af bk bl Y;have bm:=Y.size;have V:=mH V Y (λe=>by have:=ab _ e;omega);have X:=mQ X Y (λk hk=>by have:=ab _ hk;omega);have U:=nd U Y (λb hb hT=>by have:=ab _ hT;(try dsimp only at hb);omega);have O:=mH O Y (λe=>by have:=ab _ e;omega);refine C1 Pg (eV [_] [_,_,_] O ?_);intro bn bo ag bp;have af:=nE af ag (λk hk=>⟨λh=>by (try dsimp only at hk h);omega,λe=>by have:=OwnQ.ge Ae e;(try dsimp only at hk);omega⟩);revert V X U;refine eF ag ?_;intro V X U;refine Ak (Ah (Ai (Al (C1 V7 (C1 Mv (Ak ?_))))))
   exact AA (j+1) sB ⟨some ⟨_,0,none⟩,_,Ab,by rw [<-ac];assumption,by rw [<-ac];assumption,V,U,X,Ab⟩ Ab
 . obtain rfl:j=l.length:=by omega
   have et:(Dc l).take l.length=Dc l:=by rw [<-hz,iZ]
   rw [et] at G O;refine eK ?_;refine eS [_,_,_] V ?_;intro b6 b7 au _;have X:=X.fr au Ab;have G:=nE G au (λk hk=>⟨λh=>by (try dsimp only at hk h);omega,λe=>by have:=OwnQ.ge Ae e;(try dsimp only at hk);omega⟩);refine C1 Pa (cT (AR (C6 rfl Ac rfl rfl rfl Ae rfl rfl ?_)));refine ⟨ra,rc,aj,ak,by rw [hz],?_,X⟩;exact G.ltR.ics (λb h=>⟨Ab,Ab⟩) (λb h1 h2=>⟨Ab,h2⟩)
section
variable {l:Sl} {S:wD->Prop} {tab:Tab} {zt:EA} {ty:Nat} {sE:Sk}
def MM {y z:Operand} {a b c z0 N:Value} (T:TabOk P tab) (Z:Ct P zt) (O:AD tab t=some (.array 3 e,sz)) (U:AD tab e=some (sE,1)) (V:CS zt t=some [z0,v,N])
 (X:ev l x=some a) (Y:ev l y=some b) (hw:ev l z=some c) (ca:a.cells = #[a]) (cb:b.cells = #[b]) (cc:c.cells = #[c]):Br P n l S (.build t #[(0,x),(1,y),(2,z)]) ty (.agg #[a,b,c]):=by
 unfold Br;intro s w aa pos after g h _;have hu:P.underlying t=some (.array 3 e):=(T _ _ _ O).under;obtain ⟨i0,v0,k1,k2,k3⟩:=E8 Z V;obtain ⟨ie,j1,j2⟩:=(T _ _ _ U).info;have G:v0.cells = #[z0,v,N]:=k3;have hb:P.built t [(0,a),(1,b),(2,c)]=some #[a,b,c]:=by
  unfold Program.built;simp only [k1,hu,k2,j1];simp [Instr.fill,j2,ca,cb,cc,G]
 have:=run_build w t #[(0,a),(1,b),(2,c)] _ hb;simp only [execOp,iV];rw [show (#[(0,x),(1,y),(2,z)]:Array (Nat×Operand)).map (λp=>match p with|(i,x)=>(i,s.eval x)) = #[(0,a),(1,b),(2,c)] by simp [h.ev X,h.ev Y,h.ev hw],this];rfl
def MN {k:IntKind} {i:Int} {m:Nat} {y:Operand} {vs:lV} (T:TabOk P tab) (M:AD tab t=some (.array m e,sz)) (h:AD tab e=some (sE,1)) (N:sE.agg=false) (O:ev l x=some (.agg vs.toArray)) (U:ev l y=some (.int k i)) (V:0<=i) (X:i<m) (Y:vs[i.toNat]? = some v) :
 Br P n l S (.index t x y) ty v:=by
 unfold Br;intro s w Z pos after g G _;have hu:P.underlying t=some (.array m e):=(T _ _ _ M).under;have e1:(Instr.index t (.agg vs.toArray) (.int k i)).run P w = .ok v w:=by
  simp only [Instr.index,asIntOf,iV,je,iP,AE hu];simp only [V,X,and_self,if_true,iV,Cb (T _ _ _ h),iP,part,CB (T _ _ _ h),N];simp [Y]
 simp [execOp,G.ev O,G.ev U,e1]
end
def CZ:Shape (Int×Int) where
 sz:=2
 rep:=λ_ _ p cs=>cs=[.int .i64 p.1,.int .i64 p.2]
 len:=λh=>by rw [h];rfl
 one:=λh=>by rw [h];rfl
 mono:=λh _ _=>h
 lt:=λh=>h
def LP (w:wD) (b o:Nat) (p:Int×Int):Prop:=Row w ⟨b,o,none⟩ [.int .i64 p.1,.int .i64 p.2]
def Bds (w:wD) (l:List (Int×Int)) (a:oA):Prop:=Arr (λ_=>True) 2 LP w l a
def Bds.ext {a:oA} (h:Bds w l a) (x:Ext w w'):Bds w' l a:=h.mono aFh (λ_ _ _ _ _ h=>mJ h x)
instance {a:oA}:LfE w w' (Bds w l a) (Bds w' l a):=⟨λx h=>Bk.Bds.ext h x⟩
def OwnQ.bds {R:nP} {B:Nat} {a:oA} {len cap:Nat} {xs:List (Int×Int)} (h:OwnQ CZ w R B e (.slice a len cap) xs):Bds w xs a:=by
 by_cases M:xs=[]
 . exact iG M
 . obtain ⟨g,N,O,X,Y,G⟩:=h.rows M;simp only [jm] at O;obtain ⟨rfl,-,-⟩:=O;refine iH ⟨g,0,rfl,trivial,λi x U=>?_⟩;obtain ⟨cs,V,rfl⟩:=G i x U;simpa [CZ,LP] using V
def OwnQ.bdsN {R:nP} {B C:Nat} {a:oA} {len cap:Nat} {xs:List (Int×Int)} (h:OwnQ CZ w R B e (.slice a len cap) xs) (X:C<=B):Arr (λb=>C<=b/\b<w.heap.size) 2 LP w xs a:=by
 rcases h.bds with O|⟨g,o,rfl,-,U⟩
 . exact iG O
 . by_cases G:xs=[]
   . exact iG G
   . obtain ⟨g',M,N,Y,V,-⟩:=h.rows G;simp only [jm,iL,kN] at N;obtain ⟨⟨rfl,-⟩,-⟩:=N;exact iH ⟨g,o,rfl,⟨Ab,V⟩,U⟩
def BdN (lo hi:Nat) (w:wD) (l:List (Int×Int)) (a:oA):Prop:=Arr (λb=>lo<=b/\b<hi) 2 LP w l a
def BdN.ext {a:oA} (h:BdN r e w l a) (x:Ext w w'):BdN r e w' l a:=Arr.mono h aFh (λ_ _ _ _ _ h=>mJ h x)
instance {a:oA}:LfE w w' (BdN r e w l a) (BdN r e w' l a):=⟨λx h=>Bk.BdN.ext h x⟩
def BdN.fr {a:oA} (h:BdN r e w l a) (x:Fr T w w') (N:∀b,r<=b/\b<e -> ¬T b):BdN r e w' l a:=Arr.mono h aFh (λb _ _ _ O h=>mT h x (N b O))
instance {a:oA}:LfF T w w' (BdN r e w l a) (∀b,r<=b/\b<e -> ¬T b) (BdN r e w' l a):=⟨λx s h=>Bk.BdN.fr h x s⟩
def fG (l:List (Int×Int)) (w:wD):Ending->wD->Prop:=λe w'=> ∃a c,e = .returned (.tuple #[.slice a l.length c,.bool true])/\BdN w.heap.size w'.heap.size w' l a/\Ext w w'
def LensR (l:List (Int×Int)) (w:wD):Ending->wD->Prop:=λe w'=> ∃a c,e = .returned (.tuple #[.slice a l.length c,.bool true])/\Bds w' l a/\Ext w w'
def LensR.ret {e:Ending} (h:LensR l w e w'):∃v,e = .returned v:=by
 obtain ⟨_,_,h,-⟩:=h;exact ⟨_,h⟩
def On (vs:List VD) (hl:vs.length<=1000000) (b:BoxV) (hv:¬(b.ok/\C5 vs)) (S:nP) (a:oA) (c:Nat) (w:wD) (U:VDs S w vs a) :
 Calls prog 72 #[.slice a vs.length c,.agg #[.int .i64 b.v,.int .i64 b.l,.int .i64 b.i]] w λe w'=>e = .returned (.tuple #[.slice none 0 0,.bool false])/\Ext w w':=by
 have X:=Ne w;obtain ⟨G,M,N⟩:=b;simp only [BoxV.ok] at hv;have HN:Hid (C5 vs \/ ∀w1,VDs S w1 vs a->Calls prog 112 #[.slice a vs.length c,.slice none 0 0] w1 λe w'=>e = .returned (.tuple #[.agg #[.slice none 0 0,.slice none 0 0,.slice none 0 0],.int .i64 3])/\Ext w1 w'):=
  iF (by by_cases h:C5 vs;exact iG h;exact iH λw1 V=>Zq vs hl h S a c w1 V)
 have O:(0<=G/\G<=1000)->(0<=M/\M<=1000)->(0<=N/\N<=1000) -> ¬C5 vs:=λV h2 h3 h=>hv ⟨⟨V,h2,h3⟩,h⟩
 refine Ad func72 ntmps72 rfl rfl (cS (Du [_,_,_] rfl rfl rfl ?_));intro b1 w2 n3;have Y:=n3.blk;dsimp only at Y;have x5:=n3.ext;revert U X;refine eE x5 ?_;intro U X;refine eK ?_;refine C1 (MM Ac CC rfl rfl rfl rfl rfl rfl rfl rfl rfl) (C1 Mv (cT ?_));refine Au ?_;refine AP (ι:=Nat) (λj=>[(0,.slice a vs.length c),(3,pt b1),(4,.slice none 0 0),(5,.bool false),(19,.agg #[.int .i64 G,.int .i64 M,.int .i64 N]),(20,.int .i64 j)])
  (λj w'=>j<=3/\(0<j->0<=G/\G<=1000)/\(1<j->0<=M/\M<=1000)/\(2<j->0<=N/\N<=1000)/\Blk w' b1 [.int .i64 G,.int .i64 M,.int .i64 N]/\VDs S w' vs a/\Ext w w') (λj=>3-j) 0 sB ⟨Ab,Ab,Ab,Ab,Y,U,X⟩ ?_
 rintro j w1 ⟨hj,o1,o2,o3,Y,U,X⟩;by_cases ae:j<3
 . obtain ⟨x,hx,q1,q2,q3⟩:∃x,[jz .i64 G,.int .i64 M,.int .i64 N][((j:Int)).toNat]? = some (.int .i64 x)/\(j=0->x=G)/\(j=1->x=M)/\(j=2->x=N):=by
    rw [Int.toNat_natCast];rcases (show j=0\/j=1\/j=2 by omega) with rfl|rfl|rfl
    . exact ⟨G,rfl,λ_=>rfl,λh=>by omega,λh=>by omega⟩
    . exact ⟨M,rfl,λh=>by omega,λ_=>rfl,λh=>by omega⟩
    . exact ⟨N,rfl,λh=>by omega,λh=>by omega,λ_=>rfl⟩
   focus
    refine eK ?_;refine C1 (MN (vs:=[.int .i64 G,.int .i64 M,.int .i64 N]) Ac rfl rfl rfl rfl rfl Ab Ab hx) (eK ?_);refine B8 rfl rfl rfl (λZ=>?_) (λZ=>?_);refine kT ?_;rotate_left;refine eK ?_;refine Az rfl (λaa=>?_) (λaa=>?_);refine kT ?_;rotate_left;refine eK ?_;rotate_left
   . exact ⟨rfl,X⟩
   . exact ⟨rfl,X⟩
   . exact AA (j+1) sB ⟨Ab,λ_=>by omega,λ_=>by omega,λ_=>by omega,Ae,Ae,X⟩ Ab
 . obtain rfl:j=3:=by omega
   refine kC ((HN.out.resolve_left (O Ab Ab Ab)) _ Ae) ?_;rintro _ af ⟨⟨⟩,ab⟩;have X:=X.ext ab;refine eK ?_;refine xA [_,_,_] ?_;intro ag ah ac;refine eI [_,_,_] ac ?_;intro ai _ ad _ _;have X:=X.ext ad;refine kT ?_;exact ⟨rfl,X⟩
def MO (vs:List VD) (b:BoxV) (hb:b.ok) (hv:C5 vs) (S:nP) (a:oA) (c:Nat) (w:wD) (M:VDs S w vs a) :
 Calls prog 72 #[.slice a vs.length c,.agg #[.int .i64 b.v,.int .i64 b.l,.int .i64 b.i]] w (fG (CY vs b) w):=by
 have X:=Ne w;replace M:VDs (· < w.heap.size) w vs a:=M.lt2.wide λ_ h=>h.2
 have hl:vs.length<=1000000:=by have:=hv.1;omega
 have HN:=iF (λw1 (h:VDs (· < w.heap.size) w1 vs a)=>Zr vs hv (· < w.heap.size) a c w1 h);have HL:Hid (∀j (hj:j<vs.length),((CV vs[j]).toNat:Int)=CV vs[j]/\JX b vs[j]=if vs[j].kind=3 then (0,b.l) else (CV vs[j],CV vs[j])):=iF λj hj=>⟨by
  have au:=hv.2 _ (iS hj);unfold IL at au;unfold CV;split<;>omega,rfl⟩
 have hz:(Dc vs).length=vs.length:=by simp [Dc]
 unfold CY;have af:∀j (hj:j<vs.length),(vs.map (JX b)).take j++[JX b vs[j]]=(vs.map (JX b)).take (j+1):=λj hj=>by
  rw [iI (by simpa using hj),lx]
 have av:(vs.map (JX b)).length=vs.length:=by simp
 obtain ⟨⟨o1,o2⟩,⟨o3,o4⟩,o5,o6⟩:=hb;obtain ⟨bv,bl,bi⟩:=b;simp only at o1 o2 o3 o4 o5 o6 HL;generalize bn:vs.map (JX ⟨bv,bl,bi⟩)=ms at *;refine Ad func72 ntmps72 rfl rfl (cS (Du [_,_,_] rfl rfl rfl ?_));intro b1 w2 n3;have U:=n3.blk;dsimp only at U;have x5:=n3.ext;have p6:=n3.pos;have z7:=n3.size;revert X M;refine eE x5 ?_;intro X M;refine eK ?_;refine C1 (MM Ac CC rfl rfl rfl rfl rfl rfl rfl rfl rfl) (C1 Mv (cT ?_));refine Au ?_;refine AP (ι:=Nat) (λj=>[(0,.slice a vs.length c),(3,pt b1),(4,.slice none 0 0),(5,.bool false),(19,.agg #[.int .i64 bv,.int .i64 bl,.int .i64 bi]),(20,.int .i64 j)])
  (λj w'=>j<=3/\Blk w' b1 [.int .i64 bv,.int .i64 bl,.int .i64 bi]/\VDs (· < w.heap.size) w' vs a/\Ext w w') (λj=>3-j) 0 sB ⟨Ab,U,M,X⟩ ?_
 rintro j w1 ⟨hj,U,M,X⟩;by_cases bo:j<3
 . obtain ⟨x,hx,q1,q2⟩:∃x,[jz .i64 bv,.int .i64 bl,.int .i64 bi][((j:Int)).toNat]? = some (.int .i64 x)/\0<=x/\x<=1000:=by
    rw [Int.toNat_natCast];rcases (show j=0\/j=1\/j=2 by omega) with rfl|rfl|rfl
    . exact ⟨bv,rfl,o1,o2⟩
    . exact ⟨bl,rfl,o3,o4⟩
    . exact ⟨bi,rfl,o5,o6⟩
   refine eK ?_;refine C1 (MN (vs:=[.int .i64 bv,.int .i64 bl,.int .i64 bi]) Ac rfl rfl rfl rfl rfl Ab Ab hx) (C1 Pa (cN (C1 Mv (C1 V3 (C1 Mv (EG (C1 Mv (EG (C1 V5 (C1 N2 (cT (DA (Ao (Ah (Ai (Al (C1 V7 (C1 Mv (Ak ?_)))))))))))))))))));exact AA (j+1) sB ⟨Ab,Ae,Ae,X⟩ Ab
 . obtain rfl:j=3:=by omega
   have bp:=U.lt;refine kQ (HN.out _ Ae) ?_;rintro _ bq ⟨ah,aw,a2,a3,⟨⟩,ag,ax⟩;revert U M X;refine eY ax ?_;intro br U M X;refine eK ?_;refine xA [_,_,_] ?_;intro bs a4 ai;refine eI [_,_,_] ai ?_;intro aa aj ak a5 a6;revert ag U M X;refine eE ak ?_;intro ag U M X;refine C1 Pa (cT (Aj (cS (C1 Mv (C1 V2 (cT (LT (Ao (Ai (cS (C1 Pa (cT (Aj (cS (C1 Pg (C1 (Pl aj) (C1 Pz (C1 Mv (cT ?_)))))))))))))))))));refine Au ?_;refine AP (ι:=Nat×oA×Nat) (λx=>[(0,.slice a vs.length c),(3,pt b1),(10,.slice x.2.1 (ms.take x.1).length x.2.2),(38,.slice ah vs.length aw),(39,.int .i64 vs.length),(40,.int .i64 x.1)])
    (λx w'=>x.1<=vs.length/\OwnQ CZ w' (λ_=>False) aa.heap.size 135 (.slice x.2.1 (ms.take x.1).length x.2.2) (ms.take x.1)/\Blk w' b1 [.int .i64 bv,.int .i64 bl,.int .i64 bi]/\ICs (· < aa.heap.size) w' (Dc vs) ah/\VDs (· < w.heap.size) w' vs a/\Ext w w'/\aa.heap.size<=w'.heap.size)
    (λx=>vs.length-x.1) (0,none,0) sB ⟨iT _,nA,U,ag.wide (λb h=>by omega),M,X,iW _⟩ ?_
   have al:=X.size;rintro ⟨j,ra,rc⟩ w3 ⟨ay,G,U,O,M,X,bt⟩;simp only at ay G;have V:∀g',(jf ra (ms.take j).length rc).ownBlock=some g'->aa.heap.size<=g'/\g'<w3.heap.size:=λg' h=>⟨G.ge h,G.lt h⟩
   have bu:(ms.take j).length<=1000000:=by rw [jp];omega
   by_cases ab:j<vs.length
   . obtain ⟨kb,ko,rfl,kS,hk⟩:=m5 M Ab;have rx:=hk j _ (iE ab);obtain ⟨db,bw,rfl,dS,hd⟩:=O.get (by intro e;rw [e] at hz;simp at hz;omega);obtain ⟨xa,xc,ry,-⟩:=hd j _ (iE (show j<(Dc vs).length by omega));obtain ⟨f1,f2⟩:=HL.out j ab;have am:((Dc vs)[j]'(by omega)).length=(CV vs[j]).toNat:=by simp [Dc]
     rw [am] at ry;have hn:=af j ab;rw [f2] at hn;rw [<-f1] at hn;generalize (CV vs[j]).toNat=N at *;generalize vs[j]=x at *;obtain ⟨xn,xk,xl⟩:=x;replace rx:Row w3 ⟨kb,ko+j*3,none⟩ [str xn,.int .u8 xk,.int .i64 xl]:=rx;simp only at hn;by_cases an:xk=3
     . rw [AG an] at hn;generalize ms.take j=ys at *;refine eK ?_;refine C1 (Pw rx) (eK ?_);refine C1 (xB [_,_]) (Aw (xS [_,_]) rfl ?_ aFh);rintro _ bx ⟨bz,rfl,ac,b0⟩;have b2:=ac.blk;have az:=ac.ext;have b3:=ac.pos;have b4:=ac.size;revert U X M O G;refine eE az ?_;intro U X M O G;refine Dk (R:=λ_=>False) (sh:=CZ) (z:=(0,bl)) Ac CC rfl rfl rfl rfl AU rfl rfl rfl Ae (λ_ h=>by exact h) (mS Ae) rfl Ab Ab rfl ?_;rintro b5 ao a7 a8 a9 ba Y;have bb:=Y.size;have U:=mH U Y (λe=>by have:=V _ e;omega);have X:=mQ X Y (λk hk=>by have:=V _ hk;omega);have M:=nd M Y (λb hb hT=>by have:=V _ hT;(try dsimp only at hb);omega);have O:=ICs.fr O Y (λb hb hT=>by have:=V _ hT;(try dsimp only at hb);omega);refine C1 Pa (Ak (Ah (Ai (Al (C1 V7 (C1 Mv (Ak ?_)))))));exact AA (j+1,some ⟨_,0,none⟩,_) (by dsimp only;rw [<-hn];(refine An rfl ?_;refine An rfl ?_;refine An rfl ?_;refine An rfl ?_;refine An rfl ?_;refine An rfl ?_;exact BL)) ⟨by (try dsimp only);omega,by dsimp only;rw [<-hn];assumption,U,O,M,X,Ab⟩ (by (try dsimp only);omega)
     . rw [At an] at hn;generalize ms.take j=ys at *;refine eK ?_;refine C1 (Pw rx) (eK ?_);refine C1 (xB [_,_]) (Aw (xS [_,_]) rfl ?_ aFh);rintro _ b6 ⟨b7,rfl,ad,b8⟩;have b9:=ad.blk;have a0:=ad.ext;have ca:=ad.pos;have cb:=ad.size;revert U X M O G;refine eE a0 ?_;intro U X M O G;refine Dk (R:=λ_=>False) (sh:=CZ) (z:=((N:Int),(N:Int))) Ac CC rfl rfl rfl rfl AU rfl rfl rfl Ae (λ_ h=>by exact h) (mS Ae) rfl Ab Ab rfl ?_;rintro cc ap bc bd be bf Z;have bg:=Z.size;have U:=mH U Z (λe=>by have:=V _ e;omega);have X:=mQ X Z (λk hk=>by have:=V _ hk;omega);have M:=nd M Z (λb hb hT=>by have:=V _ hT;(try dsimp only at hb);omega);have O:=ICs.fr O Z (λb hb hT=>by have:=V _ hT;(try dsimp only at hb);omega);refine C1 Pa (Ak (Ah (Ai (Al (C1 V7 (C1 Mv (Ak ?_)))))));exact AA (j+1,some ⟨_,0,none⟩,_) (by dsimp only;rw [<-hn];(refine An rfl ?_;refine An rfl ?_;refine An rfl ?_;refine An rfl ?_;refine An rfl ?_;refine An rfl ?_;exact BL)) ⟨by (try dsimp only);omega,by dsimp only;rw [<-hn];assumption,U,O,M,X,Ab⟩ (by (try dsimp only);omega)
   . obtain rfl:j=vs.length:=by omega
     rw [show ms.take vs.length=ms by rw [<-av,iZ]] at *;refine eK ?_;refine C1 (xB [_,_]) (Aw (xS [_,_]) rfl ?_ aFh);rintro _ cd ⟨ce,rfl,ae,cf⟩;have cg:=ae.blk;have a1:=ae.ext;have ch:=ae.pos;have ci:=ae.size;revert X G;refine eE a1 ?_;intro X G;refine Dk (R:=λ_=>False) (sh:=CZ) (z:=(0,bi)) Ac CC rfl rfl rfl rfl AU rfl rfl rfl Ae (λ_ h=>by exact h) (mS Ae) rfl Ab Ab rfl ?_;rintro cj aq bh bj bk bm ar;have X:=mQ X ar (λk hk=>by have:=V _ hk;omega);refine kT ?_;exact ⟨_,_,rfl,OwnQ.bdsN Ae al,X⟩
def Vy (vs:List VD) (b:BoxV) (G:b.ok) (M:C5 vs) (S:nP) (a:oA) (c:Nat) (w:wD) (N:VDs S w vs a) :
 Calls prog 72 #[.slice a vs.length c,.agg #[.int .i64 b.v,.int .i64 b.l,.int .i64 b.i]] w (LensR (CY vs b) w):=
 (MO vs b G M S a c w N).mono λ_ _ ⟨a,c,h1,h2,h3⟩=>⟨a,c,h1,Arr.mono h2 (λ_ _=>trivial) (λ_ _ _ _ _ h=>h),h3⟩
def Rg (l:List (Int×Int)) (y:Int) (j:Nat) (h:j<l.length):DL (l.take (j+1)) y=FZ (DL (l.take j) y) (Mu l[j] y):=by
 unfold DL;rw [iI h,List.foldl_append];rfl
def Zs (vs:List VD) (hl:vs.length<=1000000) (b:BoxV) (S:nP) (a:oA) (c:Nat) (w:wD) (hs:VDs S w vs a) :
 Calls prog 43 #[.slice a vs.length c,.agg #[.int .i64 b.v,.int .i64 b.l,.int .i64 b.i]] w λe w'=>e = .returned (.tuple #[.int .i64 (Hu vs b).1,.int .i64 (Hu vs b).2])/\Ext w w':=by
 have X:=Ne w;by_cases U:b.ok/\C5 vs
 . have HL:=iF (λw1 h=>Vy vs b U.1 U.2 S a c w1 h);have hb:=Pu U.1 U.2;have an:=KL vs b;have hy:1<=2*b.v+1/\2*b.v+1<=2001:=by have:=U.1.1;omega
   have aa:∀j,1<=DL ((CY vs b).take j) (2*b.v+1)/\DL ((CY vs b).take j) (2*b.v+1)<=1099511627777:=λj=>
    Od _ 1 _ hy.1 (λp hp=>by have:=hb p (jY hp);omega) Ab Ab
   have HS:=iF (λj h=>Rg (CY vs b) (2*b.v+1) j h);unfold Hu;rw [AG U];obtain ⟨M,Y,Z⟩:=b;simp only at hy aa HS HL ⊢;have hE:DL (CY vs ⟨M,Y,Z⟩) (2*M+1)=DL ((CY vs ⟨M,Y,Z⟩).take (CY vs ⟨M,Y,Z⟩).length) (2*M+1):=by rw [iZ]
   generalize CY vs ⟨M,Y,Z⟩=N at *;have HB:=iF hb;have H1:=iF aa;refine Ad func43 ntmps43 rfl rfl (cS (eB [_,_,_] ?_));intro b1 w2 O x5 _ _;revert hs X;refine eE x5 ?_;intro hs X;refine kQ (HL.out _ Ae) ?_;rintro _ aq ⟨a8,c9,⟨⟩,G,ae⟩;revert O X;refine eE ae ?_;intro O X;refine C1 Mv (C1 Px (C1 Px (C1 Pa (C1 Pa (cT (Aj (cS (C1 Mv (C1 Pt (cT (Ba rfl (Ao (Ai (cS (C1 Pa (cT (Aj (cS (C1 Mv (C1 Pz (C1 Mv (cT ?_))))))))))))))))))))));have hm:jP .i64 (2*M)=2*M:=iO _ Ab;refine Au ?_;refine AP (ι:=Nat) (λj=>[(3,pt b1),(8,.int .i64 (DL (N.take j) (2*M+1))),(19,.slice a8 N.length c9),(20,.int .i64 N.length),(21,.int .i64 j)])
    (λj w'=>j<=N.length/\Blk w' b1 [.int .i64 M,.int .i64 Y,.int .i64 Z]/\Bds w' N a8/\Ext w w') (λj=>N.length-j) 0 sB ⟨iT _,O,G,X⟩ ?_
   rintro j w3 ⟨hj,O,G,X⟩;have h1:=H1.out j;by_cases V:j<N.length
   . obtain ⟨kb,ko,rfl,-,hk⟩:=m5 G Ab;have rx:=hk j _ (iE V);have hp:=HB.out _ (iS V);have hq:=HS.out j V;have af:=WV hy.1 hp.1 hp.2.1;have HC:=iF (λw1=>Rf N[j] (2*M+1) Ab Ab Ab w1);have HP:=iF (λw1=>Om (DL (N.take j) (2*M+1)) (Mu N[j] (2*M+1)) h1 af w1);generalize Mu N[j] (2*M+1)=q at *;generalize DL (N.take j) (2*M+1)=s at *;generalize N[j]=p at *;obtain ⟨p1,p2⟩:=p;replace rx:Row w3 ⟨kb,ko+j*2,none⟩ [.int .i64 p1,.int .i64 p2]:=rx;simp only at hp HC;refine eK ?_;refine xA [_,_] ?_;intro ar au ag;refine eI [_,_] ag ?_;intro av ah ai _ _;revert O X G;refine eE ai ?_;intro O X G;refine eK ?_;refine A3 [_,_] Ac rfl rfl rfl ah rfl rfl rfl (eK ?_);refine C1 (Io rfl rfl hm) (C1 V7 (cC rfl (HC.out _) ?_));rintro _ ao ⟨⟨⟩,aj⟩;revert O X G;refine eE aj ?_;intro O X G;refine cC rfl (HP.out _) ?_;rintro _ ap ⟨⟨⟩,ab⟩;revert O X G;refine eE ab ?_;intro O X G;refine C1 Pa (Ak (Ah (Ai (Al (C1 V7 (C1 Mv (Ak ?_)))))));exact AA (j+1) (by rw [hq];(refine An rfl ?_;refine An rfl ?_;refine An rfl ?_;refine An rfl ?_;refine An rfl ?_;exact BL)) ⟨Ab,Ae,Ae,X⟩ Ab
   . obtain rfl:j=N.length:=by omega
     rw [<-hE] at *;generalize DL N (2*M+1)=s at *;by_cases ac:1099511627776<s
     . rw [AG ac];refine kT ?_;exact ⟨rfl,X⟩
     . rw [At ac];refine kT ?_;exact ⟨rfl,X⟩
 . have HL:=iF (λw1 h=>On vs hl b U S a c w1 h);rw [show Hu vs b=(0,1) by unfold Hu;rw [At U]];obtain ⟨M,Y,Z⟩:=b;refine Ad func43 ntmps43 rfl rfl (cS (Du [_,_,_] rfl rfl rfl ?_));intro aw ax ad;have ak:=ad.blk;dsimp only at ak;have al:=ad.ext;revert hs X;refine eE al ?_;intro hs X;refine kC (HL.out _ Ae) ?_;rintro _ ay ⟨⟨⟩,am⟩;have X:=X.ext am;refine kT ?_;exact ⟨rfl,X⟩
structure EX.wf (e:EX):Prop where
 name:e.name.length<=9223372036854775807
 g:e.g.wf
 few:e.g.vars.length<=1000000
structure EX.sits (S:nP) (w:wD) (e:EX) (va pa ma:oA) (vc:Nat):Prop where
 g:e.g.sits S w va pa ma
 p:PDsC S w e.g.procs pa
 room:e.g.vars.length<=vc
def EX.sits.ext {S:nP} {w w':wD} {e:EX} {G M N:oA} {vc:Nat} (h:e.sits S w G M N vc) (x:Ext w w'):e.sits S w' G M N vc:=⟨h.g.ext x,h.p.ext x,h.room⟩
instance {e:EX} {G M:oA} {vc:Nat}:LfE w w' (e.sits S w G M N vc) (e.sits S w' G M N vc):=⟨λx h=>Bk.EX.sits.ext h x⟩
def EX.sits.fr {S T:nP} {w w':wD} {e:EX} {G M N:oA} {vc:Nat} (h:e.sits S w G M N vc) (x:Fr T w w') (O:∀b,S b -> ¬T b):e.sits S w' G M N vc:=⟨h.g.fr x O,h.p.fr x O,h.room⟩
instance {e:EX} {G M:oA} {vc:Nat}:LfF T w w' (e.sits S w G M N vc) (∀b,S b -> ¬T b) (e.sits S w' G M N vc):=⟨λx s h=>Bk.EX.sits.fr h x s⟩
def EX.sits.ltA {S:nP} {w:wD} {e:EX} {G M N:oA} {vc:Nat} (h:e.sits S w G M N vc):e.sits (· < w.heap.size) w G M N vc:=⟨h.g.ltA,h.p.ltA,h.room⟩
def bK (M:g.wf) (S:nP) (N:oA) (vc:Nat) (G:oA) (X:Nat) (O:oA) (Y:Nat) (w:wD) (Z:g.sits S w N G O) (U:PDsC S w g.procs G) (V:g.vars.length<=vc) :
 Calls prog 41 #[.agg (g.cells N vc G X O Y).toArray] w λe w'=>e = .returned (.bool (decide g.acc))/\Ext w w':=
 (fF g M S N vc G X O Y w Z U V).mono λe w' ⟨q,h1,h2,h3⟩=>⟨by rw [h1];congr 2;cases q;exact (decide_eq_false (λh=>by cases h2.2 h)).symm;exact (decide_eq_true (h2.1 rfl)).symm,h3⟩
def KR (e:EX) (hw:e.wf) (S:nP) (va:oA) (vc:Nat) (pa:oA) (pc:Nat) (ma:oA) (mc:Nat) (w:wD) (hs:e.sits S w va pa ma vc) :
 Calls prog 21 #[.agg (e.cells va vc pa pc ma mc).toArray] w λr w'=>r = .returned (.bool (decide e.valid))/\Ext w w':=by
 have X:=Ne w;obtain ⟨ac,M,N⟩:=hw;obtain ⟨Y,hp,ad⟩:=hs.ltA;have Z:=iF (λw1=>KK e.name w1 ac);have HC:=iF (λw1 O U=>bK M (· < w.heap.size) va vc pa pc ma mc w1 O U ad);have HE:=iF (λw1 h=>Zs e.g.vars N e.box (· < w.heap.size) va vc w1 h);by_cases O:e.num
 . unfold EX.cells EX.valid;unfold EX.num at O ⊢;obtain ⟨en,ep,ef,⟨bv,bl,bi⟩,g⟩:=e;simp only at ac M N Y hp ad Z HC HE O ⊢;obtain ⟨o1,⟨o2,o3⟩,o4,o5⟩:=O;rw [o1] at Z;simp only [o1,o2,o3,o4,o5,true_and,and_self];have G:=Y.vars;refine Ad func21 ntmps21 rfl rfl (cS (eB [_,_,_,_,_,_,_,_,_,_,_,_] ?_));intro b1 w2 V x5 _ _;revert X Y hp G;refine eE x5 ?_;intro X Y hp G;refine kC (Z.out _) ?_;rintro _ w9 ⟨⟨⟩,x8⟩;revert V X Y hp G;refine eE x8 ?_;intro V X Y hp G;refine eK ?_;by_cases U:g.acc
   . have HI:=iF (λw1 h=>Lv M U.1 (· < w.heap.size) va vc pa pc ma mc w1 h);rw [<-PG.pinv_eq] at HI;have HD:=iF (λva vc pa pc ma mc w1 S O al h3=>bK (PG.pinv_wf M U.1) S va vc pa pc ma mc w1 O al h3);rw [decide_eq_true U] at HC;simp only [U,true_and];refine kC (HC.out _ Ae Ae) ?_;rintro _ a9 ⟨⟨⟩,am⟩;revert V X Y G;refine eE am ?_;intro V X Y G;refine eK ?_;refine Aw (AM AU rfl (HI.out _ Ae) (λ_ _ ⟨_,_,_,_,_,_,h⟩=>⟨_,h.1⟩)) rfl ?_ aFh;rintro _ ax ⟨ay,az,a0,a1,a2,a3,⟨⟩,aa,ab,a4,ae⟩;revert V X G;refine eE ae ?_;intro V X G;refine eK ?_;refine xA [_,_,_,_,_,_] ?_;intro a5 a6 af;refine eI [_,_,_,_,_,_] af ?_;intro a7 a8 ag _ _;revert aa ab V X G;refine eE ag ?_;intro aa ab V X G;refine eK ?_;by_cases h3:g.pinv.acc
     . rw [decide_eq_true h3] at HD;simp only [h3,true_and];generalize g.pinv=u at *;generalize Hu g.vars ⟨bv,bl,bi⟩=r at *;obtain ⟨n,k⟩:=r;simp only at HE ⊢;refine kC (HD.out _ _ _ _ _ _ _ _ Ae Ae Ae) ?_;rintro _ ba ⟨⟨⟩,an⟩;revert V X G;refine eE an ?_;intro V X G;refine kC (HE.out _ Ae) ?_;rintro _ bb ⟨⟨⟩,ao⟩;have X:=X.ext ao;refine eK ?_;by_cases hk:k=0
       . subst hk;simp only [true_and];refine kR ?_;exact ⟨rfl,X⟩
       . simp only [hk,false_and,decide_false];refine kR ?_;exact ⟨rfl,X⟩
     . rw [decide_eq_false h3] at HD;simp only [h3,false_and,decide_false];generalize g.pinv=u at *;refine kC (HD.out _ _ _ _ _ _ _ _ Ae Ae Ae) ?_;rintro _ bc ⟨⟨⟩,ap⟩;have X:=X.ext ap;refine kR ?_;exact ⟨rfl,X⟩
   . rw [decide_eq_false U] at HC;simp only [U,false_and,decide_false];refine kC (HC.out _ Ae Ae) ?_;rintro _ bd ⟨⟨⟩,aq⟩;have X:=X.ext aq;refine kR ?_;exact ⟨rfl,X⟩
 . rw [decide_eq_false (λh=>O h.1)];unfold EX.cells;unfold EX.num at O;obtain ⟨en,ep,ef,⟨bv,bl,bi⟩,g⟩:=e;simp only at ac M N Y hp ad Z HC HE O ⊢;cases o1:Cv en
   . rw [o1] at Z;refine Ad func21 ntmps21 rfl rfl (cS (eB [_,_,_,_,_,_,_,_,_,_,_,_] ?_));intro be bf bg ar _ _;have X:=X.ext ar;refine kC (Z.out _) ?_;rintro _ bh ⟨⟨⟩,au⟩;have X:=X.ext au;refine kR ?_;exact ⟨rfl,X⟩
   . rw [o1] at Z;have U:¬((1<=ep/\ep<=1000)/\0<=ef/\ef<=1000000):=λh=>O ⟨o1,h⟩
     refine Ad func21 ntmps21 rfl rfl ?_
     focus
      refine cS (eB [_,_,_,_,_,_,_,_,_,_,_,_] ?_);intro bj bk ah av _ _;have X:=X.ext av;refine kC (Z.out _) ?_;rintro _ bm ⟨⟨⟩,aw⟩;revert ah X;refine eE aw ?_;intro ah X;refine eK ?_;refine B8 rfl rfl rfl (λai=>?_) (λai=>?_);refine kR ?_;rotate_left;refine eK ?_;refine B8 rfl rfl rfl (λaj=>?_) (λaj=>?_);refine kR ?_;rotate_left;refine eK ?_;refine B8 rfl rfl rfl (λak=>?_) (λak=>?_);refine kR ?_;rotate_left;refine kR ?_;rotate_left
     all_goals first|exact ⟨rfl,X⟩|exact absurd Ab U
def Zt (e:EX) (hw:e.wf) (hv:e.valid) (S:nP) (Y:oA) (vc:Nat) (Z:oA) (pc:Nat) (ma:oA) (mc:Nat) (w:wD) (M:e.sits S w Y Z ma vc) :
 Calls prog 28 #[.agg (e.cells Y vc Z pc ma mc).toArray] w (Lu e.g.pinv 0 w):=by
 have X:=Ne w;have M:=M.ltA;have HV:=iF (λw1 h=>KR e hw (· < w.heap.size) Y vc Z pc ma mc w1 h);rw [decide_eq_true hv] at HV;have HI:=iF (λw1 h=>Lv hw.g hv.2.1.1 (· < w.heap.size) Y vc Z pc ma mc w1 h);rw [<-PG.pinv_eq] at HI;have U:=M.g;unfold EX.cells at *;generalize e.g.pinv=u at *;refine Ad func28 ntmps28 rfl rfl (cS (eB [_,_,_,_,_,_,_,_,_,_,_,_] ?_));intro b1 w2 V x5 p6 z7;revert X M U;refine eE x5 ?_;intro X M U;refine eA [_,_,_,_,_,_] ?_;intro b8 w9 G aa al am;revert V X M U;refine eE aa ?_;intro V X M U;refine eK ?_;refine A3 [_,_,_,_,_,_,_,_,_,_,_,_] Ac rfl rfl rfl V rfl rfl rfl (cC rfl (HV.out _ Ae) ?_);rintro _ an ⟨⟨⟩,ab⟩;revert G V X U;refine eY ab ?_;intro ao G V X U;refine eK ?_;refine Aw (AM AU rfl (HI.out _ Ae) (λ_ _ ⟨_,_,_,_,_,_,h⟩=>⟨_,h.1⟩)) rfl ?_ aFh;rintro _ ap ⟨af,ag,ah,ai,aj,ak,⟨⟩,N,O,ac,ad⟩;revert G X;refine eE ad ?_;intro G X;refine eK ?_;refine eS [_,_,_,_,_,_] G ?_;intro aq ar ae au;revert N O X;refine eF ae ?_;intro N O X;refine eK ?_;refine C6 rfl Ac rfl rfl rfl Ae rfl rfl ?_;exact Ol N O ac X Ab Ab
def PgC (u:PG) (w:wD):Ending->wD->Prop:=λe w'=> ∃va vc pa pc ma mc,e = .returned (.agg (u.cells va vc pa pc ma mc).toArray)/\u.sits (λb=>w.heap.size<=b/\b<w'.heap.size) w' va pa ma/\PDsC (λb=>w.heap.size<=b/\b<w'.heap.size) w' u.procs pa/\u.vars.length<=vc/\Ext w w'
def PgC.ret {u:PG} {e:Ending} (h:PgC u w e w'):∃v,e = .returned v:=by
 obtain ⟨_,_,_,_,_,_,h,-⟩:=h;exact ⟨_,h⟩
def cU {G O:oA} {vc:Nat} {xs:List PD} {S2:nP} (hx:xs=g.procs) (hv:VDs T w' g.vars G) (hc:g.vars.length<=vc) (ho:OwnL Fc w' n e (.slice N xs.length r) xs) (hm:g.main.sits S2 w' O) (X:Ext w w') (k1:∀b,T b->w.heap.size<=b) (k2:∀b,S2 b->w.heap.size<=b) (kM:w.heap.size<=n) :
 PgC g w (.returned (.agg #[.slice G g.vars.length vc,.slice N xs.length r,.int .u8 g.main.kind,.int .i64 g.main.num,str g.main.name,.slice O g.main.kids.length t])) w':=by
 subst hx;have Z:=PDsC.wide (PDsC.lt2 (ho.pdsC (S:=λb=>n<=b) (λb hb=>hb))) (S':=λb=>w.heap.size<=b/\b<w'.heap.size) λb h=>⟨Ab,h.2⟩
 exact ⟨G,vc,N,r,O,t,rfl,⟨hv.lt2.wide λb h=>⟨k1 b h.1,h.2⟩,Z.pds,mK (Gs _ _ hm) λb h=>⟨k2 b h.1,h.2⟩⟩,Z,hc,X⟩
set_option maxHeartbeats 8000000 in
def Xm (g:PG) (hf:g.few) (S:nP) (va:oA) (vc:Nat) (pa:oA) (pc:Nat) (ma:oA) (mc:Nat) (w:wD) (hs:g.sits S w va pa ma) :
 Calls prog 31 #[.agg (g.cells va vc pa pc ma mc).toArray] w (PgC g w):=by
 have X:=Ne w;obtain ⟨nv,np,bo,az⟩:=hf;have HI:=iF (JY g.main bo);have HC:=iF (Is g.vars Ab);have HQ:=iF az;clear az;have hs:=hs.ltA;refine Ad func31 ntmps31 rfl rfl ?_;refine cS (eB [_,_,_,_,_,_] ?_);intro b1 w2 h4 x5 p6 z7;revert X hs;refine eE x5 ?_;intro X hs;refine eA [_,_,_,_,_,_] ?_;intro b8 w9 N bp dy dz;revert h4 X hs;refine eE bp ?_;intro h4 X hs;refine cT ?_;refine E2 (ι:=Nat×oA×Nat×oA×Nat) (λx=>[(1,pt b1),(2,pt b8),(3,pt x.1)])
  (λx w'=>Blk w' x.1 [.slice x.2.1 g.vars.length x.2.2.1,.slice none 0 0,.int .u8 g.main.kind,.int .i64 g.main.num,str g.main.name,.slice x.2.2.2.1 g.main.kids.length x.2.2.2.2]/\VDs (λb=>b8<b/\b≠x.1/\b<w'.heap.size) w' g.vars x.2.1/\g.main.sits (λb=>b8<b/\b≠x.1/\b<w'.heap.size) w' x.2.2.2.1/\b8<x.1/\x.1<w'.heap.size/\g.vars.length<=x.2.2.1 /\
   Blk w' b1 [.slice va g.vars.length vc,.slice pa g.procs.length pc,.int .u8 g.main.kind,.int .i64 g.main.num,str g.main.name,.slice ma g.main.kids.length mc]/\Blk w' b8 [.slice none 0 0,.slice none 0 0,.int .u8 0,.int .i64 0,str [],.slice none 0 0]/\g.sits (· < w.heap.size) w' va pa ma/\Ext w w') ?_ ?_
 . clear HQ;have hv:=hs.vars;have ac:=hs.main
   focus
    refine Aq (λwz=>Ext w9 wz) 8 (.pure 0 (.pure 1 (.pure 3 (.pure 4 (.fork 2 (.fork 5 (.pure 6 (.fork 7 .tail .none)) (.fork 7 (.fork 5 (.pure 6 .tail) .none) .none)) (.fork 7 (.fork 2 (.fork 5 (.pure 6 .tail) .none) .none) .none)))))) mixed AU (Aa Ag) ?_;intro br a0 _;have G:(λwz=>Ext w9 wz) br:=a0;simp only at G;have a1:=h4;revert N h4 X hs hv ac;refine eY a0 ?_;intro d0 N h4 X hs hv ac;refine ⟨G,?_⟩;refine eT ?_;refine Tq rfl (xL [_,_,_,_] (λwz hz=>(mN a1 hz))) ?_;refine AC rfl (AM AU rfl (HC.out _ _ _ _ Ae) (λ_ _ h=>h.ret)) rfl ?_ aFh ?kra5;rintro _ b4 ⟨d1,d2,⟨⟩,ab,bs,b5⟩;revert G N h4 X hs ac;refine eY bs ?_;intro b6 G N h4 X hs ac;refine ⟨G,?_⟩;refine AC rfl (AM AU rfl (HI.out _ _ _ _ Ae) (λ_ _ h=>h.ret)) rfl ?_ aFh ?kra13;rintro _ b7 ⟨b9,ca,⟨⟩,af,a2⟩;revert ab G N h4 X hs;refine eY a2 ?_;intro cb ab G N h4 X hs;refine ⟨G,?_⟩;refine Tq rfl (xB [_,_,_,_,_,_]) ?_;refine AC rfl (A2 CC rfl) rfl ?_ aFh Ay;rintro _ cc ⟨cd,rfl,ag⟩;have ao:=ag.blk;dsimp only at ao;have a3:=ag.ext;have ce:=ag.pos;have cf:=ag.size;revert af ab G N h4 X hs;refine eE a3 ?_;intro af ab G N h4 X hs;refine ⟨G,?_⟩;refine Ar rfl (eS [_,_,_,_,_,_] ao ?_);intro cg ch a4 ci;revert af ab N h4 X hs;refine eF a4 ?_;intro af ab N h4 X hs;refine Ak ?_;rotate_left;refine AC rfl (A2 CC rfl) rfl ?_ aFh Ay;rintro _ cj ⟨ck,rfl,ah⟩;have ai:=ah.blk;dsimp only at ai;have a5:=ah.ext;have cl:=ah.pos;have cm:=ah.size;revert ab G N h4 X hs ac;refine eE a5 ?_;intro ab G N h4 X hs ac;refine ⟨G,?_⟩;refine tC rfl rfl (HI.out _ _ _ _ Ae) ?_;rintro _ cn ⟨co,cp,⟨⟩,ap,a6⟩;revert ai ab G N h4 X hs;refine eY a6 ?_;intro cq ai ab G N h4 X hs;refine ⟨G,?_⟩;refine Tq rfl (xB [_,_,_,_,_,_]) ?_;refine Ar rfl (eS [_,_,_,_,_,_] ai ?_);intro cr ct a7 cu;revert ap ab N h4 X hs;refine eF a7 ?_;intro ap ab N h4 X hs;refine Ak ?_;rotate_left;refine AC rfl (A2 CC rfl) rfl ?_ aFh Ay;rintro _ cv ⟨cw,rfl,aj⟩;have ad:=aj.blk
    dsimp only at ad;have a8:=aj.ext;have cx:=aj.pos;have cy:=aj.size;revert G N h4 X hs hv ac;refine eE a8 ?_;intro G N h4 X hs hv ac;refine ⟨G,?_⟩;refine tC rfl rfl (HC.out _ _ _ _ Ae) ?_;rintro _ cz ⟨c0,c1,⟨⟩,ak,a9,c2⟩;revert ad G N h4 X hs ac;refine eY a9 ?_;intro c3 ad G N h4 X hs ac;refine ⟨G,?_⟩;refine tC rfl rfl (HI.out _ _ _ _ Ae) ?_;rintro _ c4 ⟨c5,c6,⟨⟩,aq,ba⟩;revert ak ad G N h4 X hs;refine eY ba ?_;intro c7 ak ad G N h4 X hs;refine ⟨G,?_⟩;refine Tq rfl (xB [_,_,_,_,_,_]) ?_;refine Ar rfl (eS [_,_,_,_,_,_] ad ?_);intro c8 c9 bb da;revert aq ak N h4 X hs;refine eF bb ?_;intro aq ak N h4 X hs;refine Ak ?_;rotate_left
   all_goals exact BQ (_,_,_,_,_) sC ⟨Ae,nG Ae (λb h=>⟨Ab,Ab,Ab⟩),mK Ae (λb h=>⟨Ab,Ab,Ab⟩),Ab,Ab,Ae,Ae,Ae,Ae,Ae⟩
 . clear h4 N hs X;rintro ⟨bq,bc,bt,bd,bu⟩ w1 ⟨Y,U,V,o1,o2,be,aa,Z,hs,X⟩;simp only at Y U V o1 o2 be;have hp:=hs.procs;have hz:=iW w1.heap.size;clear hs HI HC;refine eK ?_;refine AP (ι:=Nat×List PD×oA×Nat) (λx=>[(1,pt b1),(2,pt b8),(3,pt bq),(14,.slice pa g.procs.length pc),(15,.int .i64 g.procs.length),(16,.int .i64 x.1)])
    (λx w'=>OwnL Fc w' w1.heap.size 116 (.slice x.2.2.1 x.2.1.length x.2.2.2) x.2.1/\x.2.1=g.procs.take x.1/\x.1<=g.procs.length/\Blk w' bq [.slice bc g.vars.length bt,.slice x.2.2.1 x.2.1.length x.2.2.2,.int .u8 g.main.kind,.int .i64 g.main.num,str g.main.name,.slice bd g.main.kids.length bu]/\VDs (λb=>b8<b/\b≠bq/\b<w1.heap.size) w' g.vars bc/\g.main.sits (λb=>b8<b/\b≠bq/\b<w1.heap.size) w' bd /\
     Blk w' b1 [.slice va g.vars.length vc,.slice pa g.procs.length pc,.int .u8 g.main.kind,.int .i64 g.main.num,str g.main.name,.slice ma g.main.kids.length mc]/\Blk w' b8 [.slice none 0 0,.slice none 0 0,.int .u8 0,.int .i64 0,str [],.slice none 0 0]/\PDs (· < w.heap.size) w' g.procs pa/\Ext w w'/\w1.heap.size<=w'.heap.size)
    (λx=>g.procs.length-x.1) (0,[],none,0) sB ⟨OwnL.nil,AN,iT _,Y,U,V,aa,Z,hp,X,hz⟩ ?_
   clear Y U V aa Z hp X hz;rintro ⟨j,xs,ra,rc⟩ w3 ⟨M,am,hj,Y,U,V,aa,Z,hp,X,hz⟩;simp only at M am hj Y;have bf:∀g',(jf ra xs.length rc).ownBlock=some g'->w1.heap.size<=g'/\g'<w3.heap.size:=λg' h=>⟨M.ge h,M.lt h⟩
   have d3:xs.length<=1000000:=by rw [am,jp];omega
   refine nq (m:=[(1,pt b1),(2,pt b8),(3,pt bq),(14,.slice pa g.procs.length pc),(15,.int .i64 g.procs.length),(16,.int .i64 (j:Int))]) ?_ sB;by_cases aw:j<g.procs.length
   . obtain ⟨kb,ko,rfl,kS,hk⟩:=m5 hp Ab;obtain ⟨xa,xc,ya,yc,rx,vx,sx⟩:=hk j _ (iE aw);have d4:=HQ.out _ (iS aw);have HX:=iF (JY g.procs[j].body Ab);have HC:=iF (Is g.procs[j].params Ab);have ax:xs++[g.procs[j]]=g.procs.take (j+1):=by rw [am];exact (iI aw).symm
     clear hk HQ am;generalize g.procs[j]=x at *;refine eK ?_;refine xA [_,_,_,_,_,_] ?_;intro d5 d6 bv;refine eI [_,_,_,_,_,_] bv ?_;intro bg bh bw d7 d8;revert M Y U V Z X aa hp vx sx;refine eE bw ?_;intro M Y U V Z X aa hp vx sx;refine cT (Aq (λwz=>Ext bg wz) 12 (.pure 0 (.pure 1 (.pure 2 (.pure 3 (.pure 4 (.pure 5 (.pure 7 (.pure 8 (.fork 6 (.fork 9 (.pure 10 (.fork 11 .tail .none)) .none) .none))))))))) mixed AU (Af (Aa (Aa (Af (Aa Ag))))) ?_);intro bx ar _;have O:(λwz=>Ext bg wz) bx:=ar;simp only at O;have ay:=bh;have bz:=Y;revert M Y U V Z X aa hp vx sx;refine eY ar ?_;intro db M Y U V Z X aa hp vx sx;refine ⟨O,?_⟩;refine eT ?_;refine Tq rfl (xL [_,_,_,_] (λwz hz=>(mN ay hz))) ?_;refine tC rfl rfl (HC.out _ _ _ _ Ae) ?_;rintro _ dc ⟨dd,de,⟨⟩,ae,bi,df⟩;revert O M Y U V Z X aa hp sx;refine eY bi ?_;intro dg O M Y U V Z X aa hp sx;refine ⟨O,?_⟩;refine tC rfl rfl (HX.out _ _ _ _ Ae) ?_;rintro _ dh ⟨di,dk,⟨⟩,an,bj⟩;revert ae O M Y U V Z X aa hp;refine eY bj ?_;intro dl ae O M Y U V Z X aa hp;refine ⟨O,?_⟩;refine Tq rfl (xB [_,_,_,_,_,_]) ?_;refine AC rfl (xS [_,_,_,_,_,_]) rfl ?_ aFh Ay;rintro _ dm ⟨dn,rfl,al,dp⟩;have bk:=al.blk;have bl:=al.ext;have dq:=al.pos;have dr:=al.size;revert an ae O M Y U V Z X aa hp;refine eE bl ?_;intro an ae O M Y U V Z X aa hp;refine ⟨O,?_⟩;refine Ar rfl ?_;refine Aw (GR (sh:=Fc) (z:=x) Ac CC rfl rfl rfl rfl AU rfl rfl rfl Ae (mS Ae) ⟨_,_,_,_,rfl,nG Ae (λb h=>⟨Ab,λe=>by have:=bf _ e;omega⟩),mK Ae (λb h=>⟨Ab,λe=>by have:=bf _ e;omega⟩),Ae⟩ Ab Ab) rfl ?_ aFh;rintro _ ds ⟨dt,bn,rfl,au,av⟩;have du:=av.size;clear bk an ae bh M;revert Y U V Z X aa hp;refine eF av ?_;intro Y U V Z X aa hp;refine C1 Pf (eV [_] [_,_,_,_,_,_] Y ?_);intro dv dw bm dx;clear Y;revert au U V Z X aa hp;refine eF bm ?_;intro au U V Z X aa hp
     refine eK ?_;exact AA (j+1,xs++[x],some ⟨_,0,none⟩,_) sB ⟨Ae,ax,by simp only;omega,Ae,U,V,aa,Z,hp,X,Ab⟩ (by simp only;omega)
   . have b0:j=g.procs.length:=by omega
     subst b0;rw [iZ] at am;refine eK ?_;refine eS [_,_,_,_,_,_] Z ?_;intro d9 b2 b3 _;revert M U V X;refine eF b3 ?_;intro M U V X;refine kX b2 ?_;exact cU am U be M V X (λb h=>by omega) (λb h=>by omega) Ab
abbrev BA:=lB
structure AtV where
 s:BA
 n:BA
 ok:Bool
 deriving DecidableEq
def BC (L:List AtV) (s n:BA):Bool:=L.any λa=>decide (a.s=s)&&(decide (a.n=n)&&a.ok)
def Es (L:List AtV) (s n:BA):Nat:=L.countP λa=>decide (a.s=s)&&decide (a.n=n)
def D6 (L:List AtV) (s:BA):Nat:=L.countP λa=>decide (a.s=s)
def MP (L:List AtV) (s n:BA) (ok:Bool):List AtV:=if BC L s n then L else L++[⟨s,n,ok⟩]
def CE (L:List AtV) (s:BA):List (BA×Int)->Int
 | []=>0
 | e::es=>(if BC L s e.1 then e.2 else 0)+CE L s es
section sort
variable {α:Type} (lt:α->α->Bool)
def CJ (x:α):List α->List α
 | []=>[x]
 | y::r=>if lt x y then y::CJ x r else x::y::r
def Hc (x:α):List α->List α
 | []=>[x]
 | y::r=>if lt y x then y::Hc x r else x::y::r
def FJ (l:List α):List α:=(l.foldl (λa x=>CJ lt x a) []).reverse
variable {lt}
def mem_insRev {x z:α}:∀ {l:List α},z∈CJ lt x l↔z=x\/z∈l
 | []=>by simp [CJ]
 | y::r=>by
  unfold CJ;split
  . simp only [iU,mem_insRev (l:=r)];exact or_left_comm
  . simp
def mem_insL {x z:α}:∀ {l:List α},z∈Hc lt x l↔z=x\/z∈l
 | []=>by simp [Hc]
 | y::r=>by
  unfold Hc;split
  . simp only [iU,mem_insL (l:=r)];exact or_left_comm
  . simp
structure Tot (lt:α->α->Bool):Prop where
 irr:∀x,lt x x=false
 tr:∀x y z,lt x y=true->lt y z=true->lt x z=true
 tot:∀x y,x≠y->lt x y=true\/lt y x=true
def I2 (h:Tot lt) {x:α}:∀ {l:List α},l.Pairwise (λa b=>lt b a=true)->x∉l->(CJ lt x l).Pairwise (λa b=>lt b a=true)
 | [],_,_=>by simp [CJ]
 | y::r,O,M=>by
  obtain ⟨U,X⟩:=List.pairwise_cons.1 O;simp only [iU,not_or] at M;unfold CJ;split
  . rename_i N;refine List.pairwise_cons.2 ⟨λz G=>?_,I2 h X M.2⟩;rcases mem_insRev.1 G with rfl|G
    . exact N
    . exact U z G
  . rename_i N;have V:lt y x=true:=(h.tot x y M.1).resolve_left N;refine List.pairwise_cons.2 ⟨λz G=>?_,O⟩;rcases iU.1 G with rfl|G
    . exact V
    . exact h.tr _ _ _ (U z G) V
def Lw (h:Tot lt) {x:α}:∀ {l:List α},l.Pairwise (λa b=>lt a b=true)->x∉l->(Hc lt x l).Pairwise (λa b=>lt a b=true)
 | [],_,_=>by simp [Hc]
 | y::r,O,M=>by
  obtain ⟨U,X⟩:=List.pairwise_cons.1 O;simp only [iU,not_or] at M;unfold Hc;split
  . rename_i N;refine List.pairwise_cons.2 ⟨λz G=>?_,Lw h X M.2⟩;rcases mem_insL.1 G with rfl|G
    . exact N
    . exact U z G
  . rename_i N;have V:lt x y=true:=(h.tot x y M.1).resolve_right N;refine List.pairwise_cons.2 ⟨λz G=>?_,O⟩;rcases iU.1 G with rfl|G
    . exact V
    . exact h.tr _ _ _ V (U z G)
def MQ {z:α}:∀(l a:List α),z∈l.foldl (λa x=>CJ lt x a) a↔z∈l\/z∈a
 | [],a=>by simp
 | x::l,a=>by
  rw [List.foldl_cons,MQ l,mem_insRev,iU];constructor
  . rintro (h|h|h)<;>simp [h]
  . rintro ((h|h)|h)<;>simp [h]
def Lx (h:Tot lt):∀(l a:List α),l.Nodup->(∀x∈l,x∉a)->a.Pairwise (λx y=>lt y x=true)->(l.foldl (λa x=>CJ lt x a) a).Pairwise (λx y=>lt y x=true)
 | [],_,_,_,G=>G
 | x::l,a,U,N,G=>by
  obtain ⟨V,X⟩:=List.nodup_cons.1 U;refine Lx h l _ X (λy O M=>?_) (I2 h G (N x AN));rcases mem_insRev.1 M with rfl|M
  . exact V O
  . exact N y (by simp [O]) M
def Vz {z:α} {l:List α}:z∈FJ lt l↔z∈l:=by
 unfold FJ;rw [List.mem_reverse,MQ];simp
def PQ (h:Tot lt) {l:List α} (G:l.Nodup):(FJ lt l).Pairwise (λa b=>lt a b=true):=by
 unfold FJ;rw [List.pairwise_reverse];exact Lx h l [] G AN List.Pairwise.nil
def G4 (h:Tot lt) {l:List α} (M:l.Pairwise (λa b=>lt a b=true)):l.Nodup:=
 M.imp λ{a b} G e=>by subst e;rw [h.irr] at G;cases G
def Ly (h:Tot lt):∀ {l m:List α},l.Pairwise (λa b=>lt a b=true)->m.Pairwise (λa b=>lt a b=true)->(∀x,x∈l↔x∈m)->l=m
 | [],[],_,_,_=>rfl
 | [],y::m,_,_,G=>absurd ((G y).2 AN) AN
 | x::l,[],_,_,G=>absurd ((G x).1 AN) AN
 | x::l,y::m,X,Y,G=>by
  have O:=G4 h X;have U:=G4 h Y;obtain ⟨Z,h2⟩:=List.pairwise_cons.1 X;obtain ⟨h3,h4⟩:=List.pairwise_cons.1 Y;have V:x=y:=by
   rcases iU.1 ((G x).1 AN) with e|hx
   . exact e
   . rcases iU.1 ((G y).2 AN) with e|hy
     . exact e.symm
     . have:=h.tr _ _ _ (h3 x hx) (Z y hy);rw [h.irr] at this;cases this
  subst V;rw [Ly h h2 h4 (λz=>?_)];constructor
  . intro N;rcases iU.1 ((G z).1 (by simp [N])) with rfl|M
    . exact absurd N (List.nodup_cons.1 O).1
    . exact M
  . intro N;rcases iU.1 ((G z).2 (by simp [N])) with rfl|M
    . exact absurd N (List.nodup_cons.1 U).1
    . exact M
end sort
def Ki (x y:BA):Bool:=decide (x<y)
def nlt_tot:Tot Ki where
 irr:=λx=>by simp [Ki,List.lt_irrefl]
 tr:=λx y z G M=>by
  simp only [Ki,decide_eq_true_eq] at *;exact List.lt_trans G M
 tot:=λx y h=>by
  simp only [Ki,decide_eq_true_eq];rcases Decidable.em (x<y) with G|G
  . exact iG G
  . rcases Decidable.em (y<x) with M|M
    . exact iH M
    . exact absurd (List.le_antisymm (List.not_lt.1 M) (List.not_lt.1 G)) h
def Oo (L:List AtV) (es:List (BA×Int)) (x y:BA):Bool:=
 decide (CE L y es<CE L x es\/(CE L x es=CE L y es/\(D6 L x<D6 L y\/(D6 L x=D6 L y/\x<y))))
def Zu (L:List AtV) (es:List (BA×Int)):Tot (Oo L es) where
 irr:=λx=>by
  have:=List.lt_irrefl x;simp [Oo,this]
 tr:=λx y z G M=>by
  simp only [Oo,decide_eq_true_eq] at *;have N:x<y->y<z->x<z:=λa b=>List.lt_trans a b
  rcases G with G|⟨G,V|⟨V,O⟩⟩<;>rcases M with M|⟨M,X|⟨X,U⟩⟩ <;>
   first
    | exact iG Ab
    | exact iH ⟨Ab,iG Ab⟩
    | exact iH ⟨Ab,iH ⟨Ab,N O U⟩⟩
 tot:=λx y h=>by
  simp only [Oo,decide_eq_true_eq];have N:=nlt_tot.tot x y h;simp only [Ki,decide_eq_true_eq] at N;rcases Int.lt_trichotomy (CE L x es) (CE L y es) with G|G|G
  . exact iH (iG G)
  . rcases lk (D6 L x) (D6 L y) with M|M|M
    . exact iG (iH ⟨G,iG M⟩)
    . rcases N with N|N
      . exact iG (iH ⟨G,iH ⟨M,N⟩⟩)
      . exact iH (iH ⟨G.symm,iH ⟨M.symm,N⟩⟩)
    . exact iH (iH ⟨G.symm,iG M⟩)
  . exact iG (iG G)
def Bo (L:List AtV):List BA:=L.foldl (λo a=>if a.s∈o then o else o++[a.s]) []
def G5 (lt:BA->BA->Bool) (L:List AtV):List BA:=L.foldl (λo a=>if a.s∈o then o else Hc lt a.s o) []
def IA {lt:BA->BA->Bool} (h:Tot lt):∀(L:List AtV) (o:List BA),o.Pairwise (λa b=>lt a b=true) ->
 (L.foldl (λo a=>if a.s∈o then o else Hc lt a.s o) o).Pairwise (λa b=>lt a b=true) /\ ∀z,z∈L.foldl (λo a=>if a.s∈o then o else Hc lt a.s o) o↔z∈o \/ ∃a∈L,a.s=z
 | [],o,M=>⟨M,λz=>by simp⟩
 | a::L,o,M=>by
  rw [List.foldl_cons];by_cases N:a.s∈o
  . rw [AG N];obtain ⟨O,U⟩:=IA h L o M;refine ⟨O,λz=>(U z).trans ?_⟩;constructor
    . rintro (h|⟨b,G,e⟩)
      . exact iG h
      . exact iH ⟨b,by simp [G],e⟩
    . rintro (h|⟨b,G,e⟩)
      . exact iG h
      . rcases iU.1 G with rfl|G
        . exact iG (e▸N)
        . exact iH ⟨b,G,e⟩
  . rw [At N];obtain ⟨O,U⟩:=IA h L _ (Lw h M N);refine ⟨O,λz=>(U z).trans ?_⟩;rw [mem_insL];constructor
    . rintro ((h|h)|⟨b,G,e⟩)
      . exact iH ⟨a,AN,h.symm⟩
      . exact iG h
      . exact iH ⟨b,by simp [G],e⟩
    . rintro (h|⟨b,G,e⟩)
      . exact iG (iH h)
      . rcases iU.1 G with rfl|G
        . exact iG (iG e.symm)
        . exact iH ⟨b,G,e⟩
def FK:∀(L:List AtV) (o:List BA),o.Nodup->(L.foldl (λo a=>if a.s∈o then o else o++[a.s]) o).Nodup /\ ∀z,z∈L.foldl (λo a=>if a.s∈o then o else o++[a.s]) o↔z∈o \/ ∃a∈L,a.s=z
 | [],o,M=>⟨M,λz=>by simp⟩
 | a::L,o,M=>by
  rw [List.foldl_cons];by_cases N:a.s∈o
  . rw [AG N];obtain ⟨O,U⟩:=FK L o M;refine ⟨O,λz=>(U z).trans ?_⟩;constructor
    . rintro (h|⟨b,G,e⟩)
      . exact iG h
      . exact iH ⟨b,by simp [G],e⟩
    . rintro (h|⟨b,G,e⟩)
      . exact iG h
      . rcases iU.1 G with rfl|G
        . exact iG (e▸N)
        . exact iH ⟨b,G,e⟩
  . rw [At N];have X:(o++[a.s]).Nodup:=by
     rw [List.nodup_append];exact ⟨M,AN,λx Y y V e=>N (by simp only [i8] at V;rw [<-V,<-e];exact Y)⟩
    obtain ⟨O,U⟩:=FK L _ X;refine ⟨O,λz=>(U z).trans ?_⟩;rw [jD,i8];constructor
    . rintro ((h|h)|⟨b,G,e⟩)
      . exact iG h
      . exact iH ⟨a,AN,h.symm⟩
      . exact iH ⟨b,by simp [G],e⟩
    . rintro (h|⟨b,G,e⟩)
      . exact iG (iG h)
      . rcases iU.1 G with rfl|G
        . exact iG (iH e.symm)
        . exact iH ⟨b,G,e⟩
def Oq {lt:BA->BA->Bool} (h:Tot lt) (L:List AtV) {G:List BA} (M:G.Nodup) (N:∀z,z∈G↔z∈Bo L):FJ lt G=G5 lt L:=by
 obtain ⟨O,U⟩:=IA h L [] List.Pairwise.nil;obtain ⟨-,V⟩:=FK L [] List.nodup_nil;refine Ly h (PQ h M) O (λz=>?_);rw [Vz,N z];exact (V z).trans (U z).symm
section
variable {ns:List BA} {L:List AtV}
end
open Go.ChangeMaps (setBlock)
def MR (es:List MapEntry) (clock:Nat):Prop:=(es.map (·.born)).Nodup /\ ∀e∈es,e.born<clock
def MapB (w:wD) (r:Nat) (kvs:List (lB×Value)):Prop:= ∃es clock,w.heap[r]? = some (.map es clock)/\Bi es.toList kvs/\MR es.toList clock
def MapB.is {kvs:List (lB×Value)} (h:MapB w r kvs):MapIs w r kvs:=by
 obtain ⟨es,c,G,M,-⟩:=h;exact ⟨es,c,G,M⟩
def MapB.lt {w:wD} {r:Nat} {kvs:List (lB×Value)} (h:MapB w r kvs):r<w.heap.size:=h.is.lt
def MapB.ext {kvs:List (lB×Value)} (h:MapB w r kvs) (x:Ext w w'):MapB w' r kvs:=by
 have G:=h.lt;obtain ⟨es,c,h,e⟩:=h;exact ⟨es,c,by rw [x.block G];exact h,e⟩
instance {kvs:List (lB×Value)}:LfE w w' (MapB w r kvs) (MapB w' r kvs):=⟨λx h=>Bk.MapB.ext h x⟩
def MapB.fr {kvs:List (lB×Value)} (h:MapB w r kvs) (x:Fr S w w') (G:¬S r):MapB w' r kvs:=by
 have M:=h.lt;obtain ⟨es,c,h,e⟩:=h;exact ⟨es,c,by rw [x.block r M G];exact h,e⟩
instance {kvs:List (lB×Value)}:LfF S w w' (MapB w r kvs) (¬S r) (MapB w' r kvs):=⟨λx s h=>Bk.MapB.fr h x s⟩
def ItM (w:wD) (r m:Nat) (lft:List (lB×Value)) (cur:Option (lB×Value)):Prop:=
 ∃es clock seen,w.heap[r]? = some (.mapIter (some m) clock seen clock)/\w.heap[m]? = some (.map es clock)/\MR es.toList clock/\Bi (leftOf es seen).toList lft /\
  ∀p,cur=some p -> ∃e∈es.toList,e.key=str p.1/\e.val=p.2 /\ ∃s':Array Nat,seen=s'.push e.born
def ItM.lt {m:Nat} {cur:Option (lB×Value)} (h:ItM w r m G cur):r<w.heap.size/\m<w.heap.size/\r≠m:=by
 obtain ⟨es,c,N,O,M,-⟩:=h;refine ⟨(Array.getElem?_eq_some_iff.1 O).1,(Array.getElem?_eq_some_iff.1 M).1,λe=>?_⟩;subst e;rw [O] at M;cases M
def ItM.ext {m:Nat} {cur:Option (lB×Value)} (h:ItM w r m G cur) (x:Ext w w'):ItM w' r m G cur:=by
 obtain ⟨N,O,-⟩:=h.lt;obtain ⟨es,c,M,U,V,X⟩:=h;exact ⟨es,c,M,by rw [x.block N];exact U,by rw [x.block O];exact V,X⟩
instance {m:Nat} {cur:Option (lB×Value)}:LfE w w' (ItM w r m G cur) (ItM w' r m G cur):=⟨λx h=>Bk.ItM.ext h x⟩
def ItM.fr {m:Nat} {cur:Option (lB×Value)} (h:ItM w r m G cur) (x:Fr S w w') (N:¬S r /\ ¬S m):ItM w' r m G cur:=by
 obtain ⟨O,U,-⟩:=h.lt;obtain ⟨es,c,M,V,X,Y⟩:=h;exact ⟨es,c,M,by rw [x.block r O N.1];exact V,by rw [x.block m U N.2];exact X,Y⟩
instance {m:Nat} {cur:Option (lB×Value)}:LfF S w w' (ItM w r m G cur) (¬S r /\ ¬S m) (ItM w' r m G cur):=⟨λx s h=>Bk.ItM.fr h x s⟩
section
variable {l:Sl} {tab:Tab}
def Rh {es:Array MapEntry} {j:Nat} {f:MapEntry->MapEntry} (G:∀e,(f e).born=e.born):(es.modify j f).toList.map (·.born)=es.toList.map (·.born):=by
 apply kw;intro i;rw [jl,jl,md,md,kE];by_cases h:j=i
 . subst h;cases es[j]? <;> simp [G]
 . simp [h]
def Xo {es G:List MapEntry} {c:Nat} (h:MR es c) (M:G.map (·.born)=es.map (·.born)):MR G c:=by
 obtain ⟨N,O⟩:=h;refine ⟨M▸N,λe U=>?_⟩;have:e.born∈es.map (·.born):=M▸List.mem_map_of_mem U;obtain ⟨x,V,X⟩:=List.mem_map.1 this;rw [<-X];exact O x V
def MS {aa ab:Nat} {k:lB} {kvs:List (lB×Value)} (T:TabOk P tab) (ht:AD tab t=some (.map sz e,aa)) (O:AD tab sz=some (.str,ab)) (hm:MapB w r kvs) :
 ∃w1,(Instr.mapUpdate t (.map (some r)) (str k) v).run P w = .ok () w1/\MapB w1 r (Gn kvs k v)/\Fr (· = r) w w1/\w1.heap.size=w.heap.size:=by
 have hu:P.underlying t=some (.map sz e):=(T _ _ _ ht).under;have hk:P.underlying sz=some .string:=(T _ _ _ O).under;obtain ⟨w1,U,g2,g3,g4⟩:=NM (P:=P) (k:=k) (v:=v) T ht O hm.is;refine ⟨w1,U,?_,g3,g4⟩;obtain ⟨ac,c1,G,g6⟩:=g2;refine ⟨ac,c1,G,g6,?_⟩;obtain ⟨es,M,hh,he,Z⟩:=hm;have V:r<w.heap.size:=(Array.getElem?_eq_some_iff.1 hh).1;obtain ⟨o,h1,h2,h3⟩:=run_findKey hk (k:=k) he w;have hg:(getObj r).run P w = .ok (.map es M) w:=by simp [getObj,kG,hh]
 have h:∀ob,(setObj r ob).run P w = .ok () { w with heap:=w.heap.setIfInBounds r ob }:=λob=>by simp [setObj,kG,hh]
 cases o with
 | none=>
  simp only [Instr.mapUpdate,iV,AE hu,iP,hg,run_checkKey hk,h1,h,lR,true_and] at U;rw [<-U] at G;simp only [Array.getElem?_setIfInBounds_self,V,if_true,iL,Obj.map.injEq] at G;obtain ⟨rfl,rfl⟩:=G;obtain ⟨b1,b2⟩:=Z;refine ⟨?_,λx N=>?_⟩
  . simp only [Array.toList_push,jJ,jo,lw];rw [List.nodup_append];refine ⟨b1,AN,λa ha b ad e1=>?_⟩;obtain ⟨x,N,rfl⟩:=List.mem_map.1 ha;simp only [i8] at ad;have:=b2 x N;omega
  . simp only [Array.toList_push,jD,i8] at N;rcases N with N|rfl
    . have:=b2 x N;omega
    . simp
 | some q=>
  obtain ⟨j,u⟩:=q;obtain ⟨en,q1,q2,q3⟩:=h3 j u rfl;have X:(Instr.keyThatStays (((es[j]?).map (·.key)).getD (str k)) (str k)).run P w = .ok (str k) w:=by
   have:es[j]? = some en:=by simpa using q1
   rw [this];have Z:((⟨k.toArray⟩:ByteArray)==⟨k.toArray⟩)=true:=by rw [O4];simp
   simp [Instr.keyThatStays,q2,Instr.sameBits,Z]
  simp only [Instr.mapUpdate,iV,AE hu,iP,hg,run_checkKey hk,h1,X,h,lR,true_and] at U;rw [<-U] at G;simp only [Array.getElem?_setIfInBounds_self,V,if_true,iL,Obj.map.injEq] at G;obtain ⟨rfl,rfl⟩:=G;exact Xo Z (Rh (λe=>rfl))
def Zv (w:wD) (r:Nat) (kvs:List (lB×Value)):Option Value->wD->Prop
 | none,w1=>MapB w1 r kvs/\Fr (· = r) w w1/\w1.heap.size=w.heap.size
 | some _,_=>False
def Fj {y z:Operand} {sz1 sz2:Nat} {k:lB} {kvs:List (lB×Value)} (T:TabOk P tab) (ht:AD tab t=some (.map sz e,sz1)) (hkt:AD tab sz=some (.str,sz2)) (hx:ev l x=some (.map (some r))) (hy:ev l y=some (str k)) (hz:ev l z=some v) (hm:MapB w r kvs) :
 BG P n l (.mapUpdate t x y z) ty w (Zv w r (Gn kvs k v)):=by
 unfold BG;intro a dst pos after g next Q ha _ hn;obtain ⟨w1,h1,h2,h3,h4⟩:=MS (P:=P) (k:=k) (v:=v) T ht hkt hm;have e1:(execOp a.eval ⟨dst,.mapUpdate t x y z,ty,pos,after,g⟩).run P w = .ok .skip w1:=by
  simp only [execOp,ha.ev hx,ha.ev hy,ha.ev hz,iV,h1,iP,je]
 unfold kh;rw [e1];exact hn w1 ⟨h2,h3,h4⟩
def I3:BG P n l (.makeMap t none) ty w (Ge λv w1=> ∃r,v = .map (some r)/\r=w.heap.size/\MapB w1 r []/\Ext w w1/\w1.heap.size=r+1):=by
 unfold BG;intro a dst pos after g next Q ha hn _;have e1:(execOp a.eval ⟨dst,.makeMap t none,ty,pos,after,g⟩).run P w = .ok (.value (.map (some w.heap.size))) (w.alloc (.map #[] 0)):=by
  simp [execOp,Instr.makeMap,newObj,kG,bind,Sem.bind,pure]
 unfold kh;rw [e1];exact hn _ _ ⟨_,rfl,rfl,⟨#[],0,by show (w.heap.push _)[w.heap.size]? = _;simp,by simp [Bi],by simp [MR]⟩,(Ne w).alloc _,by show (w.heap.push _).size=_;simp⟩
def Lz {kt m:Nat} {kvs:List (lB×Value)} (T:TabOk P tab) (ht:AD tab t=some (.map kt e,sz)) (hx:ev l x=some (.map (some m))) (hm:MapB w m kvs) :
 BG P n l (.range t x) ty w (Ge λo w'=> ∃r,o=pt r/\w.heap.size<=r/\r<w'.heap.size/\ItM w' r m kvs none/\Ext w w'):=by
 unfold BG;intro a dst pos after g next Q ha hn _;have hu:P.underlying t=some (.map kt e):=(T _ _ _ ht).under;have hl:=hm.lt;obtain ⟨es,clock,hh,he,hb⟩:=hm;have e1:(execOp a.eval ⟨dst,.range t x,ty,pos,after,g⟩).run P w = .ok (.value (pt w.heap.size)) (w.alloc (.mapIter (some m) clock #[] clock)):=by
  simp only [execOp,ha.ev hx,Instr.range,iV,AE hu,iP,je];simp [getObj,newObj,kG,bind,Sem.bind,pure,hh]
 unfold kh;rw [e1];refine hn _ _ ⟨_,rfl,iW _,?_,⟨es,clock,#[],?_,?_,hb,?_,λp hp=>by cases hp⟩,(Ne w).alloc _⟩
 . show w.heap.size<(w.heap.push _).size;rw [Array.size_push];omega
 . show (w.heap.push _)[w.heap.size]? = _;simp
 . exact (((Ne w).alloc _).block hl).trans hh
 . have:leftOf es #[]=es:=by unfold leftOf;simp
   rw [this];exact he
def MT {e:MapEntry}:∀ {L:List MapEntry},(L.map (·.born)).Nodup->e∈L -> ∃j:Nat,L[j]? = some e/\L.filter (λx=>x.born != e.born)=L.eraseIdx j
 | [],_,h=>by cases h
 | x::L,G,h=>by
  rw [jo,List.nodup_cons] at G;obtain ⟨M,O⟩:=G;by_cases N:x=e
  . subst N;refine ⟨0,rfl,?_⟩;simp only [List.filter_cons,bne_self_eq_false,jv,if_false,List.eraseIdx_cons_zero];rw [List.filter_eq_self];intro y U;have:y.born≠x.born:=λe=>M (e▸List.mem_map_of_mem U)
    simpa using this
  . rcases iU.1 h with rfl|h
    . exact absurd rfl N
    . obtain ⟨j,V,X⟩:=MT O h;have:x.born≠e.born:=λY=>M (Y▸List.mem_map_of_mem h)
      exact ⟨j+1,by simpa using V,by simp [List.filter_cons,this,X]⟩
def KS {α β:Type} (f:α->β):∀(L:List α) (j:Nat),(L.eraseIdx j).map f=(L.map f).eraseIdx j
 | [],_=>by simp
 | x::L,0=>by simp
 | x::L,j+1=>by simp [KS f L j]
def Ri (es:Array MapEntry) (h:Array Nat) (b:Nat):(leftOf es (h.push b)).toList=(leftOf es h).toList.filter (λx=>x.born != b):=by
 unfold leftOf;rw [Array.toList_filter,Array.toList_filter,List.filter_filter];congr 1;funext x;simp only [Array.contains_push,Bool.not_or,bne];rw [Bool.and_comm]
def MU {m:Nat} {cur:Option (lB×Value)} (hx:ev l x=some (pt r)) (hi:ItM w r m G cur) (hl:G≠[]) :
 BG P n l (.next x false) ty w (Ge λo w'=> ∃(j:Nat) (p:lB×Value),G[j]? = some p/\o = .tuple #[.bool true,str p.1,p.2]/\ItM w' r m (G.eraseIdx j) (some p)/\Fr (· = r) w w'):=by
 unfold BG;intro a dst pos after g next Q ha hn _;obtain ⟨es,c,seen,h1,h2,hb,h3,-⟩:=hi;rcases run_next_at (P:=P) w ty r m c c seen es c h1 h2 hb.2 (iW _) with ⟨h0,-⟩|⟨e,he,w1,hw,hr⟩
 . have:(leftOf es seen).toList=[]:=by simpa using h0
   rw [this] at h3;unfold Bi at h3;exact absurd (List.map_eq_nil_iff.1 h3.symm) hl
 . have hsub:(leftOf es seen).toList.Sublist es.toList:=by unfold leftOf;rw [Array.toList_filter];exact List.filter_sublist
   have hes:e∈es.toList:=hsub.subset he;obtain ⟨j,g1,g2⟩:=MT ((hsub.map (·.born)).nodup hb.1) he;have g3:((leftOf es seen).toList.map λe=>(e.key,e.val))[j]? = some (e.key,e.val):=by rw [jl,g1];rfl
   unfold Bi at h3;rw [h3,jl] at g3;obtain ⟨p,hp,hpe⟩:=l7.1 g3;obtain ⟨k1,k2⟩:=lp hpe;have hW:w1.heap=w.heap:=by rcases hw with rfl|rfl<;>rfl
   have X1:Ext w w1:=by rcases hw with rfl|rfl;exact Ne _;exact (Ne w).drew
   obtain ⟨p1,p2⟩:=I7 w1 r _ (.mapIter (some m) c (seen.push e.born) c) (by rw [hW];exact h1);have hne:r≠m:=λq=>by subst q;rw [h1] at h2;cases h2
   have e1:(execOp a.eval ⟨dst,.next x false,ty,pos,after,g⟩).run P w = .ok (.value (.tuple #[.bool true,e.key,e.val])) (setBlock w1 r (.mapIter (some m) c (seen.push e.born) c)):=by
    simp only [execOp,ha.ev hx,iV,hr,iP,je]
   unfold kh;rw [e1];refine hn _ _ ⟨j,p,hp,by rw [<-k1,<-k2],⟨es,c,seen.push e.born,p1,?_,hb,?_,λq hq=>?_⟩,(mG X1).trans p2⟩
   . have hm:m<w1.heap.size:=by rw [hW];exact (Array.getElem?_eq_some_iff.1 h2).1
     exact (p2.block m hm (λq=>hne q.symm)).trans (by rw [hW];exact h2)
   . unfold Bi;rw [Ri,g2,KS,h3,KS]
   . obtain rfl:=iQ hq;exact ⟨e,hes,k1.symm,k2.symm,seen,rfl⟩
def LA {m:Nat} {cur:Option (lB×Value)} (hx:ev l x=some (pt r)) (hi:ItM w r m [] cur) :
 BG P n l (.next x false) ty w (Ge λo w'=>o = .tuple #[.bool false]/\w'=w):=by
 unfold BG;intro a dst pos after g next Q ha hn _;obtain ⟨es,c,seen,h1,h2,hb,h3,-⟩:=hi;rcases run_next_at (P:=P) w ty r m c c seen es c h1 h2 hb.2 (iW _) with ⟨-,hr⟩|⟨e,he,-⟩
 . have e1:(execOp a.eval ⟨dst,.next x false,ty,pos,after,g⟩).run P w = .ok (.value (.tuple #[.bool false])) w:=by
    simp only [execOp,ha.ev hx,iV,hr,iP,je]
   unfold kh;rw [e1];exact hn _ _ ⟨rfl,rfl⟩
 . unfold Bi at h3;rw [lw,List.map_eq_nil_iff] at h3;rw [h3] at he;cases he
def Os {S:wD->Prop} {m:Nat} {h:List (lB×Value)} {p:lB×Value} (M:ev l x=some (pt r)) (N:∀w,S w->ItM w r m h (some p)) :
 Br P n l S (.entry x) ty (.tuple #[str p.1,p.2]):=by
 unfold Br;intro s w O pos after g U V;obtain ⟨es,c,G,X,Y,Z,h3,h4⟩:=N w V;obtain ⟨e,he,k1,k2,s',rfl⟩:=h4 p rfl;have:=run_entry_at (P:=P) w r m c s' es c e X Y he Z.1;simp only [execOp,U.ev M,iV,this,iP,je,k1,k2]
end
def EP (o:List BA) (x:BA):List BA:=if x∈o then o else o++[x]
def Ot {k n:BA} (h:n≠k) (o:List BA):EP (k::o) n=k::EP o n:=by
 unfold EP;by_cases G:n∈o
 . rw [AG G,AG (js _ G)]
 . rw [At G,At (λe=>(iU.1 e).elim h G),kp]
def Ta {o:List BA} (h:o.Nodup) (n:BA):(EP o n).Nodup:=by
 unfold EP;split
 . exact h
 . rename_i M;rw [List.nodup_append];exact ⟨h,AN,λx N y G e=>M (by simp only [i8] at G;rw [<-G,<-e];exact N)⟩
def mem_addN {o:List BA} {n z:BA}:z∈EP o n↔z∈o\/z=n:=by
 unfold EP;split
 . rename_i h;exact ⟨iG,λe=>e.elim id (λe=>e▸h)⟩
 . simp
def Rj (L:List AtV) (s:BA):List BA:=L.foldl (λo a=>if a.s=s then EP o a.n else o) []
def GA (L:List AtV) (a:AtV) (s:BA):Rj (L++[a]) s=if a.s=s then EP (Rj L s) a.n else Rj L s:=by simp [Rj,List.foldl_append]
def LB (L:List AtV) (a:AtV):Bo (L++[a])=EP (Bo L) a.s:=by
 unfold Bo EP;rw [List.foldl_append,List.foldl_cons,List.foldl_nil]
def Kj (L:List AtV):(Bo L).Nodup:=(FK L [] List.nodup_nil).1
def Kk {α:Type} {p:List α->Prop} (h:p []) (G:∀l x,p l->p (l++[x])) (l:List α):p l:=by
 have:∀m:List α,p m.reverse:=λm=>by
  induction m with
  | nil=>exact h
  | cons x m M=>rw [kI];exact G _ _ M
 simpa using this l.reverse
def Ou (L:List AtV) (s:BA):(Rj L s).Nodup:=by
 refine Kk (p:=λL=>(Rj L s).Nodup) (by simp [Rj]) (λL a h=>?_) L;rw [GA];split
 . exact Ta h _
 . exact h
def EQ (L:List AtV) (a:AtV) (s n:BA):Es (L++[a]) s n=Es L s n+if a.s=s/\a.n=n then 1 else 0:=by
 unfold Es;rw [List.countP_append,List.countP_singleton];by_cases h:a.s=s<;>by_cases G:a.n=n<;>simp [h,G]
def Fp (L:List AtV) (a:AtV) (s n:BA):BC (L++[a]) s n=(BC L s n||(decide (a.s=s)&&(decide (a.n=n)&&a.ok))):=by
 unfold BC;rw [List.any_append,List.any_cons,List.any_nil,Bool.or_false]
def VA (L:List AtV) (a:AtV) (s:BA):D6 (L++[a]) s=D6 L s+if a.s=s then 1 else 0:=by
 unfold D6;rw [List.countP_append,List.countP_singleton];by_cases h:a.s=s<;>simp [h]
def KT (L:List AtV) (s n:BA):n∉Rj L s->Es L s n=0/\BC L s n=false:=by
 refine Kk (p:=λL=>n∉Rj L s->Es L s n=0/\BC L s n=false) (λ_=>⟨rfl,rfl⟩) (λL a h G=>?_) L;rw [GA] at G;rw [EQ,Fp];by_cases M:a.s=s
 . rw [AG M,mem_addN,not_or] at G;obtain ⟨N,O⟩:=h G.1;have U:¬a.n=n:=λe=>G.2 e.symm
   simp [N,O,U]
 . rw [At M] at G;obtain ⟨N,O⟩:=h G;simp [N,O,M]
def MV {L:List AtV} {s:BA} (h:s∉Bo L):Rj L s=[]:=by
 revert h;refine Kk (p:=λL=>s∉Bo L->Rj L s=[]) (λ_=>rfl) (λL a M G=>?_) L;rw [LB,mem_addN,not_or] at G;rw [GA,At (λe=>G.2 e.symm),M G.1]
def Zw (L:List AtV) (s:BA):((Rj L s).map λn=>Es L s n).sum=D6 L s:=by
 have V:∀(o:List BA) (f:BA->Nat) (n:BA),o.Nodup->(∀m,m∉o->f m=0)->((EP o n).map λm=>f m+if n=m then 1 else 0).sum=(o.map f).sum+1:=by
  intro o f n hn hf;have X:∀l:List BA,n∉l->(l.map λm=>f m+if n=m then 1 else 0)=l.map f:=λl hl=>List.map_congr_left λm M=>by rw [At (λe=>hl (by rw [e];exact M))];rfl
  induction o with
  | nil=>simp [EP,hf]
  | cons k o Y=>
   obtain ⟨g1,g2⟩:=List.nodup_cons.1 hn;by_cases U:n=k
   . subst U;have:EP (n::o) n=n::o:=by unfold EP;simp
     rw [this,jo,X o g1,List.sum_cons,jo,List.sum_cons];simp only [if_true];omega
   . rw [Ot U,jo,List.sum_cons,jo,List.sum_cons,At U];by_cases G:n∈o
     . have Z:EP o n=o:=by unfold EP;rw [AG G]
       have key:∀l:List BA,l.Nodup->n∈l->(l.map λm=>f m+if n=m then 1 else 0).sum=(l.map f).sum+1:=by
        intro l
        induction l with
        | nil=>intro _ h;cases h
        | cons x l il=>
         intro hx M;obtain ⟨x1,x2⟩:=List.nodup_cons.1 hx;by_cases N:n=x
         . subst N;rw [jo,X l x1,List.sum_cons,jo,List.sum_cons];simp only [if_true];omega
         . rw [jo,List.sum_cons,jo,List.sum_cons,At N,il x2 ((iU.1 M).resolve_left N)];omega
       rw [Z,key o g2 G];omega
     . have Z:EP o n=o++[n]:=by unfold EP;rw [At G]
       have e2:f n=0:=hf n (by simp [G,U]);rw [Z,jJ,List.sum_append,X o G];simp [e2];omega
 refine Kk (p:=λL=>((Rj L s).map λn=>Es L s n).sum=D6 L s) (by simp [Rj,D6]) (λL a Y=>?_) L;rw [GA,VA];by_cases O:a.s=s
 . rw [AG O,AG O,<-Y,<-V (Rj L s) (λn=>Es L s n) a.n (Ou L s) (λm M=>(KT L s m M).1)];congr 1;refine List.map_congr_left λm _=>?_
   rw [EQ];by_cases M:a.n=m<;>simp [O,M]
 . rw [At O,At O,<-Y,kK];congr 1;refine List.map_congr_left λm _=>?_
   rw [EQ,At (λe=>O e.1),kK]
def Ic (L:List AtV) (s n:BA):Value:=.agg #[.int .i64 (Es L s n),.bool (BC L s n)]
def G6 (L:List AtV) (s:BA):List (lB×Value):=(Rj L s).map λn=>(n,Ic L s n)
def FL (f:BA->Value) (n:BA):∀o:List BA,EB (o.map λk=>(k,f k)) n=if n∈o then some (f n) else none
 | []=>rfl
 | k::o=>by
  rw [jo,EB];by_cases h:n=k
  . subst h;simp
  . rw [At h,FL f n o];simp [h]
def MX {f g:BA->Value} {n:BA} (G:∀k,k≠n->f k=g k):∀o:List BA,o.Nodup->Gn (o.map λk=>(k,f k)) n (g n)=(EP o n).map λk=>(k,g k)
 | [],_=>by simp [Gn,EP]
 | k::o,M=>by
  obtain ⟨N,O⟩:=List.nodup_cons.1 M;rw [jo,Gn];by_cases h:n=k
  . subst h;rw [AG rfl];have:EP (n::o) n=n::o:=by unfold EP;simp
    rw [this,jo];congr 1;exact List.map_congr_left λm U=>by rw [G m (λe=>N (e▸U))]
  . rw [At h,Ot h,jo,MX G o O,G k (λe=>h e.symm)]
def PR (L:List AtV) (s n:BA):CK (EB (G6 L s) n) (.agg #[.int .i64 0,.bool false]) false=Ic L s n:=by
 unfold G6;rw [FL (λn=>Ic L s n)];split
 . rfl
 . rename_i h;obtain ⟨G,M⟩:=KT L s n h;simp [CK,Ic,G,M]
def Uj (L:List AtV) (s n:BA) (ok:Bool):Gn (G6 L s) n (Ic (L++[⟨s,n,ok⟩]) s n)=G6 (L++[⟨s,n,ok⟩]) s:=by
 unfold G6;rw [GA,AG rfl];refine MX (f:=λk=>Ic L s k) (g:=λk=>Ic (L++[⟨s,n,ok⟩]) s k) (λk h=>?_) _ (Ou L s);have:¬n=k:=λe=>h e.symm
 simp [Ic,EQ,Fp,this]
def VB (L:List AtV) {s t n:BA} (h:t≠s) (ok:Bool):G6 (L++[⟨t,n,ok⟩]) s=G6 L s:=by
 unfold G6;rw [GA,At h];refine List.map_congr_left λk _=>?_
 simp [Ic,EQ,Fp,h]
def Rk (L:List AtV) (s n:BA) (ok:Bool) (h:BC L s n=false):Ic (L++[⟨s,n,ok⟩]) s n = .agg #[.int .i64 ((Es L s n:Int)+1),.bool ok]:=by
 simp [Ic,EQ,Fp,h]
def RecAt (M:nP) (w:wD) (r:Nat) (L:List AtV):Prop:= ∃bf:BA->Nat,MapB w r ((Bo L).map λs=>(s,.map (some (bf s))))/\M r /\
 (∀s∈Bo L,M (bf s)/\bf s≠r/\MapB w (bf s) (G6 L s)) /\ ∀s∈Bo L,∀t∈Bo L,bf s=bf t->s=t
def RecAt.ext {M:nP} {w w':wD} {r:Nat} {L:List AtV} (h:RecAt M w r L) (x:Ext w w'):RecAt M w' r L:=by
 obtain ⟨bf,O,U,G,V⟩:=h;exact ⟨bf,O.ext x,U,λs N=>⟨(G s N).1,(G s N).2.1,(G s N).2.2.ext x⟩,V⟩
instance {L:List AtV}:LfE w w' (RecAt S w r L) (RecAt S w' r L):=⟨λx h=>Bk.RecAt.ext h x⟩
def RecAt.fr {M:nP} {S:nP} {w w':wD} {r:Nat} {L:List AtV} (h:RecAt M w r L) (x:Fr S w w') (O:∀k,M k -> ¬S k):RecAt M w' r L:=by
 obtain ⟨bf,V,U,G,X⟩:=h;exact ⟨bf,V.fr x (O _ U),U,λs N=>⟨(G s N).1,(G s N).2.1,(G s N).2.2.fr x (O _ (G s N).1)⟩,X⟩
instance {L:List AtV}:LfF S w w' (RecAt T w r L) (∀k,T k -> ¬S k) (RecAt T w' r L):=⟨λx s h=>Bk.RecAt.fr h x s⟩
section
variable {l:Sl} {tab:Tab}
def MapZ (w:wD) (m:Option Nat) (kvs:List (lB×Value)):Prop:=(m=none/\kvs=[]) \/ ∃r,m=some r/\MapIs w r kvs
def Rm {S:wD->Prop} {y:Operand} {O U:Nat} {c:Bool} {k:lB} {z:Value} {kvs:List (lB×Value)} (T:TabOk P tab) (Z:AD tab t=some (.map sz e,O)) (G:AD tab sz=some (.str,U)) (N:((P.info? e).bind (·.zero))=some z)
 (hx:ev l x=some (.map m)) (hy:ev l y=some (str k)) (hm:∀w,S w->MapZ w m kvs):Br P n l S (.lookup t x y c) ty (CK (EB kvs k) z c):=by
 cases m with
 | some r=>
  refine L5 T Z G N hx hy λw hw=>?_
  rcases hm w hw with ⟨h,-⟩|⟨r',h,V⟩
  . cases h
  . obtain rfl:=iQ h;exact V
 | none=>
  unfold Br;intro a w aa pos after g ha hS;have X:kvs=[]:=by
   rcases hm w hS with ⟨-,h⟩|⟨r',h,-⟩
   . exact h
   . cases h
  subst X;have hu:P.underlying t=some (.map sz e):=(T _ _ _ Z).under;have hk:P.underlying sz=some .string:=(T _ _ _ G).under;obtain ⟨i0,z1,z2⟩:∃i,P.info? e=some i/\i.zero=some z:=by
   cases hi:P.info? e with
   | none=>rw [hi] at N;cases N
   | some i=>exact ⟨i,rfl,by simpa [hi] using N⟩
  obtain ⟨o,h1,V,-⟩:=run_findKey hk (k:=k) (es:=[]) (kvs:=[]) rfl w;have Y:(zeroValue e).run P w = .ok z w:=by simp [zeroValue,typeInfo,program,kG,z1,z2,bind,Sem.bind,pure]
  have e1:(Instr.lookup t (.map none) (str k) c).run P w = .ok (CK (EB [] k) z c) w:=by
   simp only [Instr.lookup,iV,AE hu,iP,je,run_checkKey hk,h1];rw [<-V];cases o with
   | none=>simp [Y,CK]
   | some q=>simp [CK]
  simp only [execOp,ha.ev hx,ha.ev hy,iV,e1,iP,je]
def MY {S:wD->Prop} {h:Nat} (T:TabOk P tab) (M:AD tab t=some (.map h e,sz)) (N:ev l x=some (.map m)) (O:m.isNone=q):Br P n l S (.binOp .eql t x (.const (.map none)) r) ty (.bool q):=by
 subst O;unfold Br;intro G w U pos after g V _;have X:P.underlying t=some (.map h e):=(T _ _ _ M).under;have Y:(eqGuard .eql t x (.const (.map none)) (.map m) (.map none)).run P w = .ok () w:=by unfold eqGuard;simp
 have Z:=run_equal_map_nil (P:=P) w t h e m X;have hn:G.eval (.const (.map none)) = .map none:=rfl;simp [execOp,V.ev N,hn,Y,Z,binOp]
def Xp {S:wD->Prop} {p:oA} (T:TabOk P tab) (G:AD tab t=some (.ptr e,sz)) (M:ev l x=some (.pointer p)) (N:p.isNone=q):Br P n l S (.binOp .eql t x (.const (.pointer none)) r) ty (.bool q):=by
 subst N;unfold Br;intro h w O pos after g U _;have V:P.underlying t=some (.pointer e):=(T _ _ _ G).under;have X:(eqGuard .eql t x (.const (.pointer none)) (.pointer p) (.pointer none)).run P w = .ok () w:=by unfold eqGuard;simp
 have Y:(Op.equal t (.pointer p) (.pointer none)).run P w = .ok p.isNone w:=by
  show (Op.equalIn (9999+1) t (.pointer p) (.pointer none)).run P w=_;unfold Op.equalIn;cases p<;>simp [AE V,iP]
 have Z:h.eval (.const (.pointer none)) = .pointer none:=rfl;simp [execOp,U.ev M,Z,X,Y,binOp]
def Fq {S:wD->Prop} {p:Addr} (T:TabOk P tab) (h:AD tab t=some (.ptr e,sz)) (G:ev l x=some (.pointer (some p))):Br P n l S (.binOp .eql t x (.const (.pointer none)) r) ty (.bool false):=Xp T h G rfl
def Zx {S:wD->Prop} {t' h:Nat} (T:TabOk P tab) (G:AD tab t=some (.map h e,sz)) (M:ev l x=some (.map (some r))):Br P n l S (.binOp .eql t x (.const (.map none)) t') ty (.bool false):=MY T G M rfl
def Zy {S:wD->Prop} {h:Nat} (T:TabOk P tab) (G:AD tab t=some (.map h e,sz)) (M:ev l x=some (.map none)):Br P n l S (.binOp .eql t x (.const (.map none)) r) ty (.bool true):=MY T G M rfl
end
def PDsC.move {S S':nP} {w w':wD} {l:List PD} {a:oA} (h:PDsC S w l a) (G:∀b,S b->S' b) (M:∀b o v,S b->w.cell? ⟨b,o,none⟩=some v->w'.cell? ⟨b,o,none⟩=some v):PDsC S' w' l a:=
 h.mono G (λb _ _ _ N ⟨O,pc,ba,bc,h1,h2,h3,h4⟩=>⟨O,pc,ba,bc,Mi h1 (λo v=>M b o v N),h2.move G M,Nd.sits_mono G M _ ba h3,h4⟩)
def EX.sits.move {S S':nP} {w w':wD} {e:EX} {O U G:oA} {vc:Nat} (h:e.sits S w O U G vc) (M:∀b,S b->S' b) (N:∀b o v,S b->w.cell? ⟨b,o,none⟩=some v->w'.cell? ⟨b,o,none⟩=some v):e.sits S' w' O U G vc:=
 have V:=h.p.move M N
 ⟨⟨h.g.vars.move M N,V.pds,Nd.sits_mono M N _ G h.g.main⟩,V,h.room⟩
def EX.sits.wide {S S':nP} {w:wD} {e:EX} {G M N:oA} {vc:Nat} (h:e.sits S w G M N vc) (O:∀b,S b->S' b):e.sits S' w G M N vc:=⟨h.g.wide O,h.p.wide O,h.room⟩
def EX.sits.lt2 {S:nP} {w:wD} {e:EX} {M N G:oA} {vc:Nat} (h:e.sits S w M N G vc):e.sits (λb=>S b/\b<w.heap.size) w M N G vc:=
 have O:=h.p.lt2
 ⟨⟨h.g.vars.lt2,O.pds,Gs _ G h.g.main⟩,O,h.room⟩
def gM (S:nP) (w:wD) (b o:Nat) (e:EX):Prop:= ∃va vc pa pc ma mc,Row w ⟨b,o,none⟩ (e.cells va vc pa pc ma mc)/\e.sits S w va pa ma vc
def EXs (S:nP) (w:wD) (l:List EX) (a:oA):Prop:=Arr S 12 (gM S) w l a
def EXs.ext {S:nP} {w w':wD} {l:List EX} {a:oA} (h:EXs S w l a) (x:Ext w w'):EXs S w' l a:=
 h.mono aFh (λ_ _ _ _ _ ⟨G,vc,pa,pc,ma,mc,h1,h2⟩=>⟨G,vc,pa,pc,ma,mc,h1.ext x,h2.ext x⟩)
instance {l:List EX} {a:oA}:LfE w w' (EXs S w l a) (EXs S w' l a):=⟨λx h=>Bk.EXs.ext h x⟩
def EXs.fr {S T:nP} {w w':wD} {l:List EX} {a:oA} (h:EXs S w l a) (x:Fr T w w') (G:∀b,S b -> ¬T b):EXs S w' l a:=
 h.mono aFh (λb _ _ _ M ⟨N,vc,pa,pc,ma,mc,h1,h2⟩=>⟨N,vc,pa,pc,ma,mc,h1.fr x (G b M),h2.fr x G⟩)
instance {l:List EX} {a:oA}:LfF T w w' (EXs S w l a) (∀b,S b -> ¬T b) (EXs S w' l a):=⟨λx s h=>Bk.EXs.fr h x s⟩
def EXs.ltA {S:nP} {w:wD} {l:List EX} {a:oA} (h:EXs S w l a):EXs (· < w.heap.size) w l a:=by
 rcases h with h|⟨b,o,X,h2,G⟩
 . exact iG h
 . cases l with
   | nil=>exact iG rfl
   | cons p r=>
    obtain ⟨M,vc,N,O,U,V,Y,-⟩:=G 0 p rfl;refine iH ⟨b,o,X,Cs (Y.at0 rfl),λi v Z=>?_⟩;obtain ⟨M,vc,N,O,U,V,k1,k2⟩:=G i v Z;exact ⟨M,vc,N,O,U,V,k1,k2.ltA⟩
def Kl:Shape EX where
 sz:=12
 rep:=λw S e cs=> ∃va vc pa pc ma mc,cs=e.cells va vc pa pc ma mc/\e.sits S w va pa ma vc
 len:=λ⟨_,_,_,_,_,_,h,_⟩=>by rw [h];rfl
 one:=λ⟨_,_,_,_,_,_,h,_⟩=>by rw [h];rfl
 mono:=λ⟨va,vc,pa,pc,ma,mc,h,h1⟩ hS hc=>⟨va,vc,pa,pc,ma,mc,h,h1.move hS hc⟩
 lt:=λ⟨va,vc,pa,pc,ma,mc,h,h1⟩=>⟨va,vc,pa,pc,ma,mc,h,h1.lt2⟩
def OwnQ.exs {R:nP} {B:Nat} {a:oA} {len cap:Nat} {xs:List EX} (h:OwnQ Kl w R B e (.slice a len cap) xs) (U:∀b,R b->S b) (V:∀b,B<=b->b<w.heap.size->S b):EXs S w xs a:=by
 by_cases M:xs=[]
 . exact iG M
 . obtain ⟨g,N,O,X,Y,G⟩:=h.rows M;simp only [jm] at O;obtain ⟨rfl,-,-⟩:=O;refine iH ⟨g,0,rfl,V g X Y,λi x Z=>?_⟩;obtain ⟨cs,hr,va,vc,pa,pc,ma,mc,rfl,h2⟩:=G i x Z;exact ⟨va,vc,pa,pc,ma,mc,by simpa [Kl] using hr,h2.wide U⟩
def MapZ.ext {w w':wD} {m:Option Nat} {kvs:List (lB×Value)} (h:MapZ w m kvs) (x:Ext w w'):MapZ w' m kvs:=h.imp id λ⟨r,h1,h2⟩=>⟨r,h1,h2.ext x⟩
instance {kvs:List (lB×Value)}:LfE w w' (MapZ w m kvs) (MapZ w' m kvs):=⟨λx h=>Bk.MapZ.ext h x⟩
def MapZ.fr {S:nP} {w w':wD} {m:Option Nat} {kvs:List (lB×Value)} (h:MapZ w m kvs) (x:Fr S w w') (G:∀r,m=some r -> ¬S r):MapZ w' m kvs:=h.imp id λ⟨r,h1,h2⟩=>⟨r,h1,h2.fr x (G r h1)⟩
instance {kvs:List (lB×Value)}:LfF S w w' (MapZ w m kvs) (∀r,m=some r -> ¬S r) (MapZ w' m kvs):=⟨λx s h=>Bk.MapZ.fr h x s⟩
def BkAt (M X:nP) (w:wD) (bb:Nat) (es:List EX) (L:List AtV):Prop:= ∃ea ec r,Blk w bb [.slice ea es.length ec,.map (some r)]/\X bb/\EXs X w es ea/\RecAt M w r L/\(∀k,X k -> ¬M k/\k<w.heap.size) /\ ∀k,M k->k<w.heap.size
def BkAt.ext {M X:nP} {w w':wD} {G:Nat} {es:List EX} {L:List AtV} (h:BkAt M X w G es L) (x:Ext w w'):BkAt M X w' G es L:=by
 obtain ⟨U,V,r,Y,Z,h3,h4,O,h6⟩:=h;have:=x.size;exact ⟨U,V,r,Y.ext x,Z,h3.ext x,h4.ext x,λk N=>⟨(O k N).1,by have:=(O k N).2;omega⟩,λk N=>by have:=h6 k N;omega⟩
instance {es:List EX} {L:List AtV}:LfE w w' (BkAt S T w r es L) (BkAt S T w' r es L):=⟨λx h=>Bk.BkAt.ext h x⟩
def BkAt.fr {M X T:nP} {w w':wD} {N:Nat} {es:List EX} {L:List AtV} (h:BkAt M X w N es L) (x:Fr T w w') (O:∀k,X k\/M k -> ¬T k):BkAt M X w' N es L:=by
 obtain ⟨Y,Z,r,h1,U,h3,h4,V,h6⟩:=h;have:=x.size;exact ⟨Y,Z,r,h1.fr x (O _ (iG U)),U,h3.fr x (λk G=>O k (iG G)),h4.fr x (λk G=>O k (iH G)),λk G=>⟨(V k G).1,by have:=(V k G).2;omega⟩,λk G=>by have:=h6 k G;omega⟩
instance {X:nP} {N:Nat} {es:List EX} {L:List AtV}:LfF T w w' (BkAt S X w N es L) (∀k,X k\/S k -> ¬T k) (BkAt S X w' N es L):=⟨λx s h=>Bk.BkAt.fr h x s⟩
def RecAt.look {L:List AtV} (h:RecAt S w r L) (s:BA):∃kvs m,MapIs w r kvs/\CK (EB kvs s) (.map none) false = .map m/\MapZ w m (G6 L s)/\(m.isNone=decide (s∉Bo L)):=by
 obtain ⟨bf,N,U,O,-⟩:=h;by_cases G:s∈Bo L
 . refine ⟨_,some (bf s),N.is,?_,iH ⟨_,rfl,(O s G).2.2.is⟩,by simp [G]⟩;rw [FL (λs=>.map (some (bf s))),AG G];rfl
 . refine ⟨_,none,N.is,?_,iG ⟨rfl,?_⟩,by simp [G]⟩
   . rw [FL (λs=>.map (some (bf s))),At G];rfl
   . unfold G6;rw [MV G];rfl
section
variable {l:Sl} {tab:Tab}
def Dd {S:wD->Prop} {y:Operand} {N h:Nat} {c:Bool} {k:lB} {z:Value} {kvs:List (lB×Value)} (T:TabOk P tab) (O:AD tab t=some (.map N e,h)) (M:AD tab N=some (.str,sz)) (U:((P.info? e).bind (·.zero))=some z)
 (V:ev l x=some (.map (some r))) (X:ev l y=some (str k)) (Y:CK (EB kvs k) z c=v) (Z:∀w,S w->MapIs w r kvs):Br P n l S (.lookup t x y c) ty v:=by
 rw [<-Y];exact L5 T O M U V X Z
def Fx {S:wD->Prop} {y:Operand} {N h:Nat} {c:Bool} {k:lB} {z:Value} {kvs:List (lB×Value)} (T:TabOk P tab) (O:AD tab t=some (.map N e,h)) (M:AD tab N=some (.str,r)) (U:((P.info? e).bind (·.zero))=some z)
 (V:ev l x=some (.map m)) (X:ev l y=some (str k)) (Y:CK (EB kvs k) z c=v) (Z:∀w,S w->MapZ w m kvs):Br P n l S (.lookup t x y c) ty v:=by
 rw [<-Y];exact Rm T O M U V X Z
end
def Tb (M X:nP) (N:Nat) (es:List EX) (L:List AtV) (s n:BA) (w:wD) (U:BkAt M X w N es L) :
 Calls prog 17 #[pt N,str s,str n] w λe w'=>e = .returned (.int .i64 (Es L s n))/\Ext w w':=by
 have V:=Ne w;obtain ⟨ea,ec,r,h1,-,-,Y,-,-⟩:=U;obtain ⟨kvs,m,q1,Z,q3,-⟩:=Y.look s;have O:=PR L s n;unfold Ic at O;refine Ad func17 ntmps17 rfl rfl (eK ?_);refine C1 (Fq Ac rfl rfl) (eK ?_);refine C1 (Dd Ac rfl rfl rfl rfl rfl Z (λh G=>by rw [show h=_ from G];assumption)) (C1 Mv (C1 (Fx Ac rfl rfl rfl rfl rfl O (λh G=>by rw [show h=_ from G];assumption)) (C1 (KE Ac rfl rfl rfl rfl rfl rfl) (kR ?_))));exact ⟨rfl,V⟩
def Rp (L:List AtV) (s:BA):∀a b:List (BA×Int),CE L s (a++b)=CE L s a+CE L s b
 | [],b=>by simp [CE]
 | x::a,b=>by rw [kp,CE,CE,Rp L s a b,Int.add_assoc]
def GI (es:List EX):List (BA×Int):=es.map λe=>(e.name,e.points)
def bM (L:List AtV) (s:BA):∀es:List EX,(∀e∈es,0<=e.points/\e.points<=1000)->0<=CE L s (GI es)/\CE L s (GI es)<=1000*es.length
 | [],_=>by simp [GI,CE]
 | e::es,h=>by
  have N:=bM L s es (λx G=>h x (js _ G));have O:=h e jx;have M:GI (e::es)=(e.name,e.points)::GI es:=rfl;rw [M,CE,iM];simp only;split<;>omega
def Id (M X:nP) (bb:Nat) (es:List EX) (he:es.length<=1000) (hp:∀e∈es,0<=e.points/\e.points<=1000) (L:List AtV) (s:BA) (w:wD) (hb:BkAt M X w bb es L) :
 Calls prog 16 #[pt bb,str s] w λe w'=>e = .returned (.int .i64 (CE L s (GI es)))/\Ext w w':=by
 have O:=Ne w;obtain ⟨ea,ec,r,h,-,G,h4,-,-⟩:=hb;obtain ⟨kvs,m,N,q2,U,-⟩:=h4.look s;have G:=G.ltA;have hv:=λn=>PR L s n
 unfold Ic at hv;have HP:=iF hp;clear h4 hp;refine Ad func16 ntmps16 rfl rfl ?_;refine eK ?_;refine C1 (Fq Ac rfl rfl) (cT (Ba rfl (Ao (Ai (cS (C1 Pa (cT (Aj (cS (C1 Mv (C1 Pn ?_)))))))))));refine C1 Pg (C1 (Pl h) (C1 Pz (C1 Mv (cT ?_))));refine Au ?_;refine AP (ι:=Nat) (λj=>[(0,pt bb),(1,str s),(5,.int .i64 (CE L s (GI (es.take j)))),(13,.slice ea es.length ec),(14,.int .i64 es.length),(15,.int .i64 j)])
  (λj w'=>j<=es.length/\Blk w' bb [.slice ea es.length ec,.map (some r)]/\EXs (· < w.heap.size) w' es ea/\MapIs w' r kvs/\MapZ w' m (G6 L s)/\Ext w w') (λj=>es.length-j) 0 sB ⟨iT _,h,G,N,U,O⟩ ?_
 clear h G N U O;rintro j w1 ⟨hj,h,G,N,U,O⟩;by_cases af:j<es.length
 . obtain ⟨kb,ko,rfl,-,hk⟩:=m5 G Ab;obtain ⟨va,vc,pa,pc,ma,mc,rx,-⟩:=hk j _ (iE af);have aw:=HP.out _ (iS af);have ax:=bM L s (es.take j) (λe he=>HP.out e (jY he));have av:(es.take j).length<=1000:=by rw [jp];omega
   have ab:CE L s (GI (es.take (j+1)))=CE L s (GI (es.take j))+if BC L s es[j].name then es[j].points else 0:=by
    unfold GI;rw [iI af,jJ,Rp];simp [CE]
   clear hk HP;generalize CE L s (GI (es.take j))=sm at *;generalize es[j]=x at *;unfold EX.cells at rx;by_cases hs:BC L s x.name=true
   . have Y:=hv x.name;rw [hs] at Y;rw [AG hs] at ab;refine eK ?_;refine xA [_,_,_,_,_,_,_,_,_,_,_,_] ?_;intro ay az am;refine eI [_,_,_,_,_,_,_,_,_,_,_,_] am ?_;intro ai ac an _ _;revert N U O h G;refine eE an ?_;intro N U O h G;refine eK ?_;refine Aq (λV=>Ext ai V) 8 (.pure 0 (.pure 1 (.pure 2 (.pure 3 (.pure 4 (.pure 5 (.pure 6 (.pure 7 .tail)))))))) mixed AU (Aa (Af (Aa (Aa (Af (Aa Ag)))))) ?_;intro ao ad _;have Z:(λV=>Ext ai V) ao:=ad;simp only at Z;have ag:=ac;have aj:=N;have ak:=h;revert ac N U O h G;refine eE ad ?_;intro ac N U O h G;refine ⟨Z,?_⟩;refine eT ?_;refine Tq rfl (Dd Ac rfl rfl rfl rfl rfl q2 (λV hz=>MapIs.ext Ae hz)) (Tq rfl Pg (Tq rfl (Db ag) ?_));refine Ar rfl (C1 (Fx Ac rfl rfl rfl rfl rfl Y (λV hz=>by rw [show V=_ from hz];assumption)) (C1 (KE Ac rfl rfl rfl rfl rfl rfl) (cT (BP rfl (Al (C1 Mv (C1 Pf (C1 (Pl ac) (C1 V7 (C1 Pa (Ak ?_)))))))))));refine Ah (Ai (Al (C1 V7 (C1 Mv (Ak ?_)))));exact AA (j+1) (by rw [ab];(refine An rfl ?_;refine An rfl ?_;refine An rfl ?_;refine An rfl ?_;refine An rfl ?_;refine An rfl ?_;exact BL)) ⟨Ab,h,G,N,U,O⟩ Ab
   . rw [At hs,Int.add_zero] at ab;have Y:=hv x.name;rw [Bool.not_eq_true] at hs;rw [hs] at Y;refine eK ?_;refine xA [_,_,_,_,_,_,_,_,_,_,_,_] ?_;intro a0 a1 ap;refine eI [_,_,_,_,_,_,_,_,_,_,_,_] ap ?_;intro al aq ar _ _;revert N U O h G;refine eE ar ?_;intro N U O h G;refine eK ?_;refine Aq (λV=>Ext al V) 8 (.pure 0 (.pure 1 (.pure 2 (.pure 3 (.pure 4 (.pure 5 (.pure 6 (.pure 7 .tail)))))))) mixed AU (Aa (Af (Aa (Aa (Af (Aa Ag)))))) ?_;intro au ae _;have aa:(λV=>Ext al V) au:=ae;simp only at aa;have ah:=aq;have aj:=N;have ak:=h;revert N U O h G;refine eE ae ?_;intro N U O h G;refine ⟨aa,?_⟩;refine eT ?_;refine Tq rfl (Dd Ac rfl rfl rfl rfl rfl q2 (λV hz=>MapIs.ext Ae hz)) (Tq rfl Pg (Tq rfl (Db ah) ?_));refine Ar rfl (C1 (Fx Ac rfl rfl rfl rfl rfl Y (λV hz=>by rw [show V=_ from hz];assumption)) (C1 (KE Ac rfl rfl rfl rfl rfl rfl) (cT (Ba rfl (Ao (Ah (Ai (Al (C1 V7 (C1 Mv (Ak ?_)))))))))));exact AA (j+1) (by rw [ab];(refine An rfl ?_;refine An rfl ?_;refine An rfl ?_;refine An rfl ?_;refine An rfl ?_;refine An rfl ?_;exact BL)) ⟨Ab,h,G,N,U,O⟩ Ab
 . obtain rfl:j=es.length:=by omega
   rw [iZ] at *;refine kR ?_;exact ⟨rfl,O⟩
def Gj:∀x y:lB,Op.bytesLess x y=decide (x<y)
 | [],[]=>by simp [Op.bytesLess]
 | [],b::y=>by simp [Op.bytesLess]
 | a::x,[]=>by simp [Op.bytesLess]
 | a::x,b::y=>by
  simp only [Op.bytesLess,Gj x y,List.cons_lt_cons_iff];by_cases h:a<b
  . simp [h]
  . by_cases G:a=b
    . simp [G]
    . simp [h,G]
section
variable {l:Sl} {S:wD->Prop} {t t':TypeId} {y:Operand} {a b:lB}
def Km (G:ev l x=some (str a)) (M:ev l y=some (str b)):Br P n l S (.binOp .lss t x y t') ty (.bool (decide (a<b))):=by
 unfold Br;intro N w O pos after g h _;have e:=Gj a b;simp only [execOp,h.ev G,h.ev M,iV,E0,iP,binOp_string_lss,je,GK,e]
def Rq (O:ev l x=some (str a)) (U:ev l y=some (str b)):Br P n l S (.binOp .gtr t x y t') ty (.bool (decide (b<a))):=by
 unfold Br;intro V w X pos after g N _;have e:=Gj a b;have Y:(!(Op.bytesLess a b||a==b))=decide (b<a):=by
  rw [e];by_cases h:b<a
  . have M:¬a<b:=λG=>List.lt_irrefl _ (List.lt_trans h G)
    have G:¬a=b:=λG=>List.lt_irrefl b (G▸h)
    simp [h,M,G]
  . by_cases M:a=b
    . subst M;simp [List.lt_irrefl]
    . have:a<b:=Decidable.by_contra λG=>M (List.le_antisymm (List.not_lt.1 h) (List.not_lt.1 G))
      simp [h,this]
 simp only [execOp,N.ev O,N.ev U,iV,E0,iP,binOp_string_gtr,je,GK,Y]
end
def Tc (es:List EX) (n:BA):Option Nat:=es.findIdx? (λe=>decide (e.name=n))
def Ie (es:List EX) (n:BA):Int:=match Tc es n with
 | some i=>(i:Int)
 | none=> -1
def Zz (e:EX) (M N O:oA) (vc U V h:Nat) (s:BA) (w:wD) (G:Blk w h [str s]):Calls prog 57 #[.agg (e.cells M vc N U O V).toArray,pt h] w λr w'=>r = .returned (.bool (decide (e.name=s)))/\Ext w w':=by
 have X:=Ne w;unfold EX.cells;refine Ad func57 ntmps57 rfl rfl (cS (eB [_,_,_,_,_,_,_,_,_,_,_,_] ?_));intro Z w2 h4 Y _ _;revert G X;refine eE Y ?_;intro G X;refine kR ?_;exact ⟨rfl,X⟩
def Xq (l:List EX) (hl:l.length<=1000000) (s:BA) (S:nP) (a:oA) (c N:Nat) (w:wD) (G:EXs S w l a) (O:Blk w N [str s]) :
 Calls prog 56 #[.slice a l.length c,.func (.func 57) #[] #[pt N]] w λe w'=>e = .returned (.int .i64 (Ie l s))/\Ext w w':=by
 have X:=Ne w;have G:=G.ltA;refine Ad func56 ntmps56 rfl rfl (cS (C1 Pa (cT (Aj (cS (C1 Mv (C1 Pz (C1 Mv (cT ?_)))))))));refine Au ?_;refine AP (ι:=Nat) (λj=>[(0,.slice a l.length c),(1,.func (.func 57) #[] #[pt N]),(6,.slice a l.length c),(7,.int .i64 l.length),(8,.int .i64 j)])
  (λj w'=>j<=l.length/\EXs (· < w.heap.size) w' l a/\Blk w' N [str s]/\Ext w w'/\(l.take j).findIdx? (λp=>decide (p.name=s))=none)
  (λj=>l.length-j) 0 sB ⟨iT _,G,O,X,rfl⟩ ?_
 rintro j w1 ⟨hj,G,O,X,M⟩;by_cases U:j<l.length
 . obtain ⟨kb,ko,rfl,-,hk⟩:=m5 G Ab;obtain ⟨va,vc,pa,pc,ma,mc,ry,-⟩:=hk j l[j] (iE U);have V:=IY U M;have Y:l[j].name=s->Ie l s=j:=λh=>by
    rw [AG (by simpa using h)] at V;rw [Ie,Tc,IZ V]
   have HX:=iF (λw1 h=>Zz l[j] va pa ma vc pc mc N s w1 h);generalize l[j]=y at *;unfold EX.cells at *
   focus
    refine eK ?_;refine Aw (A9 (fi:=[]) (ca:=[pt N]) AU rfl rfl (HX.out _ Ae) (λ_ _ h=>⟨_,h.1⟩)) rfl ?_ aFh;rintro _ ab ⟨⟨⟩,Z⟩;revert O X G;refine eE Z ?_;intro O X G;refine cT (Az rfl (λaa=>?_) (λaa=>?_));refine kR ?_;rotate_left;refine Ao (Ah (Ai (Al (C1 V7 (C1 Mv (Ak ?_))))));rotate_left
   . exact ⟨by rw [Y Ae],X⟩
   . exact AA (j+1) sB ⟨Ab,G,O,X,V.trans (At (by simpa using Ae))⟩ Ab
 . obtain rfl:j=l.length:=by omega
   rw [iZ] at M;have he:Ie l s = -1:=by rw [Ie,Tc,M]
   rw [he];refine kR ?_;exact ⟨rfl,X⟩
def PS (M:Nat) (es:List EX) (V:es.length<=1000000) (s:BA) (S:nP) (G:oA) (N:Nat) (m:Value) (w:wD) (O:Blk w M [.slice G es.length N,m]) (U:mW m=true) (h:EXs S w es G) :
 Calls prog 30 #[pt M,str s] w λe w'=>e = .returned (.int .i64 (Ie es s))/\Ext w w':=by
 have X:=Ne w;have h:=h.ltA;have Y:=iF (λZ w1 U h2=>Xq es V s (· < w.heap.size) G N Z w1 U h2);refine Ad func30 ntmps30 rfl rfl (cS (eB [_] ?_));intro b1 w2 h4 x5 _ _;revert O X h;refine eE x5 ?_;intro O X h;refine eK ?_;refine C1 (B6 rfl) (cC rfl (Y.out _ _ Ae Ae) ?_);rintro _ w9 ⟨⟨⟩,x8⟩;have X:=X.ext x8;refine kR ?_;exact ⟨rfl,X⟩
def Ov:∀(l:List Nat) (j:Nat) (x:Nat),l[j]? = some x->(l.eraseIdx j).sum+x=l.sum
 | [],j,x,h=>by simp at h
 | y::l,0,x,h=>by
  simp only [ja,iL] at h;simp [h,l9]
 | y::l,j+1,x,h=>by
  have:=Ov l j x (by simpa using h);simp only [List.eraseIdx_cons_succ,List.sum_cons];omega
def KU {α β:Type} (f:α->β):∀(l:List α) (j:Nat),(l.map f).eraseIdx j=(l.eraseIdx j).map f
 | [],_=>by simp
 | x::l,0=>by simp
 | x::l,j+1=>by simp [KU f l j]
def ZA (M X:nP) (bb:Nat) (es:List EX) (L:List AtV) (hL:L.length<=1000000) (s:BA) (hs:s∈Bo L) (w:wD) (hb:BkAt M X w bb es L) :
 Calls prog 39 #[pt bb,str s] w λe w'=>e = .returned (.int .i64 (D6 L s))/\Ext w w':=by
 have N:=Ne w;obtain ⟨ea,ec,r,h1,-,h3,⟨bf,g1,-,g3,-⟩,-,-⟩:=hb;obtain ⟨-,-,g4⟩:=g3 s hs;have hv:CK (EB ((Bo L).map λs=>(s,Value.map (some (bf s)))) s) (.map none) false = .map (some (bf s)):=by
  rw [FL (λs=>.map (some (bf s))),AG hs];rfl
 have ak:=g1.is;have V:=Zw L s;have al:D6 L s<=1000000:=jM (List.countP_le_length ..) hL;unfold G6 at g4;generalize bf s=b2 at *;refine Ad func39 ntmps39 rfl rfl (eK ?_);refine C1 (Dd Ac rfl rfl rfl rfl rfl hv (λwz hz=>by rw [show wz=_ from hz];assumption)) (Aw (Lz Ac rfl rfl Ae) rfl ?_ aFh);rintro _ w6 ⟨r1,rfl,h2,h3,h4,x5⟩;have N:=N.ext x5;refine cT ?_;refine Au ?_;refine AP (ι:=List BA×Nat) (λx=>[(5,.int .i64 x.2),(14,pt r1)])
  (λx w'=> ∃cur,ItM w' r1 b2 (x.1.map λn=>(n,Ic L s n)) cur/\x.2+(x.1.map λn=>Es L s n).sum=D6 L s/\Ext w w') (λx=>x.1.length) (Rj L s,0) sB ⟨none,h4,by simpa using V,N⟩ ?_
 rintro ⟨ns,sm⟩ w7 ⟨cur,h4,h,N⟩;simp only at h4 h;refine nq (m:=[(5,.int .i64 sm),(14,pt r1)]) ?_ sB;cases ns with
 | nil=>
  simp only [lw,List.sum_nil,kK] at h h4;subst h;refine cS (Aw (LA rfl Ae) rfl ?_ aFh);rintro _ am ⟨rfl,rfl⟩;refine kR ?_;exact ⟨rfl,N⟩
 | cons n0 aa=>
  generalize ab:n0::aa=ns at *;have ac:(ns.map λn=>(n,Ic L s n))≠[]:=by rw [<-ab];simp
  refine cS (Aw (MU rfl Ae ac) rfl ?_ aFh);rintro _ ao ⟨O,ap,Y,rfl,G,ad⟩;have N:=N.fr ad Ab;refine C1 Px (cT (Aj (BP rfl (Ao (Ai (Au ?_))))));rw [jl] at Y;obtain ⟨U,Z,rfl⟩:=l7.1 Y;rw [KU] at G;have ae:=Ov (ns.map λn=>Es L s n) O (Es L s U) (by rw [jl,Z];rfl);rw [KU] at ae;have af:Ic L s U = .agg #[.int .i64 (Es L s U),.bool (BC L s U)]:=rfl;have aq:=(List.getElem?_eq_some_iff.1 Z).1;have ag:(ns.eraseIdx O).length<ns.length:=by rw [List.length_eraseIdx];split<;>omega
  rw [af] at G;generalize Es L s U=an at *;generalize BC L s U=sv at *;refine cS (C1 (Os rfl (λwz hz=>by rw [show wz=_ from hz];assumption)) (C1 Px (xA [_,_] ?_)));intro ar au ah;refine eI [_,_] ah ?_;intro av ai aj _ _;revert N G;refine eE aj ?_;intro N G;refine cT (Al (C1 Mv (C1 Pg (C1 (Pl ai) (C1 V7 (C1 Pa (Ak (Ah ?_))))))));exact AA (ns.eraseIdx O,sm+an) sB ⟨_,G,by simp only;omega,N⟩ ag
def KV {α:Type} (lt:α->α->Bool) (x y:α):Int:=if lt x y then -1 else if lt y x then 1 else 0
def ZB (x y:Int):Bool:=decide (x<y)
def Ow (L:List AtV) (ps:List (BA×Int)) (s t:BA):Int:=
 if KV ZB (CE L t ps) (CE L s ps)≠0 then KV ZB (CE L t ps) (CE L s ps)
 else if KV ZB (D6 L s) (D6 L t)≠0 then KV ZB (D6 L s) (D6 L t) else KV Ki s t
def Xr (L:List AtV) (ps:List (BA×Int)) (s t:BA):decide (Ow L ps s t<0)=Oo L ps s t:=by
 unfold Ow Oo KV ZB Ki;refine decide_eq_decide.2 ?_;simp only [decide_eq_true_eq];have X:¬(s<t/\t<s):=λh=>List.lt_irrefl _ (List.lt_trans h.1 h.2)
 rcases Int.lt_trichotomy (CE L t ps) (CE L s ps) with h|h|h
 . simp [h]
 . have G:¬CE L t ps<CE L s ps:=by omega
   have M:¬CE L s ps<CE L t ps:=by omega
   simp only [G,M,if_false,ne_eq,not_true_eq_false,false_or,h,true_and];rcases lk (D6 L s) (D6 L t) with g|g|g
   . simp [g]
   . simp only [g,Nat.lt_irrefl,Int.lt_irrefl,if_false,not_true_eq_false,false_or,true_and];by_cases k:s<t
     . simp [k]
     . simp only [k,if_false,iff_false];split<;>omega
   . have N:¬(D6 L s:Int)<D6 L t:=by omega
     have O:(D6 L t:Int)<D6 L s:=by omega
     have U:¬D6 L s<D6 L t:=by omega
     have V:¬D6 L s=D6 L t:=by omega
     simp [N,O,U,V]
 . have G:¬CE L t ps<CE L s ps:=by omega
   have M:¬CE L s ps=CE L t ps:=by omega
   simp [h,G,M]
def Xs (x:Int) (w:wD):Calls prog 66 #[.int .i64 x] w λe w'=>e = .returned (.bool false)/\Ext w w':=by
 have X:=Ne w;refine Ad func66 ntmps66 rfl rfl (kR ?_);exact ⟨AN,X⟩
def Jn (x:BA) (w:wD):Calls prog 67 #[str x] w λe w'=>e = .returned (.bool false)/\Ext w w':=by
 have X:=Ne w;refine Ad func67 ntmps67 rfl rfl (kR ?_);exact ⟨AN,X⟩
def Xt (x y:Int) (w:wD):Calls prog 38 #[.int .i64 x,.int .i64 y] w λe w'=>e = .returned (.int .i64 (KV ZB x y))/\Ext w w':=by
 have X:=Ne w;unfold KV ZB;refine Ad func38 ntmps38 rfl rfl ?_
 focus
  refine kC (Xs _ _) ?_;rintro _ O ⟨⟨⟩,h⟩;have X:=X.ext h;refine kC (Xs _ _) ?_;rintro _ U ⟨⟨⟩,G⟩;have X:=X.ext G;refine eK ?_;refine Az rfl (λM=>?_) (λM=>?_);refine kR ?_;rotate_left;refine eK ?_;refine Az rfl (λN=>?_) (λN=>?_);refine kR ?_;rotate_left;refine kR ?_;rotate_left
 all_goals exact ⟨by simp [*],X⟩
def cV (x y:BA) (w:wD):Calls prog 40 #[str x,str y] w λe w'=>e = .returned (.int .i64 (KV Ki x y))/\Ext w w':=by
 have X:=Ne w;unfold KV Ki;by_cases h1:x<y
 . refine Ad func40 ntmps40 rfl rfl ?_;refine kC (Jn _ _) ?_;rintro _ w2 ⟨⟨⟩,O⟩;have X:=X.ext O;refine kC (Jn _ _) ?_;rintro _ w5 ⟨⟨⟩,U⟩;have X:=X.ext U;refine eK ?_;refine C1 (Km rfl rfl) (kR ?_);exact ⟨by simp [*],X⟩
 . by_cases h2:y<x
   . refine Ad func40 ntmps40 rfl rfl ?_;refine kC (Jn _ _) ?_;rintro _ V ⟨⟨⟩,h⟩;have X:=X.ext h;refine kC (Jn _ _) ?_;rintro _ Y ⟨⟨⟩,G⟩;have X:=X.ext G;refine eK ?_;refine C1 (Km rfl rfl) (eK ?_);refine C1 (Rq rfl rfl) (kR ?_);exact ⟨by simp [*],X⟩
   . refine Ad func40 ntmps40 rfl rfl ?_;refine kC (Jn _ _) ?_;rintro _ Z ⟨⟨⟩,M⟩;have X:=X.ext M;refine kC (Jn _ _) ?_;rintro _ aa ⟨⟨⟩,N⟩;have X:=X.ext N;refine eK ?_;refine C1 (Km rfl rfl) (eK ?_);refine C1 (Rq rfl rfl) (kR ?_);exact ⟨by simp [*],X⟩
def Jo (l:List EX):Int:=if 100<l.length then 5 else if ∀e∈l,e.valid then (if (l.map (·.name)).Nodup then 0 else 22) else 3
def gN (l:List EX) (w:wD):Ending->wD->Prop:=λe w'=> ∃p k,e = .returned (.tuple #[.pointer p,.int .i64 k])/\k=Jo l/\Ext w w'/\((p=none/\k≠0)\/(k=0 /\ ∃bb M X,p=some ⟨bb,0,none⟩/\BkAt M X w' bb l [] /\ ∀k,X k\/M k->w.heap.size<=k))
def exIV_mem {es:List EX} {n:BA}:0<=Ie es n↔n∈es.map (·.name):=by
 unfold Ie Tc;cases h:es.findIdx? (λe=>decide (e.name=n)) with
 | none=>
  rw [List.findIdx?_eq_none_iff] at h;simp only [List.mem_map];constructor
  . intro G;omega
  . rintro ⟨e,M,rfl⟩;have:=h e M;simp at this
 | some i=>
  obtain ⟨N,G,-⟩:=List.findIdx?_eq_some_iff_getElem.1 h;simp only [List.mem_map];exact ⟨λ_=>⟨_,iS N,by simpa using G⟩,λ_=>by omega⟩
def Xu {es:List EX} {n:BA} (h:n∉es.map (·.name)):Ie es n = -1:=by
 have G:=λM=>h (exIV_mem.1 M)
 unfold Ie at G ⊢;split at G
 . exact absurd (Int.natCast_nonneg _) G
 . rfl
def Td {α:Type} {l:List α} {x:α} (h:l.Nodup) (M:x∉l):(l++[x]).Nodup:=by
 rw [List.nodup_append];exact ⟨h,AN,λa N b G e=>M (by simp only [i8] at G;rw [<-G,<-e];exact N)⟩
set_option maxHeartbeats 8000000 in
def bO (l:List EX) (hw:∀e∈l,e.wf) (hl:l.length<=1000000) (S:nP) (a:oA) (c:Nat) (w:wD) (M:EXs S w l a) :
 Calls prog 13 #[.slice a l.length c] w (gN l w):=by
 have X:=Ne w;have M:=M.ltA;by_cases af:100<l.length
 . have hv:Jo l=5:=AG af;refine Ad func13 ntmps13 rfl rfl ?_;refine kT ?_;exact ⟨_,_,rfl,hv.symm,X,iG ⟨rfl,Ab⟩⟩
 have HV:=iF (λe he S va pa ma vc pc mc w1 h=>KR e (hw e he) S va vc pa pc ma mc w1 h);refine Ad func13 ntmps13 rfl rfl ?_;refine cS (C1 Pa (C1 Pa (cT (Aj (cS (C1 Mv (C1 Pz (C1 V5 (cT (DA (Ao ?_)))))))))));refine Ai (Aj (cS (C1 Mv (C1 Pz (C1 Mv (cT ?_))))));refine Au ?_;refine AP (ι:=Nat) (λj=>[(0,.slice a l.length c),(12,.slice a l.length c),(13,.int .i64 l.length),(14,.int .i64 j)])
  (λj w'=>j<=l.length/\(∀e∈l.take j,e.valid)/\EXs (· < w.heap.size) w' l a/\Ext w w') (λj=>l.length-j) 0 sB ⟨iT _,AN,M,X⟩ ?_
 clear M X;rintro j w1 ⟨hj,ai,M,X⟩;by_cases ab:j<l.length
 . obtain ⟨kb,ko,rfl,-,Y⟩:=m5 M Ab;obtain ⟨va,vc,pa,pc,ma,mc,rx,sx⟩:=Y j l[j] (iE ab);have am:=iF (λ(S:nP) w1 (h:l[j].sits S w1 va pa ma vc)=>HV.out l[j] (iS ab) S va pa ma vc pc mc w1 h);have bd:l[j].valid -> ∀e∈l.take (j+1),e.valid:=λh e he=>by
    rw [iI ab,jD,i8] at he;rcases he with he|rfl
    . exact ai e he
    . exact h
   have be:¬l[j].valid->Jo l=3:=λh=>by
    unfold Jo;rw [At af,At (λh2=>h (h2 _ (iS ab)))]
   clear Y ai HV;generalize l[j]=x at *;unfold EX.cells at *;by_cases hv:x.valid
   . rw [decide_eq_true hv] at am;refine eK ?_;refine xA [_,_,_,_,_,_,_,_,_,_,_,_] ?_;intro cv cw bf;refine eI [_,_,_,_,_,_,_,_,_,_,_,_] bf ?_;intro cx bg bh _ _;revert X M sx;refine eE bh ?_;intro X M sx;refine cN (A3 [_,_,_,_,_,_,_,_,_,_,_,_] Ac rfl rfl rfl bg rfl rfl rfl (cC rfl (am.out _ _ Ae) ?_));rintro _ b4 ⟨⟨⟩,bi⟩;revert X M;refine eE bi ?_;intro X M;refine C1 Pt (cT (Ba rfl (Ao (Ah (Ai (Al (C1 V7 (C1 Mv (Ak ?_)))))))));exact AA (j+1) sB ⟨Ab,bd hv,M,X⟩ Ab
   . rw [decide_eq_false hv] at am;refine eK ?_;refine xA [_,_,_,_,_,_,_,_,_,_,_,_] ?_;intro cy cz bj;refine eI [_,_,_,_,_,_,_,_,_,_,_,_] bj ?_;intro c0 bk bl _ _;revert X sx;refine eE bl ?_;intro X sx;refine cN (A3 [_,_,_,_,_,_,_,_,_,_,_,_] Ac rfl rfl rfl bk rfl rfl rfl (cC rfl (am.out _ _ Ae) ?_));rintro _ b5 ⟨⟨⟩,bm⟩;have X:=X.ext bm;refine kT ?_;exact ⟨_,_,rfl,(be hv).symm,X,iG ⟨rfl,Ab⟩⟩
 . obtain rfl:j=l.length:=by omega
   rw [iZ] at ai;clear HV;have c1:=X.size;refine eK ?_;refine Aw (I3) rfl ?_ aFh;rintro _ c2 ⟨ah,rfl,c3,an,bn,c4⟩;revert M X;refine eE bn ?_;intro M X;refine C1 (xB [_,_]) (eB [_,_] ?_);intro O c5 aj a1 b6 b7;revert an M X;refine eE a1 ?_;intro an M X;refine C1 Pa (cT (Aj (cS (C1 Mv (C1 Pz (C1 Mv (cT ?_)))))));have ao:=iF ai;have ap:=aj.lt;refine Au ?_;refine AP (ι:=Nat×oA×Nat) (λy=>[(6,pt O),(25,.slice a l.length c),(26,.int .i64 l.length),(27,.int .i64 y.1)])
    (λy w'=>y.1<=l.length/\((l.take y.1).map (·.name)).Nodup/\Blk w' O [.slice y.2.1 (l.take y.1).length y.2.2,.map (some ah)]/\OwnQ Kl w' (λb=>O<b) (O+1) 36 (.slice y.2.1 (l.take y.1).length y.2.2) (l.take y.1)/\MapB w' ah []/\EXs (· < w.heap.size) w' l a/\Ext w w'/\O<w'.heap.size) (λy=>l.length-y.1) (0,none,0) sB ⟨iT _,AN,aj,nA,an,M,X,ap⟩ ?_
   clear M X aj an ap ai;rintro ⟨j,ra,rc⟩ w3 ⟨hj,aq,U,G,hm,M,X,ap⟩;simp only at hj aq U G;refine nq (m:=[(6,pt O),(25,.slice a l.length c),(26,.int .i64 l.length),(27,.int .i64 j)]) ?_ sB;have ac:∀q,(jf ra (l.take j).length rc).ownBlock=some q->O<q/\q<w3.heap.size:=λq hq=>⟨G.ge hq,G.lt hq⟩
   have bo:(l.take j).length<=1000000:=by rw [jp];omega
   have G:=G.ltR;by_cases ab:j<l.length
   . obtain ⟨kb,ko,rfl,-,Y⟩:=m5 M Ab;obtain ⟨va,vc,pa,pc,ma,mc,rx,sx⟩:=Y j l[j] (iE ab);have az:=iF (λw1 (h1:Blk w1 O [.slice ra (l.take j).length rc,.map (some ah)]) (h2:OwnQ Kl w1 (λb=>O<b/\b<w3.heap.size) (O+1) 36 (.slice ra (l.take j).length rc) (l.take j))=>PS O (l.take j) bo l[j].name (λb=>O<b) ra rc (.map (some ah)) w1 h1 rfl (h2.exs (λb h=>h.1) (λb h1 h2=>h1)));have ad:=exIV_mem (es:=l.take j) (n:=l[j].name);have a2:=ao.out _ (iS ab);have a3:=iF (λ(S:nP) va vc pa pc ma mc w1 (h:l[j].g.sits S w1 va pa ma)=>Xm l[j].g (LZ a2.2.1.1) S va vc pa pc ma mc w1 h);have ae:l.take j++[l[j]]=l.take (j+1):=(iI ab).symm;have a0:¬(l.map (·.name)).Nodup\/l[j].name∉(l.take j).map (·.name):=by
      by_cases h:l[j].name∈(l.take j).map (·.name)
      . left;intro hn;rw [<-jA j l,jJ,List.nodup_append] at hn;exact hn.2.2 _ h _ (List.mem_map.2 ⟨l[j],jh (i:=0) (by rw [List.getElem?_drop];simp [ab]),rfl⟩) rfl
      . exact iH h
     have a4:¬(l.map (·.name)).Nodup->Jo l=22:=λh=>by
      unfold Jo;rw [At af,AG ao.out,At h]
     have ar:=sx.g;clear Y sx a2 ao;generalize l[j]=x at *;generalize c6:l.take j=ys at *;by_cases hd:x.name∈ys.map (·.name)
     . have c7:0<=Ie ys x.name:=ad.2 hd;have bp:=a4 (a0.resolve_right (λh=>h hd));clear ad a0 a3;generalize Ie ys x.name=ix at *;unfold EX.cells at *;refine eK ?_;refine xA [_,_,_,_,_,_,_,_,_,_,_,_] ?_;intro c8 c9 bq;refine eI [_,_,_,_,_,_,_,_,_,_,_,_] bq ?_;intro da db br _ _;revert X U G;refine eE br ?_;intro X U G;refine kC (az.out _ Ae Ae) ?_;rintro _ b8 ⟨⟨⟩,bs⟩;have X:=X.ext bs;refine kT ?_;exact ⟨_,_,rfl,bp.symm,X,iG ⟨rfl,Ab⟩⟩
     . have a5:=Xu hd;have a6:((ys++[x]).map (·.name)).Nodup:=by rw [jJ];exact Td aq hd
       rw [a5] at az;have dc:=X.size;clear ad a0 a5 a4 hd aq;unfold EX.cells at *;refine eK ?_;refine xA [_,_,_,_,_,_,_,_,_,_,_,_] ?_;intro dd de bt;refine eI [_,_,_,_,_,_,_,_,_,_,_,_] bt ?_;intro df ak bu dg dh;revert hm X M ar U G;refine eE bu ?_;intro hm X M ar U G;refine kC (az.out _ Ae Ae) ?_;rintro _ b9 ⟨⟨⟩,bv⟩;revert ak hm X M ar U G;refine eY bv ?_;intro ca ak hm X M ar U G;refine kQ (a3.out _ _ _ _ _ _ _ _ Ae) ?_;rintro _ cb ⟨bw,bx,bz,b0,b1,b2,⟨⟩,Z,aa,cc,a7⟩;revert ak hm X M U G;refine eY a7 ?_;intro cd ak hm X M U G;refine C1 Pf (eV [_,_,_,_,_,_] [_,_,_,_,_,_,_,_,_,_,_,_] ak ?_);intro av a8 al ce;revert Z aa hm X M;refine eF al ?_;intro Z aa hm X M;clear rx;have U:=U.fr al Ab;have G:=nE G al (λk Y=>⟨by (try dsimp only at Y);omega,λe=>by have:=ac _ e;(try dsimp only at Y);omega⟩);refine cT (Aq (λwz=>Fr ((jf ra ys.length rc).ownBlock=some ·) av wz) 8 (.pure 0 (.pure 1 (.pure 2 (.pure 3 (.pure 4 (.pure 5 (.fork 6 (.fork 7 .tail .none) .none))))))) mixed AU (Af (Aa (Aa (Af (Aa Ag))))) ?_);intro a9 aw _;have N:(λwz=>Fr ((jf ra ys.length rc).ownBlock=some ·) av wz) a9:=mG aw;simp only at N;have au:=a8;have ba:=U;revert Z aa hm X M U G;refine eY aw ?_;intro cf Z aa hm X M U G;refine ⟨N,?_⟩;refine eT ?_;refine Tq rfl (Ap Ac rfl rfl rfl (λwz hz=>mM (mH ba hz (λe=>by have:=ac _ e;omega)) rfl)) (Tq rfl (xL [_,_,_,_,_,_,_,_,_,_,_,_] (λwz hz=>(mH au hz (λe=>by have:=ac _ e;omega)))) ?_);refine AC rfl (xS [_,_,_,_,_,_,_,_,_,_,_,_]) rfl ?_ aFh Ay;rintro _ cg ⟨ch,rfl,ag,ci⟩;have cj:=ag.blk;have bb:=ag.ext;have ck:=ag.pos;have cl:=ag.size;revert N Z aa hm X M U G;refine eE bb ?_;intro N Z aa hm X M U G;refine ⟨N,?_⟩;refine AC rfl (GZ (R:=λb=>O<b) (sh:=Kl) (z:=x) Ac CC rfl rfl rfl rfl AU rfl rfl rfl Ae (λ_ h=>by exact h.1) (mS Ae) ⟨_,_,_,_,_,_,rfl,PG.sits.wide Ae (λb h=>⟨Ab,λe=>by have:=ac _ e;omega⟩),PDsC.wide Ae (λb h=>⟨Ab,λe=>by have:=ac _ e;omega⟩),Ae⟩ Ab Ab) rfl ?_ aFh Ay
       rintro _ cm ⟨cn,bc,rfl,ax,co,cp,V⟩;have cq:=V.size;have N:=mL N V (λk Y=>iG Y);have hm:=MapB.fr hm V (λe=>by have:=ac _ e;omega);have X:=mQ X V (λk Y=>by have:=ac _ Y;omega);have M:=EXs.fr M V (λb U hT=>by have:=ac _ hT;(try dsimp only at U);omega);have U:=mH U V (λe=>by have:=ac _ e;omega);clear G V;refine ⟨N,?_⟩;refine Ar rfl ?_;refine eK ?_;refine eV [_] [_,_] U ?_;intro cr ct ay cu;clear U;have ax:=nE ax ay (λk Y=>⟨λh=>by (try dsimp only at Y h);omega,λe=>by have:=OwnQ.ge Ae e;(try dsimp only at Y);omega⟩);revert hm X M;refine eF ay ?_;intro hm X M;refine Ak (Ah (Ai (Al (C1 V7 (C1 Mv (Ak ?_))))));exact AA (j+1,some ⟨_,0,none⟩,_) sB ⟨by (try dsimp only);omega,by dsimp only;rw [<-ae];exact a6,by dsimp only;rw [<-ae];assumption,by dsimp only;rw [<-ae];assumption,Ae,Ae,Ae,Ab⟩ (by (try dsimp only);omega)
   . obtain rfl:j=l.length:=by omega
     rw [iZ] at *;refine kT ?_;have b3:Jo l=0:=by
      unfold Jo;rw [At af,AG ao.out,AG aq]
     refine ⟨_,_,rfl,b3.symm,X,iH ⟨rfl,O,λk=>k=ah,λk=>O<=k/\k<w3.heap.size,rfl,⟨ra,rc,ah,U,⟨iW _,ap⟩,G.exs (λb h=>⟨Ab,h.2⟩) (λb h1 h2=>⟨Ab,h2⟩),⟨λ_=>0,hm,rfl,λs M=>by simp [Bo] at M,λs M=>by simp [Bo] at M⟩,λk Y=>⟨λe=>by omega,Y.2⟩,λk e=>by omega⟩,λk Y=>?_⟩⟩;rcases Y with Y|Y
     . omega
     . omega
def Cx (r:Int):Int:=if r<0 then 0 else if r%2=1 then r/2+1 else -(r/2)
def Bx (h:Int):List (Int×Int)->Int×Int
 | []=>(0,0)
 | p::l=>((Bx h l).1+p.1,(Bx h l).2+p.2*h)
def Rr (h:Int) (r:Int×Int) (k left:Int):Int:=max 0 (left-1-k*h-r.2)
def bQ (h:Int) (r:Int×Int) (k left:Int):Int:=min (h-1) (left-1-k-r.1)
def If (h:Int) (r:Int×Int):Nat->Int->List (List Int×Int)
 | 0,left=>[([],left)]
 | k+1,left=>(jQ (bQ h r k left-Rr h r k left+1).toNat).flatMap λ(m:Nat)=>(If h r k (left-1-Rr h r k left-m)).map λp=>(Cx (Rr h r k left+m)::p.1,p.2)
def eR (h:Int) (r:Int×Int) (p:Int×Int) (left:Int):Int:=max p.1 ((left-r.2+h-1).tdiv h)
def fH (r:Int×Int) (p:Int×Int) (left:Int):Int:=min p.2 (left-r.1)
def FM (h:Int):List (Int×Int)->Int->List (List (List Int))
 | [],_=>[[]]
 | p::l,left=>(jQ (fH (Bx h l) p left-eR h (Bx h l) p left+1).toNat).flatMap λ(m:Nat)=>
  (If h (Bx h l) (eR h (Bx h l) p left+m).toNat left).flatMap λq=>(FM h l q.2).map λs=>q.1::s
def IM (s:List (List Int)):SV:=⟨s.dropLast,s.getLastD [],[]⟩
def VC (h:Int) (l:List (Int×Int)):List (List (List Int)):=(jQ ((Bx h l).2-(Bx h l).1+1).toNat).flatMap λ(m:Nat)=>FM h l ((Bx h l).1+m)
def LQ (vs:List VD) (b:BoxV):List SV:=if b.ok/\C5 vs then (VC (2*b.v+1) (CY vs b)).map IM else []
def Rs (h:Int) (r:Int×Int):∀(k:Nat) (left:Int),∀q∈If h r k left,q.1.length=k
 | 0,_,q,G=>by
  simp only [If,i8] at G;simp [G]
 | k+1,left,q,G=>by
  simp only [If,List.mem_flatMap,List.mem_map] at G;obtain ⟨m,-,p,M,rfl⟩:=G;simp [Rs h r k _ p M]
def Ru:List (Int×Int)->List (List Int)->Prop
 | [],s=>s=[]
 | p::l,s=> ∃x r,s=x::r/\p.1<=x.length/\(x.length:Int)<=p.2/\Ru l r
def Ox (h:Int):∀(l:List (Int×Int)) (left:Int),(∀p∈l,0<=p.1) -> ∀s∈FM h l left,Ru l s
 | [],_,_,s,G=>by
  simp only [FM,i8] at G;exact G
 | p::l,left,M,s,G=>by
  simp only [FM,List.mem_flatMap,List.mem_map,lm] at G;obtain ⟨m,V,q,N,r,O,rfl⟩:=G;have X:=Rs _ _ _ _ q N;have Y:=M p jx;have Z:p.1<=eR h (Bx h l) p left:=by unfold eR;omega
  have h4:fH (Bx h l) p left<=p.2:=by unfold fH;omega
  exact ⟨q.1,r,rfl,Ab,Ab,Ox h l q.2 (λx U=>M x (by simp [U])) r O⟩
def Oy:∀ {l:List (Int×Int)} {s:List (List Int)},Ru l s->s.length=l.length
 | [],s,h=>by
  have:s=[]:=h;simp [this]
 | p::l,s,⟨x,r,h,_,_,G⟩=>by rw [h];simp [Oy G]
def KW:∀ {l:List (Int×Int)} {s:List (List Int)},Ru l s -> ∀(i:Nat) (p:Int×Int) (x:List Int),l[i]? = some p->s[i]? = some x->p.1<=x.length/\(x.length:Int)<=p.2
 | [],_,_,i,p,x,N,_=>by simp at N
 | p::l,s,⟨y,r,h,O,U,V⟩,i,q,x,M,G=>by
  rw [h] at G;cases i with
  | zero=>
   simp only [ja,iL] at M G;subst M G;exact ⟨O,U⟩
  | succ i=>
   simp only [lF] at M G;exact KW V i q x M G
def Xv {h:Int} (M:∀p∈l,0<=p.1):∀s∈VC h l,Ru l s:=by
 intro s G;unfold VC at G;rw [List.mem_flatMap] at G;obtain ⟨m,-,G⟩:=G;exact Ox h l _ M s G
def Oz {vs:List VD} {b:BoxV}:∀s∈LQ vs b,FitsP vs s:=by
 intro s G;unfold LQ at G;split at G
 . rename_i M;obtain ⟨U,M⟩:=M;rw [List.mem_map] at G;obtain ⟨t,ht,rfl⟩:=G;have V:=Xv (λp hp=>(Pu U M p hp).1) t ht;have X:=Oy V;rw [KL] at X;have hL:(IM t).cells=t.take vs.length:=by
    unfold IM;simp only;rw [List.dropLast_eq_take,X];rfl
   refine ⟨M,?_,?_,iT _,λi v x Y hx=>?_⟩
   . rw [hL,jp];omega
   . have h4:t[vs.length]? = some (t.getLastD []):=by
      rw [List.getLastD_eq_getLast?,List.getLast?_eq_getElem?,X];simp only [Nat.add_sub_cancel];rw [iE Ab];rfl
     have h:=KW V vs.length (0,b.i) _ (by simp [CY]) h4;obtain ⟨-,-,-,O⟩:=U;show (t.getLastD []).length<=4096;simp only at h;omega
   . have N:=(List.getElem?_eq_some_iff.1 Y).1;rw [hL,List.getElem?_take_of_lt N] at hx;have h:=KW V i (JX b v) x (by simp [CY,iN,N,jl,(List.getElem?_eq_some_iff.1 Y).2]) hx;have O:=WW U (M.2 v (jh Y));unfold Ms;unfold JX at h O;split
     . rename_i Z;rw [AG Z] at h O;simp only at h O;omega
     . rename_i Z;rw [At Z] at h;simp only at h;omega
 . simp at G
end Bk
