/- Texts that the proofs of GradebookPlays need. No condition. (Part 7 of 9.) -/
import Derived.Test.YteiiipaobncfgaaGreatPGpl6
set_option linter.unusedSimpArgs false
set_option linter.unusedVariables false
set_option linter.defProp false
set_option maxRecDepth 100000
set_option maxHeartbeats 4000000
open Go.Proofs.Tryz
open Or renaming inl->gA,inr->gB
open Go.Result renaming andThen->gF
open Go renaming Calls->gS
open Except renaming bind->gZ
open Go.Value renaming slice->iA,int->iV,ownBlock->kw
open Nat renaming blt->iC,ble->jW,beq->kk
open Go.Region renaming ready->iH,binds->jM
open List renaming replicate->iK,range->jQ
open Go.DataW renaming trod->iQ
open Go.Builtin renaming zeroCells->jI
open Go.Addr renaming add->jY
open Go.Oper renaming wp->km
open Array renaming replicate->kn
open Go.IntKind renaming wrap->kN
open Go.Sem renaming run->kV
open Bk.Nd renaming size->mF
open Bk.Stp renaming setCur->mX,items->ng
open Bk.EX renaming cells->mZ
namespace Bk
open Go Go.RowKit
section
variable {P:Program} {n:Nat} {l:Sl} {w:wD} {ty:TypeId} {Q:Exit->Act->wD->Prop} {ops:Array Oper} {rest:List Oper} {pos:String} {after:Array Edge} {A:Ending->wD->Prop} {B:List PanicEntry->wD->Prop} {D:List Deferred}
def US {f:FuncId} {fn:Func} {c:Code} {args:lV} {R:Ending->wD->Prop}
 (M:P.funcs[f]? = some fn) (X:fn.ntmps=n) (N:fn.body=some c) (O:jW args.length n=true) (h:CW P n c (bodyPostD P fn R) (Gr 0 args) w):Calls P f args.toArray w R:=by
 unfold CW at h;refine calls_of_wp_defers M N (h _ ?_);have U:args.length<=n:=by simpa using O
 refine ⟨by simp;omega,rfl,λd v V=>?_⟩;obtain ⟨-,G⟩:=F6 d v args 0 V;simp only [kP] at G;have:d<args.length:=by
  rcases gQ d args.length with h|h
  . exact h
  . rw [gM h] at G;cases G
 rw [fY this] at G;simp only [gE] at G;simp [lD,this,G]
def WR {x:Operand} {f:Fn} {fi ca:Array Value} (G:ev l x=some (.func f fi ca)) (k:RO P [⟨.fn f ca,fi⟩] n ops Q rest l w):LW P n ops Q (⟨none,.defer ⟨.value x,#[],#[]⟩,ty,pos,after,none⟩::rest) l w:=by
 unfold RO at k;unfold LW;intro a h;unfold wpList;rw [AT (Bd rfl)];left;have e:(execOp a.eval ⟨none,.defer ⟨.value x,#[],#[]⟩,ty,pos,after,none⟩).run P w = .ok (.defer ⟨.fn f ca,fi⟩) w:=by
  simp [execOp,resolve,h.ev G,Deferred.ofValue,gF]
 unfold km;rw [e];refine k _ ⟨⟨h.size,rfl,h.has⟩,?_⟩;show _::a.defers=_;rw [h.defers]
def UT {f:FuncId} {x:Operand} {fi ca:lV} {xs:List Operand} {tys:Array TypeId} {vs:lV} {d:Nat} (U:BU P f=true) (V:ev l x=some (.func (.func f) fi.toArray ca.toArray)) (N:evs l xs=some vs) (X:iC d n=true) (C:Calls P f (fi++vs++ca).toArray w (TK A B))
 (Y:∀e w1,A e w1 -> ∃v,e = .returned v) (k:∀v w1,A (.returned v) w1->RO P D n ops Q rest ((d,v)::l) w1) (O:∀c w1,B c w1->Jq D n Q (.panic c) l w1) :
 RO P D n ops Q (⟨some d,.call ⟨.value x,xs.toArray,tys⟩,ty,pos,after,none⟩::rest) l w:=by
 unfold RO at k ⊢;unfold Jq at O;intro a M;unfold wpList;rw [AT (Bd rfl)];left;have G:xs.map a.eval=vs:=M.1.evs N;have e:(execOp a.eval ⟨some d,.call ⟨.value x,xs.toArray,tys⟩,ty,pos,after,none⟩).run P w = .ok (.enter f (fi++vs++ca).toArray) w:=by
  simp only [execOp,resolve,M.ev V,Deferred.ofValue,gO,hH,gF,invoke];rw [DA U];simp [<-G]
 unfold km;rw [e];refine iY C λe w1 h=>?_
 rcases h with h|⟨c,rfl,h⟩
 . obtain ⟨v,rfl⟩:=Y e w1 h;exact k v w1 h _ (M.put X v)
 . exact O c w1 h a M
def My {K:Act->wD->Prop} {c:List PanicEntry} (h:Jq D n Q (.panic c) l w):Jq D n (Exit.then K Q) (.panic c) l w:=by unfold Jq at h ⊢;exact h
def NM {fn:Func} {R:Ending->wD->Prop} {e:Exit} {u u':FrameMode} {f:FuncId} {fi ca:lV} {t G sz:Nat} {s:Sk} {tab:Tab} {b:Nat} (N:(e = .ret/\u = .returning) \/ ∃c,e = .panic c/\u = .panicking c) (V:BU P f=true)
 (h:fn.results = #[.cell t G]) (T:TabOk P tab) (X:AB tab G=some (s,sz)) (Y:s.agg=false) (Z:look l t=some (.pointer (some ⟨b,0,none⟩))) (hu:settle u' = .returning)
 (C:CallsD P f (fi++ca).toArray u w λe O w1=>O=u'/\e = .returned (.tuple #[]) /\ ∃v,Blk w1 b [v]/\R (.returned v) w1):Jq [⟨.fn (.func f) ca.toArray,fi.toArray⟩] n (bodyPostD P fn R) e l w:=by
 unfold Jq;intro a U;have key:Leaves P fn a.tmps R a.defers u w:=by
  rw [U.2];refine leaves_cons (f:=f) (args:=(fi++ca).toArray) ?_ ?_ (CallsD.mono C ?_)
  . rcases N with ⟨-,rfl⟩|⟨c,-,rfl⟩<;>simp
  . simp only [invoke];rw [DA V];simp
  . rintro e1 O w1 ⟨rfl,rfl,v,M,hR⟩;simp only;rw [hu];exact ⟨v,PX h T X Y (U.1.has t _ Z) (M.cell rfl),hR⟩
 rcases N with ⟨rfl,rfl⟩|⟨c,rfl,rfl⟩<;>exact key
def Mz {f:FuncId} {fn:Func} {t d id:Nat} {V Y:TypeId} {N O:String} {G M:Array Edge} {y:Code} {args:lV} {u u':FrameMode} {v:Value} {R:Ending->wD->Prop}
 (hf:P.funcs[f]? = some fn) (hn:fn.ntmps=n) (hb:fn.body=some (.seq (.region id #[⟨some t,.call ⟨.builtin .recover,#[],#[]⟩,V,N,G,none⟩,⟨some d,.assign (.tmp t),Y,O,M,none⟩] false) y)) (hl:jW args.length n=true) (ht:iC t n=true) (hd:iC d n=true)
 (hr:∀(c:Frame) (cs:List Frame),c.mode=u->recoverD (c::cs)=some (v,{ c with mode:=u' }::cs)\/(recoverD (c::cs)=none/\v = .nilIface/\u'=u))
 (h:CW P n y (bodyPost P fn R) ((d,v)::(t,v)::Gr 0 args) w):CallsD P f args.toArray u w λe Z w'=>Z=u'/\R e w':=by
 unfold CW at h;refine callsD_of_wpS hf hb λc₀ cs hu=>wpS_seq (wpS_region ?_)
 have aa:Env n (Gr 0 args) { tmps:=args.toArray++kn (fn.ntmps-args.toArray.size) undef,defers:=[] }:=by
  have ae:args.length<=n:=by simpa using hl
  refine ⟨by simp;omega,rfl,λd v hv=>?_⟩;obtain ⟨-,U⟩:=F6 d v args 0 hv;simp only [kP] at U;have:d<args.length:=by
   rcases gQ d args.length with h|h
   . exact h
   . rw [gM h] at U;cases U
  rw [fY this] at U;simp only [gE] at U;simp [lD,this,U]
 generalize ({ tmps:=args.toArray++kn (fn.ntmps-args.toArray.size) undef,defers:=[] }:Act)=a at *;have ab:∀(c1:Frame),c1={ c₀ with mode:=u' }->wpOpsS P #[⟨some t,.call ⟨.builtin .recover,#[],#[]⟩,V,N,G,none⟩,⟨some d,.assign (.tmp t),Y,O,M,none⟩] (Exit.thenS (y.wpS P (bodyPostS P fn c₀ cs λe Z w'=>Z=u'/\R e w')) (bodyPostS P fn c₀ cs λe Z w'=>Z=u'/\R e w')) [1] (a.put (some t) v) (c1::cs) w:=λc1 ac=>by
  have he:=aa.put ht v;have ad:(a.put (some t) v).eval (.tmp t)=v:=he.ev (by simp [ev,Hs]);simp only [wpOpsS,List.getElem?_toArray,lx,gX];rw [AT (Bd rfl)];simp only [execOp,hH,ad,Oper.upon];refine wpS_of_wp (wp_mono (h _ (he.put hd v)) λe a1 w1 X=>?_);subst ac;cases e with
  | normal=>
   obtain ⟨q1,v1,q2,q3⟩:=X;exact ⟨q1,u',rfl,v1,q2,rfl,q3⟩
  | ret=>
   obtain ⟨q1,v1,q2,q3⟩:=X;exact ⟨q1,u',rfl,v1,q2,rfl,q3⟩
  | panic c=>
   obtain ⟨q1,q3⟩:=X;exact ⟨q1,u',rfl,rfl,q3⟩
  | outgrown=>exact ⟨u',rfl,X⟩
  | exit i=>exact X
  | goto i=>exact X
 simp only [lS,gH,iM,show jQ 2=[0,1] from rfl];unfold wpOpsS;simp only [List.getElem?_toArray,gX];rw [AT (Bd rfl)];have e1:(execOp a.eval ⟨some t,.call ⟨.builtin .recover,#[],#[]⟩,V,N,G,none⟩).run P w = .ok .recover w:=by
  simp [execOp,resolve,invoke,builtin,gF]
 rw [e1];simp only;rcases hr c₀ cs hu with h1|⟨h1,U,h3⟩
 . rw [h1];exact ab _ rfl
 . rw [h1];subst U;refine ab _ ?_;rw [h3,<-hu]
end
open Go.Proofs
attribute [local irreducible] Go.Calls
section
variable {c:RC} {P P':nP} {w w':wD} {r:Rn} {T:nP}
def Run.away (h:Run c P w r) (x:Fr T w w') (V:∀k,T k->P k /\ ¬c.S k):Run c P w' r:=by
 obtain ⟨ρ,κ,X,Y,Z,h4,⟨es,h5,h6⟩,h7,h8,h9,O,M⟩:=h;have hs:=x.size;have U:∀k,dE (ρ k) -> ¬T k:=λk G N=>(M k (V k N).1).1 G
 exact ⟨ρ,κ,X,Y,Z,h4.fr x (U _ (by rw [X];exact gB (gA rfl))),⟨es,h5,h6.fr x (U _ (by rw [Y];exact gB (gB rfl)))⟩,h7.fr x (λk G N=>U k (gA N) G),h8,h9.frS x (λk G N=>(V k N).2 G),O,λk G=>⟨(M k G).1,by have:=(M k G).2;omega⟩⟩
def WS (h:Nat) (w:wD) (G:Blk w h [.slice none 0 0,.bool false]):Calls prog 159 #[.pointer (some ⟨h,0,none⟩)] w λe w'=>e = .returned (.int .i64 0)/\Ext w w':=by
 have X:=Ne w;refine Ad func159 ntmps159 rfl rfl (eK ?_);refine C1 (A2 Ac rfl rfl) (kR ?_);exact ⟨rfl,X⟩
def WT (h G M:Nat) (w:wD):CallsD prog 160 #[.pointer (some ⟨h,0,none⟩),.pointer (some ⟨G,0,none⟩),.pointer (some ⟨M,0,none⟩)] .returning w λe u w'=>u = .returning/\e = .returned (.tuple #[])/\Ext w w':=by
 have X:=Ne w;refine Mz (args:=[_,_,_]) (v:=.nilIface) func160 ntmps160 rfl rfl rfl rfl (λc cs N=>gB ⟨by simp [recoverD,N],rfl,rfl⟩) (eK ?_);refine C1 (TM Ac rfl rfl) (eK ?_);refine EA rfl ?_;exact ⟨rfl,X⟩
def Sd (b2 b5 N X:Nat) (V e0:Int) (w:wD) (h2:Blk w b2 [.pointer (some ⟨X,0,none⟩)]) (Y:Blk w X [.slice none 0 0,.bool false]) (h5:Blk w b5 [.int .i64 0]) (M:Blk w N [.int .i64 e0]) (ad:N<w.heap.size) :
 CallsD prog 160 #[.pointer (some ⟨b2,0,none⟩),.pointer (some ⟨b5,0,none⟩),.pointer (some ⟨N,0,none⟩)] (.panicking (Mu V)) w λe u w'=>u = .panicking [{ v:=.iface 240 (.agg #[.int .i64 V]),recovered:=true }]/\e = .returned (.tuple #[])/\Blk w' N [.int .i64 V]/\Fr (· = N) w w':=by
 have F:=mx (· = N) w;have HL:=fZ (λw1 h=>WS X w1 h);refine Mz (args:=[_,_,_]) (v:=.iface 240 (.agg #[.int .i64 V])) func160 ntmps160 rfl rfl rfl rfl (λc cs hc=>gA (by simp [recoverD,hc,Mu])) ?_;refine eK ?_;refine C1 (Vw Ac rfl rfl) ?_;refine eK ?_;refine Ap (λZ=>Ext w Z) 3 (.pure 0 (.pure 2 (.fork 1 .tail .none))) mixed AR (Aa (Aa Ag)) ?_;intro w1 x2 _;have G:(λZ=>Ext w Z) w1:=x2;simp only at G;have O:=h2;have U:=h5;revert Y M F;refine eE x2 ?_;intro Y M F;refine ⟨G,?_⟩;refine Tq rfl (Db O) (Tq rfl (Db U) ?_);refine tC rfl rfl (HL.out _ Af) ?_;rintro _ w7 ⟨⟨⟩,x6⟩;revert G M F;refine eE x6 ?_;intro G M F;refine ⟨G,?_⟩;refine Aq rfl ?_;refine eK ?_;refine C1 (Rs AR rfl) ?_;refine eK ?_;refine xA [_] ?_;intro b9 ae aa;refine eI [_] aa ?_;intro af ag ab _ _;revert M F;refine eE ab ?_;intro M F;refine eK ?_;refine eS [_] M ?_;intro ah ai ac _;clear M h2 Y h5;have F:=F.fr ac Ab;refine Al (Bi rfl ?_);exact ⟨rfl,Af,F⟩
def bD (c:RC) (P:nP) (Z:Except Int Rn) (w:wD):Ending->wD->Prop:=λe w'=> ∃er,e = .returned (.int .i64 er)/\((er=0 /\ ∃r,Z = .ok r/\Run c P w' r)\/(er≠0/\Z = .error er))/\Fr (λk=> ¬P k) w w'
def UU {V:Nat} {f:FuncId} {ca:lV} (hb:BU prog f=true) {Z:Except Int Rn} (hz:Z≠.error 0) (w:wD) (hP:∀k,P k->k<w.heap.size) (hS:∀k,c.S k->P k) (aa:P V) (M:Blk w V [.slice none 0 0,.bool false])
 (HC:∀w1,Ext w w1->Calls prog f ca.toArray w1 (Dz c (Cc P w w1) Z w1)) :
 Calls prog 119 #[.pointer (some ⟨V,0,none⟩),.func (.func f) #[] ca.toArray] w (bD c P Z w):=by
 have X:=Ne w;have HL:=fZ (λw1 h=>WS V w1 h);have HC:=fZ HC;refine US (args:=[_,_]) func119 ntmps119 rfl rfl (cS (eB [_] ?_));intro Y w2 O x5 p6 z7;revert M X;refine eE x5 ?_;intro M X;refine eA [_] ?_;intro b8 w9 G ab ag ah;revert O M X;refine eE ab ?_;intro O M X;refine eK ?_;refine C1 (A2 Ac rfl rfl) (eK ?_);refine C1 (Jc Ac rfl rfl) (kC (HL.out _ Af) ?_);rintro _ ai ⟨⟨⟩,ac⟩;revert G O M X;refine eY ac ?_;intro aj G O M X;refine xA [_] ?_;intro N ak ad;refine eI [_] ad ?_;intro al ae af am an;revert G O M X;refine eE af ?_;intro G O M X;refine cT (Aj (Ak (CB (BW rfl) rfl (WR rfl (GI (Dw (H7 (Ep (Fs (Aw rfl) rfl (UT (fi:=[]) (vs:=[]) (ca:=ca) (xs:=[]) hb rfl rfl rfl (HC.out _ X) (λ_ _ h=>h.ret) ?_ ?_))))))))))
 . rintro v w1 ⟨r,he,hr,hv,F⟩;obtain rfl:=Ending.returned.inj he;have h8:=G.fr F (λh=>h (gB ⟨Ab,Ab⟩));refine GI (Dw (H7 (Ep (JX Ac rfl rfl rfl rfl rfl h8 λw3 h9 F2=>GI (Dw (Jr (NM (u':=.returning) (fi:=[]) (ca:=[.pointer (some ⟨Y,0,none⟩),.pointer (some ⟨N,0,none⟩),.pointer (some ⟨b8,0,none⟩)]) (gA ⟨rfl,rfl⟩) AR rfl Ac rfl rfl rfl rfl ((WT Y N b8 w3).mono ?_))))))));rintro e u w4 ⟨rfl,rfl,x4⟩;have F3:Fr (λk=> ¬P k) w w4:=(((mt X).fr F (λk U=>gA (λh=>U (gA h)))).fr F2 (λk U=>gA (λh=>by have:=hP k h;omega))).ext x4;exact ⟨rfl,rfl,_,h9.ext x4,0,rfl,gA ⟨rfl,r,hr,((hv.away F2 (λk U=>⟨gB ⟨Ab,Ab⟩,λh=>by have:=hP k (hS k h);omega⟩)).ext x4).less hS (λk=>gA)⟩,F3⟩
 . rintro ch w1 ⟨er,he,rfl,F⟩;have h8:=G.fr F (λh=>h (gB ⟨Ab,Ab⟩));refine My (NM (u':=.panicking [{ v:=.iface 240 (.agg #[.int .i64 er]),recovered:=true }]) (fi:=[]) (ca:=[.pointer (some ⟨Y,0,none⟩),.pointer (some ⟨N,0,none⟩),.pointer (some ⟨b8,0,none⟩)]) (gB ⟨_,rfl,rfl⟩) AR rfl Ac rfl rfl rfl rfl ((Sd Y N b8 V er 0 w1 (O.fr F (λh=>h (gB ⟨Ab,Ab⟩))) (M.fr F (λh=>h (gA aa))) (ae.fr F (λh=>h (gB ⟨Ab,Ab⟩))) h8 h8.lt).mono ?_));rintro e u w4 ⟨rfl,rfl,h9,F2⟩;have F3:Fr (λk=> ¬P k) w w4:=((mt X).fr F (λk U=>gA (λh=>U (gA h)))).fr F2 (λk U=>gA (λh=>by have:=hP k h;omega));exact ⟨rfl,rfl,_,h9,er,rfl,gB ⟨λe=>hz (e▸he),he⟩,F3⟩
end
structure SV.small (s:SV):Prop where
 few:s.cells.length<=1000000
 each:∀xs∈s.cells,xs.length<=1000000
 tin:s.tin.length<=1000000
 tout:s.tout.length<=1000000
structure ResV where
 st:SV
 steps:Int
 err:Int
abbrev ResV.row (r:ResV) (a:oA) (c:Nat) (ta:oA) (tc:Nat) (oa:oA) (oc:Nat):lV:=[.slice a r.st.cells.length c,.slice ta r.st.tin.length tc,.slice oa r.st.tout.length oc,.int .i64 r.steps,.int .i64 r.err]
end Bk
namespace Bk
open Go Go.RowKit Go.Proofs
variable {n m c:Nat} {G:List (Int×Int)} {w w':wD} {Q:Exit->Act->wD->Prop} {J:(nP)->List SV->wD->Prop} {P:Program} {F:List (List Int)} {v:List VD} {xs:List Int} {h:Int} {st:Stp} {R:Ending->wD->Prop} {e:Ending} {A:nP} {S:List SV} {l:Sl} {x:Operand} {s:SV} {ty:TypeId} {α:Type} {b:Value} {vs:lV} {g:PG}
def CK (vs:List VD) (s:SV) (j:Nat):Stp:=⟨s.cells.take j,⟨vs.take j,jQ j,0⟩,[],s.tin,s.tout⟩
def NewS (B sb:Nat) (st:Stp) (w:wD):Prop:= ∃ ρ κ,(∀k,k<B->ρ k = .none)/\StoreAt ρ κ w sb st
def eW (B sb:Nat) (st:Stp) (w:wD):Ending->wD->Prop:=λe w'=>e = .returned (.tuple #[])/\NewS B sb st w'/\Fr (λk=>B<=k) w w'
def WU {B sb:Nat} (h:NewS B sb st w) (O:st.calls=[]) (hl:∀c∈st.base.cells,c<st.heap.length) (hv:st.base.vars.length<=1000000) (hn:st.base.cells.length<=1000000) (hB:B<=sb) (ap:B<=w.heap.size)
 (v:VD) (xs:List Int) (u:Value) (cb:Nat) (w1:wD) (X:Ext w w1) (af:w.heap.size<=cb) (hb:Blk w1 cb [u]) (hu:OwnI w1 w.heap.size u xs) (ag:u.ownBlock≠some cb) :
 Calls prog 158 #[.pointer (some ⟨sb,0,none⟩),v.val,.pointer (some ⟨cb,0,none⟩)] w1 (eW B sb { st with base:=⟨st.base.vars++[v],st.base.cells++[st.heap.length],st.base.locals⟩,heap:=st.heap++[xs] } w1):=by
 obtain ⟨ρ,κ,h0,h⟩:=h;have V:st.cur=st.base:=by unfold Stp.cur;rw [O];rfl
 obtain ⟨fb,fo,pre,post,T,vv,vc,ah,ab,M,hf,U⟩:=h.open;obtain ⟨rfl,rfl⟩:fb=sb/\fo=0:=by
  obtain ⟨_,_,_,_,_,_,-,h2|h2⟩:=ah
  . exact h2.2
  . rw [O] at h2;exact absurd h2.1 AQ
 have N:st.calls.length=0:=by rw [O];rfl
 rw [N,V] at hf;rw [V] at M;have ai:fb<w.heap.size:=M.1.blk.lt;have ac:=hb.lt;obtain ⟨Y,aj,Z,ad⟩:∃Y,w.heap.size<=Y/\Y<w1.heap.size /\ ∀k,u.ownBlock=some k->k=Y:=by
  cases hu0:u.ownBlock with
  | none=>exact ⟨cb,af,ac,λk G=>by cases G⟩
  | some g=>exact ⟨g,(hu.lt hu0).1,(hu.lt hu0).2,λk G=>(gJ G).symm⟩
 obtain ⟨k1,k2,k3,k4,k5,k6⟩:=QM (κ:=κ) (n:=st.heap.length) hf h.fresh ai ab (λc O=>by have:=hl c O;omega) w1 cb Y X af aj ac Z;have ak:Win w1 fb 0 [vv,vc,.int .i64 st.base.locals] pre post T:=M.ext X;have aa:=Tg (κ:=O6 κ st.heap.length cb) st.base v st.heap.length fb 0 pre post T vv vc (.int .i64 st.base.locals) w1 k1 ak k2 k3 hv hn;rw [show JP (O6 κ st.heap.length cb) st.heap.length = .pointer (some ⟨cb,0,none⟩) by unfold JP O6;rw [AT rfl]] at aa;refine aa.mono ?_;rintro e w' ⟨al,am,ρ',rfl,q1,q2,q3,q4,q5⟩;have eo:∀b,b<w.heap.size->FB ρ st.heap.length cb Y b=ρ b:=λb hb=>by unfold FB;rw [AC Ab,AC Ab]
 have hr:Ro ρ ρ' w:=λb hb=>by rw [q1 b Ab,eo b hb]
 have F:Fr (Fc ρ st.calls.length fb) w w':=(mt X).fr q5 (λk G=>by rw [N];exact k4 k G);have hκ:∀c,c≠st.heap.length->O6 κ st.heap.length cb c=κ c:=λc O=>AC O
 have h1:=U ρ' (O6 κ st.heap.length cb) w' ⟨st.base.vars++[v],st.base.cells++[st.heap.length],st.base.locals⟩ al am hr q2 (λf hf c an=>hκ c (by rw [O] at hf;obtain rfl:=iB.1 hf;have:=hl c an;omega)) (λc O=>hκ c Ab) F q3 (by rw [N];exact q4);have ao:st.setCur ⟨st.base.vars++[v],st.base.cells++[st.heap.length],st.base.locals⟩={ st with base:=⟨st.base.vars++[v],st.base.cells++[st.heap.length],st.base.locals⟩ }:=by unfold mX;rw [AT O]
 rw [ao] at h1;have ae:CellAt ρ' (O6 κ st.heap.length cb) w' st.heap.length xs:=by
  refine ⟨?_,u,?_,?_,λk G=>?_⟩
  . rw [show O6 κ st.heap.length cb st.heap.length=cb from AT rfl,q1 cb ac];exact AT rfl
  . rw [show O6 κ st.heap.length cb st.heap.length=cb from AT rfl];exact hb.fr q5 k5
  . exact (hu.low (λ_ _=>gI _)).fr q5 (λk G hS=>by rw [ad k G] at hS;exact k6 hS)
  . rw [ad k G,q1 Y Z];unfold FB;rw [AC (λe=>ag (by rw [G,ad k G,e])),AT rfl]
 refine ⟨rfl,⟨ρ',O6 κ st.heap.length cb,λk G=>by rw [hr k Ab,h0 k G],h1.newCell ae⟩,q5.weaken (λk G=>?_)⟩;rcases gQ k B with h|h
 . exfalso;have e1:FB ρ st.heap.length cb Y k = .none:=by rw [eo k Ab,h0 k h]
   unfold Fc at G;rw [e1] at G;rcases G with rfl|G|G
   . omega
   . cases G
   . cases G
 . exact h
attribute [local irreducible] Go.Calls
def UV (vs:List VD) (s:SV) (j:Nat) (G:j<vs.length) (h:j<s.cells.length):({ CK vs s j with base:=⟨(CK vs s j).base.vars++[vs[j]],(CK vs s j).base.cells++[(CK vs s j).heap.length],(CK vs s j).base.locals⟩,heap:=(CK vs s j).heap++[s.cells[j]] }:Stp)=CK vs s (j+1):=by
 simp only [CK,iE,lu (Nat.le_of_lt h),gC G,gC h,List.range_succ]
def CloneI (B:Nat) (xs:List Int) (w:wD):Ending->wD->Prop:=λe w'=> ∃a c,e = .returned (.slice a xs.length c)/\OwnI w' B (.slice a xs.length c) xs/\(∀k,(iA a xs.length c).ownBlock=some k->k<w'.heap.size)/\Ext w w'
def CloneI.ret {B:Nat} (h:CloneI B xs w e w'):∃v,e = .returned v:=by
 obtain ⟨_,_,h,-⟩:=h;exact ⟨_,h⟩
def WV (xs:List Int) (M:xs.length<=1000000) (B:Nat) (S:nP) (a:oA) (c:Nat) (w:wD) (N:B<=w.heap.size) (h:Rows S w (AX xs) a):Calls prog 88 #[.slice a xs.length c] w (CloneI B xs w):=
 (Fo xs M a c w (FX h)).mono λ_ _ ⟨a,c,h1,h2,h3,h4⟩=>⟨a,c,h1,h2.low (λk G=>by have:=h3 k G;omega),λk G=>(h3 k G).2,h4⟩
def FitsP.each {vs:List VD} (h:FitsP vs s):∀xs∈s.cells,xs.length<=1000:=λxs M=>by
 obtain ⟨⟨X,N⟩,Y,Z,h5,O⟩:=h;obtain ⟨i,U,rfl⟩:=List.mem_iff_getElem.1 M;have G:=O i vs[i] s.cells[i] (fY Ab) (fY U);have V:=N vs[i] (gK _);unfold M0 CV at G;unfold IN at V;split at G
 . exact G
 . split at G<;>omega
def FitsP.small {vs:List VD} {s:SV} (h:FitsP vs s):s.small:=
 ⟨by have:=h.1.1;have:=h.2.1;omega,λxs G=>by have:=h.each xs G;omega,by have:=h.2.2.1;omega,by have:=h.2.2.2.1;omega⟩
def NewR (vs:List VD) (s:SV) (w:wD):Ending->wD->Prop:=λe w'=> ∃sb,e = .returned (.tuple #[.pointer (some ⟨sb,0,none⟩),.int .i64 0])/\NewS w.heap.size sb (CK vs s vs.length) w'/\w.heap.size<=sb/\Ext w w'
def NewR.ret {vs:List VD} (h:NewR vs s w e w'):∃v,e = .returned v:=by
 obtain ⟨_,h,-⟩:=h;exact ⟨_,h⟩
def NewS.first {B sb tb:Nat} {w1:wD} {vs:List VD} {ρ:Nat->Rl} (hB:B<=w'.heap.size) (N:w'.heap.size<=w1.heap.size) (O:Ro (λ_=>.none) ρ w') (U:TapeAt ρ w1 tb s.tin s.tout) (X:Ext w1 w) (hs:sb=w1.heap.size) (V:w.heap.size=sb+1) (G:Blk w sb [.slice none 0 0,.slice none 0 0,.int .i64 0,.slice none 0 0,.pointer (some ⟨tb,0,none⟩)]):NewS B sb (CK vs s 0) w:=by
 have Y:Ro ρ (λb=>if b=sb then .store else if b<sb then ρ b else .none) w1:=λb G=>by
  simp only;rw [AC Ab,AT Ab]
 have M:=(U.ro Y (gP _)).ext X;refine ⟨_,λ_=>0,λk h=>?_,AT rfl,λb G=>?_,⟨_,_,_,tb,[],G,⟨⟨?_,λk h=>by cases h⟩,?_,λk h=>by cases h⟩,⟨?_,λk h=>by cases h⟩,?_,M⟩,λc xs Z=>?_⟩
 . rw [AC Ab,AT Ab];exact O k Ab
 . rw [AC Ab,AC Ab]
 . exact nm
 . exact nm
 . exact nm
 . rfl
 . simp [CK] at Z
def NewS.low {B sb:Nat} (h:NewS B sb st w) (O:n<=B):NewS n sb st w:=by
 obtain ⟨ρ,κ,M,N⟩:=h;exact ⟨ρ,κ,λk U=>M k Ab,N⟩
def dH (vs:List VD) (s:SV) (hf:FitsP vs s) (S:nP) (a ca ta oa:oA) (c cc tc oc:Nat) (w:wD) (N:VDs S w vs a) (hv:s.sits S w ca ta oa) :
 Calls prog 118 #[.slice a vs.length c,.agg (s.row ca cc ta tc oa oc).toArray] w (NewR vs s w):=by
 have X:=Ne w;have hn:=hf.1.1;have ah:=hf.2.1;replace N:VDs (· < w.heap.size) w vs a:=N.lt2.wide λ_ h=>h.2
 have hv:=hv.ltA;have HF:=fZ (λw1 h1 h2=>(aG vs Ab s (· < w.heap.size) a ca ta oa c cc tc oc w1 Ab h1 h2).mono (R':=λe w'=>e = .returned (.bool true)/\Ext w1 w') λe w' ⟨q,h1,h2,h3⟩=>⟨by rw [h1,h2.2 hf],h3⟩);have HT:=fZ (λw1 h1 h2=>aN (λ_=>.none) s.tin s.tout hf.2.2.1 hf.2.2.2.1 ta oa tc oc w1 (FX (S:=(· < w.heap.size)) h1) (FX (S:=(· < w.heap.size)) h2));have Hf:=fZ hf;clear hf;have Z:=hv.tin;have aa:=hv.tout;have G:=hv.cells;change Calls prog _ #[_,.agg #[.slice ca s.cells.length cc,.slice ta s.tin.length tc,.slice oa s.tout.length oc]] w _;refine Ad func118 ntmps118 rfl rfl ?_;refine cS (eB [_,_,_] ?_);intro b1 w2 O x5 p6 z7;revert X N hv Z aa G;refine eE x5 ?_;intro X N hv Z aa G;refine kC (HF.out _ Af Af) ?_;rintro _ w9 ⟨⟨⟩,x8⟩;revert O X N Z aa G;refine eY x8 ?_;intro bq O X N Z aa G;refine kQ (HT.out _ Af Af) ?_;rintro _ av ⟨a9,ba,⟨⟩,aw,br,ax,ay⟩;revert O X N G;refine eY ay ?_;intro az O X N G;refine C1 Mv (C1 Px (C1 Px (C1 Pa (C1 Pa (cT (Aj (cS (C1 Mv (C1 V2 (cT (MS ?_)))))))))));refine Am (Ai ?_);have ai:=fZ ax;have U:=Ne av;refine eK ?_;refine C1 (xB [_,_,_,_,_]) (eB [_,_,_,_,_] ?_);intro ac a0 aj a1 a2 a3;revert O X N G U;refine eE a1 ?_;intro O X N G U;refine C1 Pa (cT (Aj (cS (C1 Mv (C1 Pz (C1 Mv (cT ?_)))))))
 have hN:NewS (b1+1) ac (CK vs s 0) a0:=NewS.first Ab az aw ai.out U a2 a3 aj;have a4:b1+1<=ac:=by omega
 clear U aj ai HF HT Z aa hv;refine As ?_;refine AF (ι:=Nat) (λj=>[(3,.pointer (some ⟨b1,0,none⟩)),(8,.pointer (some ⟨ac,0,none⟩)),(28,.slice a vs.length c),(29,.int .i64 vs.length),(30,.int .i64 j)])
  (λj w'=>j<=vs.length/\NewS (b1+1) ac (CK vs s j) w'/\Blk w' b1 [.slice ca s.cells.length cc,.slice ta s.tin.length tc,.slice oa s.tout.length oc]/\VDs (· < w.heap.size) w' vs a/\ICs (· < w.heap.size) w' s.cells ca/\Ext w w'/\b1+1<=w'.heap.size) (λj=>vs.length-j) 0 sB ⟨gI _,hN,O,N,G,X,Ab⟩ ?_
 clear hN O N G X;rintro j w3 ⟨hj,hN,O,N,G,X,hz⟩;by_cases ak:j<vs.length
 . obtain ⟨kb,ko,rfl,kS,hk⟩:=mM N Ab;obtain ⟨db,bs,rfl,dS,hd⟩:=G.get (by intro e;rw [e] at ah;simp at ah;omega);have rx:=hk j _ (fY ak);obtain ⟨xa,xc,ry,Y⟩:=hd j _ (fY Ab);have bt:=Hf.out.each s.cells[j] (gK _);have g1:∀c∈(CK vs s j).base.cells,c<(CK vs s j).heap.length:=λc hc=>by simp only [CK,lN,iE] at hc ⊢;omega
   have g2:(CK vs s j).base.vars.length<=1000000:=by simp only [CK,iE];omega
   have g3:(CK vs s j).base.cells.length<=1000000:=by simp only [CK,List.length_range];omega
   have HA:=fZ (WU hN rfl g1 g2 g3 a4 hz vs[j] s.cells[j]);have ab:=UV vs s j ak Ab;rw [ab] at HA;clear hk hd ab hN;generalize vs[j]=x at *;generalize s.cells[j]=xs at *;have HX:=fZ (λw1 hB (h:Rows (· < w.heap.size) w1 (AX xs) xa)=>WV xs Ab w3.heap.size (· < w.heap.size) xa xc w1 hB h);obtain ⟨xn,xk,xl⟩:=x;replace rx:Row w3 ⟨kb,ko+j*3,none⟩ [str xn,.int .u8 xk,.int .i64 xl]:=rx;unfold VD.val at HA;dsimp only at HA;have a5:=fZ (λ(u:Value) (cb:Nat) (w1:wD) (X:Ext w3 w1) (a6:w3.heap.size<=cb) (hb:Blk w1 cb [u]) (hu:OwnI w1 w3.heap.size u xs) (b2:Nat) (h1:∀k,u.ownBlock=some k->k<b2) (h2:b2<=cb)=>HA.out u cb w1 X a6 hb hu (λe=>by have:=h1 _ e;omega));clear HA;have U:=Ne w3;refine eK ?_;refine eA [_,_,_] ?_;intro bu bv a7 a8 bw bx;revert X N O G ry Y U;refine eE a8 ?_;intro X N O G ry Y U;refine C1 Pa (eS [_,_,_] a7 ?_);intro al am an bb;revert X N O G ry Y U;refine eF an ?_;intro X N O G ry Y U;refine cT (Ap (λwz=>Ext al wz) 12 (.pure 0 (.pure 1 (.pure 2 (.pure 3 (.pure 4 (.pure 5 (.pure 6 (.pure 7 (.pure 8 (.fork 9 (.pure 10 (.fork 11 .tail .none)) .none)))))))))) mixed AR (Ae (Aa (Aa (Ae (Aa Ag))))) ?_);intro ao ae _;have M:(λwz=>Ext al wz) ao:=ae;simp only at M;have ad:=am;have bc:=O;have ap:=ry;revert X N O G Y U;refine eY ae ?_;intro bd X N O G Y U;refine ⟨M,?_⟩;refine eT ?_;refine Tq rfl (xL [_,_,_] (λwz hz=>(my ad hz))) ?_;refine eT ?_;refine Tq rfl (Ar Ac rfl rfl rfl (λwz hz=>mE (mw ap hz) rfl)) ?_;refine tC rfl rfl (HX.out _ Ab Af) ?_;rintro _ be ⟨bf,bg,⟨⟩,af,bh,aq⟩;revert M X N O G U;refine eY aq ?_;intro bi M X N O G U;refine ⟨M,?_⟩;refine Tq rfl (xB [_]) ?_
   refine Ax rfl (GZ rfl rfl) rfl ?_ aFh Au;rintro _ bj ⟨bk,rfl,V⟩;have bl:=V.blk;have ar:=V.ext;have bm:=V.pos;have bn:=V.size;revert af M X N O G U;refine eE ar ?_;intro af M X N O G U;refine ⟨M,?_⟩;refine Aq rfl (cC rfl (a5.out _ _ _ Af Ab Af Af _ Af Ab) ?_);rintro _ bo ⟨⟨⟩,au,ag⟩;have bp:=ag.size;revert X N O G;refine eF ag ?_;intro X N O G;refine Al (Ah (Ai (Ak (C1 V7 (C1 Mv (Al ?_))))));exact Av (j+1) sB ⟨Ab,au,O,N,G,X,Ab⟩ Ab
 . obtain rfl:j=vs.length:=by omega
   refine kT ?_;exact ⟨_,rfl,hN.low Ab,Ab,X⟩
def Stp.sv (st:Stp):SV:=⟨(st.base.cells.take (st.base.cells.length-st.base.locals)).map st.items,st.tin,st.tout⟩
def F4 (l:List (List Int)) (j:Nat):List (List Int):=l.take j++iK (l.length-j) []
def Se (l:List (List Int)) (j:Nat) (h:j<=l.length):(F4 l j).length=l.length:=by simp [F4];omega
def Sf (l:List (List Int)) (j:Nat) (h:j<l.length):(F4 l j).set j l[j]=F4 l (j+1):=by
 unfold F4;have G:(l.take j).length=j:=by simp;omega
 have M:(iK (l.length-j) ([]:List Int))=[]::iK (l.length-(j+1)) []:=by
  rw [show l.length-j=(l.length-(j+1))+1 by omega,l8]
 rw [kW _ _ Ab,G,kp,M,lQ,gC h,iG];rfl
def Sg (l:List (List Int)):F4 l l.length=l:=by simp [F4]
def ArrS.ics {C D g:Nat} {xs:List (List Int)} (h:ArrS EF C D w g xs) {S:nP} (M:S g) (N:∀b,C<=b->b<D->S b):ICs S w xs (some ⟨g,0,none⟩):=
 gB ⟨g,0,rfl,M,λi x O=>by
  obtain ⟨cs,U,a,c,rfl,V⟩:=h.row O;exact ⟨a,c,U,V.wide (λb G=>N b G.1 G.2)⟩⟩
section
variable {ρ:Nat->Rl} {κ:Nat->Nat} {K:List (Int×Int)} {sb:Nat}
def bE {tb:Nat} {ti to:List Int} (w:wD) (h:TapeAt ρ w tb ti to):Calls prog 163 #[.pointer (some ⟨tb,0,none⟩)] w (CloneS ti w):=
 (dC ρ tb ti to w h).mono λ_ _ ⟨a,c,h1,h2,h3,h4⟩=>⟨a,c,h1,h2.rowsI h3,h4⟩
def Zo {tb:Nat} {ti to:List Int} (w:wD) (h:TapeAt ρ w tb ti to):Calls prog 164 #[.pointer (some ⟨tb,0,none⟩)] w (CloneS to w):=
 (aM ρ tb ti to w h).mono λ_ _ ⟨a,c,h1,h2,h3,h4⟩=>⟨a,c,h1,h2.rowsI h3,h4⟩
def Stp.WF.items_le (G:st.WF K m) (c:Nat):(st.items c).length<=1000000:=by
 rcases gQ c K.length with h|h
 . exact (G.cell c _ (fY h)).le
 . unfold ng;rw [gY,gM (by rw [G.len];exact h)];exact gI _
def StoreAt.read (h:StoreAt ρ κ w sb st) (O:∀c∈st.base.cells,c<st.heap.length):∃M ca cc N tb,Blk w sb [M,.slice ca st.base.cells.length cc,.int .i64 st.base.locals,N,.pointer (some ⟨tb,0,none⟩)]/\TapeAt ρ w tb st.tin st.tout /\
 (st.base.cells≠[] -> ∃g,ca=some ⟨g,0,none⟩/\g<w.heap.size /\ ∀i c,st.base.cells[i]? = some c -> ∃a e,Row w ⟨g,0+i*1,none⟩ [.pointer (some ⟨κ c,0,none⟩)]/\Blk w (κ c) [.slice a (st.items c).length e]/\Rows (· < w.heap.size) w (AX (st.items c)) a):=by
 obtain ⟨h1,-,⟨M,bc,N,tb,cs,V,X,h4,h5,Y⟩,h7⟩:=h;rcases X.c.1.row with ⟨rfl,Z,-⟩|⟨g,cap,rfl,-,-,hr⟩
 . refine ⟨M,none,0,N,tb,by rw [Z];exact V,Y,λG=>absurd (List.length_eq_zero_iff.1 Z) G⟩
 . refine ⟨M,_,_,N,tb,V,Y,λG=>⟨g,rfl,(X.c.1.blk (k:=g) rfl).2,λi c hi=>?_⟩⟩;have hc:=O c (iI hi);obtain ⟨-,v,k1,k2⟩:=h7 c (st.items c) (by unfold ng;rw [gY,fY hc];rfl);obtain ⟨a,e,rfl⟩:=k2.1.shape;refine ⟨a,e,λj v U=>?_,k1,(k2.1.rowsI (S:=λ_=>True) (λ_ _=>trivial)).ltA⟩;cases j with
   | zero=>
    simp only [gX,gE] at U;subst U;have:=hr.at (i:=i) (v:=JP κ c) (by rw [iD,hi];rfl);rw [kI,show (⟨g,0+i,none⟩:Addr).add 0=⟨g,0+i,none⟩ by simp [jY]];simpa using this
   | succ j=>simp at U
def Zp (hw:st.WF K m) (hm:m<=1000000) (w:wD) (h:StoreAt ρ κ w sb st):Calls prog 122 #[.pointer (some ⟨sb,0,none⟩)] w (SvR st.sv w):=by
 have X:=Ne w;have H:=fZ h;have ag:∀c∈st.base.cells,c<st.heap.length:=λc hc=>hw.cells_lt AQ hc
 have a9:st.base.cells.length<=1000000:=by have:=hw.base.len;have:=hw.vb _ (jH ..);omega
 have ay:st.base.locals<=st.base.cells.length:=by have:=hw.base.len;have:=hw.base.loc;omega
 have ak:∀c,(st.items c).length<=1000000:=hw.items_le;obtain ⟨bv,ca,cc,cv,tb,hb,ht,hr⟩:=h.read ag;clear h;refine Ad func122 ntmps122 rfl rfl ?_;refine cS (eA [_,_,_] ?_);intro b1 w2 O x6 p7 z8;revert X hb;refine eE x6 ?_;intro X hb;refine eK ?_;refine C1 (A2 Ac rfl rfl) ?_;refine eK ?_;refine Ap (λwz=>Ext w2 wz) 11 (.pure 0 (.pure 1 (.pure 2 (.pure 3 (.pure 4 (.pure 5 (.pure 6 (.pure 7 (.pure 8 (.pure 9 (.pure 10 .tail))))))))))) mixed AR (Aa Ag) ?_;intro w9 al _;have ac:(λwz=>Ext w2 wz) w9:=al;simp only at ac;have V:=hb;revert O X;refine eY al ?_;intro ba O X;refine ⟨ac,?_⟩;refine Tq rfl Mv (Tq rfl Pn (Tq rfl Pg (Tq rfl Pf (Tq rfl (Db V) (Tq rfl Pz (Tq rfl Mv (Tq rfl Pn (Tq rfl Pg (Tq rfl Pf (Tq rfl (Db V) ?_))))))))));refine Aq rfl (C1 (AL rfl rfl (gG _ Ab)) (C1 Pa (cT ?_)));obtain ⟨M,hM⟩:∃M,M=st.base.cells.length-st.base.locals:=⟨_,rfl⟩;rw [show ((st.base.cells.length:Int)-(st.base.locals:Int))=(M:Int) by omega];obtain ⟨L,hL⟩:∃L,L=st.sv.cells:=⟨_,rfl⟩
 have ah:L.length=M:=by rw [hL,hM];simp [Stp.sv]
 clear hb ht hr;refine eK ?_;refine Az (Dj (sh:=EF) (C:=w9.heap.size+1) (D:=w9.heap.size+1) (N:=M) (z:=[]) Ac Ca rfl rfl rfl rfl AR rfl rfl Ab (λ_ _=>⟨none,0,rfl,gA rfl⟩)) rfl ?_ aFh;rintro _ bb ⟨ab,rfl,ai,bc,bd,ar⟩;revert O X;refine eE ar ?_;intro O X;refine C1 Pa (cT (Aj (cS (C1 Mv (C1 Pz (C1 Mv (cT ?_)))))));have e0:iK M []=F4 L 0:=by simp [F4,ah]
 rw [e0] at ai;refine As ?_;refine AF (ι:=Nat) (λj=>[(0,.pointer (some ⟨sb,0,none⟩)),(2,.pointer (some ⟨b1,0,none⟩)),(4,.slice (some ⟨ab,0,none⟩) M M),(24,.int .i64 M),(25,.int .i64 j)])
  (λj w'=>j<=M/\ArrS EF (w9.heap.size+1) w'.heap.size w' ab (F4 L j)/\Blk w' b1 [.slice none 0 0,.slice none 0 0,.slice none 0 0]/\Ext w w'/\w9.heap.size+1<=w'.heap.size) (λj=>M-j) 0 sB ⟨gI _,ai.wide Ab,O,X,Ab⟩ ?_
 clear ai O X e0;rintro j w3 ⟨hj,U,O,X,hz⟩;obtain ⟨bv,ca,cc,cv,tb,hb,ht,hr⟩:=(H.out.ext X).read ag;by_cases az:j<M
 . obtain ⟨g,rfl,be,ad⟩:=hr (by intro e;rw [e] at hM;simp at hM;omega);obtain ⟨a,e,r1,r2,r3⟩:=ad j st.base.cells[j] (fY Ab);have am:L[j]=st.items st.base.cells[j]:=by simp [hL,Stp.sv]
   have Y:=Sf L j Ab;have bf:=Se L j Ab;have HX:=fZ (Hh (st.items st.base.cells[j]) (ak _) (· < w3.heap.size) a e);rw [am] at Y;clear ad hr am ag ak;generalize st.base.cells[j]=c at *;generalize st.items c=x at *;refine kQ (HX.out _ Af) ?_;rintro _ bg ⟨bh,bi,⟨⟩,bj,au⟩;revert U O X;refine eY au ?_;intro bk U O X;refine C1 Pi (A9 (FJ (sh:=EF) (j:=j) (z:=x) (us:=[_]) Ac rfl rfl rfl rfl rfl rfl Af Ab Ab Ab ⟨_,_,rfl,nd Af (λb h=>by omega)⟩) (BK ?_));rintro _ a0 ⟨av,aj,bl⟩;have a1:=aj.size;clear U;revert O X;refine eF aj ?_;intro O X;clear ht hb r1 r2 r3 aj;refine Al (Ah (Ai (Ak (C1 V7 (C1 Mv (Al ?_))))));exact Av (j+1) sB ⟨Ab,by rw [<-Y];exact av.wide Ab,O,X,Ab⟩ Ab
 . obtain rfl:j=M:=by omega
   rw [<-ah,Sg] at U;clear hr;have HI:=fZ (λw1 h=>bE (ρ:=ρ) (tb:=tb) (ti:=st.tin) (to:=st.tout) w1 h);have HO:=fZ (λw1 h=>Zo (ρ:=ρ) (tb:=tb) (ti:=st.tin) (to:=st.tout) w1 h);refine eK ?_;refine Ap (λwz=>Ext w3 wz) 11 (.pure 0 (.pure 1 (.pure 2 (.pure 3 (.pure 4 (.pure 6 (.pure 7 (.pure 8 (.pure 9 (.fork 5 (.fork 10 .tail .none) .none)))))))))) mixed AR (Aa Ag) ?_;intro aw an _;have G:(λwz=>Ext w3 wz) aw:=an;simp only at G;have V:=hb;revert U O X ht;refine eY an ?_;intro bm U O X ht;refine ⟨G,?_⟩;refine eT ?_;refine tC rfl rfl (HI.out _ Af) ?_;rintro _ a2 ⟨ao,bn,⟨⟩,Z,ax⟩;revert G U O X ht;refine eY ax ?_;intro a3 G U O X ht;refine ⟨G,?_⟩;refine tC rfl rfl (HO.out _ Af) ?_;rintro _ a4 ⟨ae,a5,⟨⟩,aa,ap⟩;revert Z G U O X;refine eY ap ?_;intro a6 Z G U O X;refine ⟨G,?_⟩;refine Aq rfl (C1 (xB [_,_,_]) (eS [_,_,_] O ?_));intro a7 aq af a8;revert aa Z U X;refine eF af ?_;intro aa Z U X;clear hb ht af;refine kX aq ?_;exact ⟨some ⟨ab,0,none⟩,j,ao,_,ae,_,(by show _=Ending.returned (.agg #[.slice (some ⟨ab,0,none⟩) st.sv.cells.length j,.slice ao st.tin.length _,.slice ae st.tout.length _]);rw [<-hL,ah]),⟨by rw [<-hL];exact U.ics ⟨Ab,Ab⟩ (λb h1 h2=>⟨Ab,Ab⟩),Z.wide (λb h=>⟨Ab,Ab⟩),aa.wide (λb h=>⟨Ab,Ab⟩)⟩,X⟩
end
def QY {k:Int} {s:lB} {i:Nat} (h:k≠54) (G:k≠55):CS k s i v=v:=by
 unfold CS;rw [AC (λe=>h e.1),AC (λe=>G e.1)]
def Sh (ps:List PD) (v:List VD):List Nd->Nat
 | []=>0
 | t::r=>t.flt ps v+Sh ps v r
def NN {ps:List PD} {v:List VD} {k:Int} {s:lB} (h:k≠54) (G:k≠55):∀(l:List Nd) (i:Nat),C6 ps v k s i l=Sh ps v l
 | [],_=>by rw [C6,Sh]
 | t::r,i=>by rw [C6,Sh,QY h G,NN h G r]
def NO {ps:List PD} {k n:Int} {s:lB} {l:List Nd} (h:k≠54) (G:k≠55) (M:k≠50) (N:k≠51):(Nd.mk k n s l).flt ps v=Oh (CH ps v k s l.length)+Sh ps v l:=by
 rw [Nd.flt,AC Ab,NN h G]
def NZ {α:Type} (X:Except Int α):Prop:=X≠.error 0
def NZ.bind {α β:Type} {X:Except Int α} {K:α->Except Int β} (h:NZ X) (G:∀v,NZ (K v)):NZ (X.bind K):=by
 cases X with
 | error e=>exact λM=>h (by simpa [gZ] using M)
 | ok v=>exact G v
def WW (v:α):NZ (Except.ok v:Except Int α):=by unfold NZ;simp
def FN (r:Rn):NZ (Bn r):=by unfold NZ Bn;split<;>simp
def MA (f:Stp->Int×Stp) (r:Rn):NZ (C4 f r):=by
 unfold NZ C4;split
 . rename_i h;intro e;exact h (by simpa using e)
 . simp
def MB (t:Nd) (r:Rn):NZ (B5 t r):=by
 unfold NZ B5;split
 . rename_i h;intro e;exact h (by simpa using e)
 . simp
def MC (t:Nd) (r:Rn):NZ (BY t r):=(FN r).bind λr=>(MB t r).bind λ_=>WW _
def Kg (t:Nd) (b:Bool) (r:Rn):NZ (BI t b r):=(MC t r).bind λp=>by unfold NZ;split<;>simp
def WX {f:Nd->Rn->Except Int Rn} (h:∀t r,NZ (f t r)):∀(l:List Nd) (r:Rn),NZ (Ga f l r)
 | [],r=>WW r
 | t::l,r=>(h t r).bind λr=>WX h l r
def QZ {f:Bool->Nd->Rn->Except Int Rn} (h:∀b t r,NZ (f b t r)) (b:Bool) (t:Nd) (r:Rn):NZ (A0 f b t r):=WX (λt r=>h b t r) _ r
def Tn {h G:Rn->Except Int Rn} {x y:Nd} (M:∀r,NZ (h r)) (N:∀r,NZ (G r)):∀(m:Nat) (r:Rn),NZ (Cz h G x y m r)
 | 0,r=>by unfold NZ Cz;simp
 | m+1,r=>by
  unfold Cz;refine (M r).bind λr=>(MC x r).bind λp=>?_
  split
  . exact WW _
  . exact (N _).bind λr=>(Kg y false r).bind λr=>Tn M N m r
def To (ps:List PD):∀(d:Nat) (b:Bool) (t:Nd) (r:Rn),NZ (AI ps d b t r)
 | 0,b,t,r=>by unfold NZ AI;simp
 | d+1,b,.mk k n s l,r=>by
  have h:=QZ (To ps d);unfold AI;simp only;split
  . exact (MC _ r).bind λp=>(h b _ _).bind λr=>Kg _ _ r
  split
  . exact (Kg _ _ r).bind λr=>Tn (h b _) (h b _) d r
  split
  . exact (FN r).bind λr=>(MB _ r).bind λv=>(MA _ r).bind λr=>(h b _ r).bind λr=>(FN r).bind λr=>(MB _ r).bind λv=>MA _ r
  split
  . exact (FN r).bind λr=>(MA _ r).bind λr=>(h b _ r).bind λr=>(FN r).bind λr=>MA _ r
  split
  . exact (FN r).bind λr=>(MA _ r).bind λr=>(h _ _ r).bind λr=>(FN r).bind λr=>MA _ r
  . exact (FN r).bind λr=>MA _ r
def GR (ps:List PD) (b:Bool) (t:Nd) (r:Rn):∃d,A0 (AI ps d) b t r≠.error (-1):=
 KV (F:=λd=>AI ps d) (λd G b t h=>Ke ps b t h) (λd b t=>Hl ps d b t) r.rem b t (λx _ r M=>R5 ps r.rem b x r (gP _)) r (gP _)
def Lf {ps:List PD}:∀ {l:List Nd},(∀t∈l,aZ ps t)->WL ps l
 | [],_=>trivial
 | t::r,h=>⟨h t AQ,Lf λx G=>h x (by simp [G])⟩
def JK {ps:List PD} {v:List VD}:∀ {l:List Nd},Sh ps v l=0 -> ∀t∈l,t.flt ps v=0
 | [],_,_,h=>by simp at h
 | x::r,G,t,h=>by
  simp only [Sh,jK] at G;rcases gT.1 h with rfl|h
  . exact G.1
  . exact JK G.2 t h
def WY (ps:List PD) (N:Nat):∀t:Nd,t.size<N->t.isExpr=true->aZ ps t:=by
 induction N with
 | zero=>intro t h;omega
 | succ N M=>
  rintro ⟨k,n,s,l⟩ O h;have U:=Hw h;simp only [Nd.kind] at U;simp only [mF] at O;exact ⟨λe=>by omega,Lf λx G=>M x (by have:=CA G;omega) ((JY h).2.1 x G)⟩
def Eb (ps:List PD) {t:Nd} (h:t.isExpr=true):aZ ps t:=WY ps (t.size+1) t Ab h
def WZ {e:Int} (h:Oh e=0):e=0:=by unfold Oh at h;split at h<;>first|assumption|cases h
def Zq (ps:List PD) (N:Nat):∀(t:Nd) (v:List VD),t.size<N->(t.isStmt=true\/t.isBlock=true)->t.flt ps v=0->aZ ps t:=by
 induction N with
 | zero=>intro t v h;omega
 | succ N X=>
  intro t v Y h M;rcases h with h|h
  . cases Cg h with
    | upd V G U=>
     exact ⟨λe=>by omega,Eb ps (Be G),Eb ps U,trivial⟩
    | swap G U=>exact ⟨λe=>by omega,Eb ps (Be G),Eb ps (Be U),trivial⟩
    | stack V Z G=>exact ⟨λe=>by omega,Eb ps (Be G),trivial⟩
    | tape V G=>exact ⟨λe=>by omega,Eb ps (Be G),trivial⟩
    | call V Z hl hv=>
     rename_i k s l;refine ⟨λ_=>?_,Lf λx G=>Eb ps (Gw (iJ.1 hv x G))⟩;rw [Nd.flt,AT V,jK] at M;have O:=WZ M.1;unfold CH SM at O;rw [AC Ab,AC Ab,AC Ab,AC Ab,AT V] at O;cases hp:CD ps s with
     | some i=>rfl
     | none=>rw [hp] at O;simp at O
    | branch V G U hz hu=>
     rename_i k x y z u;rw [NO Ab Ab Ab Ab] at M;simp only [mF,AY] at Y;have O:=(jK.1 M).2;exact ⟨λe=>by omega,Eb ps G,X y v Ab (gB U) (JK O y AQ),X z v Ab (gB hz) (JK O z AQ),Eb ps hu,trivial⟩
    | local_ Z G U hz=>
     rename_i s x y z;rw [Nd.flt,AC Ab] at M;simp only [mF,AY] at Y;simp only [C6,jK] at M;exact ⟨λe=>by omega,Eb ps G,X y _ Ab (gB U) M.2.2.1,Eb ps hz,trivial⟩
    | lstack Z G=>
     rename_i s x;rw [Nd.flt,AC Ab] at M;simp only [mF,AY] at Y;simp only [C6,jK] at M;exact ⟨λe=>by omega,X x _ Ab (gB G) M.2.1,trivial⟩
  . obtain ⟨k,n,s,l⟩:=t;obtain ⟨e,hr⟩:=DU h;simp only [Nd.kids] at hr;obtain ⟨rfl,-⟩:=Nd.mk.inj e;rw [NO Ab Ab Ab Ab] at M;have O:=(jK.1 M).2;simp only [mF] at Y;exact ⟨λe=>by omega,Lf λx G=>X x v (by have:=CA G;omega) (gA (rowStmt_iff.1 hr x G)) (JK O x G)⟩
def MD {ps:List PD}:∀ {l:List PD} {i:Nat},DK ps i l=0 -> ∀p∈l,p.body.flt ps p.params=0
 | [],_,_,_,h=>by simp at h
 | x::r,i,G,p,h=>by
  simp only [DK,jK] at G;rcases gT.1 h with rfl|h
  . exact G.1.2
  . exact MD G.2 p h
def NP {ps:List PD} {t:Nd} (h:t.wf) (G:EW t=true) (M:t.flt ps v=0):StOk ps t:=by
 obtain ⟨N,O,U⟩:=body_iff.1 G;exact ⟨h,Ab,Zq ps (t.size+1) t v Ab (gB N) M⟩
def UW (h:g.wf) (G:g.ok=true) (M:g.flt=0):StOk g.procs g.main:=by
 unfold PG.flt at M;exact NP h.main (EO G).2.2.2.2 (jK.1 M).2
def W0 (h:g.wf) (G:g.ok=true) (N:g.flt=0):ProcsOk g:=by
 unfold PG.flt at N;have U:=(jK.1 (jK.1 N).1).2;obtain ⟨-,X,-,V,-⟩:=EO G;refine ⟨Ab,λp M=>?_⟩;obtain ⟨-,Y,-,O⟩:=Er (V p M);exact ⟨(body_iff.1 O).1,NP (h.procs p M).body O (MD U p M),Ab⟩
def Tp {vs:List VD} (h:FitsP vs s):(CK vs s vs.length).WF (vs.map λv=>(v.kind,v.len)) 1000:=by
 obtain ⟨⟨h1,X⟩,Y,h4,h5,Z⟩:=h;have e1:s.cells.take vs.length=s.cells:=kx Ab;have e2:vs.take vs.length=vs:=gL;unfold CK;rw [e1,e2];have hb:FrmWF (vs.map λv=>(v.kind,v.len)) ⟨vs,jQ vs.length,0⟩:=⟨AQ,gI _,λi v c G U=>by
  have V:=(List.getElem?_eq_some_iff.1 G).1;rw [List.getElem?_range (by simpa using V)] at U;obtain rfl:=gJ U;simp [G]⟩
 refine ⟨by simp [Y],hb,λf N=>by simp at N,λc x M=>?_,gI _,λf N=>?_⟩
 . rw [iD] at M;cases G:vs[c]? with
   | none=>rw [G] at M;cases M
   | some v=>
    rw [G] at M;obtain rfl:=gJ M;have V:=(List.getElem?_eq_some_iff.1 G).1;have O:=Z c v _ G (fY (show c<s.cells.length by omega));have h8:=X v (iI G);have h9:(ng ⟨s.cells,⟨vs,jQ vs.length,0⟩,[],s.tin,s.tout⟩ c)=s.cells[c]:=by
     unfold ng;simp [gY,fY (show c<s.cells.length by omega)]
    rw [h9];unfold M0 CV at O;unfold IN at h8;unfold cellOk;simp only;split at O
    . omega
    . split at O<;>omega
 . simp only [iB] at N;rw [N];simp only;omega
def IZ (s:SV) (f:Nat):Except Int Rn->ResV
 | .error e=>⟨s,0,e⟩
 | .ok r=>⟨r.st.sv,(f:Int)-r.rem,0⟩
def Q0 {tab:Tab} {sz:Nat} {fn:Func} {b s:Nat} {X:Sk} {U:Value} (h:fn.results = #[.tmp s,.cell m c]) (T:TabOk P tab) (Y:AB tab c=some (X,sz)) (Z:X.agg=true)
 (hv:look l m=some (.pointer (some ⟨b,0,none⟩))) (h1:look l s=some U) (hb:Blk w b vs) (hl:vs.length=sz) (hR:R (.returned (.tuple #[U,.agg vs.toArray])) w):QW n (bodyPost P fn R) .ret l w:=by
 unfold QW;intro a V;refine ⟨V.defers,.tuple #[U,.agg vs.toArray],?_,hR⟩;have e:(loadVar c ⟨b,0,none⟩).run P w = .ok (.agg vs.toArray) w:=by
  simp only [gO,hH,gF,loadVar,Cq (T _ _ _ Y),Z,if_true,B0 (T _ _ _ Y)];rw [<-hl,Ct hb.row]
 have M:=V.has m _ hv;have N:=V.has s _ h1;simp only [jC] at M N;simp [results,h,M,N,e,asAddr]
section
variable {c:RC} {P P':nP} {r:Rn} {T:nP}
def W4 (hc:c.fuel<=10000) (hg:ProcsOk c.g) (N:StOk c.g.procs c.g.main) (O:c.g.main.isBlock=true) (d:Nat) (b:Bool) (U:A0 (AI c.g.procs d) b c.g.main r≠.error (-1)) (G V b7 vc pc X:Nat) (va pa M:oA) (w:wD) (h:Run c P w r)
 (ab:Blk w G [.pointer (some ⟨c.rb,0,none⟩)]) (Y:Blk w V (c.g.cells va vc pa pc M X)) (h7:Blk w b7 [.bool b]) (hm:c.g.main.sits P w M) :
 Calls prog 120 #[.pointer (some ⟨G,0,none⟩),.pointer (some ⟨V,0,none⟩),.pointer (some ⟨b7,0,none⟩)] w (Dz c P (A0 (AI c.g.procs d) b c.g.main r) w):=by
 have HB:=fZ (WQ hc hg d P b c.g.main r M X w O N U hm h);generalize A0 (AI c.g.procs d) b c.g.main r=Z at *;unfold Dz at HB;have F:=mx (λk=> ¬P k) w;unfold PG.cells at Y;generalize c.g.main=t at *;obtain ⟨k,n,s,l⟩:=t;replace Y:Blk w V [.slice va c.g.vars.length vc,.slice pa c.g.procs.length pc,.int .u8 k,.int .i64 n,str s,.slice M l.length X]:=Y;refine Ad func120 ntmps120 rfl rfl ?_
 focus
  refine eK ?_;refine A4 (AN AR rfl (HB.out) (λ_ _ h=>h.ret)) rfl ?_ ?_;rotate_left;intro c7 w8 q9
  rotate_right 1
  rintro _ ac ⟨ad,⟨⟩,rfl,ae,aa⟩;have F:=mB F aa (λk hk=>gA hk);refine Al (Bi rfl ?_);rotate_left;refine AE ?_;rotate_left
 . exact gA ⟨_,rfl,rfl,Af,F⟩
 . exact gB ⟨_,rfl,Af⟩
end
def ArrS.blkI {C D g:Nat} (h:ArrS Cv C D w g xs):Blk w g (AX xs):=by
 obtain ⟨G,M,N,O⟩:=h.ex;have e:G=xs.map λx=>[.int .i64 x]:=by
  refine mm (by simp [N]) λi U V=>?_
  rw [lj];exact O i xs[i] G[i] (fY Ab) (fY U)
 have X:G.flatten=AX xs:=by
  rw [e];clear h M N O e
  induction xs with
  | nil=>rfl
  | cons x r Y=>simp only [iO,kG,Y];rfl
 rw [<-X];exact M
section
variable {c:RC} {P P':nP} {r:Rn} {T:nP}
def Zr (M:c.fuel<=10000) (w:wD) (h:Run c P w r):Calls prog 122 #[.pointer (some ⟨c.sb,0,none⟩)] w (SvR r.st.sv w):=by
 obtain ⟨ρ,κ,h⟩:=h;obtain ⟨K,G⟩:=h.wf;exact Zp G Ab w h.st
def Run.small (O:c.fuel<=10000) (h:Run c P w r):r.st.sv.small:=by
 obtain ⟨ρ,κ,h⟩:=h;obtain ⟨K,G⟩:=h.wf;obtain ⟨U,V,X,tb,cs,-,-,-,-,M⟩:=h.st.frs;have Y:=M.li;have Z:=M.lo;have h3:=G.base.len;have h4:=G.vb _ (jH ..);refine ⟨by simp only [Stp.sv,jJ,iE];omega,λxs N=>?_,by simp only [Stp.sv];omega,by simp only [Stp.sv];omega⟩;simp only [Stp.sv,List.mem_map] at N;obtain ⟨x,-,rfl⟩:=N;exact G.items_le x
def Zs {B sb ec vc pc mc f:Nat} {va Y ma:oA} {S:nP} {K:List (Int×Int)} {N w:wD} (hN:NewS B sb st N) (X:Ext N w) (hB:B<=N.heap.size) (ad:N.heap.size<=n) (ae:N.heap.size<=m) (Z:n≠m)
 (aa:st.WF K 1000) (V:Blk w n [.slice va g.vars.length vc,.slice Y g.procs.length pc,.int .u8 g.main.kind,.int .i64 g.main.num,str g.main.name,.slice ma g.main.kids.length mc,.pointer (some ⟨sb,0,none⟩),.int .i64 0,.int .i64 f,.slice (some ⟨m,0,none⟩) g.procs.length ec]) {es:List Int} (ab:es.length=g.procs.length) (he:Blk w m (AX es)) (hp:PDs S w g.procs Y) (hS:∀k,S k->P k) (hP:∀k,P k->k<w.heap.size/\(k<B\/(N.heap.size<=k/\k≠n/\k≠m))) :
 Run ⟨n,sb,m,ec,g,va,vc,Y,pc,ma,mc,f,S⟩ P w ⟨st,f⟩:=by
 obtain ⟨ρ,κ,h0,hs⟩:=hN;have hr:Ro ρ (λb=>if b=n then .other 0 else if b=m then .other 1 else ρ b) N:=λb V=>by
  simp only;rw [AC Ab,AC Ab]
 have af:=V.lt;have ac:=he.lt;have O:=hs.fresh;refine ⟨_,κ,AT rfl,?_,gP _,?_,⟨es,ab,he⟩,hs.move (Fr.none X) (λ_ h=>h.elim) hr (λb V=>?_),⟨K,aa.mono Ab⟩,hp,hS,λk hk=>⟨λh=>?_,(hP k hk).1⟩⟩
 . show (if m=n then Rl.other 0 else if m=m then Rl.other 1 else ρ m)=Rl.other 1;rw [AC (λe=>Z e.symm),AT rfl]
 . simp only [Int.sub_self];exact V
 . rw [AC Ab,AC Ab];exact O b Ab
 . obtain ⟨-,U⟩:=hP k hk;have e1:ρ k = .none:=by
    rcases U with U|U
    . exact h0 k U
    . exact O k U.1
   have e2:(if k=n then Rl.other 0 else if k=m then Rl.other 1 else ρ k) = .none:=by
    rw [AC Ab,AC Ab,e1]
   rw [e2] at h;rcases h with h|h|h
   . exact h
   . cases h
   . cases h
end
def BeginR (res:ResV) (w:wD):Ending->wD->Prop:=λe w'=> ∃v a c ta tc oa oc,e = .returned (.tuple #[v,.agg (res.row a c ta tc oa oc).toArray])/\res.st.sits (λb=>w.heap.size<=b/\b<w'.heap.size) w' a ta oa/\res.st.small/\Ext w w'
def BeginR.ret {G:ResV} (h:BeginR G w e w'):∃v,e = .returned v:=by
 obtain ⟨_,_,_,_,_,_,_,h,-⟩:=h;exact ⟨_,h⟩
def Zt (g:PG) (aw:g.wf) (ai:g.ok=true) (h0:g.flt=0) (s:SV) (hf:FitsP g.vars s) (f:Nat) (a4:f<=10000) (ab:Bool) (d:Nat) (bu:A0 (AI g.procs d) ab g.main ⟨CK g.vars s g.vars.length,f⟩≠.error (-1))
 (S:nP) (va:oA) (vc:Nat) (pa:oA) (pc:Nat) (ma:oA) (mc:Nat) (ca ta oa:oA) (cc tc oc:Nat) (w:wD) (Y:g.sits S w va pa ma) (aa:PDsC S w g.procs pa) (bv:g.vars.length<=vc) (V:s.sits S w ca ta oa) :
 Calls prog 86 #[.agg (g.cells va vc pa pc ma mc).toArray,.agg (s.row ca cc ta tc oa oc).toArray,.int .i64 f,.bool ab] w (BeginR (IZ s f (A0 (AI g.procs d) ab g.main ⟨CK g.vars s g.vars.length,f⟩)) w):=by
 have X:=Ne w;have Y:=Y.ltA;have aa:=aa.ltA;have V:=V.ltA;have ax:=hf.small;have HV:=fZ (FM aw ai);have HC:=fZ (λw1 h1 h2=>Jw g aw ai (· < w.heap.size) va vc pa pc ma mc w1 h1 h2 bv);rw [h0] at HC;have HN:=fZ (λw1 (h1:g.sits (· < w.heap.size) w1 va pa ma) h2=>dH g.vars s hf (· < w.heap.size) va ca ta oa vc cc tc oc w1 h1.vars h2);have HK:=fZ (λw1 h=>J6 s (· < w.heap.size) ca ta oa cc tc oc w1 ax.few ax.each ax.tin ax.tout h);have bw:=fZ (W0 aw ai h0);have bx:=fZ (UW aw ai h0);have bz:=fZ (Qi ai);have HW:=fZ (Tp hf);have b0:=QZ (To g.procs d) ab g.main ⟨CK g.vars s g.vars.length,f⟩;have ec:=(EO ai).2.1;clear hf aw ai h0;refine Ad func86 ntmps86 rfl rfl ?_;refine cS (eB [_,_,_,_,_,_] ?_);intro b1 w2 h4 x5 p6 z7;revert X Y aa V;refine eE x5 ?_;intro X Y aa V;refine eB [_,_,_] ?_;intro b8 w9 M b2 ed ee;revert h4 X Y aa V;refine eE b2 ?_;intro h4 X Y aa V;refine eB [_] ?_;intro ay ef U b3 eg eh;revert M h4 X Y aa V;refine eE b3 ?_;intro M h4 X Y aa V;refine C1 Pa (eA [_,_,_,_,_] ?_);intro a8 ei G b4 ej ek;revert U M h4 X Y aa V;refine eE b4 ?_;intro U M h4 X Y aa V;refine kC (HV.out _ _ _ _ _ _ _ _ Af) ?_;rintro _ el ⟨⟨⟩,b5⟩;revert G U M h4 X Y aa V;refine eY b5 ?_;intro em G U M h4 X Y aa V;refine kQ (HC.out _ Af Af) ?_;rintro _ a5 ⟨en,eo,⟨⟩,b6⟩;revert G U M h4 X Y V;refine eY b6 ?_;intro ep G U M h4 X Y V;refine kQ (HN.out _ Af Af) ?_;rintro _ aj ⟨ad,⟨⟩,a9,eq,b7⟩;revert G U M h4 X Y V;refine eY b7 ?_;intro er G U M h4 X Y V;refine C1 Mv (C1 Px (C1 Px (C1 Pa (C1 Pa (cT (Aj (cS (C1 Mv (C1 V2 (cT (MS ?_)))))))))));refine Am (Ai ?_)
 have b9:=fZ a9;have Xn:=Ne aj;clear a9 HV HC HN;refine ED (ι:=Nat×Nat×Nat) (λx=>[(4,.pointer (some ⟨b1,0,none⟩)),(5,.pointer (some ⟨b8,0,none⟩)),(7,.pointer (some ⟨ay,0,none⟩)),(8,.slice none 0 0),(9,.pointer (some ⟨a8,0,none⟩)),(10,.pointer (some ⟨ad,0,none⟩)),(12,.pointer (some ⟨x.2.2,0,none⟩))])
  (λx w'=>Blk w' x.1 [.slice va g.vars.length vc,.slice pa g.procs.length pc,.int .u8 g.main.kind,.int .i64 g.main.num,str g.main.name,.slice ma g.main.kids.length mc,.pointer (some ⟨ad,0,none⟩),.int .i64 0,.int .i64 f,.slice (some ⟨x.2.1,0,none⟩) g.procs.length g.procs.length] /\
   Blk w' x.2.1 (AX (iK g.procs.length 0))/\Blk w' x.2.2 [.pointer (some ⟨x.1,0,none⟩)]/\aj.heap.size<=x.1/\aj.heap.size<=x.2.1/\aj.heap.size<=x.2.2/\x.1≠x.2.1/\x.2.2≠x.1/\x.2.2≠x.2.1/\Blk w' b1 (g.cells va vc pa pc ma mc)/\Blk w' b8 [.slice ca s.cells.length cc,.slice ta s.tin.length tc,.slice oa s.tout.length oc]/\Blk w' ay [.bool ab]/\Blk w' a8 [.slice none 0 0,.slice none 0 0,.slice none 0 0,.int .i64 0,.int .i64 0]/\g.sits (· < w.heap.size) w' va pa ma/\s.sits (· < w.heap.size) w' ca ta oa/\Ext aj w'/\Ext w w') ?_ ?_
 . focus
    refine Ap (λwz=>Ext aj wz) 10 (.pure 0 (.pure 1 (.pure 2 (.pure 3 (.pure 4 (.pure 5 (.fork 6 (.pure 7 (.fork 8 (.fork 9 .tail .none) (.fork 9 (.fork 8 .tail .none) .none))) (.fork 9 (.fork 6 (.pure 7 (.fork 8 .tail .none)) .none) .none)))))))) mixed AR (Aa Ag) ?_;intro cb ba _;have O:(λwz=>Ext aj wz) cb:=ba;simp only at O;have bb:=h4;revert G U M h4 X Y V Xn;refine eY ba ?_;intro et G U M h4 X Y V Xn;refine ⟨O,?_⟩;refine Tq rfl (xL [_,_,_,_,_,_] (λwz hz=>(my bb hz))) ?_;refine eT ?_;refine Ax rfl (Dj (sh:=Cv) (C:=0) (D:=0) (N:=g.procs.length) (z:=0) Ac Ca rfl rfl rfl rfl AR rfl rfl Ab (λ_ _=>rfl)) rfl ?_ aFh ?kra5;rintro _ cp ⟨eu,rfl,ac,ew,ex,bc⟩;revert O G U M h4 X Y V Xn;refine eE bc ?_;intro O G U M h4 X Y V Xn;refine ⟨O,?_⟩;refine Tq rfl (xB [_,_,_,_,_,_,_,_,_,_]) ?_;refine Ax rfl (GZ rfl rfl) rfl ?_ aFh ?kra13;rintro _ cq ⟨cr,rfl,ak⟩;have al:=ak.blk;have bd:=ak.ext;have ct:=ak.pos;have cu:=ak.size;revert ac O G U M h4 X Y V Xn;refine eE bd ?_;intro ac O G U M h4 X Y V Xn;refine ⟨O,?_⟩;refine Ax rfl (A3 Ca rfl) rfl ?_ aFh Au;rintro _ cv ⟨cw,rfl,am⟩;have az:=am.blk;dsimp only at az;have be:=am.ext;have cx:=am.pos;have cy:=am.size;revert al ac O G U M h4 X Y V Xn;refine eE be ?_;intro al ac O G U M h4 X Y V Xn;refine ⟨O,?_⟩;refine Aq rfl (eS [_] az ?_);intro cz c0 bf c1;revert al ac G U M h4 X Y V Xn;refine eF bf ?_;intro al ac G U M h4 X Y V Xn;refine Al ?_;rotate_left;refine Ax rfl (A3 Ca rfl) rfl ?_ aFh Au;rintro _ c2 ⟨c3,rfl,an⟩;have ao:=an.blk;dsimp only at ao;have bg:=an.ext;have c4:=an.pos;have c5:=an.size;revert ac O G U M h4 X Y V Xn;refine eE bg ?_;intro ac O G U M h4 X Y V Xn;refine ⟨O,?_⟩;refine Ax rfl (GZ rfl rfl) rfl ?_ aFh Au;rintro _ c6 ⟨c7,rfl,ap⟩;have a0:=ap.blk;have bh:=ap.ext;have c8:=ap.pos;have c9:=ap.size;revert ao ac O G U M h4 X Y V Xn;refine eE bh ?_;intro ao ac O G U M h4 X Y V Xn;refine ⟨O,?_⟩;refine Aq rfl (eS [_] ao ?_);intro da db bi dc;revert a0 ac G U M h4 X Y V Xn;refine eF bi ?_;intro a0 ac G U M h4 X Y V Xn
    refine Al ?_;rotate_left;refine Ax rfl (A3 Ca rfl) rfl ?_ aFh Au;rintro _ dd ⟨de,rfl,aq⟩;have ae:=aq.blk;dsimp only at ae;have bj:=aq.ext;have df:=aq.pos;have dg:=aq.size;revert O G U M h4 X Y V Xn;refine eE bj ?_;intro O G U M h4 X Y V Xn;refine ⟨O,?_⟩;refine Ax rfl (Dj (sh:=Cv) (C:=0) (D:=0) (N:=g.procs.length) (z:=0) Ac Ca rfl rfl rfl rfl AR rfl rfl Ab (λ_ _=>rfl)) rfl ?_ aFh Au;rintro _ dh ⟨di,rfl,ar,dk,dl,bk⟩;revert ae O G U M h4 X Y V Xn;refine eE bk ?_;intro ae O G U M h4 X Y V Xn;refine ⟨O,?_⟩;refine Tq rfl (xB [_,_,_,_,_,_,_,_,_,_]) ?_;refine Ax rfl (GZ rfl rfl) rfl ?_ aFh Au;rintro _ dm ⟨dn,rfl,au⟩;have a1:=au.blk;have bl:=au.ext;have dp:=au.pos;have dq:=au.size;revert ar ae O G U M h4 X Y V Xn;refine eE bl ?_;intro ar ae O G U M h4 X Y V Xn;refine ⟨O,?_⟩;refine Aq rfl (eS [_] ae ?_);intro dr ds bm dt;revert a1 ar G U M h4 X Y V Xn;refine eF bm ?_;intro a1 ar G U M h4 X Y V Xn;refine Al ?_;rotate_left
   all_goals exact BC (_,_,_) sC ⟨Af,ArrS.blkI Af,Af,by (try simp only);omega,by (try simp only);omega,by (try simp only);omega,by (try simp only);omega,by (try simp only);omega,by (try simp only);omega,Af,Af,Af,Af,Af,Af,Xn,X⟩
 . clear h4 M U G Y V aa X Xn;rintro ⟨rb,eb,av⟩ w3 ⟨a6,a7,ag,o1,o2,o3,o4,o5,o6,h4,M,U,G,Y,V,Xn,X⟩;simp only at a6 a7 ag o1 o2 o3 o4 o5 o6;have du:=ag.lt;have hR:Run ⟨rb,ad,eb,g.procs.length,g,va,vc,pa,pc,ma,mc,f,(· < w.heap.size)⟩ (λk=>k<a5.heap.size\/k=av) w3 ⟨CK g.vars s g.vars.length,f⟩:=
    Zs b9.out Xn Ab o1 o2 o4 HW.out a6 (es:=iK g.procs.length 0) AQ a7 Y.procs (λk hk=>gA Ab) (λk hk=>by rcases hk with hk|hk<;>omega)
   have HA:Hid (∀jb w4,Ext w3 w4->w3.heap.size<=jb->jb<w4.heap.size->Blk w4 jb [.slice none 0 0,.bool false]->Calls prog 119 #[.pointer (some ⟨jb,0,none⟩),.func (.func 120) #[] #[.pointer (some ⟨av,0,none⟩),.pointer (some ⟨b1,0,none⟩),.pointer (some ⟨ay,0,none⟩)]] w4 (bD ⟨rb,ad,eb,g.procs.length,g,va,vc,pa,pc,ma,mc,f,(· < w.heap.size)⟩ (Cc (λk=>k<a5.heap.size\/k=av) w3 w4) (A0 (AI g.procs d) ab g.main ⟨CK g.vars s g.vars.length,f⟩) w4)):=fZ λjb w4 X4 j1 j2 hj=>
    UU (ca:=[.pointer (some ⟨av,0,none⟩),.pointer (some ⟨b1,0,none⟩),.pointer (some ⟨ay,0,none⟩)]) AR b0 w4 (λk hk=>by have:=X4.size;rcases hk with (hk|hk)|hk<;>omega) (λk hk=>gA (gA Ab)) (gB ⟨j1,j2⟩) hj (λw5 X5=>
     W4 (c:=⟨rb,ad,eb,g.procs.length,g,va,vc,pa,pc,ma,mc,f,(· < w.heap.size)⟩) a4 bw.out bx.out bz.out d ab bu av b1 ay vc pc mc va pa ma w5 ((hR.more X4).more X5) ((ag.ext X4).ext X5) ((h4.ext X4).ext X5) ((U.ext X4).ext X5) (mD ((Y.main.ext X4).ext X5) (λb hb=>gA (gA (gA Ab)))))
   unfold bD at HA;generalize A0 (AI g.procs d) ab g.main ⟨CK g.vars s g.vars.length,f⟩=Z at *;have X3:=Ne w3;clear Xn hR;refine cS (eA [_,_] ?_);intro ey cd ce cf ez e0;revert ag M G V X X3;refine eE cf ?_;intro ag M G V X X3;refine C1 (BW rfl) ?_;refine Az (AM AR rfl (HA.out _ _ X3 Ab Ab Af) (λ_ _ ⟨_,h⟩=>⟨_,h.1⟩)) rfl ?_ aFh;rintro _ a2 ⟨dv,⟨⟩,bn,af⟩;have dw:=af.size;clear ce a6 a7;have ag:=mu ag af (λh=>h (gA (gB rfl)));have M:=mu M af (λh=>h (gA (gA Ab)));have G:=mu G af (λh=>h (gA (gA Ab)));have V:=nD V af (λb hb h=>h (gA (gA Ab)));have X:=mI X af (λk hk=>by (rcases gQ k w.heap.size with h|h;exact absurd (gA (gA Ab)) hk;exact h));refine C1 Pa (cT (Aj ?_));rcases bn with ⟨bo,r,hZ,hR⟩|⟨bo,hZ⟩
   . subst bo;have cg:=hR.rem;have hb:=hR.blk;have ch:=hR.small a4;have HS:=fZ (λw1 (h:Run ⟨rb,ad,eb,g.procs.length,g,va,vc,pa,pc,ma,mc,f,(· < w.heap.size)⟩ (Cc (λk=>k<a5.heap.size\/k=av) w3 cd) w1 r)=>Zr a4 w1 h);simp only at cg hb HS;rw [hZ];generalize ci:r.st.sv=sv at *;obtain ⟨cells,cj,tout⟩:=sv;refine eK ?_;refine Ap (λwz=>Ext a2 wz) 12 (.pure 0 (.pure 1 (.pure 2 (.pure 3 (.pure 4 (.pure 6 (.pure 7 (.pure 8 (.pure 9 (.fork 5 (.pure 10 (.pure 11 .tail)) .none)))))))))) mixed AR (Aa Ag) ?_;intro ck bp _;have ah:(λwz=>Ext a2 wz) ck:=bp;simp only at ah;have cl:=ag;have dx:=hb;revert G X hR;refine eY bp ?_;intro e1 G X hR;refine ⟨ah,?_⟩;refine eT ?_;refine tC rfl rfl (HS.out _ Af) ?_;rintro _ dy ⟨e2,e3,dz,d0,cm,cn,⟨⟩,a3,bq⟩;revert ah G X;refine eE bq ?_;intro ah G X;refine ⟨ah,?_⟩;refine Tq rfl (xB [_,_,_,_,_]) (Tq rfl Pa ?_);refine Aq rfl (eS [_,_,_,_,_] G ?_);intro d1 d2 br d3;revert a3 X;refine eF br ?_;intro a3 X;refine cT (AU ?_);refine Q0 rfl Ac rfl rfl rfl rfl Af rfl ?_;rw [show IZ s f (.ok r)=⟨⟨cells,cj,tout⟩,(f:Int)-r.rem,0⟩ by unfold IZ;simp only [ci]];exact ⟨_,_,_,_,_,_,_,rfl,nu Af (λb h=>⟨Ab,Ab⟩),ch,X⟩
   . refine kQ (HK.out _ Af) ?_;rintro _ e4 ⟨e5,e6,d4,d5,d6,d7,⟨⟩,bs,co⟩;revert G X;refine eE co ?_;intro G X;refine C1 Mv (C1 (xB [_,_,_,_,_]) (C1 Pa (eS [_,_,_,_,_] G ?_)));intro d8 d9 bt ea;revert bs X;refine eF bt ?_;intro bs X;refine cT (AU (At ?_));refine Q0 rfl Ac rfl rfl rfl rfl Af rfl ?_;subst hZ;exact ⟨_,_,_,_,_,_,_,rfl,nu Af (λb h=>⟨Ab,Ab⟩),ax,X⟩
def ResR (res:ResV) (w:wD):Ending->wD->Prop:=λe w'=> ∃a c ta tc oa oc,e = .returned (.agg (res.row a c ta tc oa oc).toArray)/\res.st.sits (λb=>w.heap.size<=b/\b<w'.heap.size) w' a ta oa/\res.st.small/\Ext w w'
def ResR.ret {G:ResV} (h:ResR G w e w'):∃v,e = .returned v:=by
 obtain ⟨_,_,_,_,_,_,h,-⟩:=h;exact ⟨_,h⟩
def NQ (g:PG) (aa:g.wf) (ab:g.ok=true) (h0:g.flt=0) (s:SV) (hf:FitsP g.vars s) (f:Nat) (ac:f<=10000) (d:Nat) (ad:A0 (AI g.procs d) false g.main ⟨CK g.vars s g.vars.length,f⟩≠.error (-1))
 (S:nP) (va:oA) (vc:Nat) (Y:oA) (pc:Nat) (ma:oA) (mc:Nat) (ca ta oa:oA) (cc tc oc:Nat) (w:wD) (O:g.sits S w va Y ma) (G:PDsC S w g.procs Y) (ae:g.vars.length<=vc) (U:s.sits S w ca ta oa) :
 Calls prog 48 #[.agg (g.cells va vc Y pc ma mc).toArray,.agg (s.row ca cc ta tc oa oc).toArray,.int .i64 f] w (ResR (IZ s f (A0 (AI g.procs d) false g.main ⟨CK g.vars s g.vars.length,f⟩)) w):=by
 have X:=Ne w;have O:=O.ltA;have G:=G.ltA;have U:=U.ltA;have HB:=fZ (λw1 h1 h2 h3=>Zt g aa ab h0 s hf f ac false d ad (· < w.heap.size) va vc Y pc ma mc ca ta oa cc tc oc w1 h1 h2 ae h3);generalize IZ s f _=af at *;obtain ⟨⟨cells,au,tout⟩,n,er⟩:=af;refine Ad func48 ntmps48 rfl rfl (cS (eB [_,_,_,_,_,_] ?_));intro b1 w2 Z x5 p6 z7;revert X O G U;refine eE x5 ?_;intro X O G U;refine eB [_,_,_] ?_;intro b8 w9 V ag av aw;revert Z X O G U;refine eE ag ?_;intro Z X O G U;refine eA [_,_,_,_,_] ?_;intro ax ay M ah az z22;revert V Z X O G U;refine eE ah ?_;intro V Z X O G U;refine kQ (HB.out _ Af Af Af) ?_;rintro _ a0 ⟨a1,a2,a3,ao,ap,aq,ar,⟨⟩,N,a4,ai⟩;revert M X;refine eY ai ?_;intro a5 M X;refine eK ?_;refine eA [_,_,_,_,_] ?_;intro a6 a7 aj ak a8 a9;revert N M X;refine eE ak ?_;intro N M X;refine C1 Pa (eS [_,_,_,_,_] aj ?_);intro ba bb al z46;revert N M X;refine eF al ?_;intro N M X;refine eK ?_;refine eS [_,_,_,_,_] M ?_;intro bc am an bd;revert N X;refine eF an ?_;intro N X;refine kX am ?_;exact ⟨_,_,_,_,_,_,rfl,nu Af (λb h=>⟨Ab,Ab⟩),Af,X⟩
noncomputable def ER (g:PG) (s:SV) (f:Nat):ResV:=
 IZ s f (A0 (AI g.procs (Classical.choose (GR g.procs false g.main ⟨CK g.vars s g.vars.length,f⟩))) false g.main ⟨CK g.vars s g.vars.length,f⟩)
def OV (g:PG) (s:SV) (f:Nat):A0 (AI g.procs (Classical.choose (GR g.procs false g.main ⟨CK g.vars s g.vars.length,f⟩))) false g.main ⟨CK g.vars s g.vars.length,f⟩≠.error (-1):=
 Classical.choose_spec (GR g.procs false g.main ⟨CK g.vars s g.vars.length,f⟩)
structure VdV where
 ok:Bool
 tried:Int
 st:SV
 err:Int
def VdV.zero:VdV:=⟨false,0,⟨[],[],[]⟩,0⟩
noncomputable instance:DecidableEq SV:=λa b=>Classical.propDecidable _
noncomputable def W5 (g p:PG) (f:Nat):List SV->Int->VdV
 | [],n=>⟨true,n,⟨[],[],[]⟩,0⟩
 | s::l,n=>
  if (ER g s f).err≠0 then W5 g p f l n
  else if (ER p (ER g s f).st f).err=0/\(ER p (ER g s f).st f).st=s then W5 g p f l (Go.IntKind.wrap .i64 (n+1))
  else ⟨false,Go.IntKind.wrap .i64 (n+1),s,(ER p (ER g s f).st f).err⟩
noncomputable instance:DecidableEq VD:=λa b=>Classical.propDecidable _
noncomputable def Ez (e:EX) (p:PG):Int:=
 if ¬e.valid then 1
 else if p.ok=false\/p.flt≠0 then 3
 else match p.errs with
  | er::_=>er
  | []=>if p.vars=e.g.vars then 0 else 7
def UX {e:EX} {p:PG} (N:∀x∈p.errs,x≠0) (h:Ez e p=0):e.valid/\p.acc/\p.vars=e.g.vars:=by
 unfold Ez at h;split at h
 . exact absurd h C2
 . rename_i O;split at h
   . exact absurd h C2
   . rename_i G;rw [not_or,Bool.not_eq_false,Decidable.not_not] at G;split at h
     . rename_i U l M;exact absurd h (N U (by rw [M];simp))
     . rename_i M;split at h
       . rename_i V;exact ⟨Decidable.not_not.1 O,⟨G.1,G.2,M⟩,V⟩
       . exact absurd h C2
section
variable {ρ:Nat->nP} {a b:Stp} {s:lB} {d:Nat}
end
section
variable {st' a b:Stp} {d e i:Nat} {v:Int} {ys:List Int}
def Zu:(st.all c xs).heap.length=st.heap.length:=by simp [Stp.all]
def W6:(st.put c i v).heap.length=st.heap.length:=by simp [Stp.put,Stp.all]
def Stp.execT (st:Stp) (k:Int) (i:Nat) (r:Int) (c e d:Nat):Int×Stp:=
 if 40<=k/\k<=42 then (0,st.put c i (VB k ((st.items c).getD i 0) r))
 else if k=43 then
  if r<0\/((st.items e).length:Int)<=r then (12,st)
  else (0,(st.put c i ((st.items e).getD r.toNat 0)).put e r.toNat ((st.items c).getD i 0))
 else if k=44\/k=45 then st.move k c i d
 else st.transfer k c i
def W7 (st:Stp) (k:Int) (s:lB) (l:List Nd):st.exec k s l =
 (let x:=l.getD 0 (.mk 0 0 [] [])
  let y:=l.getD 1 (.mk 0 0 [] [])
  let a:=Bp st.look x
  let r:=if k=43 then Bp st.look y else if 40<=k/\k<=42 then A8 st.look y else (0,0)
  if a.2≠0 then (a.2,st) else if r.2≠0 then (r.2,st) else if a.1<0\/((st.items (st.cellD x.name)).length:Int)<=a.1 then (12,st)
  else st.execT k a.1.toNat r.1 (st.cellD x.name) (st.cellD y.name) (st.cellD s)):=rfl
end
section
variable {st' a b:Stp} {d e i:Nat} {v:Int} {ys:List Int} {s:lB}
def ZY (a b:Stp):Prop:=a.base=b.base/\a.calls=b.calls/\a.heap.length=b.heap.length
def Si (st:Stp) (k:Int) (i:Nat) (r:Int) (c e d:Nat):ZY (st.execT k i r c e d).2 st:=by
 unfold Stp.execT Stp.move Stp.transfer
 repeat' split
 all_goals refine ⟨rfl,rfl,?_⟩
 all_goals simp [W6,Zu]
def ME (st:Stp) (k:Int) (s:lB) (l:List Nd):(st.exec k s l).2=st \/ ∃i r c e d,(st.exec k s l).2=(st.execT k i r c e d).2:=by
 rw [W7];simp only;generalize (if k=43 then Bp st.look (l.getD 1 (.mk 0 0 [] [])) else if 40<=k/\k<=42 then A8 st.look (l.getD 1 (.mk 0 0 [] [])) else (0,0))=r;generalize Bp st.look (l.getD 0 (.mk 0 0 [] []))=a;split
 . exact gA rfl
 split
 . exact gA rfl
 split
 . exact gA rfl
 . exact gB ⟨_,_,_,_,_,rfl⟩
def UY (st:Stp) (k n:Int) (s:lB) (l:List Nd):ZY (st.run1 k n s l).2 st:=by
 unfold Stp.run1;split
 . exact ⟨rfl,rfl,rfl⟩
 split
 . exact ⟨rfl,rfl,rfl⟩
 . rcases ME st k s l with h|⟨i,r,c,e,d,h⟩<;>rw [h]
   . exact ⟨rfl,rfl,rfl⟩
   . exact Si ..
def bF {a b:Stp} (h:a.base=b.base) (G:a.calls=b.calls):a.cur=b.cur:=by unfold Stp.cur;rw [h,G]
end
section
variable {st':Stp} {k n:Int} {s:lB} {l:List Nd}
end
section

end
section
variable {K:List (Int×Int)}
end
section
variable {ρ:Nat->nP} {st' a b:Stp} {f g:Frm}
def MF:(st.setCur f).tin=st.tin:=by unfold mX;split<;>rfl
def KX:(st.setCur f).tout=st.tout:=by unfold mX;split<;>rfl
def NR (h:a.base=b.base) (G:a.calls=b.calls):(a.setCur f).base=(b.setCur f).base/\(a.setCur f).calls=(b.setCur f).calls:=by
 unfold mX;rw [G];split
 . exact ⟨rfl,rfl⟩
 . exact ⟨h,rfl⟩
def Sj:(st.setCur f).cur=f:=by
 unfold mX Stp.cur;split
 . rename_i h;simp [h]
 . simp
def OW:((st.setCur f).setCur g).base=(st.setCur g).base/\((st.setCur f).setCur g).calls=(st.setCur g).calls:=by
 unfold mX;by_cases h:st.calls=[]
 . simp [h]
 . simp [h]
def Q1:(st.setCur st.cur).base=st.base/\(st.setCur st.cur).calls=st.calls:=by
 unfold mX Stp.cur;rcases jU st.calls with h|⟨l,x,h⟩
 . simp [h]
 . simp [h]
def W8 {d:VD} {x:Int} (h:(st.opens d x).1=0):Cu d.name st.cur.vars=none/\(st.opens d x).2={ st.setCur ⟨st.cur.vars++[d],st.cur.cells++[st.heap.length],st.cur.locals+1⟩ with heap:=st.heap++[if d.kind=1 then [x] else []] }:=by
 unfold Stp.opens at h ⊢;split at h
 . cases h
 . rename_i G;rw [AC G];refine ⟨?_,rfl⟩;cases e:Cu d.name st.cur.vars with
   | none=>rfl
   | some i=>rw [e] at G;exact absurd rfl G
end
section
variable {ρ:Nat->nP} {st' a b:Stp} {f g:Frm}
end
section
variable (ps:List PD) (d:Nat) (b:Bool) (n:Int) (s:lB) (l:List Nd)
end
def W9 {vs:List VD} (h:s.cells.length=vs.length):CK vs s vs.length=⟨s.cells,⟨vs,jQ vs.length,0⟩,[],s.tin,s.tout⟩:=by
 unfold CK;rw [kx Ab,gL]
structure Fin_ (st:Stp):Prop where
 wf:∃K m,st.WF K m
 tin:st.tin.length<=4096
 tout:st.tout.length<=4096
def Kpt (a b:Stp):Prop:=Fin_ b/\b.base=a.base/\b.calls=a.calls
def Kpt.refl {a:Stp} (h:Fin_ a):Kpt a a:=⟨h,rfl,rfl⟩
def Kpt.trans {a b c:Stp} (h:Kpt a b) (k:Kpt b c):Kpt a c:=⟨k.1,k.2.1.trans h.2.1,k.2.2.trans h.2.2⟩
def KeepX (f:Rn->Except Int Rn):Prop:= ∀r r',Fin_ r.st->f r = .ok r'->Kpt r.st r'.st
def Sm (st:Stp) (k:Int) (s:lB) (l:List Nd) (G:st.tin.length<=4096) (M:st.tout.length<=4096):(st.exec k s l).2.tin.length<=4096/\(st.exec k s l).2.tout.length<=4096:=by
 rcases ME st k s l with h|⟨i,r,c,e,d,h⟩<;>rw [h]
 . exact ⟨G,M⟩
 unfold Stp.execT Stp.move Stp.transfer
 repeat' split
 all_goals first
  | exact ⟨G,M⟩
  | exact ⟨by simp only [gH];omega,M⟩
  | exact ⟨G,by simp only [gR,gH,iM];omega⟩
  | exact ⟨G,by simp only [lI];omega⟩
  | (rename_i N _;rw [N] at G;exact ⟨by simp at G ⊢;omega,M⟩)
def Zv (h:Fin_ st) (k n:Int) (s:lB) (l:List Nd):Kpt st (st.run1 k n s l).2:=by
 obtain ⟨⟨K,m,O⟩,G,M⟩:=h;obtain ⟨U,V,-⟩:=UY st k n s l;have N:(st.run1 k n s l).2.tin.length<=4096/\(st.run1 k n s l).2.tout.length<=4096:=by
  unfold Stp.run1;split
  . exact ⟨G,M⟩
  split
  . exact ⟨G,M⟩
  . exact Sm st k s l G M
 exact ⟨⟨⟨K,m,O.run1 k n s l⟩,N.1,N.2⟩,U,V⟩
def Q2 {G:Stp} (h:Fin_ st) {v:VD} (hv:v.kind=1\/v.kind=3) {x y:Int} {s:lB} (ho:(st.opens v x).1=0) (hb:Fin_ (st.opens v x).2->Kpt (st.opens v x).2 G) (M:(G.closes s y).1=0):Kpt st (G.closes s y).2:=by
 obtain ⟨⟨K,m,hw⟩,h1,h2⟩:=h;obtain ⟨K',V⟩:=hw.opens hv x;obtain ⟨-,U⟩:=W8 ho;have hF:Fin_ (st.opens v x).2:=⟨⟨_,_,V⟩,by rw [U];show (st.setCur _).tin.length<=4096;rw [MF];exact h1,by rw [U];show (st.setCur _).tout.length<=4096;rw [KX];exact h2⟩;obtain ⟨⟨⟨K2,m2,X⟩,t1,t2⟩,Z,b2⟩:=hb hF;have N:G.cur=⟨st.cur.vars++[v],st.cur.cells++[st.heap.length],st.cur.locals+1⟩:=by
  rw [bF Z b2,U];exact Sj (st:=st)
 have Y:(G.closes s y).2=G.setCur st.cur:=by
  unfold Stp.closes at M ⊢;simp only at M ⊢;split at M
  . simp at M
  . rename_i q1;rw [AC q1];split at M
    . simp at M
    . rename_i q2;rw [AC q2,N];simp
 obtain ⟨f1,f2⟩:=NR (f:=st.cur) Z b2;have e2:(((st.opens v x).2).setCur st.cur).base=st.base/\(((st.opens v x).2).setCur st.cur).calls=st.calls:=by
  rw [U];obtain ⟨g1,g2⟩:=OW (st:=st) (f:=⟨st.cur.vars++[v],st.cur.cells++[st.heap.length],st.cur.locals+1⟩) (g:=st.cur);obtain ⟨g3,g4⟩:=Q1 (st:=st);obtain ⟨g5,g6⟩:=NR (a:={ st.setCur ⟨st.cur.vars++[v],st.cur.cells++[st.heap.length],st.cur.locals+1⟩ with heap:=st.heap++[if v.kind=1 then [x] else []] }) (b:=st.setCur ⟨st.cur.vars++[v],st.cur.cells++[st.heap.length],st.cur.locals+1⟩) (f:=st.cur) rfl rfl;exact ⟨g5.trans (g1.trans g3),g6.trans (g2.trans g4)⟩
 have O:=X.closes s y;rw [Y] at O ⊢;exact ⟨⟨⟨_,_,O⟩,by rw [MF];exact t1,by rw [KX];exact t2⟩,f1.trans e2.1,f2.trans e2.2⟩
def Stp.WF.up {K:List (Int×Int)} {m':Nat} (h:st.WF K m) (G:m<=m'):st.WF K m':=⟨h.len,h.base,h.calls,h.cell,h.nc,λf M=>jR (h.vb f M) G⟩
def UZ {st2:Stp} (h:Fin_ st) {ps:List VD} {qs:List lB} (ho:(st.enters ps qs).1=0) (hb:Fin_ (st.enters ps qs).2->Kpt (st.enters ps qs).2 st2) (hc:(st2.leaves).1=0):Kpt st (st2.leaves).2:=by
 obtain ⟨⟨K,m,hw⟩,h1,h2⟩:=h;have b:=(hw.up (Nat.le_max_left m ps.length)).enters (Nat.le_max_right m ps.length) qs;obtain ⟨fr,e1⟩:∃fr,(st.enters ps qs).2={ st with calls:=st.calls++[fr] }:=by
  unfold Stp.enters at ho ⊢;split at ho
  . simp at ho
  . rename_i q1;rw [AC q1];split at ho
    . rename_i q2;exact absurd ho q2
    . rename_i q2;rw [AC q2];split at ho
      . simp at ho
      . rename_i q3;rw [AC q3];exact ⟨_,rfl⟩
 obtain ⟨⟨⟨K2,m2,c⟩,t1,t2⟩,b1,b2⟩:=hb ⟨⟨_,_,b⟩,by rw [e1];exact h1,by rw [e1];exact h2⟩;have a:=c.leaves;have hl:(st2.leaves).2={ st2 with calls:=st2.calls.dropLast }:=by
  unfold Stp.leaves at hc ⊢;split at hc
  . simp at hc
  . rename_i q1;rw [AC q1]
 rw [hl] at a ⊢;refine ⟨⟨⟨_,_,a⟩,t1,t2⟩,?_,?_⟩
 . show st2.base=st.base;rw [b1,e1]
 . show st2.calls.dropLast=st.calls;rw [b2,e1];simp
def KeepX.row {f:Nd->Rn->Except Int Rn}:∀(l:List Nd),(∀t,KeepX (f t))->KeepX (Ga f l)
 | [],_,r,O,G,h=>by
  simp only [Ga,Except.ok.injEq] at h;subst h;exact .refl G
 | t::l,M,r,O,G,h=>by
  simp only [Ga] at h;obtain ⟨a,U,V⟩:=A6 h;have N:=M t _ _ G U;exact N.trans (KeepX.row l M _ _ N.1 V)
def KeepX.block {f:Bool->Nd->Rn->Except Int Rn} (h:∀b t,KeepX (f b t)) (b:Bool) (t:Nd):KeepX (A0 f b t):=KeepX.row _ (h b)
def KeepX.loop {M N:Rn->Except Int Rn} {test entry:Nd} (O:KeepX M) (U:KeepX N):∀m,KeepX (Cz M N test entry m)
 | 0,r,r',_,h=>by simp [Cz] at h
 | m+1,r,r',hF,h=>by
  simp only [Cz] at h;obtain ⟨V,k1,h⟩:=A6 h;obtain ⟨a2,k2,h⟩:=A6 h;have G:=O _ _ hF k1;obtain ⟨-,X,-⟩:=Fx k2;split at h
  . simp only [Except.ok.injEq] at h;subst h;rw [X];exact G
  . obtain ⟨a3,Y,h⟩:=A6 h;obtain ⟨a4,k4,h⟩:=A6 h;rw [X] at Y;have Z:=U ⟨V.st,V.rem-1⟩ _ G.1 Y;obtain ⟨-,e4,-⟩:=D0 k4;rw [e4] at h;exact G.trans (Z.trans (KeepX.loop O U m ⟨a3.st,a3.rem-1⟩ _ Z.1 h))
def NS (ps:List PD):∀(d:Nat) (b:Bool) (t:Nd),KeepX (AI ps d b t)
 | 0,b,t,r,r',_,h=>by simp [AI] at h
 | d+1,b,.mk k n s l,r,r',M,h=>by
  have N:∀b t,KeepX (A0 (AI ps d) b t):=KeepX.block (NS ps d);unfold AI at h;by_cases c1:k=52
  . simp only [AT c1] at h;obtain ⟨p,G,h⟩:=A6 h;obtain ⟨c,O,h⟩:=A6 h;obtain ⟨-,e2,-⟩:=Fx G;rw [e2] at O;have e3:=N _ _ ⟨r.st,r.rem-1⟩ _ M O;obtain ⟨-,e5,-⟩:=D0 h;rw [e5];exact e3
  simp only [AC c1] at h;by_cases c2:k=53
  . simp only [AT c2] at h;obtain ⟨c,O,h⟩:=A6 h;obtain ⟨-,e5,-⟩:=D0 O;rw [e5] at h;exact KeepX.loop (N b _) (N b _) d ⟨r.st,r.rem-1⟩ _ M h
  simp only [AC c2] at h;by_cases c3:k=54
  . simp only [AT c3] at h;obtain ⟨a1,G,h⟩:=A6 h;obtain ⟨a2,O,h⟩:=A6 h;obtain ⟨a3,U,h⟩:=A6 h;obtain ⟨a4,V,h⟩:=A6 h;obtain ⟨a5,X,h⟩:=A6 h;obtain ⟨a6,k6,h⟩:=A6 h;obtain ⟨-,rfl⟩:=CG G;obtain ⟨Y,rfl⟩:=EP U;obtain ⟨-,rfl⟩:=CG X;obtain ⟨Z,rfl⟩:=EP h;exact Q2 M (gA rfl) Y (λhG=>N _ _ _ _ hG V) Z
  simp only [AC c3] at h;by_cases c4:k=55
  . simp only [AT c4] at h;obtain ⟨a1,G,h⟩:=A6 h;obtain ⟨a3,U,h⟩:=A6 h;obtain ⟨a4,V,h⟩:=A6 h;obtain ⟨a5,X,h⟩:=A6 h;obtain ⟨-,rfl⟩:=CG G;obtain ⟨Y,rfl⟩:=EP U;obtain ⟨-,rfl⟩:=CG X;obtain ⟨Z,rfl⟩:=EP h;exact Q2 M (gB rfl) Y (λhG=>N _ _ _ _ hG V) Z
  simp only [AC c4] at h;by_cases c5:k=50\/k=51
  . simp only [AT c5] at h;obtain ⟨a1,G,h⟩:=A6 h;obtain ⟨a3,U,h⟩:=A6 h;obtain ⟨a4,V,h⟩:=A6 h;obtain ⟨a5,X,h⟩:=A6 h;obtain ⟨-,rfl⟩:=CG G;obtain ⟨Y,rfl⟩:=EP U;obtain ⟨-,rfl⟩:=CG X;obtain ⟨Z,rfl⟩:=EP h;exact UZ M Y (λhG=>N _ _ _ _ hG V) Z
  . simp only [AC c5] at h;obtain ⟨a1,G,h⟩:=A6 h;obtain ⟨-,rfl⟩:=CG G;obtain ⟨-,rfl⟩:=EP h;exact Zv M ..
def Xa {vs:List VD} {ps:List PD} (hf:FitsP vs s) {d F:Nat} {b:Bool} {t:Nd} {r:Rn} (h:A0 (AI ps d) b t ⟨CK vs s vs.length,F⟩ = .ok r):FitsP vs r.st.sv:=by
 have M:=Tp hf;obtain ⟨hv,h3,h4,h5,h6⟩:=hf;rw [W9 h3] at h M;obtain ⟨⟨⟨K,m,hw⟩,t1,t2⟩,V,-⟩:=KeepX.block (NS ps d) b t _ _ ⟨⟨_,_,M⟩,h4,h5⟩ h;simp only at V;have N:r.st.sv.cells.length=vs.length:=by
  unfold Stp.sv;rw [V];simp
 have G:∀i,i<vs.length->r.st.sv.cells[i]? = some (r.st.items i):=λi X=>by
  unfold Stp.sv;rw [V];simp [X]
 refine ⟨hv,N,t1,t2,λi v xs Y h8=>?_⟩;have X:=(List.getElem?_eq_some_iff.1 Y).1;rw [G i X] at h8;obtain rfl:=gJ h8;have hb:=hw.base;rw [V] at hb;have hk:=hb.kind i v i Y (by simp [X]);have Z:=hv.2 v (iI Y);unfold IN at Z;unfold M0 CV;rcases hw.cell _ _ hk with ⟨O,U⟩|⟨O,U,-⟩|⟨O,U⟩<;>simp only at O U
 . rw [AC Ab,AT O];omega
 . rw [AC Ab,AC Ab];exact U
 . rw [AT O];exact U
def Xb (h:FitsP g.vars s) (f:Nat):FitsP g.vars (ER g s f).st:=by
 unfold ER;generalize Classical.choose _=d;cases hx:A0 (AI g.procs d) false g.main ⟨CK g.vars s g.vars.length,f⟩ with
 | error e=>exact h
 | ok r=>exact Xa h hx
def Zw (p:PG):∀x∈p.errs,x≠0:=by
 have h:∀l:List Nd,∀x∈Ce l,x≠0:=λl x G=>by
  unfold Ce at G;simpa using (List.mem_filter.1 G).2
 intro x G;unfold PG.errs at G;split at G
 . rcases jA.1 G with G|G
   . unfold Da at G;rw [List.mem_flatMap] at G;obtain ⟨q,-,G⟩:=G;exact h _ x G
   . exact h _ x G
 . cases G
def Q3 (g p:PG) (f:Nat) (s:SV) (l:List SV) (n:Int):W5 g p f (s::l) n=if (ER g s f).err≠0 then W5 g p f l n
 else if (ER p (ER g s f).st f).err=0/\(ER p (ER g s f).st f).st=s then W5 g p f l (Go.IntKind.wrap .i64 (n+1))
 else ⟨false,Go.IntKind.wrap .i64 (n+1),s,(ER p (ER g s f).st f).err⟩:=rfl
noncomputable def BL (e:EX) (p:PG):VdV×Int:=if Ez e p≠0 then (VdV.zero,Ez e p) else (W5 e.g p e.fuel.toNat (M1 e.g.vars e.box) 0,0)
def Sn (l m:List (List Int)) (S S':nP) (a Y:oA) (c c':Nat) (w:wD) (hl:l.length<=1000000) (hf:∀xs∈l,xs.length<=1000000) (aa:∀xs∈m,xs.length<=1000000) (U:ICs S w l a) (G:ICs S' w m Y) :
 Calls prog 123 #[.slice a l.length c,.slice Y m.length c',.func (.func 124) #[] #[]] w λe w'=> ∃q,e = .returned (.bool q)/\(q=true↔l=m)/\Ext w w':=by
 have X:=Ne w;rcases Decidable.em (l.length=m.length) with hn|hn
 case inr=>
  refine Ad func123 ntmps123 rfl rfl (kR ?_);exact ⟨false,rfl,⟨λh=>(by cases h),λh=>absurd (by rw [h]) hn⟩,X⟩
 refine Ad func123 ntmps123 rfl rfl (eK ?_);have U:=U.ltA;have G:=G.ltA;refine AF (ι:=Nat) (λj=>[(1,.slice Y m.length c'),(2,.func (.func 124) #[] #[]),(15,.slice a l.length c),(16,.int .i64 l.length),(17,.int .i64 j)])
  (λj w'=>j<=l.length/\l.take j=m.take j/\ICs (· < w.heap.size) w' l a/\ICs (· < w.heap.size) w' m Y/\Ext w w') (λj=>l.length-j) 0 sB ⟨gI _,rfl,U,G,X⟩ ?_
 rintro j w1 ⟨hj,ht,U,G,X⟩;by_cases N:j<l.length
 . have M:j<m.length:=by omega
   obtain ⟨kb,ko,rfl,kS,hk⟩:=U.get (by intro e;subst e;simp at N);obtain ⟨ah,ai,rfl,aj,ab⟩:=G.get (by intro e;subst e;simp at M);obtain ⟨xa,xc,r1,v1⟩:=hk j _ (fY N);obtain ⟨ac,ad,r2,v2⟩:=ab j _ (fY M);have p1:=hf _ (gK N);have p2:=aa _ (gK M);have V:l[j]=m[j]->l.take (j+1)=m.take (j+1):=λh=>by rw [gC N,gC M,ht,h]
   have ae:l[j]≠m[j]->l≠m:=λh e=>h (by subst e;rfl)
   generalize l[j]=x at *;generalize m[j]=y at *;have Z:=fZ (λw1 h h'=>LF x y p1 p2 xa ac xc ad w1 (FX (S:=(· < w.heap.size)) h) (FX (S:=(· < w.heap.size)) h'));by_cases O:x=y
   . rw [decide_eq_true O] at Z;refine eK ?_;refine Az (Bb (fi:=[]) (ca:=[]) AR rfl rfl (Z.out _ Af Af) (λ_ _ h=>⟨_,h.1⟩)) rfl ?_ aFh;rintro ak al ⟨⟨⟩,af⟩;revert X U G;refine eE af ?_;intro X U G;refine eK ?_;exact Av (j+1) sB ⟨Ab,V O,U,G,X⟩ Ab
   . rw [decide_eq_false O] at Z;refine eK ?_;refine Az (Bb (fi:=[]) (ca:=[]) AR rfl rfl (Z.out _ Af Af) (λ_ _ h=>⟨_,h.1⟩)) rfl ?_ aFh;rintro am an ⟨⟨⟩,ag⟩;have X:=X.ext ag;refine kR ?_;exact ⟨false,rfl,⟨λh=>(by cases h),λh=>absurd h (ae O)⟩,X⟩
 . obtain rfl:j=l.length:=by omega
   rw [gL,hn,gL] at ht;refine kR ?_;exact ⟨true,rfl,⟨λ_=>ht,λ_=>rfl⟩,X⟩
def U0 (s t:SV) (ah:s.small) (ai:t.small) (S S':nP) (a ta oa a' V Y:oA) (c tc oc c' ac ad:Nat) (w:wD) (hs:s.sits S w a ta oa) (aj:t.sits S' w a' V Y) :
 Calls prog 87 #[.agg (s.row a c ta tc oa oc).toArray,.agg (t.row a' c' V ac Y ad).toArray] w λe w'=> ∃q,e = .returned (.bool q)/\(q=true↔s=t)/\Ext w w':=by
 have X:=Ne w;obtain ⟨cells,af,tout⟩:=s;obtain ⟨M,ab,O⟩:=t;obtain ⟨h1,h2,h3⟩:=hs;obtain ⟨Z,N,G⟩:=aj;obtain ⟨m1,m2,m3,m4⟩:=ah;obtain ⟨ar,ak,al,am⟩:=ai;simp only [SV.mk.injEq] at *;have HE:=fZ (λw1 h h'=>Sn cells M S S' a a' c c' w1 m1 m2 ak h h');have HI:=fZ (λw1 h h'=>LF af ab m3 al ta V tc ac w1 (FX (S:=S) h) (FX (S:=S') h'));have HO:=fZ (λw1 h h'=>LF tout O m4 am oa Y oc ad w1 (FX (S:=S) h) (FX (S:=S') h'));change Calls prog _ #[.agg #[.slice a cells.length c,.slice ta af.length tc,.slice oa tout.length oc],.agg #[.slice a' M.length c',.slice V ab.length ac,.slice Y O.length ad]] w _;refine Ad func87 ntmps87 rfl rfl ?_
 focus
  refine cS (eB [_,_,_] ?_);intro b1 w2 h4 x5 _ _;revert X h1 h2 h3 Z N G;refine eE x5 ?_;intro X h1 h2 h3 Z N G;refine eB [_,_,_] ?_;intro b8 w9 U an _ _;revert h4 X h1 h2 h3 Z N G;refine eE an ?_;intro h4 X h1 h2 h3 Z N G;refine eK ?_;refine Az (AM AR rfl (HE.out _ Af Af) (λ_ _ ⟨_,h⟩=>⟨_,h.1⟩)) rfl ?_ aFh;rintro _ au ⟨av,⟨⟩,ag,ao⟩;revert U h4 X h2 h3 N G;refine eE ao ?_;intro U h4 X h2 h3 N G;refine C1 Mv (N8 rfl rfl rfl (λaa=>?_) (λaa=>?_));refine AP rfl rfl rfl (G3 Af) (C1 Pf (AP rfl rfl rfl (G3 Af) (C1 (Pl h4) (AP rfl rfl rfl (G3 Af) (C1 Pf (AP rfl rfl rfl (G3 Af) (C1 (Pl U) (AP rfl rfl rfl (G3 Af) (cC rfl (HI.out _ Af Af) ?_)))))))));rintro _ aw ⟨⟨⟩,ap⟩;revert U h4 X h3 G;refine eE ap ?_;intro U h4 X h3 G;refine C1 (B3 rfl rfl Af) (C1 Mv (B4 rfl rfl rfl (λae=>?_) (λae=>?_)));refine kC (HO.out _ Af Af) ?_;rintro _ ax ⟨⟨⟩,aq⟩;have X:=X.ext aq;refine kR ?_;rotate_left;refine kR ?_;rotate_left;refine A7 rfl rfl rfl (G4 Af) rfl (A7 rfl rfl rfl (G4 Af) rfl (A7 rfl rfl rfl (G4 Af) rfl (A7 rfl rfl rfl (G4 Af) rfl (A7 rfl rfl rfl (G4 Af) rfl (C1 (Bu rfl rfl Af) (kR ?_))))));rotate_left
 . exact ⟨_,rfl,⟨λh=>⟨ag.1 aa,ae,of_decide_eq_true h⟩,λh=>decide_eq_true h.2.2⟩,X⟩
 . exact ⟨false,rfl,⟨λh=>(by cases h),λh=>absurd h.2.1 ae⟩,X⟩
 . exact ⟨false,rfl,⟨λh=>(by cases h),λh=>by rw [ag.2 h.1] at aa;cases aa⟩,X⟩
def JL {P:Program} {d:Nat} {xs ys:Array Value} {w:wD} {B:Nat->Bool}:∀(G:List Field),(∀f∈G,(f.name == "_")=false /\ ∃u v,(part f.type xs f.offset).run P w = .ok u w/\(part f.type ys f.offset).run P w = .ok v w/\(Op.equalIn d f.type u v).run P w = .ok (B f.offset) w)->(Op.eqFields d xs ys G).run P w = .ok (G.all λf=>B f.offset) w
 | [],_=>by simp [Op.eqFields]
 | f::G,h=>by
  obtain ⟨M,u,v,N,O,U⟩:=h f jH;have V:=JL (P:=P) (d:=d) (xs:=xs) (ys:=ys) (w:=w) (B:=B) G (λg X=>h g (jB _ X))
  unfold Op.eqFields
  rw [AT (show f.name ≠ "_" from λe=>by rw [e] at M;cases M)]
  cases hb:B f.offset
  . simp [gO,N,O,U,hb,jL]
  . simp [gO,N,O,U,hb,jL,V]
def U1 (u v:VD) (o:Nat):Bool:=if o=0 then decide (u.name=v.name) else if o=1 then decide (u.kind=v.kind) else decide (u.len=v.len)
def So (u v:VD) (w:wD):(Op.equalIn 10000 77 u.val v.val).run prog w = .ok (U1 u v 0&&(U1 u v 1&&U1 u v 2)) w:=by
 rw [show (10000:Nat)=9999+1 from rfl,run_equalIn_agg w 9999 _ _ _ P7 P8];rw [JL (B:=U1 u v) _ (λf O=>?_)]
 . have e:((prog.fieldsOf 77).toList.all λf=>U1 u v f.offset)=(((prog.fieldsOf 77).toList.map (λf=>(f.name == "_",f.type,f.offset))).all λt=>U1 u v t.2.2):=by rw [List.all_map];rfl
   rw [e,JZ];simp only [lF,List.all_nil,Bool.and_true]
 . have N:(f.name == "_",f.type,f.offset)∈(prog.fieldsOf 77).toList.map (λf=>(f.name == "_",f.type,f.offset)):=List.mem_map.2 ⟨f,O,rfl⟩
   rw [JZ] at N;simp only [gT,iX,or_false,lp] at N
   rcases N with ⟨h,G,M⟩|⟨h,G,M⟩|⟨h,G,M⟩
   . rw [G,M]
     refine ⟨h,str u.name,str v.name,Ea (cs:=u.cells) Ac rfl rfl rfl w,Ea (cs:=v.cells) Ac rfl rfl rfl w,?_⟩
     rw [run_equalIn_string w 9998 _ _ _ (show prog.underlying 9=some .string from (Ac 9 .str 1 rfl).under)];simp [U1,FE]
   . rw [G,M]
     refine ⟨h,.int .u8 u.kind,.int .u8 v.kind,Ea (cs:=u.cells) Ac rfl rfl rfl w,Ea (cs:=v.cells) Ac rfl rfl rfl w,?_⟩
     rw [run_equalIn_int w 9998 _ _ .u8 _ _ (show prog.underlying 5=some (.int .u8) from (Ac 5 (.int .u8) 1 rfl).under)];simp [U1,FE]
   . rw [G,M]
     refine ⟨h,.int .i64 u.len,.int .i64 v.len,Ea (cs:=u.cells) Ac rfl rfl rfl w,Ea (cs:=v.cells) Ac rfl rfl rfl w,?_⟩
     rw [run_equalIn_int w 9998 _ _ .i64 _ _ (show prog.underlying 3=some (.int .i64) from (Ac 3 (.int .i64) 1 rfl).under)];simp [U1,FE]
def bG {u v:VD} (h:u≠v):(U1 u v 0&&(U1 u v 1&&U1 u v 2))=false:=by
 obtain ⟨un,O,U⟩:=u;obtain ⟨V,X,Y⟩:=v;rw [<-Bool.not_eq_true];intro e;simp only [U1,gD] at e;obtain ⟨G,M,N⟩:=e;simp at G M N;exact h (by rw [G,M,N])
def Xc {S:wD->Prop} {t':TypeId} {y:Operand} {u v:VD} (h:u≠v) (M:ev l x=some u.val) (N:ev l y=some v.val):Bm prog n l S (.binOp .neq 77 x y t') ty (.bool true):=by
 unfold Bm;intro a w O pos after g G _;have U:=run_eqGuard_agg (P:=prog) w .neq 77 x y u.cells.toArray v.cells.toArray P9;have V:(binOp .neq 77 u.val v.val).run prog w = .ok (.bool true) w:=by
  rw [run_neq_struct,So,bG h];rfl
 simp only [execOp,G.ev M,G.ev N,gO,U,V,jL,hH]
def Sq (l m:List VD) (S S':nP) (a a':oA) (c c':Nat) (w:wD) (hl:l.length<=1000000000) (hs:VDs S w l a) (G:VDs S' w m a') :
 Calls prog 82 #[.slice a l.length c,.slice a' m.length c'] w λe w'=> ∃q,e = .returned (.bool q)/\(q=true↔l=m)/\Ext w w':=by
 have X:=Ne w;rcases Decidable.em (l.length=m.length) with hn|hn
 case inr=>
  refine Ad func82 ntmps82 rfl rfl ?_;refine kR ?_;exact ⟨false,rfl,⟨λh=>(by cases h),λh=>absurd (by rw [h]) hn⟩,X⟩
 refine Ad func82 ntmps82 rfl rfl ?_;refine eK ?_;refine AF (ι:=Nat) (λj=>[(0,.slice a l.length c),(1,.slice a' m.length c'),(12,.int .i64 l.length),(13,.int .i64 j)]) (λj w'=>VDs S w' l a/\VDs S' w' m a'/\l.take j=m.take j/\Ext w w'/\j<=l.length) (λj=>l.length-j) 0 sB ⟨hs,G,rfl,X,gI _⟩ ?_;clear hs G X;rintro j w1 ⟨hs,G,ht,X,hj⟩;by_cases ae:j<l.length
 . have aa:j<m.length:=by omega
   obtain ⟨kb,ko,rfl,-,hk⟩:=mM hs Ab;obtain ⟨ai,aj,rfl,-,af⟩:=mM G Ab;have r1:Row w1 ⟨kb,ko+j*3,none⟩ l[j].cells:=hk j _ (fY ae);have r2:Row w1 ⟨ai,aj+j*3,none⟩ m[j].cells:=af j _ (fY aa);have ab:l[j]=m[j]->l.take (j+1)=m.take (j+1):=λh=>by rw [gC ae,gC aa,ht,h]
   have ac:l[j]≠m[j]->l≠m:=λh e=>h (by subst e;rfl)
   clear hk af;generalize l[j]=x at *;generalize m[j]=y at *;by_cases ad:x=y
   . subst ad;refine eK ?_;refine Ap (λU=>Ext w1 U) 8 (.pure 0 (.pure 1 (.pure 2 (.pure 3 (.pure 4 (.pure 5 (.pure 6 (.pure 7 .tail)))))))) mixed AR (Aa (Ae (Aa (Aa (Ae (Aa Ag)))))) ?_;intro ak ag _;have V:(λU=>Ext w1 U) ak:=ag;simp only at V;have Y:=hs;have O:=G;have M:=r1;have N:=r2;revert X hs G;refine eE ag ?_;intro X hs G;refine ⟨V,?_⟩;refine eT ?_;refine Tq rfl (Bt Ac rfl rfl rfl (λU hz=>(mw M hz)) rfl) ?_;refine eT ?_;refine Tq rfl (Bt Ac rfl rfl rfl (λU hz=>(mw N hz)) rfl) ?_;clear V Y O M N;refine Aq rfl (C1 (Uu (v:=x) rfl rfl) ?_);refine eK ?_;exact Av (j+1) sB ⟨hs,G,ab rfl,X,Ab⟩ Ab
   . have ac:=ac ad;clear ab;refine eK ?_;refine Ap (λU=>Ext w1 U) 8 (.pure 0 (.pure 1 (.pure 2 (.pure 3 (.pure 4 (.pure 5 (.pure 6 (.pure 7 .tail)))))))) mixed AR (Aa (Ae (Aa (Aa (Ae (Aa Ag)))))) ?_;intro al ah _;have Z:(λU=>Ext w1 U) al:=ah;simp only at Z;have Y:=hs;have O:=G;have M:=r1;have N:=r2;have X:=X.ext ah;refine ⟨Z,?_⟩;refine eT ?_;refine Tq rfl (Bt Ac rfl rfl rfl (λU hz=>(mw M hz)) rfl) ?_;refine eT ?_;refine Tq rfl (Bt Ac rfl rfl rfl (λU hz=>(mw N hz)) rfl) ?_;clear Z Y O M N;refine Aq rfl (C1 (Xc (u:=x) (v:=y) ad rfl rfl) ?_);refine kR ?_;exact ⟨false,rfl,⟨λh=>(by cases h),λh=>absurd h ac⟩,X⟩
 . obtain rfl:j=l.length:=by omega
   rw [gL,hn,gL] at ht;refine kR ?_;exact ⟨true,rfl,⟨λ_=>ht,λ_=>rfl⟩,X⟩
def Xd (g:PG) (h:g.wf) (G:g.ok=false) (S:nP) (M:oA) (vc:Nat) (N:oA) (V:Nat) (O:oA) (Y:Nat) (w:wD) (U:g.sits S w M N O) :
 Calls prog 70 #[.agg (g.cells M vc N V O Y).toArray] w (ChkR [] w):=by
 have Z:=fZ (FM h G);have X:=Ne w;refine Ad func70 ntmps70 rfl rfl (cS (eB [_,_,_,_,_,_] ?_));intro b1 w2 h4 x5 _ _;revert U X;refine eE x5 ?_;intro U X;refine kC (Z.out _ _ _ _ _ _ _ _ Af) ?_;rintro _ w9 ⟨⟨⟩,x8⟩;have X:=X.ext x8;refine kR ?_;exact ⟨none,0,rfl,ni,X,λ_=>⟨rfl,rfl⟩⟩
def Zx (e:EX) (hw:e.wf) (p:PG) (hp:p.wf) (d8:p.vars.length<=1000000) (S:nP) (va:oA) (vc:Nat) (pa:oA) (pc:Nat) (ma:oA) (mc:Nat) (ae:oA) (al:Nat) (an:oA) (ap:Nat) (ao:oA) (aq:Nat) (w:wD)
 (U:e.sits S w va pa ma vc) (G:p.sits S w ae an ao) (M:PDsC S w p.procs an) (a0:p.vars.length<=al) :
 Calls prog 46 #[.agg (e.cells va vc pa pc ma mc).toArray,.agg (p.cells ae al an ap ao aq).toArray] w λr w'=>r = .returned (.int .i64 (Ez e p))/\Ext w w':=by
 have X:=Ne w;have U:=U.ltA;have G:=G.ltA;have M:=M.ltA;have HE:=fZ (λw1 h=>Nv e hw (· < w.heap.size) va vc pa pc ma mc w1 h);have HV:=fZ (λ(q:Bool) (h:p.ok=q)=>FM hp h);have HS:=fZ (λ(h:p.ok=true) w1 h1 h2=>Jw p hp h (· < w.heap.size) ae al an ap ao aq w1 h1 h2 a0);have HC:=fZ (λ(h:p.ok=true) w1 h1 h2=>Qo p hp h (· < w.heap.size) ae al an ap ao aq w1 h1 h2 a0);have HN:=fZ (λ(h:p.ok=false) w1 h1=>Xd p hp h (· < w.heap.size) ae al an ap ao aq w1 h1);have HQ:=fZ (λw1 (h1:VDs (· < w.heap.size) w1 p.vars ae) (h2:VDs (· < w.heap.size) w1 e.g.vars va)=>Sq p.vars e.g.vars _ _ ae va al vc w1 Ab h1 h2);have N:=U.g.vars;have O:=G.vars;unfold mZ Ez at *;generalize ar:decide e.valid=q1 at *;rcases Decidable.em e.valid with h1|h1
 case inr=>
  rw [decide_eq_false h1] at ar;subst ar;rw [AT h1];clear HV HS HC HN HQ hp hw;refine Ad func46 ntmps46 rfl rfl ?_;refine cS (eB [_,_,_,_,_,_,_,_,_,_,_,_] ?_);intro b1 w2 h4 x5 p6 z7;revert X U G M N O;refine eE x5 ?_;intro X U G M N O;refine eB [_,_,_,_,_,_] ?_;intro b8 w9 a1 bs d9 ea;revert h4 X U G M N O;refine eE bs ?_;intro h4 X U G M N O;refine eK ?_;refine AH [_,_,_,_,_,_,_,_,_,_,_,_] Ac rfl rfl rfl h4 rfl rfl rfl (cC rfl (HE.out _ Af) ?_);rintro _ eb ⟨⟨⟩,bt⟩;revert a1 h4 X U G M N O;refine eY bt ?_;intro ec a1 h4 X U G M N O;refine kR ?_;exact ⟨rfl,X⟩
 rw [decide_eq_true h1] at ar;subst ar;rw [AC (λh=>h h1)];cases hok:p.ok
 . have HV:=fZ (HV.out _ hok);have HN:=fZ (HN.out hok);rw [AT (gA rfl)];clear HS HC HQ hp hw hok h1;refine Ad func46 ntmps46 rfl rfl ?_;refine cS (eB [_,_,_,_,_,_,_,_,_,_,_,_] ?_);intro ed ee ak bu ef eg;revert X U G M N O;refine eE bu ?_;intro X U G M N O;refine eB [_,_,_,_,_,_] ?_;intro eh ei ag a2 b0 b2;revert ak X U G M N O;refine eE a2 ?_;intro ak X U G M N O;refine eK ?_;refine AH [_,_,_,_,_,_,_,_,_,_,_,_] Ac rfl rfl rfl ak rfl rfl rfl (cC rfl (HE.out _ Af) ?_);rintro _ b3 ⟨⟨⟩,a3⟩;revert ag ak X U G M N O;refine eY a3 ?_;intro b4 ag ak X U G M N O;refine kQ (HN.out _ Af) ?_;rintro _ b5 ⟨b6,b7,⟨⟩,au,a4,b9⟩;revert ag ak X U G M N O;refine eY a4 ?_;intro ca ag ak X U G M N O;refine kC (HV.out _ _ _ _ _ _ _ _ Af) ?_;rintro _ cb ⟨⟨⟩,a5⟩;revert au ag ak X U G M N O;refine eY a5 ?_;intro cc au ag ak X U G M N O;refine kR ?_;exact ⟨rfl,X⟩
 have HV:=fZ (HV.out _ hok);have HS:=fZ (HS.out hok);have HC:=fZ (HC.out hok);clear HN hp hw hok h1;rcases Decidable.em (p.flt=0) with h2|h2
 case inr=>
  rw [AT (gB h2)];have h3:0<p.flt:=Nat.pos_of_ne_zero h2;generalize p.flt=nf at *;generalize p.errs=xs at *;clear HQ h2;refine Ad func46 ntmps46 rfl rfl ?_;refine cS (eB [_,_,_,_,_,_,_,_,_,_,_,_] ?_);intro ej ek af bv el en;revert X U G M N O;refine eE bv ?_;intro X U G M N O;refine eB [_,_,_,_,_,_] ?_;intro eo ep ac a6 cd ce;revert af X U G M N O;refine eE a6 ?_;intro af X U G M N O;refine eK ?_;refine AH [_,_,_,_,_,_,_,_,_,_,_,_] Ac rfl rfl rfl af rfl rfl rfl (cC rfl (HE.out _ Af) ?_);rintro _ cf ⟨⟨⟩,a7⟩;revert ac af X U G M N O;refine eY a7 ?_;intro cg ac af X U G M N O;refine kQ (HC.out _ Af Af) ?_;rintro _ ch ⟨ci,cj,⟨⟩,am,a8,ck⟩;revert ac af X U G M N O;refine eY a8 ?_;intro cl ac af X U G M N O;refine kC (HV.out _ _ _ _ _ _ _ _ Af) ?_;rintro _ cm ⟨⟨⟩,a9⟩;revert am ac af X U G M N O;refine eY a9 ?_;intro cn am ac af X U G M N O;refine kQ (HS.out _ Af Af) ?_;rintro _ co ⟨cp,cq,⟨⟩,ba⟩;revert am ac af X U G M N O;refine eY ba ?_;intro cr am ac af X U G M N O;refine kR ?_;exact ⟨rfl,X⟩
 rw [h2] at HS;rw [AC (by simp [h2])];cases hE:p.errs with
 | cons er tl=>
  rw [hE] at HC;clear HQ;refine Ad func46 ntmps46 rfl rfl ?_
  focus
   refine cS (eB [_,_,_,_,_,_,_,_,_,_,_,_] ?_);intro eq et ad bw eu ew;revert X U G M N O;refine eE bw ?_;intro X U G M N O;refine eB [_,_,_,_,_,_] ?_;intro ex ey Z bb ct cu;revert ad X U G M N O;refine eE bb ?_;intro ad X U G M N O;refine eK ?_;refine AH [_,_,_,_,_,_,_,_,_,_,_,_] Ac rfl rfl rfl ad rfl rfl rfl (cC rfl (HE.out _ Af) ?_);rintro _ cv ⟨⟨⟩,bc⟩;revert Z ad X U G M N O;refine eY bc ?_;intro cw Z ad X U G M N O;refine kQ (HC.out _ Af Af) ?_;rintro _ cx ⟨cy,cz,⟨⟩,ah,bd,be⟩;revert Z ad X U G M N O;refine eY bd ?_;intro c0 Z ad X U G M N O;refine kC (HV.out _ _ _ _ _ _ _ _ Af) ?_;rintro _ c1 ⟨⟨⟩,bf⟩;revert ah Z ad X U G M N O;refine eY bf ?_;intro c2 ah Z ad X U G M N O;refine kQ (HS.out _ Af Af) ?_;rintro _ c3 ⟨c4,c5,⟨⟩,bg⟩;revert ah Z ad X U G M N O;refine eY bg ?_;intro c6 ah Z ad X U G M N O;refine eK ?_;refine AA rfl (λav=>?_) (λav=>?_);rotate_left;refine eK ?_;rotate_left
  . obtain ⟨g0,c7,bh,-,-,aw⟩:=ah.rows AQ;simp only [iF] at bh;obtain ⟨rfl,-,-⟩:=bh;obtain ⟨cs,hr,p0,ez,e0,e1,s0,rfl⟩:=aw 0 er rfl;clear aw ah be Z ad N O HC HS HV HE hE;refine eK ?_;refine C1 (Pw hr) ?_;refine kR ?_;exact ⟨rfl,X⟩
  . exact absurd AQ av
 | nil=>
  rw [hE] at HC;by_cases h3:p.vars=e.g.vars
  . rw [AT h3];have az:Hid (∀w1,VDs (· < w.heap.size) w1 p.vars ae->VDs (· < w.heap.size) w1 e.g.vars va->Calls prog 82 #[.slice ae p.vars.length al,.slice va e.g.vars.length vc] w1 λe w'=>e = .returned (.bool true)/\Ext w1 w'):=fZ λw1 h1 h2=>(HQ.out w1 h1 h2).mono λ_ _ ⟨q,g1,g2,g3⟩=>⟨by rw [g1,g2.2 h3],g3⟩
    clear HQ h3;refine Ad func46 ntmps46 rfl rfl ?_;refine cS (eB [_,_,_,_,_,_,_,_,_,_,_,_] ?_);intro e2 e3 aa bx e4 e5;revert X U G M N O;refine eE bx ?_;intro X U G M N O;refine eB [_,_,_,_,_,_] ?_;intro e6 e7 V bi c8 c9;revert aa X U G M N O;refine eE bi ?_;intro aa X U G M N O;refine eK ?_;refine AH [_,_,_,_,_,_,_,_,_,_,_,_] Ac rfl rfl rfl aa rfl rfl rfl (cC rfl (HE.out _ Af) ?_);rintro _ da ⟨⟨⟩,bj⟩;revert V aa X U G M N O;refine eY bj ?_;intro db V aa X U G M N O;refine kQ (HC.out _ Af Af) ?_;rintro _ dc ⟨dd,de,⟨⟩,ai,bk,df⟩;revert V aa X U G M N O;refine eY bk ?_;intro dg V aa X U G M N O;refine kC (HV.out _ _ _ _ _ _ _ _ Af) ?_;rintro _ dh ⟨⟨⟩,bl⟩;revert ai V aa X U G M N O;refine eY bl ?_;intro di ai V aa X U G M N O;refine kQ (HS.out _ Af Af) ?_;rintro _ dk ⟨dl,dm,⟨⟩,bm⟩;revert ai V aa X U G M N O;refine eY bm ?_;intro dn ai V aa X U G M N O;refine kC (az.out _ Af Af) ?_;rintro _ dp ⟨⟨⟩,ax⟩;have dq:=ax.size;revert ai V aa X U G M N O;refine eE ax ?_;intro ai V aa X U G M N O;refine kR ?_;exact ⟨rfl,X⟩
  . rw [AC h3];have az:Hid (∀w1,VDs (· < w.heap.size) w1 p.vars ae->VDs (· < w.heap.size) w1 e.g.vars va->Calls prog 82 #[.slice ae p.vars.length al,.slice va e.g.vars.length vc] w1 λe w'=>e = .returned (.bool false)/\Ext w1 w'):=fZ λw1 h1 h2=>(HQ.out w1 h1 h2).mono λ_ _ ⟨q,g1,g2,g3⟩=>⟨by rw [g1];cases q;rfl;exact absurd (g2.1 rfl) h3,g3⟩
    clear HQ h3;refine Ad func46 ntmps46 rfl rfl ?_;refine cS (eB [_,_,_,_,_,_,_,_,_,_,_,_] ?_);intro e8 e9 ab bz fa fb;revert X U G M N O;refine eE bz ?_;intro X U G M N O;refine eB [_,_,_,_,_,_] ?_;intro fc fd Y bn dr ds;revert ab X U G M N O;refine eE bn ?_;intro ab X U G M N O;refine eK ?_;refine AH [_,_,_,_,_,_,_,_,_,_,_,_] Ac rfl rfl rfl ab rfl rfl rfl (cC rfl (HE.out _ Af) ?_);rintro _ dt ⟨⟨⟩,bo⟩;revert Y ab X U G M N O;refine eY bo ?_;intro du Y ab X U G M N O;refine kQ (HC.out _ Af Af) ?_;rintro _ dv ⟨dw,dx,⟨⟩,aj,bp,dy⟩;revert Y ab X U G M N O;refine eY bp ?_;intro dz Y ab X U G M N O;refine kC (HV.out _ _ _ _ _ _ _ _ Af) ?_;rintro _ d0 ⟨⟨⟩,bq⟩;revert aj Y ab X U G M N O;refine eY bq ?_;intro d1 aj Y ab X U G M N O;refine kQ (HS.out _ Af Af) ?_;rintro _ d2 ⟨d3,d4,⟨⟩,br⟩;revert aj Y ab X U G M N O;refine eY br ?_;intro d5 aj Y ab X U G M N O;refine kC (az.out _ Af Af) ?_;rintro _ d6 ⟨⟨⟩,ay⟩;have d7:=ay.size;revert aj Y ab X U G M N O;refine eE ay ?_;intro aj Y ab X U G M N O;refine kR ?_;exact ⟨rfl,X⟩
def U2 (e:EX) (f:Nat) (hf:e.fuel=(f:Int)) (b7:f<=10000) (p:PG) (hp:p.wf) (au:p.acc) (s t:SV) (be:FitsP p.vars s) (bo:t.small) (S:nP) (va:oA) (vc:Nat) (pa:oA) (pc:Nat) (ma:oA) (mc:Nat) (av:oA) (a0:Nat) (ah:oA) (bh:Nat) (aw:oA) (bi:Nat)
 (ca ta oa a4 a5 a6:oA) (cc tc oc bp bq br:Nat) (w:wD) (G:p.sits S w av ah aw) (M:PDsC S w p.procs ah) (b9:p.vars.length<=a0) (O:s.sits S w ca ta oa) (U:t.sits S w a4 a5 a6) :
 Calls prog 49 #[.agg (e.cells va vc pa pc ma mc).toArray,.agg (p.cells av a0 ah bh aw bi).toArray,.agg (s.row ca cc ta tc oa oc).toArray,.agg (t.row a4 bp a5 bq a6 br).toArray] w λr w'=>
  ∃q,r = .returned (.tuple #[.bool q,.int .i64 (ER p s f).err])/\(q=true↔(ER p s f).err=0/\(ER p s f).st=t)/\Ext w w':=by
 have X:=Ne w;have G:=G.ltA;have M:=M.ltA;have O:=O.ltA;have U:=U.ltA;have HF:Hid (∀w1,p.sits (· < w.heap.size) w1 av ah aw->PDsC (· < w.heap.size) w1 p.procs ah->s.sits (· < w.heap.size) w1 ca ta oa->Calls prog 48 #[.agg (p.cells av a0 ah bh aw bi).toArray,.agg (s.row ca cc ta tc oa oc).toArray,.int .i64 e.fuel] w1 (ResR (ER p s f) w1)):=
  fZ λw1 h1 h2 h3=>by rw [hf];exact NQ p hp au.1 au.2.1 s be f b7 _ (OV p s f) _ av a0 ah bh aw bi ca ta oa cc tc oc w1 h1 h2 b9 h3
 have HQ:=fZ (λ(u:SV) S1 a1 a2 a3 c1 c2 c3 w1 h0 h1 (h2:t.sits (· < w.heap.size) w1 a4 a5 a6)=>U0 u t h0 bo S1 _ a1 a2 a3 a4 a5 a6 c1 c2 c3 bp bq br w1 h1 h2);generalize ER p s f=r at *;clear hp au be hf bo;unfold mZ at *;obtain ⟨⟨a7,bs,bj⟩,n,er⟩:=r;obtain ⟨b5,cr,cb⟩:=t;obtain ⟨b6,ct,cd⟩:=s;simp only [SV.mk.injEq] at *;by_cases bt:er=0
 . subst bt;refine Ad func49 ntmps49 rfl rfl ?_;refine cS (eB [_,_,_,_,_,_,_,_,_,_,_,_] ?_);intro b1 w2 h4 x5 p6 z7;revert X G M U O;refine eE x5 ?_;intro X G M U O;refine eB [_,_,_,_,_,_] ?_;intro b8 w9 Y ce dm dn;revert h4 X G M U O;refine eE ce ?_;intro h4 X G M U O;refine Dl [_,_,_] rfl rfl rfl ?_;intro dp dq a8;have ab:=a8.blk;dsimp only at ab;have cf:=a8.ext;have dr:=a8.pos;have ds:=a8.size;revert Y h4 X G M U O;refine eE cf ?_;intro Y h4 X G M U O;refine Dl [_,_,_] rfl rfl rfl ?_;intro dt du a9;have ac:=a9.blk;dsimp only at ac;have cg:=a9.ext;have dv:=a9.pos;have z28:=a9.size;revert ab Y h4 X G M U O;refine eE cg ?_;intro ab Y h4 X G M U O;refine kQ (HF.out _ Af Af Af) ?_;rintro _ dw ⟨dx,dy,cu,cv,cw,cx,⟨⟩,ai,dz,ch⟩;revert ac ab Y h4 X G M U O;refine eY ch ?_;intro d0 ac ab Y h4 X G M U O;refine xA [_,_,_,_,_] ?_;intro d1 d2 aq;refine De [_,_,_,_,_] Ac rfl rfl rfl rfl rfl rfl aq rfl ?_;intro bu aq;have ar:=aq.blk;dsimp only at ar;have ci:=aq.ext;have d3:=aq.pos;have d4:=aq.size;revert ai ac ab Y h4 X G M U O;refine eE ci ?_;intro ai ac ab Y h4 X G M U O;refine eK ?_;refine Ap (λwz=>Ext bu wz) 12 (.pure 0 (.pure 1 (.pure 2 (.pure 3 (.pure 4 (.pure 5 (.pure 6 (.pure 9 (.pure 10 (.fork 7 (.pure 8 (.pure 11 .tail)) .none)))))))))) mixed AR (Aa Ag) ?_;intro cj bv _;have ad:(λwz=>Ext bu wz) cj:=bv;simp only at ad;have aj:=ar;have bk:=ai;have ax:=ac;have bl:=ab;have bm:=Y;have bw:=h4;have ak:=G;have al:=M;have ay:=U;have az:=O;revert ar ai ac ab Y h4 X G M U O;refine eY bv ?_;intro d5 ar ai ac ab Y h4 X G M U O;refine ⟨ad,?_⟩;refine eT ?_;refine eN rfl (xL [_,_,_] (λwz hz=>(my aj hz))) (eN rfl (xL [_,_,_] (λwz hz=>(my ax hz))) (Tq rfl Pf (Tq rfl (Db aj) ?_)));refine Fj rfl rfl rfl rfl (Dp C2) (AM AR rfl (HQ.out ⟨a7,bs,bj⟩ _ _ _ _ _ _ _ _ Af Af Af) (λ_ _ ⟨_,h⟩=>⟨_,h.1⟩)) rfl ?_ aFh Au;rintro _ d6 ⟨d7,⟨⟩,ck,cl⟩;revert ad ar ai ac ab Y h4 X G M U O;refine eY cl ?_;intro d8 ad ar ai ac ab Y h4 X G M U O;refine ⟨ad,?_⟩;refine Tq rfl ZN (Tq rfl Pa ?_);clear aj bk ax bl bm bw ak al ay az ad
   refine Aq rfl ?_;refine kT ?_;exact ⟨_,rfl,by rw [ck];simp [SV.mk.injEq],X⟩
 . refine Ad func49 ntmps49 rfl rfl ?_;refine cS (eB [_,_,_,_,_,_,_,_,_,_,_,_] ?_);intro d9 ea Z cm eb ec;revert X G M U O;refine eE cm ?_;intro X G M U O;refine eB [_,_,_,_,_,_] ?_;intro ed ee N bx cy cz;revert Z X G M U O;refine eE bx ?_;intro Z X G M U O;refine Dl [_,_,_] rfl rfl rfl ?_;intro c0 c4 an;have V:=an.blk;dsimp only at V;have bz:=an.ext;have c5:=an.pos;have c6:=an.size;revert N Z X G M U O;refine eE bz ?_;intro N Z X G M U O;refine Dl [_,_,_] rfl rfl rfl ?_;intro c7 c8 ao;have aa:=ao.blk;dsimp only at aa;have b0:=ao.ext;have c9:=ao.pos;have da:=ao.size;revert V N Z X G M U O;refine eE b0 ?_;intro V N Z X G M U O;refine kQ (HF.out _ Af Af Af) ?_;rintro _ db ⟨dc,dd,cn,co,cp,cq,⟨⟩,ag,de,b2⟩;revert aa V N Z X G M U O;refine eY b2 ?_;intro df aa V N Z X G M U O;refine xA [_,_,_,_,_] ?_;intro dg dh ae;refine De [_,_,_,_,_] Ac rfl rfl rfl rfl rfl rfl ae rfl ?_;intro bf ae;have ap:=ae.blk;dsimp only at ap;have b3:=ae.ext;have di:=ae.pos;have dk:=ae.size;revert ag aa V N Z X G M U O;refine eE b3 ?_;intro ag aa V N Z X G M U O;refine eK ?_;refine Ap (λwz=>Ext bf wz) 12 (.pure 0 (.pure 1 (.pure 2 (.pure 3 (.pure 4 (.pure 5 (.pure 6 (.pure 7 (.pure 8 (.pure 9 (.pure 10 (.pure 11 .tail)))))))))))) mixed AR (Aa Ag) ?_;intro b4 bg _;have am:(λwz=>Ext bf wz) b4:=bg;simp only at am;have af:=ap;have ba:=ag;have bb:=aa;have bc:=V;have bd:=N;have bn:=Z;have ak:=G;have al:=M;have ay:=U;have az:=O;revert ap ag aa V N Z X G M U O;refine eY bg ?_;intro dl ap ag aa V N Z X G M U O;refine ⟨am,?_⟩;refine Tq rfl Pf (Tq rfl (Db af) (Tq rfl V1 (Tq rfl Mv (Lk rfl rfl rfl rfl (Ir Af) rfl (Lk rfl rfl rfl rfl (Ir Af) rfl (Lk rfl rfl rfl rfl (Ir Af) rfl (Lk rfl rfl rfl rfl (Ir Af) rfl (Tq rfl MU (Tq rfl Pf (Tq rfl (Db af) (Tq rfl Pa ?_)))))))))));clear am af ba bb bc bd bn ak al ay az;refine Aq rfl ?_;refine kT ?_
   exact ⟨_,rfl,⟨λh=>(by cases h),λh=>absurd h.1 bt⟩,X⟩
def Xe (r:Int) (h:r<=4000) (w:wD):Calls prog 117 #[.int .i64 r] w λe w'=>e = .returned (.int .i64 (CF r))/\Ext w w':=by
 have X:=Ne w;by_cases G:r<0
 . rw [show CF r=0 by unfold CF;rw [AT G]];refine Ad func117 ntmps117 rfl rfl (kR ?_);exact ⟨rfl,X⟩
 . have M:r.tmod 2=r%2:=Int.tmod_eq_emod_of_nonneg Ab;have N:kN .i64 (r.tdiv 2)=r/2:=by rw [Int.tdiv_eq_ediv_of_nonneg Ab];exact gG _ Ab
   have V:0<=r/2/\r/2<=2000:=by omega
   by_cases O:r%2=1
   . rw [show CF r=r/2+1 by unfold CF;rw [AC G,AT O]];generalize r/2=q at *;generalize r%2=m at *;refine Ad func117 ntmps117 rfl rfl (eK ?_);refine C1 (Ob rfl rfl C2 M) (eK ?_);refine C1 (Hv rfl rfl C2 N) (kR ?_);exact ⟨rfl,X⟩
   . rw [show CF r = -(r/2) by unfold CF;rw [AC G,AC O]];have U:Lo (0-r/2) = -(r/2):=by rw [show (0:Int)-r/2 = -(r/2) by omega];exact gG _ Ab
     generalize r/2=q at *;generalize r%2=m at *;refine Ad func117 ntmps117 rfl rfl (eK ?_);refine C1 (Ob rfl rfl C2 M) (eK ?_);refine C1 (Hv rfl rfl C2 N) (C1 (Lp rfl) (kR ?_));rw [U];exact ⟨rfl,X⟩
def Io (h:Int) (ls:List (Int×Int)) (m:Nat):List (Int×Int):=(jQ (ls.length+1)).map λj=>if m<=j then By h (ls.drop j) else (0,0)
def GS (h:Int) (G:List (Int×Int)) (m:Nat):(Io h G m).length=G.length+1:=by simp [Io]
def EH {j:Nat} (M:j<=G.length):(Io h G m)[j]? = some (if m<=j then By h (G.drop j) else (0,0)):=by
 unfold Io;rw [iD,List.getElem?_range Ab];rfl
def U3 (h:Int) (G:List (Int×Int)):Io h G G.length=iK (G.length+1) (0,0):=by
 apply ku;intro j;by_cases M:j<G.length+1
 . rw [EH Ab,List.getElem?_replicate,AT M];split
   . rw [iZ Ab];rfl
   . rfl
 . rw [gM (by rw [GS];omega),gM (by simp;omega)]
def Xf (U:m<G.length):(Io h G (m+1)).set m ((By h (G.drop (m+1))).1+G[m].1,(By h (G.drop (m+1))).2+G[m].2*h)=Io h G m:=by
 apply ku;intro j;by_cases N:j<=G.length
 . by_cases M:m=j
   . subst M;rw [jT (by rw [GS];omega),EH N,AT (gP _),gW U];rfl
   . rw [iW M,EH N,EH N];by_cases O:m<=j
     . rw [AT O,AT Ab]
     . rw [AC O,AC Ab]
 . rw [gM (by rw [kj,GS];omega),gM (by rw [GS];omega)]
def OX {h:Int} (M:1<=h/\h<=2001):∀G:List (Int×Int),(∀p∈G,0<=p.1/\p.1<=p.2/\p.2<=1000)->0<=(By h G).1/\(By h G).1<=1000*G.length/\(By h G).1<=(By h G).2/\(By h G).2<=2001000*G.length
 | [],_=>by simp [By]
 | p::G,N=>by
  obtain ⟨V,X,Y,Z⟩:=OX M G (λq O=>N q (jB _ O));obtain ⟨p1,p2,U⟩:=N p jH;have m1:p.2*h<=1000*2001:=Int.mul_le_mul U M.2 Ab Ab;have m2:p.2*1<=p.2*h:=Int.mul_le_mul_of_nonneg_left M.1 Ab;simp only [By,gH];omega
def Q4 (h:Int) (ls:List (Int×Int)) (F:List (List Int)) (left:Int):List SV:=(Hk h (ls.drop F.length) left).map λs=>In (F++s)
def Xg (h:Int) (ls:List (Int×Int)) (F:List (List Int)) (xs:List Int) (k:Nat) (left:Int):List SV:=
 (KT h (By h (ls.drop (F.length+1))) k left).flatMap λq=>Q4 h ls (F++[xs++q.1]) q.2
def Zy (M:F.length=G.length) (left:Int):Q4 h G F left=[In F]:=by
 unfold Q4;rw [M,lk];simp [Hk]
def Xh {left:Int}:Xg h G F xs 0 left=Q4 h G (F++[xs]) left:=by
 simp [Xg,KT]
def dW (h:Int) (ls:List (Int×Int)) (c:Nat) (p:Int×Int) (left:Int):Int:=cL h (By h (ls.drop (c+1))) p left
def eX (h:Int) (ls:List (Int×Int)) (c:Nat) (p:Int×Int) (left:Int):Int:=dB (By h (ls.drop (c+1))) p left
def Xi {p:Int×Int} (N:G[F.length]? = some p) (left:Int) :
 Q4 h G F left=(jQ (eX h G F.length p left-dW h G F.length p left+1).toNat).flatMap λ(m:Nat)=>Xg h G F [] (dW h G F.length p left+m).toNat left:=by
 obtain ⟨M,O⟩:=List.getElem?_eq_some_iff.1 N;unfold Q4;rw [gW M,O];simp only [Hk,List.map_flatMap,List.map_map,Xg,Q4,dW,eX,kv,gR,gH,iM,iR];congr 1;funext m;congr 1;funext q;congr 1;funext s;simp [Function.comp]
def Xj {k:Nat} {left:Int} :
 Xg h G F xs (k+1) left=(jQ (cK h (By h (G.drop (F.length+1))) k left-R1 h (By h (G.drop (F.length+1))) k left+1).toNat).flatMap λ(m:Nat)=>
  Xg h G F (xs++[CF (R1 h (By h (G.drop (F.length+1))) k left+m)]) k (left-1-R1 h (By h (G.drop (F.length+1))) k left-m):=by
 unfold Xg;simp only [KT,List.flatMap_assoc,List.flatMap_map];congr 1;funext m;congr 1;funext q;simp
def Xk:(Wv h G).map In=(jQ ((By h G).2-(By h G).1+1).toNat).flatMap λ(m:Nat)=>Q4 h G [] ((By h G).1+m):=by
 simp [Wv,Q4,List.map_flatMap]
def Kh {f:Nat->List α} {N:Nat} {out S:List α} (h:out++(jQ N).flatMap f <+: S) (G:m<N):(out++(jQ m).flatMap f)++f m <+: S:=by
 refine List.IsPrefix.trans ?_ h;rw [iG,List.prefix_append_right_inj];have e:(jQ m).flatMap f++f m=(jQ (m+1)).flatMap f:=by rw [List.range_succ,kh];simp
 rw [e];obtain ⟨d,rfl⟩:∃d,N=m+1+d:=⟨N-(m+1),Ab⟩;rw [List.range_add (n:=m+1),kh];exact List.prefix_append _ _
def I0 {f:Nat->List α} {out:List α}:(out++(jQ m).flatMap f)++f m=out++(jQ (m+1)).flatMap f:=by
 rw [List.range_succ,kh,iG];simp
def dI {r:Int×Int} {k left:Int} (G:0<=r.1) (M:0<=k) (N:(m:Int)<cK h r k left-R1 h r k left+1):0<=R1 h r k left+m/\R1 h r k left+m<=h-1/\k+r.1<=left-1-R1 h r k left-m/\left-1-R1 h r k left-m<=left-1:=by
 unfold cK R1 at *;omega
def Q5 {l:lV} {i:Nat} (h:l[i]? = some b):l.set i b=l:=by
 apply ku;intro j;by_cases G:i=j
 . subst G;rw [jT (List.getElem?_eq_some_iff.1 h).1,h]
 . rw [iW G]
section
variable {tab:Tab}
def Xl {h:List lV} {j:Nat} {a:Value} (O:∀cs∈h,cs.length=2) (M:h[j]? = some [a,b]):h.flatten[j*2]? = some a/\h.flatten[j*2+1]? = some b:=by
 have G:=(List.getElem?_eq_some_iff.1 M).1;have U:=(List.getElem?_eq_some_iff.1 M).2;obtain ⟨e,N⟩:=Fq O G;rw [e,U,iG];constructor
 . rw [gU Ab,N];simp
 . rw [gU Ab,N,show j*2+1-j*2=1 by omega];simp
def KY {y:Operand} {t C D g j f:Nat} {v:Int} {xs:List (Int×Int)} {p z u:Int×Int} {i:Nat} (T:TabOk P tab) (ht:AB tab t=some (.int .i64,1)) (hx:ev l x=some (.pointer (some ⟨g,0+j*2+f,none⟩))) (hy:ev l y=some (.int .i64 v))
 (hA:ArrS CM C D w g xs) (hj:xs[j]? = some p) (hg:g<C\/D<=g) (hz:(f=0/\z=(v,p.2))\/(f=1/\z=(p.1,v))) (hi:xs[i]? = some u) (hij:j≠i) :
 BG P n l (.store t x y) ty w (GE λw'=>ArrS CM C D w' g (xs.set j z)/\Row w' ⟨g,0+i*2,none⟩ [.int .i64 u.1,.int .i64 u.2]/\Fr (· = g) w w'/\w'.heap.size=w.heap.size):=by
 obtain ⟨css,c1,c2,c3⟩:=hA.ex;have hl:=hA.lens c2 c3;have hjl:=(List.getElem?_eq_some_iff.1 hj).1;have hcj:css[j]? = some [.int .i64 p.1,.int .i64 p.2]:=by
  have h1:css[j]? = some css[j]:=fY Ab;rw [h1,show css[j]=_ from c3 j p _ hj h1]
 obtain ⟨g1,g2⟩:=Xl hl hcj;have hfl:=D7 hl;have hsz:css.flatten.length=css.length*2:=hfl;have hd:=DR (P:=P) (n:=n) (l:=l) (ty:=ty) (us:=[.int .i64 v]) T ht hx hy rfl rfl rfl c1 (by rw [md];simp only [gH,iM];omega);unfold BG at hd ⊢;intro a dst pos after gd next Q ha hn b;refine hd a dst pos after gd next Q ha (λv' w' h=>h.elim) (λw' hP=>b w' ?_);have hP':Put w w' g (Ba css.flatten (j*2) [.int .i64 z.1,.int .i64 z.2]):=by
  have e:Ba css.flatten (0+j*2+f) [.int .i64 v]=Ba css.flatten (j*2) [.int .i64 z.1,.int .i64 z.2]:=by
   rcases hz with ⟨rfl,rfl⟩|⟨rfl,rfl⟩
   . simp only [Ba,iR,kH];refine (Q5 ?_).symm;rw [iW Ab];exact g2
   . simp only [Ba,iR];rw [Q5 g1]
  rw [<-e];exact hP
 have hA2:=ST c2 c3 hjl hg rfl hP';obtain ⟨cs,r1,r2⟩:=hA2.row (by rw [iW hij];exact hi);obtain rfl:cs=_:=r2;exact ⟨hA2,r1,hP'.fr,hP'.size⟩
end
def dJ (L:List (Int×Int)) (w:wD):Ending->wD->Prop:=λe w'=> ∃g,e = .returned (.slice (some ⟨g,0,none⟩) L.length L.length)/\w.heap.size<=g/\g<w'.heap.size/\ArrS CM 0 0 w' g L/\Ext w w'
def U4 (G:List (Int×Int)) (hp:∀p∈G,0<=p.1/\p.1<=p.2/\p.2<=1000) (hn:G.length<=33) (h:Int) (hh:1<=h/\h<=2001) (la:oA) (c:Nat) (w:wD) (hs:Bds w G la) :
 Calls prog 84 #[.slice la G.length c,.int .i64 h] w (dJ (Io h G 0) w):=by
 have X:=Ne w;have HP:=fZ hp;replace hs:Arr (λb=>b<w.heap.size) 2 K5 w G la:=by
  rcases hs with h|⟨b,o,h1,M,h3⟩
  . exact gA h
  . cases G with
    | nil=>exact gA rfl
    | cons v r=>exact gB ⟨b,o,h1,Ci (mE (h3 0 v rfl) rfl),h3⟩
 have HX:Hid (∀w2,Ext w w2->Arr (λb=>b<w.heap.size) 2 K5 w2 G la):=fZ λw2 x=>hs.mono aFh (λ_ _ _ _ _ h=>mw h x)
 clear hp hs;refine Ad func84 ntmps84 rfl rfl ?_;refine eK ?_;refine Az (Dj (sh:=CM) (C:=0) (D:=0) (N:=G.length+1) (z:=((0,0):Int×Int)) Ac Ca rfl rfl rfl rfl AR rfl rfl Ab (λ_ _=>rfl)) rfl ?_ aFh;rintro _ w6 ⟨g1,rfl,M,h3,h4,x5⟩;have z7:=x5.size;have X:=X.ext x5;refine eK ?_;refine C1 (AL rfl rfl (gG _ Ab)) (C1 Pa (cT ?_));refine As ?_;rw [<-U3 h G] at M;refine AF (ι:=Nat) (λm=>[(0,.slice la G.length c),(1,.int .i64 h),(5,.slice (some ⟨g1,0,none⟩) (G.length+1) (G.length+1)),(6,.int .i64 ((m:Int)-1))])
  (λm w'=>m<=G.length/\ArrS CM 0 0 w' g1 (Io h G m)/\Ext w w') (λm=>m) G.length sB ⟨gP _,M,X⟩ ?_
 clear M X z7 h4;rintro m w7 ⟨hm,M,X⟩;cases m with
 | zero=>
  refine kR ?_;exact ⟨g1,by rw [GS];first|done|rfl,Ab,M.lt,M,X⟩
 | succ k=>
  have hk:k<G.length:=by omega
  obtain ⟨kb,ko,rfl,kS,Y⟩:=mM (HX.out _ X) Ab;have Z:=Y k _ (fY hk);obtain ⟨cs,ry,ae⟩:=M.row (EH (m:=k+1) (j:=k+1) Ab);rw [AT (gP _)] at ae;obtain rfl:cs=_:=ae;have hr:=OX hh (G.drop (k+1)) (λq hq=>HP.out q (List.mem_of_mem_drop hq));have ay:(G.drop (k+1)).length<=33:=by rw [ky];omega
  have af:=HP.out _ (gK hk);have ac:=Xf (h:=h) hk;have hz:(Io h G (k+1))[k]? = some ((0,0):Int×Int):=by rw [EH Ab,AC Ab]
  have hy:(Io h G (k+1))[k+1]? = some (By h (G.drop (k+1))):=by rw [EH Ab,AT (gP _)]
  have ar:=GS h G (k+1);clear Y HP HX;generalize By h (G.drop (k+1))=r at *;generalize G[k]=p at *;generalize (G.drop (k+1)).length=dl at *;obtain ⟨r1,r2⟩:=r;obtain ⟨p1,p2⟩:=p;simp only at hr af ac;replace Z:Row w7 ⟨kb,ko+k*2,none⟩ [.int .i64 p1,.int .i64 p2]:=Z;replace ry:Row w7 ⟨g1,0+(k+1)*2,none⟩ [.int .i64 r1,.int .i64 r2]:=ry;obtain ⟨q,hq⟩:∃q,p2*h=q:=⟨_,rfl⟩
  have az:0<=q/\q<=2001000:=by
   rw [<-hq];have m1:p2*h<=1000*2001:=Int.mul_le_mul af.2.2 hh.2 Ab Ab;have m2:0<=p2*h:=Int.mul_nonneg Ab Ab;omega
  have an:kN .i64 (p2*h)=q:=by rw [hq];exact gG _ Ab
  rw [hq] at ac;generalize Io h G (k+1)=W at *;have ao:k<W.length:=by omega
  refine m7 (m:=[(0,.slice (some ⟨kb,ko,none⟩) G.length c),(1,.int .i64 h),(5,.slice (some ⟨g1,0,none⟩) (G.length+1) (G.length+1)),(6,.int .i64 (k:Int))]) ?_ (by (refine An rfl ?_;refine An rfl ?_;refine An rfl ?_;refine BO rfl (by go_num) ?_;exact BE));refine eK ?_;refine Ap (λV=>Ext w7 V) 14 (.pure 0 (.pure 1 (.pure 2 (.pure 3 (.pure 4 (.pure 5 (.pure 6 (.pure 7 (.pure 8 (.pure 9 (.pure 10 (.pure 11 (.pure 12 (.pure 13 .tail)))))))))))))) mixed AR (Aa (Ae (Aa (Aa (Ae (Aa Ag)))))) ?_;intro ap ag _;have aa:(λV=>Ext w7 V) ap:=ag;simp only at aa;have O:=Z;have ah:=ry;revert X Z M;refine eE ag ?_;intro X Z M;refine ⟨aa,?_⟩;refine eT ?_;refine Tq rfl (Ar Ac rfl rfl rfl (λV hz=>mE (mw ah hz) rfl)) ?_;refine eT ?_;refine Tq rfl (Ar Ac rfl rfl rfl (λV hz=>mE (mw O hz) rfl)) (Tq rfl V7 ?_);refine Aq rfl ?_;refine eK ?_;refine A9 (KY (j:=k) (i:=k+1) (f:=0) (z:=((r1+p1,0):Int×Int)) Ac rfl rfl rfl Af hz (gB Ab) (gA ⟨rfl,rfl⟩) hy Ab) (BK ?_);rintro _ ai ⟨aj,aq,ak,a0⟩;revert X Z;refine eF ak ?_;intro X Z;clear ry M ak;refine cT (Ap (λV=>Ext ai V) 16 (.pure 0 (.pure 1 (.pure 2 (.pure 3 (.pure 4 (.pure 5 (.pure 6 (.pure 7 (.pure 8 (.pure 9 (.pure 10 (.pure 11 (.pure 12 (.pure 13 (.pure 14 (.pure 15 .tail)))))))))))))))) mixed AR (Ae (Aa (Aa (Ae (Aa Ag))))) ?_);intro al ab _;have U:(λV=>Ext ai V) al:=ab
  simp only at U;have ad:=aq;have O:=Z;revert aj X;refine eE ab ?_;intro aj X;refine ⟨U,?_⟩;refine eT ?_;refine Tq rfl (Dr ad) ?_;refine eT ?_;refine Tq rfl (Dr O) (Tq rfl Mv (Tq rfl (Hu rfl rfl an) (Tq rfl V7 ?_)));refine Aq rfl ?_;refine eK ?_;refine A9 (KY (j:=k) (i:=k+1) (f:=1) (z:=((r1+p1,r2+q):Int×Int)) Ac rfl rfl rfl Af (jT ao) (gB Ab) (gB ⟨rfl,rfl⟩) (by rw [iW Ab];exact hy) Ab) ?_;refine BK ?_;rintro _ au ⟨av,aw,am,ax⟩;have X:=X.fr am Ab;refine eK ?_;refine C1 (AL rfl rfl (gG _ Ab)) (C1 Pa (Al ?_));exact Av k sB ⟨Ab,by rw [<-ac,show W.set k (r1+p1,r2+q)=(W.set k (r1+p1,0)).set k (r1+p1,r2+q) from (List.set_set ..).symm];assumption,X⟩ Ab
def Ho:Shape Value where
 sz:=1
 rep _ _ v cs:=cs=[v]/\Value.one v=true
 len h:=by rw [h.1];rfl
 one h:=by rw [h.1];simp [h.2]
 mono h _ _:=h
 lt h:=h
structure DCx where
 y:Nat
 c:Nat
 bY:Nat
 bL:Nat
 bR:Nat
 bH:Nat
 bS:Nat
 bI:Nat
 bN:Nat
 g:Nat
 gr:Nat
 lc:Nat
 la:oA
 h:Int
 ls:List (Int×Int)
 Rt:nP
section
variable {x:DCx} {T:nP} {W W':wD}
abbrev Xm (b:Nat):Value:=.pointer (some ⟨b,0,none⟩)
abbrev DCx.capI (x:DCx):lV:=[Xm x.bS,Xm x.bY,Xm x.bL,Xm x.bR,Xm x.bH,Xm x.bN]
abbrev DCx.capN (x:DCx):lV:=[Xm x.bS,Xm x.bI,Xm x.bH,Xm x.bR,Xm x.bN]
def DCx.fix (x:DCx) (k:Nat):Prop:=x.Rt k\/k=x.bY\/k=x.bL\/k=x.bR\/k=x.bH\/k=x.bS\/k=x.bI\/k=x.bN\/k=x.gr
structure DCx.K (x:DCx) (W:wD):Prop where
 y0:Blk W x.bY [.func (.yield x.y) #[] #[]]
 l0:Blk W x.bL [.slice x.la x.ls.length x.lc]
 r0:Blk W x.bR [.slice (some ⟨x.gr,0,none⟩) (x.ls.length+1) (x.ls.length+1)]
 h0:Blk W x.bH [.int .i64 x.h]
 s0:Blk W x.bS [.slice (some ⟨x.g,0,none⟩) x.ls.length x.ls.length]
 i0:Blk W x.bI [.func (.func 115) #[] x.capI.toArray]
 n0:Blk W x.bN [.func (.func 116) #[] x.capN.toArray]
 ld:Arr x.Rt 2 K5 W x.ls x.la
 rs:ArrS CM 0 0 W x.gr (Io x.h x.ls 0)
def DCx.K.fr (h:x.K W) (f:Fr T W W') (G:∀k,x.fix k -> ¬T k):x.K W':=by
 obtain ⟨M,N,O,U,V,X,Y,Z,h9⟩:=h;unfold DCx.fix at G;exact ⟨M.fr f (G _ AQ),N.fr f (G _ AQ),O.fr f (G _ AQ),U.fr f (G _ AQ),V.fr f (G _ AQ),X.fr f (G _ AQ),Y.fr f (G _ AQ),
  Z.mono aFh (λb _ _ _ hb h=>mN h f (G b (gA hb))),h9.fr f (λk hk=>⟨Ab,λe=>G k (by simp [e]) hk⟩)⟩
instance  : LfF T W W' (x.K W) (∀k,x.fix k -> ¬T k) (x.K W'):=⟨λx s h=>Bk.DCx.K.fr h x s⟩
def DCx.L (x:DCx) (A:nP) (W:wD) (F:List (List Int)):Prop:= ∃(bl:Nat->Nat) (cs:lV),ArrS Ho 0 0 W x.g cs/\cs.length=x.ls.length /\
 (∀i xs,F[i]? = some xs->cs[i]? = some (.slice (some ⟨bl i,0,none⟩) xs.length xs.length)/\ArrS Cv 0 0 W (bl i) xs/\A (bl i) /\ ¬x.fix (bl i)/\bl i≠x.g) /\
 ∀i j,i<F.length->j<F.length->bl i=bl j->i=j
def DCx.L.fr (h:x.L A W F) (f:Fr T W W') (O:A x.g) (M:∀k,A k -> ¬T k):x.L A W' F:=by
 obtain ⟨U,cs,V,X,Y,Z⟩:=h;refine ⟨U,cs,V.fr f (λk G=>⟨Ab,λe=>M k (e▸O) G⟩),X,λi xs hi=>?_,Z⟩;obtain ⟨g1,g2,N,g4⟩:=Y i xs hi;exact ⟨g1,g2.fr f (λk G=>⟨Ab,λe=>M k (e▸N) G⟩),N,g4⟩
def DCx.L.more {N:nP} (h:x.L A W F) (O:∀k,A k->N k):x.L N W F:=by
 obtain ⟨U,cs,V,X,G,Y⟩:=h;exact ⟨U,cs,V,X,λi xs M=>⟨(G i xs M).1,(G i xs M).2.1,O _ (G i xs M).2.2.1,(G i xs M).2.2.2⟩,Y⟩
def DCx.L.less {z:List Int} (h:x.L A W (F++[z])):x.L A W F:=by
 obtain ⟨M,cs,N,O,U,V⟩:=h;refine ⟨M,cs,N,O,λi xs G=>U i xs ?_,λi j G X=>V i j (by simp;omega) (by simp;omega)⟩;rw [gN (List.getElem?_eq_some_iff.1 G).1];exact G
structure DCx.D (x:DCx) (J:(nP)->List SV->wD->Prop) (A:nP) (out:List SV) (W:wD) (F:List (List Int)):Prop where
 k:x.K W
 l:x.L A W F
 j:J A out W
 lt:∀k,A k->x.c<=k/\k<W.heap.size
 own:∀k,x.fix k->x.Rt k\/A k
 ag:A x.g
 sz:x.c<=W.heap.size
structure DCx.Ok (x:DCx):Prop where
 rt:∀k,x.Rt k->k<x.c
 h:1<=x.h/\x.h<=2001
 ls:∀p∈x.ls,0<=p.1/\p.1<=p.2/\p.2<=1000
 n:1<=x.ls.length/\x.ls.length<=33
 g:¬x.fix x.g
def DCx.grow (A:nP) (W W':wD):nP:=λk=>A k\/(W.heap.size<=k/\k<W'.heap.size)
def DCx.grow_j {out:List SV} (N:Eo c J) (O:J A out W) (M:∀k,A k->c<=k/\k<W.heap.size) (U:c<=W.heap.size) (f:Fr A W W'):J (DCx.grow A W W') out W':=
 N A _ out W W' O f (λk G=>(M k G).1) (λk G=>G.elim (λh=>(M k h).1) (λh=>by omega)) (λk G h=>h.elim id (λh=>by omega))
def DCx.D.grow {J:(nP)->List SV->wD->Prop} {out:List SV} {G:List (List Int)} (N:Eo x.c J) (h:x.D J A out W F) (f:Fr A W W') (M:x.K W') (O:x.L (DCx.grow A W W') W' G):x.D J (DCx.grow A W W') out W' G:=
 ⟨M,O,DCx.grow_j N h.j h.lt h.sz f,λk M=>M.elim (λe=>⟨(h.lt k e).1,by have:=(h.lt k e).2;have:=f.size;omega⟩) (λe=>⟨by have:=h.sz;omega,e.2⟩),λk M=>(h.own k M).imp id gA,gA h.ag,by have:=h.sz;have:=f.size;omega⟩
def DCx.End (x:DCx) (J Jx:(nP)->List SV->wD->Prop) (S:List SV) (A:nP) (out:List SV) (G:List (List Int)->Prop):Ending->wD->Prop:=λe W'=>
 ∃q A',e = .returned (.bool q)/\(∀k,A k->A' k)/\((q=true /\ ∃F,G F/\x.D J A' out W' F)\/(q=false/\(∀k,A' k->x.c<=k) /\ ∃pre,pre <+: S/\Jx A' pre W'))
def DCx.End.ret {Jx:(nP)->List SV->wD->Prop} {out:List SV} {G:List (List Int)->Prop} (h:x.End J Jx S A out G e W'):∃v,e = .returned v:=by
 obtain ⟨_,_,h,-⟩:=h;exact ⟨_,h⟩
def DCx.end_nl {Jx:(nP)->List SV->wD->Prop} {out:List SV} {G:List (List Int)->Prop} (w:wD):¬x.End J Jx S A out G .outgrown w:=λ⟨_,_,h,_⟩=>by cases h
end
def OY (b0:Nat) (W:wD) (vs:lV) (s:SV):Prop:= ∃a c ta tc oa oc,vs=[.agg (s.row a c ta tc oa oc).toArray]/\s.sits (λb=>b0<=b) W a ta oa
def SRes (Rt:nP) (J Jx:(nP)->List SV->wD->Prop) (A:nP) (xs:List SV) (W:wD):Ending->wD->Prop:=λe W'=>
 Keeps (λk=>A k\/Rt k) W W'/\((e = .returned (.bool true)/\J A xs W')\/(e = .returned (.bool false)/\Jx A xs W'))
def SRes.ret {G:nP} {Jx:(nP)->List SV->wD->Prop} {xs:List SV} (h:SRes G J Jx A xs w e w'):∃v,e = .returned v:=by
 obtain ⟨-,⟨h,-⟩|⟨h,-⟩⟩:=h<;>exact ⟨_,h⟩
def DCx.L.sits {x:DCx} {A:nP} {W:wD} {F:List (List Int)} (h:x.L A W F) (U:F.length=x.ls.length) (hn:1<=x.ls.length) (V:A x.g):∃b,(∃cs,ArrS Ho 0 0 W x.g cs/\cs[x.ls.length-1]? = some (.slice (some ⟨b,0,none⟩) (F.getLastD []).length (F.getLastD []).length)) /\
 (In F).sits A W (some ⟨x.g,0,none⟩) (some ⟨b,0,none⟩) none:=by
 obtain ⟨bl,cs,N,h2,O,-⟩:=h;have X:F[x.ls.length-1]? = some (F.getLastD []):=by
  rw [List.getLastD_eq_getLast?,List.getLast?_eq_getElem?,U,fY Ab];rfl
 obtain ⟨Y,Z,g3,-,-⟩:=O _ _ X;refine ⟨_,⟨cs,N,Y⟩,gB ⟨x.g,0,rfl,V,λi xs G=>?_⟩,gB ⟨_,0,rfl,g3,Z.blkI.row⟩,gA rfl⟩;have M:F[i]? = some xs:=by
  have:(In F).cells=F.dropLast:=rfl;rw [this] at G;rw [List.getElem?_dropLast] at G;split at G
  . exact G
  . cases G
 obtain ⟨k1,k2,k3,-,-⟩:=O i xs M;obtain ⟨us,hr,hu,-⟩:=N.row k1;subst hu;exact ⟨_,_,hr,gB ⟨_,0,rfl,k3,k2.blkI.row⟩⟩
def SV.row_of {a ta oa:oA} {h G k:Nat} (M:s.cells.length=n) (N:s.tin.length=m) (O:s.tout.length=k):s.row a c ta h oa G=[.slice a n c,.slice ta m h,.slice oa k G]:=by subst M N O;rfl
set_option maxHeartbeats 8000000 in
def Xo (x:DCx) (hx:x.Ok) (J Jx:(nP)->List SV->wD->Prop) (hJ:Eo x.c J) (S:List SV)
 (hY:∀A pre s vs W1,(∀k,A k->x.c<=k/\k<W1.heap.size)->J A pre W1->OY x.c W1 vs s->(pre++[s]) <+: S->YieldAt (WF none) 0 prog x.y vs.toArray W1 (SRes x.Rt J Jx A (pre++[s]) W1))
 (F:List (List Int)) (A:nP) (out:List SV) (W:wD) (left:Int) (hc:F.length=x.ls.length) (ae:∀xs∈F,xs.length<=1000) (M:x.D J A out W F) (V:(out++[In F]) <+: S) :
 Calls prog 115 #[.int .i64 F.length,.int .i64 left,.pointer (some ⟨x.bS,0,none⟩),.pointer (some ⟨x.bY,0,none⟩),.pointer (some ⟨x.bL,0,none⟩),.pointer (some ⟨x.bR,0,none⟩),.pointer (some ⟨x.bH,0,none⟩),.pointer (some ⟨x.bN,0,none⟩)] W
  (x.End J Jx S A (out++[In F]) (λG=>G=F)):=by
 obtain ⟨d,hd⟩:∃d,x.ls.length=d+1:=⟨x.ls.length-1,by have:=hx.n.1;omega⟩
 have aw:d<=32:=by have:=hx.n.2;omega
 obtain ⟨b,⟨cs,af,ah⟩,ai⟩:=M.l.sits hc hx.n.1 M.ag;obtain ⟨us,hr,hu,-⟩:=af.row ah;subst hu;rw [hd] at hr;have am:Row W ⟨x.g,0+d*1,none⟩ [.slice (some ⟨b,0,none⟩) (F.getLastD []).length (F.getLastD []).length]:=hr;have an:((d+1:Nat):Int)-1=(d:Int):=by omega
 have Y:kN .i64 (((d+1:Nat):Int)-1)=(d:Int):=by rw [an];exact gG _ Ab
 have y0:=M.k.y0;have s0:=M.k.s0;rw [hd] at s0;have e1:(In F).cells.length=d:=by show F.dropLast.length=d;rw [lI];omega
 have e2:(In F).tin.length=(F.getLastD []).length:=rfl;have e3:(In F).tout.length=0:=rfl;have ax:(F.getLastD []).length<=1000:=by
  rw [List.getLastD_eq_getLast?];cases hF:F.getLast? with
  | none=>simp
  | some v=>exact ae v (List.mem_of_getLast? hF)
 have HC:=fZ (λw1 (h:(In F).sits (λk=>k<W.heap.size) w1 (some ⟨x.g,0,none⟩) (some ⟨b,0,none⟩) none)=>
  J6 (In F) _ _ _ none (d+1) (F.getLastD []).length 0 w1 Ab (λxs hx=>by have:=ae xs (List.dropLast_subset _ hx);omega) Ab Ab h)
 have aa:=ai.wide (S':=λk=>k<W.heap.size) (λk N=>(M.lt k N).2);have ao:=fZ hY;have HD:=fZ M;rw [SV.row_of e1 e2 e3] at HC;rw [hc,hd];generalize (F.getLastD []).length=ll at *;have X:=Ne W;refine Ad func115 ntmps115 rfl rfl (eK ?_);refine Ap (λwz=>Ext W wz) 10 (.pure 0 (.pure 1 (.pure 2 (.pure 3 (.pure 4 (.pure 5 (.pure 6 (.pure 7 (.pure 8 (.pure 9 .tail)))))))))) mixed AR (Aa (Aa Ag)) ?_;intro w1 x2 _;have aj:(λwz=>Ext W wz) w1:=x2;simp only at aj;have Z:=s0;have ab:=am;revert y0 aa X;refine eY x2 ?_;intro z4 y0 aa X;refine ⟨aj,(Tq rfl (Db Z) (Tq rfl Mv (Tq rfl (AL (c:=(d:Int)) rfl rfl Y) (Tq rfl (Dn (m:=d) Ac rfl rfl rfl rfl rfl Ab) (Tq rfl (Db Z) (Tq rfl Mv (Tq rfl (AL (c:=(d:Int)) rfl rfl Y) (Tq rfl Pi (Tq rfl (Ar Ac rfl rfl rfl (λwz hz=>mE (mw ab hz) rfl)) (Tq rfl Pa (Aq rfl (C1 Pa (cT (Aj (PU (λwz=>Ext w1 wz) 5 (.pure 0 (.pure 1 (.pure 2 (.pure 3 (.fork 4 .tail .none))))) mixed AR (Aa (Aa Ag)) (Bx (Bx (Jo DCx.end_nl))) ?_)))))))))))))))⟩;intro w3 x3 _;refine ⟨x3,(GH rfl (Ar Ac rfl rfl rfl (λwz hz=>mC (my y0 hz) rfl)) rfl (GH rfl (Aw rfl) rfl (GH rfl (Aw rfl) rfl (GH rfl (DS [.slice (some ⟨x.g,0,none⟩) d (d+1),.slice (some ⟨b,0,none⟩) ll ll,.slice none 0 0] Ac Ca rfl rfl rfl rfl) rfl (Oz rfl rfl (AM AR rfl (HC.out _ (aa.ext x3)) (λ_ _ h=>h.ret)) rfl ?_ aFh Oy)))))⟩;rintro _ w4 ⟨ca,cc,ta,tc,oa,oc,⟨⟩,ap,x4⟩;have ak:=mA x3 x4;refine ⟨ak,(S0 rfl ?_)⟩;have X4:=X.trans ak;have au:=X4.size;have M:=HD.out
 have U:∀k,DCx.grow A W w4 k->x.c<=k/\k<w4.heap.size:=λk N=>N.elim (λh=>⟨(M.lt k h).1,by have:=(M.lt k h).2;omega⟩) (λh=>⟨by have:=M.sz;omega,h.2⟩)
 have J4:=DCx.grow_j hJ M.j M.lt M.sz (mt X4);have O:∀k,A k->DCx.grow A W w4 k:=λk h=>gA h
 have av:=M.sz;refine LM rfl rfl (ao.out _ out (In F) [_] w4 U J4 ⟨ca,cc,ta,tc,oa,oc,rfl,nu ap (λb hb=>by have:=x3.size;have:=X.size;omega)⟩ V) (λ_ _ h=>h.ret) rfl ?_;rintro v w6 ⟨ac,aq⟩;refine VT (Bx (Bx (Jo DCx.end_nl))) rfl ?_;have hT:∀k,x.fix k -> ¬ ¬(DCx.grow A W w4 k\/x.Rt k):=λk N e=>e ((M.own k N).elim gB (λh=>gA (gA h)))
 have K6:=(M.k.fr (T:=λ_=>False) (mt X4) (λ_ _ h=>h)).fr ac hT;have L6:=((M.l.fr (T:=λ_=>False) (mt X4) M.ag (λ_ _ h=>h)).fr ac M.ag (λk N e=>e (gA (gA N)))).more O;have ay:=ac.size;have al:=M.own;have ar:=M.ag;rcases aq with ⟨⟨⟩,ad⟩|⟨⟨⟩,ad⟩
 . refine kR ?_;exact ⟨true,_,rfl,O,gA ⟨rfl,F,rfl,K6,L6,ad,λk N=>⟨(U k N).1,by have:=(U k N).2;omega⟩,λk N=>(al k N).imp id (O k),O _ ar,Ab⟩⟩
 . refine kR ?_;exact ⟨false,_,rfl,O,gB ⟨rfl,λk N=>(U k N).1,_,V,ad⟩⟩
abbrev DCx.argL (x:DCx) (c:Nat) (left:Int):lV:=[.int .i64 c,.int .i64 left,.pointer (some ⟨x.bS,0,none⟩),.pointer (some ⟨x.bY,0,none⟩),.pointer (some ⟨x.bL,0,none⟩),.pointer (some ⟨x.bR,0,none⟩),.pointer (some ⟨x.bH,0,none⟩),.pointer (some ⟨x.bN,0,none⟩)]
abbrev DCx.argN (x:DCx) (c i:Nat) (left:Int):lV:=[.int .i64 c,.int .i64 i,.int .i64 left,.pointer (some ⟨x.bS,0,none⟩),.pointer (some ⟨x.bI,0,none⟩),.pointer (some ⟨x.bH,0,none⟩),.pointer (some ⟨x.bR,0,none⟩),.pointer (some ⟨x.bN,0,none⟩)]
def DCx.CL (x:DCx) (J Jx:(nP)->List SV->wD->Prop) (S:List SV) (N:Nat):Prop:=
 ∀(F:List (List Int)) (A:nP) (out:List SV) (W:wD) (left:Int),(x.ls.length-F.length)*1002<N->F.length<=x.ls.length->(∀xs∈F,xs.length<=1000)->0<=left->left<=70000000->x.D J A out W F->(out++Q4 x.h x.ls F left) <+: S ->
  Calls prog 115 (x.argL F.length left).toArray W (x.End J Jx S A (out++Q4 x.h x.ls F left) (λG=>G=F))
def DCx.CN (x:DCx) (J Jx:(nP)->List SV->wD->Prop) (S:List SV) (N:Nat):Prop:=
 ∀(F:List (List Int)) (zs:List Int) (i:Nat) (A:nP) (out:List SV) (W:wD) (left:Int),(x.ls.length-F.length)*1002-1-i<N->F.length<x.ls.length->(∀xs∈F,xs.length<=1000)->zs.length<=1000->i<=zs.length->0<=left->left<=70000000->x.D J A out W (F++[zs]) ->
  (out++Xg x.h x.ls F (zs.take i) (zs.length-i) left) <+: S ->
  Calls prog 116 (x.argN F.length i left).toArray W (x.End J Jx S A (out++Xg x.h x.ls F (zs.take i) (zs.length-i) left) (λG=> ∃ys,G=F++[ys]/\ys.length=zs.length/\ys.take i=zs.take i))
section
variable {x:DCx} {Jx:(nP)->List SV->wD->Prop}
def DCx.Ok.rest (G:x.Ok) (c:Nat):0<=(By x.h (x.ls.drop c)).1/\(By x.h (x.ls.drop c)).1<=33000/\(By x.h (x.ls.drop c)).2<=66033000/\(By x.h (x.ls.drop c)).1<=(By x.h (x.ls.drop c)).2:=by
 have N:=OX G.h (x.ls.drop c) (λp M=>G.ls p (List.mem_of_mem_drop M));have O:(x.ls.drop c).length<=33:=by rw [ky];have:=G.n.2;omega
 omega
def DCx.K.rowR (h:x.K w) (M:c<=x.ls.length):Row w ⟨x.gr,0+c*2,none⟩ [.int .i64 (By x.h (x.ls.drop c)).1,.int .i64 (By x.h (x.ls.drop c)).2]:=by
 obtain ⟨cs,N,G⟩:=h.rs.row (EH (m:=0) (j:=c) M);rw [AT (gI _)] at G;obtain rfl:cs=_:=G;exact N
def DCx.L.at {A:nP} {W:wD} {F:List (List Int)} {zs:List Int} (h:x.L A W (F++[zs])):∃b,Row W ⟨x.g,0+F.length*1,none⟩ [.slice (some ⟨b,0,none⟩) zs.length zs.length]/\ArrS Cv 0 0 W b zs/\A b /\ ¬x.fix b/\b≠x.g /\
 ∀(W':wD) (ys:List Int),Fr (· = b) W W'->ArrS Cv 0 0 W' b ys->ys.length=zs.length->x.L A W' (F++[ys]):=by
 obtain ⟨U,cs,V,h2,X,Y⟩:=h;obtain ⟨Z,g2,g3,g4,N⟩:=X F.length zs AQ;obtain ⟨us,hr,hu,-⟩:=V.row Z;subst hu;refine ⟨U F.length,hr,g2,g3,g4,N,λW' ys f hy hl=>⟨U,cs,V.fr f (λk O=>⟨Ab,λe=>N (O.symm.trans e)⟩),h2,λi xs G=>?_,λi j G hj=>Y i j (by simpa using G) (by simpa using hj)⟩⟩;by_cases M:i<F.length
 . rw [gN M] at G;obtain ⟨k1,k2,k3,k4,k5⟩:=X i xs (by rw [gN M];exact G);refine ⟨k1,k2.fr f (λk O=>⟨Ab,λe=>?_⟩),k3,k4,k5⟩;have:=Y i F.length (by simp;omega) AQ (e.symm.trans O);omega
 . obtain rfl:i=F.length:=by
    have:=(List.getElem?_eq_some_iff.1 G).1;simp at this;omega
   simp only [List.getElem?_concat_length,gE] at G;subst G;exact ⟨by rw [hl];exact Z,hy,g3,g4,N⟩
def DCx.L.snoc {N:nP} {zs:List Int} {b:Nat} {h:Nat->Nat} {cs:lV} (Y:cs.length=x.ls.length)
 (V:∀i xs,F[i]? = some xs->cs[i]? = some (.slice (some ⟨h i,0,none⟩) xs.length xs.length)/\ArrS Cv 0 0 w (h i) xs/\A (h i) /\ ¬x.fix (h i)/\h i≠x.g)
 (Z:∀i j,i<F.length->j<F.length->h i=h j->i=j) (hF:F.length<x.ls.length) (f:Fr (· = x.g) w w') (O:∀k,A k->N k) (hb:N b /\ ¬x.fix b/\b≠x.g) (hn:¬A b) (hz:ArrS Cv 0 0 w' b zs)
 (hs:ArrS Ho 0 0 w' x.g (cs.set F.length (.slice (some ⟨b,0,none⟩) zs.length zs.length))):x.L N w' (F++[zs]):=by
 have M:∀i,i<F.length->h i≠b:=λi G e=>hn (e▸(V i _ (fY G)).2.2.1)
 refine ⟨λi=>if i=F.length then b else h i,_,hs,by simp [Y],λi xs G=>?_,λi j G hj=>?_⟩
 . by_cases U:i<F.length
   . rw [gN U] at G;obtain ⟨k1,k2,k3,k4,X⟩:=V i xs G;simp only [AC (show i≠F.length by omega)];rw [iW Ab];exact ⟨k1,k2.fr f (λk hk=>⟨Ab,λe=>X (e.symm.trans hk)⟩),O _ k3,k4,X⟩
   . obtain rfl:i=F.length:=by
      have:=(List.getElem?_eq_some_iff.1 G).1;simp at this;omega
     simp only [List.getElem?_concat_length,gE] at G;subst G;simp only [if_true];rw [jT Ab];exact ⟨rfl,hz,hb⟩
 . simp only [gR,gH,iM] at G hj;dsimp only;split<;>split
   . omega
   . intro e;exact absurd e.symm (M j Ab)
   . intro e;exact absurd e (M i Ab)
   . exact Z i j Ab Ab
def DCx.D.ext {out:List SV} (G:Eo x.c J) (h:x.D J A out w F) (X:Ext w w'):x.D J (DCx.grow A w w') out w' F:=
 h.grow G (mt X) (h.k.fr (T:=λ_=>False) (mt X) (λ_ _ h=>h)) ((h.l.fr (T:=λ_=>False) (mt X) h.ag (λ_ _ h=>h)).more (λ_ h=>gA h))
end
set_option maxHeartbeats 8000000 in
def Zz (x:DCx) (hx:x.Ok) (J Jx:(nP)->List SV->wD->Prop) (hJ:Eo x.c J) (S:List SV) (N:Nat) (HL:x.CL J Jx S N) (HN:x.CN J Jx S N):x.CN J Jx S (N+1):=by
 intro F zs i A out W left hm hF ao bc hi h0 h1 M O;obtain ⟨b,hr,Y,hb,ag,ap,Z⟩:=M.l.at;have s0:=M.k.s0;have aq:(F++[zs]).length=F.length+1:=by simp
 by_cases hk:i=zs.length
 . subst hk;have i0:=M.k.i0;rw [kp,gL,Xh] at O ⊢;have HX:=fZ (HL (F++[zs]) A out W left (by rw [aq];omega) (by rw [aq];omega) (λxs bd=>by
    rcases jA.1 bd with h|h
    . exact ao xs h
    . rw [iB.1 h];exact bc) h0 h1 M O)
   rw [aq] at HX;have hn:=hx.n;clear M O Z ag hb ap HL HN hJ ao Y;refine Ad func116 ntmps116 rfl rfl ?_;refine eK ?_;refine Az (Bb (fi:=[]) (ca:=x.capI) AR rfl rfl HX.out (λ_ _ h=>h.ret)) rfl ?_ aFh;rintro _ w5 ⟨q1,bw,⟨⟩,h3,h4⟩;refine eK ?_;refine xR ?_;exact ⟨_,_,rfl,h3,h4.imp (λ⟨e,F',e2,hd⟩=>⟨e,F',⟨zs,e2,rfl,by rw [gL]⟩,hd⟩) id⟩
 . obtain ⟨k,be⟩:∃k,zs.length-i=k+1:=⟨zs.length-i-1,Ab⟩
   have ek:(zs.length:Int)-1-i=k:=by omega
   rw [be] at O ⊢;rw [Xj] at O ⊢;have ae:=M.k.h0;have r0:=M.k.r0;have ry:=M.k.rowR (c:=F.length+1) Ab;obtain ⟨r1,r2,r3,r4⟩:=hx.rest (F.length+1);have hh:=hx.h;have hn:=hx.n;have ar:=fZ (λ(m:Nat)=>dI (h:=x.h) (r:=By x.h (x.ls.drop (F.length+1))) (k:=k) (left:=left) (m:=m) r1 Ab);obtain ⟨q,hq⟩:∃q,(k:Int)*x.h=q:=⟨_,rfl⟩
   have bf:0<=q/\q<=2001000:=by
    rw [<-hq];have m1:(k:Int)*x.h<=1000*2001:=Int.mul_le_mul Ab hh.2 Ab Ab;have m2:0<=(k:Int)*x.h:=Int.mul_nonneg Ab Ab;omega
   have ay:kN .i64 (((zs.length:Int)-1-i)*x.h)=q:=by rw [ek,hq];exact gG _ Ab
   have az:R1 x.h (By x.h (x.ls.drop (F.length+1))) k left=max 0 (left-1-q-(By x.h (x.ls.drop (F.length+1))).2):=by unfold R1;rw [hq]
   have a0:cK x.h (By x.h (x.ls.drop (F.length+1))) k left=min (x.h-1) (left-1-k-(By x.h (x.ls.drop (F.length+1))).1):=rfl;have HP:=fZ O;have HD:=fZ M;generalize R1 x.h (By x.h (x.ls.drop (F.length+1))) k left=V at *;generalize cK x.h (By x.h (x.ls.drop (F.length+1))) k left=hi at *;generalize By x.h (x.ls.drop (F.length+1))=r at *;obtain ⟨ra,rb⟩:=r;simp only at r1 r2 r3 r4 az a0 ry;have au:=fZ HN;clear O M Z ag hb ap HL HN Y hq;have X:=Ne W;refine Ad func116 ntmps116 rfl rfl ?_;refine eK ?_;refine C1 (AL rfl rfl (gG _ Ab)) (C1 Mv (C1 (AL rfl rfl (gG _ Ab)) ?_));refine eK ?_;refine Ap (λwz=>Ext W wz) 12 (.pure 0 (.pure 1 (.pure 2 (.pure 3 (.pure 4 (.pure 5 (.pure 6 (.pure 7 (.pure 8 (.pure 9 (.pure 10 (.pure 11 .tail)))))))))))) mixed AR (Aa Ag) ?_;intro av a1 _;have ah:(λwz=>Ext W wz) av:=a1;simp only at ah;have aa:=hr;have af:=s0;have U:=ae;have ai:=r0;have ab:=ry;revert hr s0 ae r0 ry X;refine eY a1 ?_;intro bx hr s0 ae r0 ry X;refine ⟨ah,?_⟩;refine Tq rfl Mv (Tq rfl (AL rfl rfl (gG _ Ab)) (Tq rfl Mv (Tq rfl (Ar Ac rfl rfl rfl (λwz Y=>mC (my U Y) rfl)) (Tq rfl (Hu rfl rfl ay) (Tq rfl (AL rfl rfl (gG _ Ab)) ?_)))));refine eT ?_;refine Tq rfl (Dr ab) ?_;clear ah aa af U ai ab;refine Aq rfl (C1 (AL rfl rfl (gG _ Ab)) (C1 (SJ (m:=V) rfl rfl Ab) ?_));refine eK ?_;refine Ap (λwz=>Ext av wz) 13 (.pure 0 (.pure 1 (.pure 2 (.pure 3 (.pure 4 (.pure 5 (.pure 6 (.pure 7 (.pure 8 (.pure 9 (.pure 10 (.pure 11 (.pure 12 .tail))))))))))))) mixed AR (Aa Ag) ?_;intro bg a2 _;have aj:(λwz=>Ext av wz) bg:=a2;simp only at aj;have aa:=hr;have af:=s0;have U:=ae
   have ai:=r0;have ab:=ry;revert hr s0 ae r0 ry X;refine eY a2 ?_;intro bz hr s0 ae r0 ry X;refine ⟨aj,?_⟩;refine Tq rfl (Ar Ac rfl rfl rfl (λwz Y=>mC (my U Y) rfl)) (Tq rfl (AL rfl rfl (gG _ Ab)) (Tq rfl Mv (Tq rfl (AL rfl rfl (gG _ Ab)) (Tq rfl Mv (Tq rfl (AL rfl rfl (gG _ Ab)) ?_)))));refine eT ?_;refine Tq rfl (Ar Ac rfl rfl rfl (λwz Y=>mE (mw ab Y) rfl)) (Tq rfl (AL rfl rfl (gG _ Ab)) ?_);clear aj aa af U ai ab;refine Aq rfl (C1 (OK (m:=hi) rfl rfl Ab) ?_);refine eK ?_;refine C1 (AL rfl rfl (gG _ Ab)) (C1 V7 (C1 Mv (cT ?_)));have HD:=HD.out.ext hJ X;have br:0<=V:=by omega
   clear ae r0 ry s0 hr ay az a0 bf;refine As ?_;refine AF (ι:=Nat×(nP)×List Int) (λy=>[(0,.int .i64 F.length),(1,.int .i64 i),(2,.int .i64 left),(3,.pointer (some ⟨x.bS,0,none⟩)),(7,.pointer (some ⟨x.bN,0,none⟩)),(13,.int .i64 V),(67,.int .i64 (hi-V+1)),(68,.int .i64 y.1)])
    (λy w'=>y.1<=(hi-V+1).toNat/\y.2.2.length=zs.length/\y.2.2.take i=zs.take i/\(∀k,A k->y.2.1 k)/\x.D J y.2.1 (out++(jQ y.1).flatMap λ(m:Nat)=>Xg x.h x.ls F (zs.take i++[CF (V+m)]) k (left-1-V-m)) w' (F++[y.2.2]))
    (λy=>(hi-V+1).toNat-y.1) (0,_,zs) sB ⟨gI _,rfl,rfl,λ_ h=>gA h,by rw [List.range_zero,List.flatMap_nil,lw];exact HD⟩ ?_
   clear HD X;rintro ⟨m,B,ys⟩ w7 ⟨bh,al,aw,am,M⟩;simp only at bh al aw am M;refine m7 (m:=[(0,.int .i64 F.length),(1,.int .i64 i),(2,.int .i64 left),(3,.pointer (some ⟨x.bS,0,none⟩)),(7,.pointer (some ⟨x.bN,0,none⟩)),(13,.int .i64 V),(67,.int .i64 (hi-V+1)),(68,.int .i64 m)]) ?_ sB;by_cases bi:m<(hi-V+1).toNat
   . obtain ⟨b,hr,Y,hb,ag,ap,Z⟩:=M.l.at;have b0:=ar.out m Ab;have s0:=M.k.s0;have n0:=M.k.n0;have b1:=(M.lt b hb).2;have HD:=fZ M;have HU:=fZ Z;have HF:=fZ ag;rw [al] at hr;have bj:i<ys.length:=by omega
     clear M Z ag;have X7:=mx (λk=>k=b) w7;refine eK ?_;refine Ap (λwz=>Ext w7 wz) 9 (.pure 0 (.pure 1 (.pure 2 (.pure 3 (.pure 4 (.pure 5 (.pure 6 (.pure 7 (.fork 8 .tail .none))))))))) mixed AR (Aa (Ae (Aa (Aa (Ae (Aa Ag)))))) ?_;intro bk a3 _;have ac:(λwz=>Ext w7 wz) bk:=a3;simp only at ac;have aa:=hr;have bs:=Y;have af:=s0;have bt:=n0;revert hr Y s0 n0 X7;refine eY a3 ?_;intro b2 hr Y s0 n0 X7;refine ⟨ac,?_⟩;refine eT ?_;refine Tq rfl (Ar Ac rfl rfl rfl (λwz Y=>mE (mw aa Y) rfl)) ?_;refine eT ?_;refine tC rfl rfl (Xe (V+m) Ab _) ?_;rintro _ b3 ⟨⟨⟩,bl⟩;revert ac hr Y s0 n0 X7;refine eY bl ?_;intro b4 ac hr Y s0 n0 X7;refine ⟨ac,?_⟩;refine Aq rfl (C1 Pi (A9 (B8 (sh:=Cv) (j:=i) (z:=CF (V+m)) (us:=[_]) Ac rfl rfl rfl rfl rfl rfl Af bj (gB Ab) rfl) (BK ?_)));rintro _ ad ⟨b5,ak,bu⟩;have bv:=ak.size;have hr:=mN hr ak (by simp only;omega);clear Y s0 n0;have X7:=X7.fr ak Ab;refine cT ?_;have b6:=X7.size;have M:=HD.out;have a4:∀k,B k->DCx.grow B w7 ad k:=λ_ h=>gA h
     have ax:x.D J (DCx.grow B w7 ad) _ ad (F++[ys.set i (CF (V+m))]):=M.grow hJ (X7.weaken λk (e:k=b)=>by subst e;exact hb) (M.k.fr X7 (λk hk e=>HF.out (e▸hk))) ((HU.out ad _ X7 Af AQ).more a4);have a5:(ys.set i (CF (V+m))).length=zs.length:=by simp [al]
     have a6:(ys.set i (CF (V+m))).length-(i+1)=k:=by omega
     have a7:(ys.set i (CF (V+m))).take (i+1)=zs.take i++[CF (V+m)]:=by
      rw [gC (by rw [a5];omega),List.getElem_set_self,List.take_set_of_le (gP _),aw]
     have HX:=fZ (au.out F (ys.set i (CF (V+m))) (i+1) _ _ ad (left-1-V-m) Ab hF ao Ab Ab Ab Ab ax (by rw [a7,a6];exact Kh HP.out bi));rw [a7,a6,I0] at HX;have n0:=ax.k.n0;clear M HU HF ax X7 a4;refine eK ?_;refine C1 (AL rfl rfl (gG _ Ab)) (C1 Mv (C1 (AL rfl rfl (gG _ Ab)) (C1 Mv (C1 (AL rfl rfl (gG _ Ab)) ?_))));refine Az (Bb (fi:=[]) (ca:=x.capN) AR rfl rfl HX.out (λ_ _ h=>h.ret)) rfl ?_ aFh;rintro _ b7 ⟨b8,an,⟨⟩,a8,bm⟩;refine C1 Pt (cT ?_);have a9:∀k,A k->an k:=λk h=>a8 k (gA (am k h))
     obtain ⟨rfl,G,⟨us,rfl,ba,bn⟩,bo⟩|⟨rfl,bp,bq⟩:=bm
     . clear a8 am ar HP HX au;rw [a5] at ba;have bb:us.take i=zs.take i:=by
        have:=congrArg (List.take i) bn;rw [List.take_take,lu (Nat.le_succ i),List.take_left' (by rw [iE];omega)] at this;exact this
       refine AO rfl (Am (Ah (Ai (Ak (C1 V7 (C1 Mv (Al ?_)))))));exact Av (m+1,an,us) sB ⟨by simp only;omega,ba,bb,a9,bo⟩ (by simp only;omega)
     . refine eK ?_;refine xR ?_;exact ⟨false,_,rfl,a9,gB ⟨rfl,bp,bq⟩⟩
   . obtain rfl:m=(hi-V+1).toNat:=by omega
     clear HP ar au;refine eK ?_;refine xR ?_;exact ⟨true,B,rfl,am,gA ⟨rfl,_,⟨ys,rfl,al,aw⟩,M⟩⟩
def bJ {n M:Int} (N:1<=h) (O : -M<=n) (U:n<=M) : -M<=n.tdiv h/\n.tdiv h<=M:=by
 rcases Int.le_total 0 n with G|G
 . rw [Int.tdiv_eq_ediv_of_nonneg G];have a:=Int.ediv_nonneg G (show 0<=h by omega);have b:=Int.ediv_le_self h G;omega
 . have e:n.tdiv h = -((-n)/h):=by
    rw [<-Int.tdiv_eq_ediv_of_nonneg (show 0 <= -n by omega),Int.neg_tdiv,Int.neg_neg]
   rw [e];have a:=Int.ediv_nonneg (show 0 <= -n by omega) (show 0<=h by omega);have b:=Int.ediv_le_self h (show 0 <= -n by omega);omega
set_option maxHeartbeats 8000000 in
def ZA (x:DCx) (hx:x.Ok) (J Jx:(Nat->Prop)->List SV->World->Prop) (hJ:Eo x.c J) (S:List SV)
 (hY:∀A pre s vs W1,(∀k,A k->x.c<=k/\k<W1.heap.size)->J A pre W1->OY x.c W1 vs s->(pre++[s]) <+: S->YieldAt (WF none) 0 Tryz.prog x.y vs.toArray W1 (SRes x.Rt J Jx A (pre++[s]) W1))
 (N:Nat) (HN:x.CN J Jx S N):x.CL J Jx S (N+1):=by
 intro F A out W left hm hF hFl h0 h1 hD hpre
 by_cases hc:F.length=x.ls.length
 . rw [Zy hc] at hpre ⊢
   exact Xo x hx J Jx hJ S hY F A out W left hc hFl hD hpre
 . have hlt:F.length<x.ls.length:=by omega
   have hp:x.ls[F.length]? = some x.ls[F.length]:=fY hlt;rw [Xi hp] at hpre ⊢;have hpb:=hx.ls _ (gK hlt);have h0':=hD.k.h0;have r0:=hD.k.r0;have s0:=hD.k.s0;have l0:=hD.k.l0;have ry:=hD.k.rowR (c:=F.length+1) (by omega);obtain ⟨kb,ko,hla,-,hk⟩:=mM hD.k.ld (by omega);have rx:Row W ⟨kb,ko+F.length*2,none⟩ [.int .i64 x.ls[F.length].1,.int .i64 x.ls[F.length].2]:=hk F.length _ hp;rw [hla] at l0;obtain ⟨r1,r2,r3,r4⟩:=hx.rest (F.length+1);have hh:=hx.h;have hn:=hx.n;have HP:=fZ hpre;have HD:=fZ hD;have HL2:=fZ HN;have hgf:=hx.g;have HR:=fZ hx.rt
   unfold dW eX cL dB at HP ⊢
   clear hpre hD HN hk hY hx hla hc
   generalize x.ls[F.length]=p at *
   generalize By x.h (x.ls.drop (F.length+1))=r at *
   obtain ⟨ra,rb⟩:=r;obtain ⟨pa,pb⟩:=p;simp only at r1 r2 r3 r4 rx ry hpb HP ⊢;obtain ⟨q,hq⟩:∃q,(left-rb+x.h-1).tdiv x.h=q:=⟨_,rfl⟩
   have hqb : -200000000<=q/\q<=200000000:=by
    rw [<-hq]
    exact bJ hh.1 (by omega) (by omega)
   have hqw:kN .i64 ((left-rb+x.h-1).tdiv x.h)=q:=by rw [hq];exact gG _ (by omega)
   have V:x.h≠0:=by omega
   rw [hq] at HP ⊢;obtain ⟨lo,hlo⟩:∃lo,max pa q=lo:=⟨_,rfl⟩;obtain ⟨hi,hhi⟩:∃hi,min pb (left-ra)=hi:=⟨_,rfl⟩;rw [hlo,hhi] at HP ⊢;have X:=Ne W;refine Ad Tryz.func115 Tryz.ntmps115 rfl rfl ?_
   focus
    refine cS (C1 Pa (cT (Aj (cS (C1 Mv (C1 (Pl s0) (C1 Pz (C1 V1 (cT (Dd (Am ?_)))))))))));refine Ai (Aj ?_);refine Ap (λwz=>Ext W wz) 18 (.pure 0 (.pure 1 (.pure 2 (.pure 3 (.pure 4 (.pure 5 (.pure 6 (.pure 7 (.pure 8 (.pure 9 (.pure 10 (.pure 11 (.pure 12 (.pure 13 (.pure 14 (.pure 15 (.pure 16 (.pure 17 .tail)))))))))))))))))) mixed (by kernel_rfl) (Aa Ag) ?_;intro w1 x2 _;have O:(λwz=>Ext W wz) w1:=x2;simp only at O;have a:=h0';have i:=r0;have b:=s0;have o:=l0;have t:=ry;have u:=rx;have z4:=x2.size;replace h0':=my h0' x2;replace r0:=r0.ext x2;replace s0:=s0.ext x2;replace l0:=l0.ext x2;replace ry:=ry.ext x2;replace rx:=rx.ext x2;replace X:=X.ext x2;clear x2;refine ⟨O,?_⟩;refine Tq rfl (Db o) (Tq rfl Mv (Tq rfl Pi (Tq rfl Pg (Tq rfl (Ar Ac rfl rfl rfl (λwz hz=>mE (mw u hz) rfl)) (Tq rfl Mv (Tq rfl (Db i) (Tq rfl Mv (Tq rfl V7 (Tq rfl Pi (Tq rfl Pf (Tq rfl (Dr t) ?_)))))))))));refine Tq rfl (AL rfl rfl (gG _ (by omega))) ?_;refine Tq rfl (Ar Ac rfl rfl rfl (λwz hz=>mC (my a hz) rfl)) (Tq rfl V7 ?_);refine Tq rfl (AL rfl rfl (gG _ (by omega))) ?_;refine Tq rfl (Ar Ac rfl rfl rfl (λwz hz=>mC (my a hz) rfl)) (Tq rfl (Hv rfl rfl V hqw) ?_);clear O a i b o t u;refine Aq rfl (C1 (SJ (m:=lo) rfl rfl hlo) (C1 Pa (cT (Aj ?_))))
    refine Ap (λwz=>Ext w1 wz) 13 (.pure 0 (.pure 1 (.pure 2 (.pure 3 (.pure 4 (.pure 5 (.pure 6 (.pure 7 (.pure 8 (.pure 9 (.pure 10 (.pure 11 (.pure 12 .tail))))))))))))) mixed (by kernel_rfl) (Aa Ag) ?_;intro w5 x6 _;have Q:(λwz=>Ext w1 wz) w5:=x6;simp only at Q;have a:=h0';have i:=r0;have b:=s0;have o:=l0;have t:=ry;have u:=rx;have z8:=x6.size;replace h0':=my h0' x6;replace r0:=r0.ext x6;replace s0:=s0.ext x6;replace l0:=l0.ext x6;replace ry:=ry.ext x6;replace rx:=rx.ext x6;replace X:=X.ext x6;clear x6;refine ⟨Q,?_⟩;refine Tq rfl (Db o) (Tq rfl Mv (Tq rfl Pi (Tq rfl Pf (Tq rfl (Dr u) (Tq rfl Mv (Tq rfl (Db i) (Tq rfl Mv (Tq rfl V7 (Tq rfl Pi (Tq rfl Pg (Tq rfl (Ar Ac rfl rfl rfl (λwz hz=>mE (mw t hz) rfl)) ?_)))))))))));refine Tq rfl (AL rfl rfl (gG _ (by omega))) ?_;clear Q a i b o t u;refine Aq rfl (C1 (OK (m:=hi) rfl rfl hhi) (C1 Pa (cT (Aj (cS (C1 Mv (C1 Mv ?_)))))));refine C1 (AL rfl rfl (gG _ (by omega))) ?_;refine C1 V7 (C1 Mv (cT ?_));rotate_left 1
   have hD:=HD.out.ext hJ X
   have ac:pa<=lo:=by omega
   have ad:hi<=pb:=by omega
   clear HD X rx ry r0 h0' s0 l0 hqw hq hlo hhi hqb;refine As ?_;refine AF (ι:=Nat×(Nat->Prop)) (λy=>[(0,.int .i64 F.length),(1,.int .i64 left),(2,.pointer (some ⟨x.bS,0,none⟩)),(7,.pointer (some ⟨x.bN,0,none⟩)),(13,.int .i64 lo),(71,.int .i64 (hi-lo+1)),(72,.int .i64 y.1)])
    (λy w'=>y.1<=(hi-lo+1).toNat/\(∀k,A k->y.2 k)/\x.D J y.2 (out++(jQ y.1).flatMap λ(m:Nat)=>Xg x.h x.ls F [] (lo+m).toNat left) w' F)
    (λy=>(hi-lo+1).toNat-y.1) (0,_) (by (refine An rfl ?_;refine An rfl ?_;refine An rfl ?_;refine An rfl ?_;refine An rfl ?_;refine An rfl ?_;refine An rfl ?_;exact BE)) ⟨gI _,λ_ h=>gA h,by rw [List.range_zero,List.flatMap_nil,lw];exact hD⟩ ?_
   clear hD;rintro ⟨m,B⟩ w7 ⟨Y,hAB,hD⟩;simp only at Y hAB hD;refine m7 (m:=[(0,.int .i64 F.length),(1,.int .i64 left),(2,.pointer (some ⟨x.bS,0,none⟩)),(7,.pointer (some ⟨x.bN,0,none⟩)),(13,.int .i64 lo),(71,.int .i64 (hi-lo+1)),(72,.int .i64 m)]) ?_ (by (refine An rfl ?_;refine An rfl ?_;refine An rfl ?_;refine An rfl ?_;refine An rfl ?_;refine An rfl ?_;refine An rfl ?_;exact BE))
   by_cases T:m<(hi-lo+1).toNat
   . obtain ⟨bl,cs,hcs,hcl,h3,h4⟩:=hD.l;obtain ⟨k,hk⟩:∃k:Nat,lo+m=k:=⟨(lo+m).toNat,by omega⟩
     have aj:k<=1000:=by omega
     have hkn:(lo+m).toNat=k:=by omega
     have hadd:kN .i64 (lo+m)=(k:Int):=by rw [hk];exact gG _ (by omega)
     have s0:=hD.k.s0;have hgl:=(hD.lt _ hD.ag).2;have HD:=fZ hD;have H3:=fZ h3;have H4:=fZ h4
     have hcF:F.length<cs.length:=by omega
     clear hD h3 h4;have X7:=mx (λk=>k=x.g) w7
     focus
      refine cS (C1 V3 (cT (Aj (Ll (Am (Ai (Aj (As (cS (C1 Mv (C1 Pa ?_)))))))))));refine cT (Aj ?_);refine Ap (λwz=>Ext w7 wz) 6 (.pure 0 (.pure 1 (.pure 2 (.pure 3 (.pure 4 (.fork 5 .tail .none)))))) mixed (by kernel_rfl) (Aa (Ae (Aa (Aa (Ae (Aa Ag)))))) ?_;intro Z E _;have d:(λwz=>Ext w7 wz) Z:=E;simp only at d;have R:=hcs;have b:=s0;have ak:=E.size;replace hcs:=hcs.ext E;replace s0:=s0.ext E;replace X7:=X7.ext E;clear E;refine ⟨d,?_⟩;refine Tq rfl (Db b) (Tq rfl Mv (Tq rfl Mv (Tq rfl Mv (Tq rfl (K7 (c:=(k:Int)) rfl rfl hadd) ?_))));refine Ax rfl (Dj (sh:=Cv) (C:=0) (D:=0) (N:=k) (z:=0) Ac Ca rfl rfl rfl rfl (by kernel_rfl) rfl rfl (by omega) (λ_ _=>rfl)) rfl ?_ (λ_ h=>h) Au;rintro _ ae ⟨al,rfl,I,am,an,f⟩;have af:=f.size;replace d:=d.ext f;replace hcs:=hcs.ext f;replace s0:=s0.ext f;replace X7:=X7.ext f;clear f;refine ⟨d,?_⟩;clear R b d;refine Aq rfl (C1 Pi ?_);refine A9 (B8 (sh:=Ho) (j:=F.length) (us:=[_]) Ac rfl rfl rfl rfl rfl rfl (by assumption) hcF (gB (by omega)) ⟨rfl,rfl⟩) ?_;refine BK ?_;rintro _ v ⟨M,w,ah⟩;have ai:=w.size;replace I:=I.fr w (by omega);clear hcs s0;replace X7:=X7.fr w (by omega)
      clear w;refine cT ?_;rotate_left 1
     have ao:=X7.size;have hD:=HD.out;have hsz:=hD.sz
     have hfx:∀k,x.fix k->k<w7.heap.size:=λk hk=>(hD.own k hk).elim (λh=>by have:=HR.out k h;omega) (λh=>(hD.lt k h).2)
     have hAg:∀k,B k->DCx.grow B w7 v k:=λ_ h=>gA h
     have hD8:x.D J (DCx.grow B w7 v) _ v (F++[iK k 0]):=hD.grow hJ (X7.weaken λk (e:k=x.g)=>by subst e;exact hD.ag) (hD.k.fr X7 (λk hk (e:k=x.g)=>hgf (e▸hk)))
      (DCx.L.snoc hcl H3.out H4.out hlt X7 hAg ⟨gB ⟨by omega,by omega⟩,λh=>by have:=hfx _ h;omega,by omega⟩ (λh=>by have:=(hD.lt _ h).2;omega) I (by rw [List.length_replicate];exact M))
     have n0:=hD8.k.n0;have HX:=fZ (HL2.out F (iK k 0) 0 _ _ v left (by omega) hlt hFl (by simp;omega) (by omega) h0 h1 hD8 (by rw [kz,List.length_replicate,kP,<-hkn];exact Kh HP.out T));rw [kz,List.length_replicate,kP,<-hkn,I0] at HX;clear hD HD H3 H4 hD8 X7 hAg hfx I M HR
     focus
      refine cS (C1 (Pl n0) (C1 Mv (C1 Mv ?_)));refine Az (Bb (fi:=[]) (ca:=x.capN) (by kernel_rfl) rfl rfl HX.out (λ_ _ h=>h.ret)) rfl ?_ (λ_ h=>h);rintro _ aa ⟨ap,A'b2,⟨⟩,U,ab⟩;refine C1 Pt (cT ?_);rotate_left 1
     have hBC:∀k,A k->A'b2 k:=λk h=>U k (gA (hAB k h))
     obtain ⟨rfl,G,⟨us,rfl,-,-⟩,hD9⟩|⟨rfl,hAc,hpr⟩:=ab
     . have hD9:x.D J A'b2 _ aa F:=⟨hD9.k,hD9.l.less,hD9.j,hD9.lt,hD9.own,hD9.ag,hD9.sz⟩;clear U hAB HP HX HL2
       focus
        refine AO rfl (Am (Ah (Ai (Ak (C1 V7 (C1 Mv (Al ?_)))))));rotate_left 1
       exact Av (m+1,A'b2) (by (refine An rfl ?_;refine An rfl ?_;refine An rfl ?_;refine An rfl ?_;refine An rfl ?_;refine An rfl ?_;refine An rfl ?_;exact BE)) ⟨by simp only;omega,hBC,hD9⟩ (by simp only;omega)
     . focus
        refine Bq rfl (cS (C1 Pa (cT (AU (AJ (At (At (AJ (At (AW rfl rfl ?_))))))))));rotate_left 1
       exact ⟨false,_,rfl,hBC,gB ⟨rfl,hAc,hpr⟩⟩
   . obtain rfl:m=(hi-lo+1).toNat:=by omega
     clear HP HL2
     focus
      refine cS (C1 V3 (cT (Aj (Dd (BF (Ay (Ay (AS (Ai (cS (C1 Pa ?_)))))))))));refine cT (AU (AW rfl rfl ?_));rotate_left 1
     exact ⟨true,B,rfl,hAB,gA ⟨rfl,_,rfl,hD⟩⟩
def Q6 (x:DCx) (M:x.Ok) (J Jx:(nP)->List SV->wD->Prop) (O:Eo x.c J) (S:List SV)
 (U:∀A pre s vs G,(∀k,A k->x.c<=k/\k<G.heap.size)->J A pre G->OY x.c G vs s->(pre++[s]) <+: S->YieldAt (WF none) 0 prog x.y vs.toArray G (SRes x.Rt J Jx A (pre++[s]) G)) :
 ∀N,x.CL J Jx S N/\x.CN J Jx S N
 | 0=>⟨λ_ _ _ _ _ h=>absurd h (Nat.not_lt_zero _),λ_ _ _ _ _ _ _ h=>absurd h (Nat.not_lt_zero _)⟩
 | N+1=>
  have ⟨h1,h2⟩:=Q6 x M J Jx O S U N
  ⟨ZA x M J Jx O S U N h2,Zz x M J Jx O S N h1 h2⟩
def MG {g:Operand} {p:Tmp} {G X:Code} {lb:lV} {rep:Nat->wD->lV->α->Prop} {Z Fin:List α->Prop}
 (hp:iC p n=true) (hg:ev l g=some (.func (.func m) #[] lb.toArray)) (eg:BU P m=true) (ac:Jn P m lb rep A Z Fin w) (ab:∀c W vs x,rep c W vs x -> ∃u,vs=[u]) (ad:∀k,A k->k<w.heap.size)
 (J Jx:(nP)->List α->wD->Prop) (hJ:Eo w.heap.size J) (ae:Eo w.heap.size Jx) (h0:J (λ_=>False) [] w)
 (U:∀r Rt pre x u W,(∀k,Rt k->w.heap.size<=k/\k<W.heap.size)->Rt (w.heap.size+1)->J Rt pre W->rep (w.heap.size+2) W [u] x->Z (pre++[x]) ->
  CR P n (some r) G (Exit.then (Ib P (some r) (λk=>Rt k\/A k) (w.heap.size+1) X (λW₂=>D9 (λk=>Rt k\/A k) J Jx Rt (pre++[x]) W₂) W) (λ_ _ _=>False)) ((p,u)::l) W)
 (M:∀Rt S W,Fin S->(∀k,Rt k->w.heap.size<=k)->J Rt S W->Rt w.heap.size->W.heap[w.heap.size]? = some (.deferred (some []))->Jq (GJ w.heap.size) n Q .normal l W)
 (N:∀Rt pre W,(∀k,Rt k->w.heap.size<=k)->Z pre->Jx Rt pre W->Rt w.heap.size->W.heap[w.heap.size]? = some (.deferred (some []))->Jq (GJ w.heap.size) n Q .ret l W) :
 CW P n (.rangeFunc g #[p] G X) Q l w:=by
 refine SY λa V=>?_
 refine KD (V.ev hg) eg ac (λc W vs x h=>by obtain ⟨u,rfl⟩:=ab c W vs x h;rfl) ad J Jx hJ ae h0 (λr Rt pre x vs W hA af hj Y O=>?_) (λRt S W hS hA hj aa hk=>?_) (λRt pre W hA O hj aa hk=>?_)
 . obtain ⟨u,rfl⟩:=ab _ W vs x Y;refine U r Rt pre x u W hA af hj Y O _ ?_;have e1:Env n l { a with defers:=[] }:=⟨V.size,rfl,V.has⟩
   simpa [Act.put] using e1.put hp u
 . unfold Jq at M;exact M Rt S W hS hA hj aa hk _ ⟨⟨V.size,rfl,V.has⟩,by rw [V.defers];rfl⟩
 . unfold Jq at N;exact N Rt pre W hA O hj aa hk _ ⟨⟨V.size,rfl,V.has⟩,by rw [V.defers];rfl⟩
def U5 {g:Operand} {p:Tmp} {G N:Code} {lb:lV} {rep:Nat->wD->lV->α->Prop} {S:List α}
 (hp:iC p n=true) (hg:ev l g=some (.func (.func m) #[] lb.toArray)) (eg:BU P m=true) (Y:IterOk P m lb rep A S w) (Z:∀c W vs x,rep c W vs x -> ∃u,vs=[u]) (aa:∀k,A k->k<w.heap.size)
 (J Jx:(nP)->List α->wD->Prop) (hJ:Eo w.heap.size J) (ab:Eo w.heap.size Jx) (h0:J (λ_=>False) [] w)
 (M:∀r V pre x u W,(∀k,V k->w.heap.size<=k/\k<W.heap.size)->V (w.heap.size+1)->J V pre W->rep (w.heap.size+2) W [u] x->(pre++[x]) <+: S ->
  CR P n (some r) G (Exit.then (Ib P (some r) (λk=>V k\/A k) (w.heap.size+1) N (λW₂=>D9 (λk=>V k\/A k) J Jx V (pre++[x]) W₂) W) (λ_ _ _=>False)) ((p,u)::l) W)
 (O:∀V W,(∀k,V k->w.heap.size<=k)->J V S W->V w.heap.size->W.heap[w.heap.size]? = some (.deferred (some []))->Jq (GJ w.heap.size) n Q .normal l W)
 (U:∀V pre W,(∀k,V k->w.heap.size<=k)->pre <+: S->Jx V pre W->V w.heap.size->W.heap[w.heap.size]? = some (.deferred (some []))->Jq (GJ w.heap.size) n Q .ret l W) :
 CW P n (.rangeFunc g #[p] G N) Q l w  :=
 MG hp hg eg Y.gen Z aa J Jx hJ ab h0 M (λV S' W e h=>by subst e;exact O V W h) U
def DistR (c:Nat) (J Jx:(nP)->List SV->wD->Prop) (S:List SV) (A:nP) (out:List SV) (gr:Nat) (V:List (Int×Int)):Ending->wD->Prop:=λe W'=>
 ∃q A',e = .returned (.bool q)/\(∀k,A k->A' k)/\((q=true/\J A' out W'/\ArrS CM 0 0 W' gr V/\(∀k,A' k->c<=k/\k<W'.heap.size)/\c<=W'.heap.size)\/(q=false/\(∀k,A' k->c<=k) /\ ∃pre,pre <+: S/\Jx A' pre W'))
def DistR.ret {Jx:(nP)->List SV->wD->Prop} {out:List SV} {V:List (Int×Int)} (h:DistR c J Jx S A out n V e w):∃v,e = .returned v:=by
 obtain ⟨_,_,h,-⟩:=h;exact ⟨_,h⟩
set_option maxHeartbeats 8000000 in
def OZ (y c gr lc:Nat) (la:oA) (h:Int) (ls:List (Int×Int)) (Rt:nP) (an:∀k,Rt k->k<c) (hh:1<=h/\h<=2001) (ao:∀p∈ls,0<=p.1/\p.1<=p.2/\p.2<=1000) (hn:1<=ls.length/\ls.length<=33) (J Jx:(nP)->List SV->wD->Prop) (hJ:Eo c J) (S:List SV)
 (hY:∀A pre s vs W1,(∀k,A k->c<=k/\k<W1.heap.size)->J A pre W1->OY c W1 vs s->(pre++[s]) <+: S->YieldAt (WF none) 0 prog y vs.toArray W1 (SRes Rt J Jx A (pre++[s]) W1))
 (A:nP) (out:List SV) (W:wD) (wt:Int) (h0:0<=wt) (h1:wt<=70000000) (hj:J A out W) (hA:∀k,A k->c<=k/\k<W.heap.size) (hc:c<=W.heap.size) (hg:A gr) (V:ArrS CM 0 0 W gr (Io h ls 0)) (hl:Arr Rt 2 K5 W ls la) (aj:(out++Q4 h ls [] wt) <+: S) :
 Calls prog 85 #[.slice la ls.length lc,.slice (some ⟨gr,0,none⟩) (ls.length+1) (ls.length+1),.int .i64 h,.int .i64 wt,.func (.yield y) #[] #[]] W (DistR c J Jx S A (out++Q4 h ls [] wt) gr (Io h ls 0)):=by
 have X:=Ne W;have a7:=(hA gr hg).2;have HL:Hid (∀w2,Ext W w2->Arr Rt 2 K5 w2 ls la):=fZ λw2 x=>hl.mono aFh (λ_ _ _ _ _ h=>mw h x)
 have HY:=fZ hY;have HA:=fZ hA;have HR:=fZ an;have HJ:=fZ hj;have HS:=fZ ao;refine Ad func85 ntmps85 rfl rfl (cS (eB [_] ?_));intro b1 w2 Y x5 p6 z7;revert V X;refine eE x5 ?_;intro V X;refine eB [_] ?_;intro b8 w9 G ap a8 a9;revert Y V X;refine eE ap ?_;intro Y V X;refine eB [_] ?_;intro ac ba M aq bb bc;revert G Y V X;refine eE aq ?_;intro G Y V X;refine eB [_] ?_;intro ad bd O ar be z28;revert M G Y V X;refine eE ar ?_;intro M G Y V X;refine eK ?_;refine Az (Dj (sh:=Ho) (C:=0) (D:=0) (N:=ls.length) (z:=.slice none 0 0) Ac Ca rfl rfl rfl rfl AR rfl rfl Ab (λ_ _=>⟨rfl,rfl⟩)) rfl ?_ aFh;rintro _ bf ⟨aa,rfl,U,bg,bh,au⟩;revert O M G Y V X;refine eE au ?_;intro O M G Y V X;refine xA [_] ?_;intro ae bi av;refine eI [_] av ?_;intro bj Z aw bk bl;revert U O M G Y V X;refine eE aw ?_;intro U O M G Y V X;refine cN (eA [_] ?_);intro ak bm af ax bn bo;revert Z U O M G Y V X;refine eE ax ?_;intro Z U O M G Y V X;refine cN (eA [_] ?_);intro ag bp ah ay bq br;revert af Z U O M G Y V X;refine eE ay ?_;intro af Z U O M G Y V X;refine cN (C1 (BW rfl) (eS [_] af ?_));intro bs ai az bt;revert ah Z U O M G Y V X;refine eF az ?_;intro ah Z U O M G Y V X
 refine cN (C1 (BW rfl) (eS [_] ah ?_));intro ab a0 a1 bu;revert ai Z U O M G Y V X;refine eF a1 ?_;intro ai Z U O M G Y V X;refine cT ?_;obtain ⟨x,hx⟩:∃x:DCx,x=⟨y,c,ad,b1,b8,ac,ae,ak,ag,aa,gr,lc,la,h,ls,Rt⟩:=⟨_,rfl⟩;have hA:=HA.out;have bv:=hA gr hg;have al:∀k,x.fix k↔(Rt k\/k=ad\/k=b1\/k=b8\/k=ac\/k=ae\/k=ak\/k=ag\/k=gr):=λk=>by rw [hx];exact Iff.rfl
 have a2:¬x.fix aa:=by
  rw [al];rintro (h|h)
  . have:=HR.out _ h;omega
  . omega
 have a3:x.Ok:=⟨by rw [hx];exact HR.out,by rw [hx];exact hh,by rw [hx];exact HS.out,by rw [hx];exact hn,by rw [show x.g=aa by rw [hx]];exact a2⟩
 have hD:x.D J (DCx.grow A W ab) out ab []:=by
  have hl:=HL.out _ X;refine ⟨by rw [hx];exact ⟨O,Y,G,M,Z,ai,a0,hl,V⟩,by rw [hx];exact ⟨λ_=>0,_,U,by rw [List.length_replicate],λi xs hi=>by simp at hi,λi j hi=>by simp at hi⟩,
   DCx.grow_j hJ HJ.out hA hc (mt X),λk hk=>?_,λk hk=>?_,?_,?_⟩
  . have:c<=k/\k<ab.heap.size:=hk.elim (λh=>⟨(hA k h).1,by have:=(hA k h).2;omega⟩) (λh=>⟨Ab,h.2⟩);rw [hx];exact this
  . rw [al] at hk;rw [hx];rcases hk with h|h
    . exact gA h
    . right;by_cases e:k=gr
      . exact gA (e▸hg)
      . exact gB ⟨Ab,Ab⟩
  . have:W.heap.size<=aa/\aa<ab.heap.size:=⟨Ab,Ab⟩;rw [hx];exact gB this
  . rw [hx];show c<=_;omega
 have HX:=fZ ((Q6 x a3 J Jx (by rw [hx];exact hJ) S (by rw [hx];exact HY.out) (x.ls.length*1002+1)).1 [] _ out ab wt AQ AQ AQ h0 h1 hD (by rw [hx];exact aj));rw [hx] at HX;refine eK ?_;refine Az (Bb (fi:=[]) (ca:=[.pointer (some ⟨ae,0,none⟩),.pointer (some ⟨ad,0,none⟩),.pointer (some ⟨b1,0,none⟩),.pointer (some ⟨b8,0,none⟩),.pointer (some ⟨ac,0,none⟩),.pointer (some ⟨ag,0,none⟩)]) AR rfl rfl HX.out (λ_ _ h=>h.ret)) rfl ?_ aFh;rintro _ bw ⟨bx,a6,⟨⟩,am,a4⟩;refine kR ?_;obtain ⟨rfl,F,rfl,hD⟩|⟨rfl,a5,hp⟩:=a4
 . exact ⟨true,_,rfl,λk h=>am k (gA h),gA ⟨rfl,hD.j,hD.k.rs,hD.lt,hD.sz⟩⟩
 . exact ⟨false,_,rfl,λk h=>am k (gA h),gB ⟨rfl,a5,hp⟩⟩
def Sr {F:Fence} {l:Nat} {args:Array Value} {R':Ending->wD->Prop} (h:YieldAt F m P l args w' R) (N:∀e w,R e w->R' e w):YieldAt F m P l args w' R':=by
 obtain ⟨fn,tmps,G,M,O,U⟩:=h;exact ⟨fn,tmps,G,M,O,U.mono N⟩
def dK (h:OY n w vs s):∃u,vs=[u]:=by
 obtain ⟨_,_,_,_,_,_,h,-⟩:=h;exact ⟨_,h⟩
set_option maxHeartbeats 8000000 in
def bK (vs:List VD) (b:BoxV) (hb:b.ok) (hv:CU vs) (N:nP) (bo bb bl:Nat) (la:oA) (lc:Nat) (w:wD) (an:∀k,N k->k<w.heap.size) (hR:N bo/\N bb/\N bl) (p1:Blk w bo [.bool true]) (p2:Blk w bb [.int .i64 b.v,.int .i64 b.l,.int .i64 b.i]) (p3:Blk w bl [.slice la (CJ vs b).length lc]) (p4:Arr N 2 K5 w (CJ vs b) la) :
 IterOk prog 83 [.pointer (some ⟨bo,0,none⟩),.pointer (some ⟨bb,0,none⟩),.pointer (some ⟨bl,0,none⟩)] OY N (M1 vs b) w:=by
 intro y J Jx W hK hJ ay hY h0;have az:=hK.size;obtain ⟨o1,o2,o3⟩:=hR;have p1:=p1.fr hK (λe=>e o1);have p2:=p2.fr hK (λe=>e o2);have p3:=p3.fr hK (λe=>e o3);replace p4:Arr N 2 K5 W (CJ vs b) la:=p4.mono aFh (λb _ _ _ hb h=>mN h hK (λe=>e hb));have ag:∀k,N k->k<W.heap.size:=λk hk=>jN (an k hk) az
 have ac:=Ou hb hv;have ba:=JW vs b;have bc:=hv.1;have hS:M1 vs b=(jQ ((By (2*b.v+1) (CJ vs b)).2-(By (2*b.v+1) (CJ vs b)).1+1).toNat).flatMap λ(m:Nat)=>Q4 (2*b.v+1) (CJ vs b) [] ((By (2*b.v+1) (CJ vs b)).1+m):=by
  rw [<-Xk];exact AT ⟨hb,hv⟩
 have hh:1<=2*b.v+1/\2*b.v+1<=2001:=by have:=hb.1;omega
 have hm:kN .i64 (2*b.v)=2*b.v:=gG _ Ab;have a0:=OX hh (CJ vs b) ac;obtain ⟨V,ao,bi⟩:=b;simp only at *;generalize CJ vs ⟨V,ao,bi⟩=O at *;generalize M1 vs ⟨V,ao,bi⟩=S at *;obtain ⟨J2,Y⟩:∃J2:(nP)->List SV->wD->Prop,J2=λA out W'=>J A out W'/\Keeps N W W':=⟨_,rfl⟩
 have ah:Eo W.heap.size J2:=by
  rw [Y];exact λA A' xs W1 W2 h f Z g2 g3=>⟨hJ A A' xs W1 W2 h.1 f Z g2 g3,h.2.trans (ny f (λk hk hA=>by have:=ag k hk;have:=Z k hA;omega))⟩
 have ap:=fZ (show ∀A pre s vs W1,(∀k,A k->W.heap.size<=k/\k<W1.heap.size)->J2 A pre W1->OY W.heap.size W1 vs s->(pre++[s]) <+: S->YieldAt (WF none) 0 prog y vs.toArray W1 (SRes N J2 Jx A (pre++[s]) W1) from λA pre s vs W1 hA G hs hp=>by
  rw [Y] at G ⊢;exact Sr (hY A pre s vs W1 hA G.1 hs hp) (λe W2 ⟨k1,k2⟩=>⟨k1,k2.imp (λh=>⟨h.1,h.2,G.2.trans (k1.less λ_ h=>gB h)⟩) id⟩))
 have aq:J2 (λ_=>False) [] W:=by rw [Y];exact ⟨h0,Keeps.refl _ _⟩
 have HJ:=fZ aq;have HR:=fZ ag;have HL:=fZ ac;have ar:=fZ (λw1 h=>by have:=U4 O ac Ab (2*V+1) hh la lc w1 h;unfold dJ at this;rw [GS] at this;exact this);have a1:Bds W O la:=p4.mono (λ_ _=>trivial) (λ_ _ _ _ _ h=>h);have ai:=fZ p3;have aj:=fZ p4;have X:=Ne W;clear hY hJ ay h0 aq an ag hK p4 ac hb;show Calls _ _ #[.func (.yield y) #[] #[],.pointer (some ⟨bo,0,none⟩),.pointer (some ⟨bb,0,none⟩),.pointer (some ⟨bl,0,none⟩)] W _;refine Ad func83 ntmps83 rfl rfl ?_;refine eK ?_;refine C1 (Hu rfl rfl hm) ?_;refine eK ?_;refine Az (AM AR rfl (ar.out _ Af) (λ_ _ ⟨_,h⟩=>⟨_,h.1⟩)) rfl ?_ aFh;rintro _ w6 ⟨Z,⟨⟩,h2,h3,h4,x5⟩;have X:=X.ext x5;refine C1 Pa (cT ?_);obtain ⟨cs,ry,aa⟩:=h4.row (EH (m:=0) (j:=0) (gI _));rw [AT (gI _),kg] at aa;obtain rfl:cs=_:=aa;generalize a2:By (2*V+1) O=r at *;obtain ⟨U,rb⟩:=r;simp only at a0 hS ry;replace ry:Row w6 ⟨Z,0+0*2,none⟩ [.int .i64 U,.int .i64 rb]:=ry;clear p1 p2 p3 a1 ar;refine Aj (Ap (λwz=>Ext w6 wz) 11 (.pure 0 (.pure 1 (.pure 2 (.pure 3 (.pure 4 (.pure 5 (.pure 6 (.pure 7 (.pure 8 (.pure 9 (.pure 10 .done))))))))))) mixed AR (Aa Ag) ?_);intro au av _;have ad:(λwz=>Ext w6 wz) au:=av;simp only at ad;have M:=ry;revert h4 X;refine eY av ?_;intro bd h4 X;refine ⟨ad,?_⟩;refine eT ?_;refine Tq rfl (Dr M) ?_;refine eT ?_;refine Tq rfl (Dr M) (Tq rfl (AL rfl rfl (gG _ Ab)) (Tq rfl V7 (Tq rfl Mv ?_)));refine Yb (Ai ?_)
 have G:=DCx.grow_j ah HJ.out (λ_ h=>h.elim) (gP _) (mt X);clear ry HJ;refine As ?_;refine AF (ι:=Nat×(nP)) (λz=>[(0,.func (.yield y) #[] #[]),(3,.pointer (some ⟨bl,0,none⟩)),(5,.int .i64 (2*V+1)),(6,.slice (some ⟨Z,0,none⟩) (O.length+1) (O.length+1)),(26,.int .i64 (rb-U+1)),(27,.int .i64 z.1)])
  (λz w'=>z.1<=(rb-U+1).toNat/\J2 z.2 ((jQ z.1).flatMap λ(m:Nat)=>Q4 (2*V+1) O [] (U+m)) w'/\ArrS CM 0 0 w' Z (Io (2*V+1) O 0)/\z.2 Z/\(∀k,z.2 k->W.heap.size<=k/\k<w'.heap.size)/\W.heap.size<=w'.heap.size)
  (λz=>(rb-U+1).toNat-z.1) (0,DCx.grow (λ_=>False) W au) sB ⟨gI _,by rw [List.range_zero,List.flatMap_nil];exact G,h4,gB ⟨Ab,Ab⟩,λk hk=>hk.elim (λh=>h.elim) id,X.size⟩ ?_
 clear G h4 X;rintro ⟨m,A⟩ w7 ⟨a3,G,hr,hg,hA,hz⟩;simp only at a3 G hr hg hA hz;refine m7 (m:=[(0,.func (.yield y) #[] #[]),(3,.pointer (some ⟨bl,0,none⟩)),(5,.int .i64 (2*V+1)),(6,.slice (some ⟨Z,0,none⟩) (O.length+1) (O.length+1)),(26,.int .i64 (rb-U+1)),(27,.int .i64 m)]) ?_ sB;by_cases a4:m<(rb-U+1).toNat
 . have ak:Keeps N W w7:=by rw [Y] at G;exact G.2
   have p3:=ai.out.fr ak (λe=>e o3);have p4:Arr N 2 K5 w7 O la:=aj.out.mono aFh (λb _ _ _ hb h=>mN h ak (λe=>e hb));have ab:=Kh (f:=λ(m:Nat)=>Q4 (2*V+1) O [] (U+m)) (out:=[]) (S:=S) (by rw [kv,hS];exact List.prefix_refl _) a4;have al:=I0 (f:=λ(m:Nat)=>Q4 (2*V+1) O [] (U+m)) (m:=m) (out:=[]);simp only [kv] at ab al;have HX:=fZ (show ∀w8,Ext w7 w8->_ from λw8 x8=>OZ y W.heap.size Z lc la (2*V+1) O N HR.out hh HL.out Ab J2 Jx ah S ap.out (DCx.grow A w7 w8) _ w8 (U+m) Ab Ab (DCx.grow_j ah G hA hz (mt x8))
    (λk hk=>hk.elim (λh=>⟨(hA k h).1,by have:=(hA k h).2;have:=x8.size;omega⟩) (λh=>⟨Ab,h.2⟩)) (by have:=x8.size;omega) (gA hg) (hr.ext x8) (p4.mono aFh (λ_ _ _ _ _ h=>mw h x8)) ab)
   rw [al] at HX;obtain ⟨cs,ry,aa⟩:=hr.row (EH (m:=0) (j:=0) (gI _));rw [AT (gI _),kg,a2] at aa;obtain rfl:cs=_:=aa;replace ry:Row w7 ⟨Z,0+0*2,none⟩ [.int .i64 U,.int .i64 rb]:=ry;have X7:=Ne w7;clear G hr ak p4 ab al ai aj HR ap HL;refine eK ?_;refine Ap (λwz=>Ext w7 wz) 10 (.pure 0 (.pure 1 (.pure 2 (.pure 3 (.pure 4 (.pure 5 (.pure 6 (.pure 7 (.pure 8 (.pure 9 .tail)))))))))) mixed AR (Aa (Ae (Aa (Aa (Ae Ag))))) ?_;intro a5 aw _;have ae:(λwz=>Ext w7 wz) a5:=aw;simp only at ae;have a9:=p3;have M:=ry;have X7:=X7.ext aw;refine ⟨ae,?_⟩;refine eT ?_;refine Tq rfl (Dr M) (Tq rfl Mv (Tq rfl V7 (Tq rfl Mv ?_)));refine Aq rfl (eQ rfl (HX.out _ Af) ?_);rintro _ be ⟨bf,af,⟨⟩,ax,a6⟩;refine C1 Pt (cT ?_);obtain ⟨rfl,G,hr,am,a7⟩|⟨rfl,am,hp⟩:=a6
   . have a8:=ax Z (gA hg);clear ax hA hz hg;refine eK ?_;exact Av (m+1,af) sB ⟨by simp only;omega,G,hr,a8,am,a7⟩ (by simp only;omega)
   . refine eK ?_;refine EA rfl ?_;exact ⟨⟨_,rfl⟩,af,am,gB hp⟩
 . obtain rfl:m=(rb-U+1).toNat:=by omega
   clear ai aj;rw [<-hS,Y] at G;refine cS (C1 V3 (cT (Aj (Dd (BF (Ay (Ay (AS (Bi rfl ?_)))))))));exact ⟨⟨_,rfl⟩,A,λk h=>(hA k h).1,gA G.1⟩
def bM (G M N:Nat) (O:nP) (w:wD) (V:O G) (U:Blk w G [.bool false]) :
 IterOk prog 83 [.pointer (some ⟨G,0,none⟩),.pointer (some ⟨M,0,none⟩),.pointer (some ⟨N,0,none⟩)] OY O [] w:=by
 intro y J Jx W X hJ Y hY Z;have U:=U.fr X (λe=>e V);have H0:=fZ Z;show Calls _ _ #[.func (.yield y) #[] #[],.pointer (some ⟨G,0,none⟩),.pointer (some ⟨M,0,none⟩),.pointer (some ⟨N,0,none⟩)] W _;refine Ad func83 ntmps83 rfl rfl (eK ?_);refine EA rfl ?_;exact ⟨⟨_,rfl⟩,λ_=>False,λ_ h=>h.elim,gA H0.out⟩
def AllR (vs:List VD) (b:BoxV) (w:wD):Ending->wD->Prop:=λe w'=> ∃bo bb bl,e = .returned (.func (.func 83) #[] #[.pointer (some ⟨bo,0,none⟩),.pointer (some ⟨bb,0,none⟩),.pointer (some ⟨bl,0,none⟩)]) /\
 IterOk prog 83 [.pointer (some ⟨bo,0,none⟩),.pointer (some ⟨bb,0,none⟩),.pointer (some ⟨bl,0,none⟩)] OY (λk=>w.heap.size<=k/\k<w'.heap.size) (M1 vs b) w'/\Ext w w'
def AllR.ret {vs:List VD} {b:BoxV} (h:AllR vs b w e w'):∃v,e = .returned v:=by
 obtain ⟨_,_,_,h,-⟩:=h;exact ⟨_,h⟩
def dL (vs:List VD) (hl:vs.length<=1000000) (b:BoxV) (S:nP) (a:oA) (c:Nat) (w:wD) (hs:VDs S w vs a) :
 Calls prog 47 #[.slice a vs.length c,.agg #[.int .i64 b.v,.int .i64 b.l,.int .i64 b.i]] w (AllR vs b w):=by
 have X:=Ne w;by_cases hv:b.ok/\CU vs
 . have HL:=fZ (λw1 h=>L4 vs b hv.1 hv.2 S a c w1 h);have HA:=fZ (bK vs b hv.1 hv.2);obtain ⟨bv,bl,bi⟩:=b;simp only at HL HA;refine Ad func47 ntmps47 rfl rfl (cS (Dl [_,_,_] rfl rfl rfl ?_));intro b1 w2 n3;have M:=n3.blk;dsimp only at M;have x5:=n3.ext;have p6:=n3.pos;have z7:=n3.size;revert hs X;refine eE x5 ?_;intro hs X;refine eK ?_;refine Az (AM AR rfl (HL.out _ Af) (λ_ _ ⟨_,_,h⟩=>⟨_,h.1⟩)) rfl ?_ aFh;rintro _ a4 ⟨a8,c9,⟨⟩,G,ai⟩;revert M X;refine eY ai ?_;intro a5 M X;refine eK ?_;refine eA [_] ?_;intro a6 a7 Y aj a9 ba;revert G M X;refine eE aj ?_;intro G M X;refine eA [_] ?_;intro bb bc Z ak bd be;revert Y G M X;refine eE ak ?_;intro Y G M X;refine eS [_] Y ?_;intro bf aa ab bg;revert Z G M;refine eF ab ?_;intro Z G M;have X:=X.fr ab Ab;refine eS [_] Z ?_;intro al am an bh;revert aa G M X;refine eF an ?_;intro aa G M X;refine cN (C1 (BW rfl) (kR ?_));exact ⟨_,_,_,rfl,HA.out (λk=>w.heap.size<=k/\k<al.heap.size) _ _ _ _ _ _ (λk hk=>hk.2) ⟨⟨Ab,Ab⟩,⟨Ab,Ab⟩,Ab,Ab⟩ am M aa (Arr.mono G (λb h=>⟨Ab,Ab⟩) (λ_ _ _ _ _ h=>h)),X⟩
 . have HL:=fZ (λw1 h=>Nu vs hl b hv S a c w1 h);have e:M1 vs b=[]:=AC hv;unfold AllR;rw [e];obtain ⟨bv,bl,bi⟩:=b;simp only at HL;refine Ad func47 ntmps47 rfl rfl (cS (Dl [_,_,_] rfl rfl rfl ?_));intro bj bk U;have ao:=U.blk;dsimp only at ao;have ap:=U.ext;have bm:=U.pos;have bn:=U.size;revert hs X;refine eE ap ?_;intro hs X;refine kC (HL.out _ Af) ?_;rintro _ bo ⟨⟨⟩,ac⟩;have aq:=ac.size;have X:=X.ext ac;refine eK ?_;refine eA [_] ?_;intro ar au N ad av aw;have X:=X.ext ad;refine eA [_] ?_;intro ax ay O ae az a0;revert N X;refine eE ae ?_;intro N X;refine eS [_] N ?_;intro a1 _ V a2;have O:=O.fr V Ab;have X:=X.fr V Ab;refine eS [_] O ?_;intro af ag ah a3;have X:=X.fr ah Ab;refine cN (C1 (BW rfl) (kR ?_));exact ⟨_,_,_,rfl,bM _ _ _ (λk=>w.heap.size<=k/\k<af.heap.size) _ ⟨Ab,Ab⟩ ag,X⟩
def bO {fn:Func} (h:QW n (bodyPost P fn R) .ret l w):QW n (bodyPostM (WF none) 0 P fn R) .ret l w:=by
 unfold QW at h ⊢;intro a G;obtain ⟨M,N⟩:=h a G;show LeavesInM _ _ _ _ _ _ a.defers _ _;rw [M];exact N
def Xp {fn:Func} (G:w.heap[m]? = some (.deferred (some []))) (h:∀w',Fr (· = m) w w'->QW n (bodyPost P fn R) .ret l w'):Jq (GJ m) n (bodyPostM (WF none) 0 P fn R) .ret l w:=by
 unfold Jq;intro a M;show LeavesInM _ _ _ _ _ _ a.defers _ _;rw [M.2];refine ⟨AQ,.inl ⟨_,_,rfl,run_takeDeferred G,?_⟩⟩;have N:=h (w.putObj m (.deferred none)) (Ia _ G);unfold QW at N;obtain ⟨-,v,O,U⟩:=N _ M.1;exact ⟨v,O,U⟩
def U6 {o:Oper} {a:Act} {K:Act->wD->Prop} (N:∀w d w',(execOp a.eval o).run P w≠.ok (.defer d) w') (h:o.wp P { a with defers:=[] } w (λM w'=>K { M with defers:=a.defers } w') (λe M w'=>Q e { M with defers:=a.defers } w')):o.wp P a w K Q:=by
 unfold km at h ⊢;have e:({ a with defers:=[] }:Act).eval=a.eval:=rfl;have O:LetsOut (λe M w'=>Q e { M with defers:=a.defers } w')->LetsOut Q:=λ⟨M,w',h⟩=>⟨_,w',h⟩
 have G:∀v,({ ({ a with defers:=[] }:Act).put o.dst v with defers:=a.defers }:Act)=a.put o.dst v:=λv=>by cases o.dst<;>rfl
 rw [e] at h;generalize U:(execOp a.eval o).run P w=x at h;cases x with
 | ok v w'=>
  cases v with
  | value v=>simp only [Oper.upon,G] at h ⊢;exact h
  | skip=>simp only [Oper.upon,G] at h ⊢;exact h
  | enter f args=>
   simp only [Oper.upon,G] at h ⊢;exact iY h (λe w h=>by
    cases e with
    | returned v=>exact h
    | panicked c=>exact h
    | outgrown=>exact O h)
  | row r args=>simp only [Oper.upon,G] at h ⊢;exact h
  | defer d=>exact absurd U (N w d w')
  | _=>exact h.elim
 | halt v w'=>cases v<;>simp only [Oper.upon] at h ⊢ <;> first|exact h|exact h.elim
def U7 {D:List Deferred} {ops:Array Oper} {rest:List Oper} {op:Op} {pos:String} {after:Array Edge} {K:Option Value->wD->Prop} (G:∀(a:Act) w d w',(execOp a.eval ⟨none,op,ty,pos,after,none⟩).run P w≠.ok (.defer d) w') (N:BG P n l op ty w K) (O:∀v w1,¬K (some v) w1) (k:∀w1,K none w1->RO P D n ops Q rest l w1) :
 RO P D n ops Q (⟨none,op,ty,pos,after,none⟩::rest) l w:=by
 unfold RO at k ⊢;intro a M;unfold wpList;rw [AT (Bd rfl)];left;refine U6 (G a) ?_;unfold BG at N;refine N _ _ _ _ _ _ _ M.1 (λv w1 h=>absurd h (O v w1)) (λw1 h=>?_);exact k w1 h _ ⟨M.1,rfl.trans M.2⟩
def MH {tab:Tab} {sz:Nat} {fn:Func} {M b N G X:Nat} {sk O:Sk} {v:Value} (h:fn.results = #[.cell c M,.cell N G]) (T:TabOk P tab) (ht:AB tab M=some (sk,sz)) (aa:AB tab G=some (O,m)) (hs:sk.agg=true) (ab:O.agg=false)
 (hv:look l c=some (.pointer (some ⟨b,0,none⟩))) (ac:look l N=some (.pointer (some ⟨X,0,none⟩))) (hb:Blk w b vs) (ad:Blk w X [v]) (hl:vs.length=sz) (hR:R (.returned (.tuple #[.agg vs.toArray,v])) w):QW n (bodyPost P fn R) .ret l w:=by
 unfold QW;intro a ha;refine ⟨ha.defers,.tuple #[.agg vs.toArray,v],?_,hR⟩;have e:(loadVar M ⟨b,0,none⟩).run P w = .ok (.agg vs.toArray) w:=by
  simp only [gO,hH,gF,loadVar,Cq (T _ _ _ ht),hs,if_true,B0 (T _ _ _ ht)];rw [<-hl,Ct hb.row]
 have e':(loadVar G ⟨X,0,none⟩).run P w = .ok v w:=by
  simp only [gO,hH,gF,loadVar,Cq (T _ _ _ aa),ab];have hc:w.cell? ⟨X,0,none⟩=some v:=mC ad rfl;simp [load,kV,hc]
 have U:=ha.has c _ hv;have V:=ha.has N _ ac;simp only [jC] at U V;simp [results,h,U,V,e,e',asAddr]
def Xq {t:TypeId} {y:Operand} {pos:String} {after:Array Edge} (a:Act) (w:wD) (d:Deferred) (w':wD):(execOp a.eval ⟨none,.store t x y,ty,pos,after,none⟩).run P w≠.ok (.defer d) w':=by
 simp only [execOp,gO];intro h;generalize (Instr.storeAt t (a.eval x) (a.eval y)).run P w=r at h;cases r<;>simp [gF,hH] at h
section
variable {r:Option Nat} {ops:Array Oper}
def Xr {i:Nat} {a:Act} {G:Act->wD->Prop} (N:¬LetsOut Q) (O:∀o,ops[i]? = some o->Gd o=true) (h:wpOp P ops Q i G a w):wpOpIn (WF r) 0 P ops Q i G a w:=by
 unfold wpOp at h;unfold wpOpIn;cases ho:ops[i]? with
 | none=>rw [ho] at h;exact h
 | some o=>
  rw [ho] at h;simp only at h ⊢;by_cases M:Region.wanted o (yielded ops a.tmps)=true
  . rw [AT M] at h ⊢;rcases h with h|h
    . exact SX (O o ho) h
    . exact absurd h.2 N
  . rw [AC M] at h ⊢;exact ⟨λ_ _=>trivial,h⟩
def NT (N:¬LetsOut Q) (O:∀(i:Nat) (o:Oper),ops[i]? = some o->Gd o=true):∀(G:Nat) (M:Array Bool) (a:Act) (w:wD),wpAny P .any ops Q G M a w->wpAnyIn (WF r) 0 P .any ops Q G M a w
 | 0,_,_,_,h=>h
 | G+1,_,_,_,h=>⟨h.1,λi U=>wpOpIn_mono (λV w' X=>NT N O G _ V w' X) (Xr N (O i) (h.2 i U))⟩
end
def M2 {Kp:nP} {J Jx:(nP)->List α->wD->Prop} {xs:List α}:C5 (D9 Kp J Jx A xs w):=λ_ _ _ _ _ h=>h
def Xs {r:Option Nat} {G:List Oper} (S:wD->Prop) (K:Nat) (s:Sc) (hm:P.follows .mixedOrders=true) (N:(G.all Gd&&(Region.noSelect G.toArray&&(jW G.length K||ID G.toArray K)&&Sc.ok G.toArray K true s G.length (kn G.length false)))=true) (hQ:C5 Q) (hL:¬LetsOut Q)
 (h:∀w1,Ext w w1->w1.heap=w.heap->S w1/\TW P n G.toArray Q S K s l w1):CR P n r (.region m G.toArray true) Q l w:=by
 intro a ha;simp only [gD] at N;obtain ⟨U,N⟩:=N;obtain ⟨h1,h2⟩:=h w.drew (Ne w).drew rfl;unfold TW at h2;have V:∀i,i<K->D5 G.toArray K i:=by
  by_cases hK:K<G.toArray.size
  . have M:=N.1.2;simp only [jP] at M;rcases M with M|M
    . have:=gV M;simp at hK;omega
    . exact DN M hK
  . intro i hi O j o _ hj X _;have aa:j<G.toArray.size:=(Array.getElem?_eq_some_iff.1 X).1;omega
 have Y:DC G.toArray (kn G.length false):=λk o _ M=>by
  exfalso;rcases gQ k G.length with Z|Z
  . simp [Z] at M
  . simp [iN,Z] at M
 refine wpIn_region_any hm (NT hL (λi o X=>iJ.1 U o (iI (by simpa using X))) _ _ _ _ (IE (S:=S) (K:=K) _ _ _ _ ?_));have:=(HT.any N.1.1 V hQ s G.length (kn G.length false) a w.drew Y h1 (h2 a ha)).1 N.2;simpa using this
def dM {G:List Oper} (h:LI P n G.toArray Q G l w):CW P n (.region m G.toArray false) Q l w:=SY λa N=>wpIn_region_lit (h a N)
def Tr {ops:Array Oper} {rest:List Oper} {op:Op} {d:Nat} {pos:String} {after:Array Edge} {v:Value} (h:Gd ⟨some d,op,ty,pos,after,none⟩=true) (G:Bm P n l (· = w) op ty v) (N:iC d n=true) (k:LI P n ops Q rest ((d,v)::l) w) :
 LI P n ops Q (⟨some d,op,ty,pos,after,none⟩::rest) l w:=λa M=>by
 unfold Bm at G;have e:=G a w (some d) pos after none M rfl;unfold wpListIn;rw [AT (Bd rfl)];refine SX h ?_;unfold km;rw [e];exact k _ (M.put N v)
abbrev VdV.row (v:VdV) (a:oA) (c:Nat) (ta:oA) (tc:Nat) (oa:oA) (oc:Nat):lV:=[.bool v.ok,.int .i64 v.tried,.slice a v.st.cells.length c,.slice ta v.st.tin.length tc,.slice oa v.st.tout.length oc,.int .i64 v.err]
def VdR (r:VdV×Int) (w:wD):Ending->wD->Prop:=λe w'=> ∃a c ta tc oa oc,e = .returned (.tuple #[.agg (r.1.row a c ta tc oa oc).toArray,.int .i64 r.2])/\r.1.st.sits (λb=>w.heap.size<=b/\b<w'.heap.size) w' a ta oa/\r.1.st.small/\Ext w w'
def VdR.ret {r:VdV×Int} (h:VdR r w e w'):∃v,e = .returned v:=by
 obtain ⟨_,_,_,_,_,_,h,-⟩:=h;exact ⟨_,h⟩
def Ec {S:nP}:(⟨[],[],[]⟩:SV).sits S w none none none:=⟨gA rfl,gA rfl,gA rfl⟩
def DI:(⟨[],[],[]⟩:SV).small:=⟨AQ,AQ,AQ,AQ⟩
def dN {e:EX} (h:e.valid):e.fuel=(e.fuel.toNat:Int):=by have:=h.1.2.2;omega
set_option maxHeartbeats 8000000 in
def Tt (e:EX) (hw:e.wf) (d2:e.fuel<=10000) (p:PG) (hp:p.wf) (b7:p.vars.length<=1000000) (S:nP) (va:oA) (vc:Nat) (pa:oA) (pc:Nat) (ma:oA) (mc:Nat) (am:oA) (ar:Nat) (ac:oA) (az:Nat) (an:oA) (a0:Nat) (w:wD)
 (hs:e.sits S w va pa ma vc) (G:p.sits S w am ac an) (M:PDsC S w p.procs ac) (bi:p.vars.length<=ar) :
 Calls prog 24 #[.agg (e.cells va vc pa pc ma mc).toArray,.agg (p.cells am ar ac az an a0).toArray] w (VdR (BL e p) w):=by
 have X:=Ne w;replace hs:=hs.ltA;replace G:=G.ltA;replace M:=M.ltA;have HA:=fZ (λw1 h1 h2 h3=>Zx e hw p hp b7 (· < w.heap.size) va vc pa pc ma mc am ar ac az an a0 w1 h1 h2 h3 bi);by_cases hv:Ez e p=0
 . obtain ⟨a8,bj,a9⟩:=UX (Zw p) hv;obtain ⟨f,bk⟩:∃f:Nat,e.fuel=(f:Int):=⟨_,dN a8⟩
   have b9:e.fuel.toNat=f:=by omega
   have hg:BL e p=(W5 e.g p e.fuel.toNat (M1 e.g.vars e.box) 0,0):=AC (λh=>h hv);have Y:=hs.g.vars;rw [hg,b9];rw [hv] at HA;have bl:=fZ (λw1 h=>dL e.g.vars hw.few e.box (· < w.heap.size) va vc w1 h);have HC:=fZ (λ(s t:SV) (h1:FitsP p.vars s) (h2:t.small) (S1 S2 S3 S4:nP) ca ta oa ca' ta' oa' cc tc oc cc' tc' oc' w1 (h3:p.sits S1 w1 am ac an) (h4:PDsC S2 w1 p.procs ac) (h5:s.sits S3 w1 ca ta oa) (h6:t.sits S4 w1 ca' ta' oa')=>U2 e f bk Ab p hp bj s t h1 h2 (λ_=>True) va vc pa pc ma mc am ar ac az an a0 ca ta oa ca' ta' oa' cc tc oc cc' tc' oc' w1 (h3.wide λ_ _=>trivial) (h4.wide λ_ _=>trivial) bi (h5.wide λ_ _=>trivial) (h6.wide λ_ _=>trivial));have HF:=fZ (λ(s:SV) (h1:FitsP e.g.vars s) (S1 S2 S3:nP) ca ta oa cc tc oc w1 (h3:e.g.sits S1 w1 va pa ma) (h4:PDsC S2 w1 e.g.procs pa) (h5:s.sits S3 w1 ca ta oa)=>show Calls prog 48 #[.agg (e.g.cells va vc pa pc ma mc).toArray,.agg (s.row ca cc ta tc oa oc).toArray,.int .i64 e.fuel] _ (ResR (ER e.g s f) w1) from bk▸NQ e.g hw.g a8.2.1.1 a8.2.1.2.1 s h1 f Ab _ (OV e.g s f) (λ_=>True) va vc pa pc ma mc ca ta oa cc tc oc w1 (h3.wide λ_ _=>trivial) (h4.wide λ_ _=>trivial) hs.room (h5.wide λ_ _=>trivial));have HK:=fZ (λ(s:SV) h1=>Xb (g:=e.g) (s:=s) h1 f);have HA:=fZ (λw1 h1 cb h2 h3=>HA.out w1 ⟨h1,cb,hs.room⟩ h2 h3)
   have N:=hs.g;have O:=hs.p;unfold mZ at *;refine Gf (args:=[_,_]) func24 ntmps24 rfl rfl (cS (eB [_,_,_,_,_,_,_,_,_,_,_,_] ?_));intro b1 w2 h4 x5 p6 z7;revert X G M Y N O;refine eE x5 ?_;intro X G M Y N O;refine eB [_,_,_,_,_,_] ?_;intro b8 w9 Z cd d3 d4;revert h4 X G M Y N O;refine eE cd ?_;intro h4 X G M Y N O;refine eA [_,_,_,_,_,_] ?_;intro au d5 ae ce d6 z22;revert Z h4 X G M Y N O;refine eE ce ?_;intro Z h4 X G M Y N O;refine eA [_] ?_;intro a1 d7 ag cf d8 d9;revert ae Z h4 X G M Y N O;refine eE cf ?_;intro ae Z h4 X G M Y N O;refine eK ?_;refine AH [_,_,_,_,_,_,_,_,_,_,_,_] Ac rfl rfl rfl h4 rfl rfl rfl (AH [_,_,_,_,_,_] Ac rfl rfl rfl Z rfl rfl rfl (cC rfl (HA.out _ Af Af Af Af) ?_));rintro _ ea ⟨⟨⟩,cg⟩;revert ag ae Z h4 X G M Y N O;refine eY cg ?_;intro eb ag ae Z h4 X G M Y N O;refine eK ?_;refine Ei [_] Ca rfl rfl ?_;intro ba ec ch;refine eI [_] ch ?_;intro ci bb cj ed ee;revert ag ae Z h4 X G M Y N O;refine eE cj ?_;intro ag ae Z h4 X G M Y N O;refine kQ (bl.out _ Af) ?_;rintro _ a2 ⟨cz,c0,c1,⟨⟩,ck,bm⟩;have ef:=bm.size;revert bb ag ae Z h4 X G M N O;refine eE bm ?_;intro bb ag ae Z h4 X G M N O;refine cT ?_
   have l4:=ag.lt;generalize cl:M1 e.g.vars e.box=S' at *;refine As ?_;refine U5 rfl rfl AR ck (λ_ _ _ _ h=>dK h) (λk hk=>hk.2)
    (λA xs W=> ∃n,W5 e.g p f S' 0=W5 e.g p f (S'.drop xs.length) n/\Blk W ba [.int .i64 n]/\Blk W a1 [.int .i64 0]/\Blk W au [.bool false,.int .i64 0,.slice none 0 0,.slice none 0 0,.slice none 0 0,.int .i64 0]/\Blk W b8 (p.cells am ar ac az an a0)/\Blk W b1 (e.cells va vc pa pc ma mc)/\e.g.sits (· < w.heap.size) W va pa ma/\PDsC (· < w.heap.size) W e.g.procs pa/\p.sits (· < w.heap.size) W am ac an/\PDsC (· < w.heap.size) W p.procs ac/\Ext w W)
    (λA xs W=> ∃(s:SV) (n er:Int) (a:oA) (c:Nat) (ta:oA) (tc:Nat) (oa:oA) (oc:Nat),W5 e.g p f S' 0=⟨false,n,s,er⟩/\Blk W au [.bool false,.int .i64 n,.slice a s.cells.length c,.slice ta s.tin.length tc,.slice oa s.tout.length oc,.int .i64 er]/\Blk W a1 [.int .i64 0]/\s.sits (λb=>w.heap.size<=b /\ ¬A b/\b<W.heap.size) W a ta oa/\s.small/\Ext w W) ?_ ?_ ?_ ?_ ?_ ?_
   . rintro A A' xs W W' ⟨n,g1,g2,g3,g4,g5,g6,g7,g8,g9,bn,x⟩ hf hA - -;have ho:∀b,b<w.heap.size -> ¬A b:=λb hb h=>by have:=hA b h;omega
     exact ⟨n,g1,g2.fr hf (λe=>by have:=hA _ e;omega),g3.fr hf (λe=>by have:=hA _ e;omega),g4.fr hf (λe=>by have:=hA _ e;omega),g5.fr hf (λe=>by have:=hA _ e;omega),g6.fr hf (λe=>by have:=hA _ e;omega),g7.fr hf ho,g8.fr hf ho,g9.fr hf ho,bn.fr hf ho,mI x hf (λk hk=>by have:=hA _ hk;omega)⟩
   . rintro A A' xs W W' ⟨s,n,er,a,c,ta,tc,oa,oc,g1,g2,g3,g4,g5,x⟩ hf hA-cm;exact ⟨s,n,er,a,c,ta,tc,oa,oc,g1,g2.fr hf (λe=>by have:=hA _ e;omega),g3.fr hf (λe=>by have:=hA _ e;omega),(g4.fr hf (λb hb=>hb.2.1)).wide (λb hb=>⟨hb.1,λh=>hb.2.1 (cm b hb.2.2 h),by have:=hf.size;omega⟩),g5,mI x hf (λk hk=>by have:=hA _ hk;omega)⟩
   . exact ⟨0,AQ,bb,ag,ae,Z,h4,N,O,G,M,X⟩
   . rintro r A pre x u W hA cn ⟨n,j1,j2,j3,j4,j5,j6,j7,j8,j9,U,x0⟩ ⟨ca,cc,ta,tc,oa,oc,eu,sx⟩ av;simp only [iP,and_true] at eu;subst eu;have bo:x∈S':=by obtain ⟨q,hq⟩:=av;rw [<-hq];simp
     have bc:S'.drop pre.length=x::S'.drop (pre++[x]).length:=by obtain ⟨q,hq⟩:=av;rw [<-hq];simp
     rw [bc] at j1;have V:FitsP e.g.vars x:=UI x (by rw [cl];exact bo);have bd:=HK.out x V;have bp:=fZ (HF.out x V);have co:=fZ (λS a ta oa c tc oc w1 h=>J6 x S a ta oa c tc oc w1 V.small.few V.small.each V.small.tin V.small.tout h);have cp:=V.small;have be:=fZ (HC.out _ x (by rw [a9];exact bd) V.small);have eg:=hA _ cn;have X1:=Ne W;obtain ⟨xc,xi,xo⟩:=x;unfold mZ at *;refine Br rfl Gg (Ei [_,_,_] Ca rfl rfl ?_);intro eh ei aq;refine De [_,_,_] Ac rfl rfl rfl rfl rfl rfl aq rfl ?_;intro ej aq;have aa:=aq.blk;dsimp only at aa;have cq:=aq.ext;have ek:=aq.pos;have el:=aq.size;revert j2 j3 j4 j5 j6 j7 j8 j9 U x0 X1 sx;refine eE cq ?_;intro j2 j3 j4 j5 j6 j7 j8 j9 U x0 X1 sx;refine Al (Ic (Keeps.of_ext X1) λW2 f2=>?_)
     revert aa j2 j3 j4 j5 j6;refine eF f2 ?_;intro aa j2 j3 j4 j5 j6;replace j7:=j7.fr f2 (λb hb e=>by omega);replace j8:=j8.fr f2 (λb hb e=>by omega);replace j9:=j9.fr f2 (λb hb e=>by omega);replace U:=U.fr f2 (λb hb e=>by omega);replace x0:=mI x0 f2 (λk hk=>by omega);replace sx:=sx.fr f2 (λb hb e=>by omega);have em:=f2.size;have bq:=fZ (show ∀k,A k->a2.heap.size<=k/\k<W2.heap.size from λk hk=>by have:=hA k hk;omega);have X3:=mx (λk=>k=ba\/k=au\/k=a1) W2;have hK:∀k,A k\/(ci.heap.size<=k/\k<a2.heap.size) -> ¬(k=ba\/k=au\/k=a1):=λk hk h=>by
      rcases hk with hk|hk
      . have:=bq.out k hk;omega
      . omega
     have bf:=fZ hK;rw [Q3] at j1;generalize ER e.g ⟨xc,xi,xo⟩ f=gv at *;obtain ⟨⟨gc,gi,go⟩,gn,ge⟩:=gv;simp only at j1 be bp;refine Ge (C8 (Br rfl (Bx (Bz BV)) (kQ (bp.out _ _ _ _ _ _ _ _ _ _ Af Af Af) ?_)));rintro _ c2 ⟨en,eo,c3,c4,c5,c6,⟨⟩,a3,ep,cr⟩;revert aa j2 j3 j4 j5 j6 j7 j8 j9 U x0 sx X3;refine eY cr ?_;intro c7 aa j2 j3 j4 j5 j6 j7 j8 j9 U x0 sx X3;refine Ei [_,_,_,_,_] Ca rfl rfl ?_;intro c8 c9 ad;refine De [_,_,_,_,_] Ac rfl rfl rfl rfl rfl rfl ad rfl ?_;intro da ad;have ah:=ad.blk;dsimp only at ah;have br:=ad.ext;have db:=ad.pos;have dc:=ad.size;revert a3 aa j2 j3 j4 j5 j6 j7 j8 j9 U x0 sx X3;refine eE br ?_;intro a3 aa j2 j3 j4 j5 j6 j7 j8 j9 U x0 sx X3;refine Al (Cn (C8 ?_));by_cases bs:ge=0
     . subst bs;rw [AC AQ] at j1;generalize ER p ⟨gc,gi,go⟩ f=rv at *;obtain ⟨rs,rn,re⟩:=rv;simp only at j1 be
       focus
        refine C8 (Br rfl (Bx (Bx (Bz BV))) (C1 Pf (C1 (Pl ah) (C1 V2 (Al (Cn (ZR rfl C2 (FK (Cn (C8 (Br rfl (Bx (Bz BV)) (C1 (Pl j2) (C1 (K7 rfl rfl rfl) (eS [_] j2 ?_))))))))))))));intro eq a4 af et;revert aa j3 j4 j5 j6;refine eF af ?_;intro aa j3 j4 j5 j6;replace j7:=PG.sits.fr j7 af (λb hb h=>by omega);replace j8:=PDsC.fr j8 af (λb hb h=>by omega);replace j9:=PG.sits.fr j9 af (λb hb h=>by omega);replace U:=PDsC.fr U af (λb hb h=>by omega);replace x0:=x0.fr af Ab;replace sx:=nD sx af (λb hb h=>by omega);revert X3 ah;refine eF af ?_;intro X3 ah;replace a3:=nD a3 af (λb hb h=>by omega);refine Al (Cn (C8 (Br rfl (Bx (Bz BV)) (AH [_,_,_,_,_,_,_,_,_,_,_,_] Ac rfl rfl rfl j6 rfl rfl rfl (eK ?_)))));refine Az (AM AR rfl (be.out _ _ _ _ _ _ _ _ _ _ _ _ _ _ _ _ _ Af Af Af Af) (λ_ _ ⟨_,h⟩=>⟨_,h.1⟩)) rfl ?_ aFh;rintro _ bt ⟨ew,⟨⟩,bu,ct⟩;revert a4 aa j3 j4 j5 j6 j7 j8 j9 U x0 sx X3;refine eY ct ?_;intro dd a4 aa j3 j4 j5 j6 j7 j8 j9 U x0 sx X3;refine C1 Mv (C1 Px (C1 Px (C1 Pa (C1 Pa (Al (Cn (C8 (Br rfl (Bx (Bz BV)) (C1 Mv (C1 Pt (Al (Cn (VY rfl (λap=>?_) (λap=>?_))))))))))))));refine C8 (Xs (λwz=>Ext bt wz) 4 (.pure 0 (.pure 1 (.pure 3 (.fork 2 .tail .none)))) mixed AR (Aa (Ae M2)) (Bx (Bz BV)) ?_);intro bv a5 _;have ab:(λwz=>Ext bt wz) bv:=a5;simp only at ab;have bg:=a4;have bh:=aa;revert j3 j4 x0 sx X3;refine eY a5 ?_;intro de j3 j4 x0 sx X3;refine ⟨ab,(Tq rfl (Db bg) (Tq rfl (BR [_,_,_] Ac rfl rfl rfl (λwz hz=>(my bh hz)) rfl rfl) (Tq rfl Mv (Ax rfl (AM AR rfl (co.out _ _ _ _ _ _ _ _ Af) (λ_ _ h=>h.ret)) rfl ?_ aFh Au))))⟩;rintro _ df ⟨dg,dh,cu,cv,cw,cx,⟨⟩,ai,bw⟩;revert ab j3 j4 x0 X3;refine eE bw ?_;intro ab j3 j4 x0 X3;refine ⟨ab,(Aq rfl (C1 (DS [_,_,_,_,_,_] Ac Ca rfl rfl rfl rfl) (eS [_,_,_,_,_,_] j4 ?_)))⟩;intro di aw a6 dk;replace ai:=nD ai a6 (λb hb h=>by omega);revert j3 x0 X3;refine eF a6 ?_;intro j3 x0 X3;refine eS [_] j3 ?_;intro dl bx ax dm;replace aw:=aw.fr ax Ab;replace ai:=nD ai ax (λb hb h=>by omega)
        revert x0 X3;refine eF ax ?_;intro x0 X3;refine Al (Cn (VS (AJ ?_)));rotate_left;refine FK (Ah ?_);rotate_left
       . rw [AC (λh=>by rw [bu.2 h] at ap;cases ap)] at j1;have:=X3.size;exact VW (ny X3 bf.out) ⟨⟨xc,xi,xo⟩,_,re,_,_,_,_,_,_,j1,aw,bx,ai.wide (λb hb=>⟨Ab,λh=>by have:=(bq.out b h).2;omega,Ab⟩),cp,x0⟩
       . rw [AT (bu.1 ap)] at j1;exact IQ (ny X3 bf.out) ⟨_,j1,a4,j3,j4,j5,j6,j7,j8,j9,U,x0⟩
     . rw [AT bs] at j1;refine C8 (Br rfl (Bx (Bx (Bz BV))) (C1 Pf (C1 (Pl ah) (C1 V2 (Al (Cn (VX rfl Af (Yo (Ay (AS ?_))))))))));exact IQ (ny X3 bf.out) ⟨n,j1,j2,j3,j4,j5,j6,j7,j8,j9,U,x0⟩
   . rintro A W hA ⟨n,g1,g2,g3,g4,g5,g6,g7,g8,g9,bn,x⟩ hm hk;rw [lk] at g1;rw [g1];have bz:a2.heap.size<W.heap.size:=(Array.getElem?_eq_some_iff.1 hk).1;refine Id (Dw (H7 (Ep (Fs (Ar Ac rfl rfl rfl (λwz hz=>by rw [show wz=W from hz];exact g2.cell rfl)) rfl (Fs (DS [.bool true,.int .i64 n,.slice none 0 0,.slice none 0 0,.slice none 0 0,.int .i64 0] Ac Ca rfl rfl rfl rfl) rfl
      (U7 Xq (DR (us:=[_,_,_,_,_,_]) Ac rfl rfl rfl rfl rfl rfl g4 rfl) (λ_ _ h=>h) λw1 hp=>?_))))))
     have ay:Put W w1 au [.bool true,.int .i64 n,.slice none 0 0,.slice none 0 0,.slice none 0 0,.int .i64 0]:=hp;have bd:w1.heap[a2.heap.size]? = some (.deferred (some [])):=(ay.fr.block _ bz (λh=>by omega)).trans hk;refine JX Ac rfl rfl rfl rfl rfl (g3.fr ay.fr Ab) λw2 h2 f2=>GI (Dw (Jr (Xp ((f2.block _ (by rw [ay.size];exact bz) (λh=>by omega)).trans bd) λw3 f3=>MH rfl Ac rfl rfl rfl rfl rfl rfl ((ay.blk.fr f2 Ab).fr f3 Ab) (h2.fr f3 Ab) rfl ?_)))
     exact ⟨none,0,none,0,none,0,rfl,Ec,DI,mI (mI (mI x ay.fr (λk hk=>by omega)) f2 (λk hk=>by omega)) f3 (λk hk=>by omega)⟩
   . rintro A pre W hA av ⟨s,n,er,a,c,ta,tc,oa,oc,g1,g2,g3,g4,g5,x⟩ hm hk;rw [g1];refine Iu (Js (Xp hk λw3 f3=>MH rfl Ac rfl rfl rfl rfl rfl rfl (g2.fr f3 Ab) (g3.fr f3 Ab) rfl ?_));exact ⟨a,c,ta,tc,oa,oc,rfl,(g4.fr f3 (λb hb e=>hb.2.1 (e▸hm))).wide (λb hb=>⟨hb.1,by have:=f3.size;omega⟩),g5,mI x f3 (λk hk=>by omega)⟩
 . have hg:BL e p=(VdV.zero,Ez e p):=AT hv;rw [hg];generalize Ez e p=k at *;unfold mZ at *;refine Gf (args:=[_,_]) func24 ntmps24 rfl rfl (cS (eB [_,_,_,_,_,_,_,_,_,_,_,_] ?_));intro ex ey ao cy ez e0;revert X hs G M;refine eE cy ?_;intro X hs G M;refine eB [_,_,_,_,_,_] ?_;intro e1 e2 aj b0 dn dp;revert ao X hs G M;refine eE b0 ?_;intro ao X hs G M;refine eA [_,_,_,_,_,_] ?_;intro dq dr ak b2 ds dt;revert aj ao X hs G M;refine eE b2 ?_;intro aj ao X hs G M;refine eA [_] ?_;intro du dv al b3 dw dx;revert ak aj ao X hs G M;refine eE b3 ?_;intro ak aj ao X hs G M;refine eK ?_;refine AH [_,_,_,_,_,_,_,_,_,_,_,_] Ac rfl rfl rfl ao rfl rfl rfl (AH [_,_,_,_,_,_] Ac rfl rfl rfl aj rfl rfl rfl (cC rfl (HA.out _ Af Af Af) ?_));rintro _ dy ⟨⟨⟩,b4⟩;revert al ak X;refine eE b4 ?_;intro al ak X;refine eK ?_;refine C1 (DS [_,_,_,_,_,_] Ac Ca rfl rfl rfl rfl) (C1 Mv (eS [_,_,_,_,_,_] ak ?_));intro dz a7 b5 _;revert al X;refine eF b5 ?_;intro al X;refine eS [_] al ?_;intro d0 d1 b6 _;revert a7 X;refine eF b6 ?_;intro a7 X;refine eK ?_;refine bO (MH rfl Ac rfl rfl rfl rfl rfl rfl Af Af rfl ?_);exact ⟨none,0,none,0,none,0,rfl,Ec,DI,X⟩
end Bk
