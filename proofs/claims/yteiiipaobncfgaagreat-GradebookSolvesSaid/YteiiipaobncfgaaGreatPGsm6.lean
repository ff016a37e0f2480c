/- Texts that the proofs of GradebookSolves need. No condition. (Part 6 of 7.) -/
import Derived.Test.YteiiipaobncfgaaGreatPGsm5
set_option linter.unusedSimpArgs false
set_option linter.unusedVariables false
set_option linter.defProp false
set_option maxRecDepth 100000
set_option maxHeartbeats 4000000
open Go.Proofs.Tryz
open Or renaming inl->gP,inr->gQ
open Go.Result renaming andThen->gY
open Except renaming bind->ir
open Go renaming Calls->iv
open Go.Value renaming slice->iD,int->iW,ownBlock->jB
open Nat renaming blt->iE,ble->jr,beq->jv
open Go.Region renaming ready->iH,binds->jh
open List renaming replicate->iL,range->jj
open Go.Builtin renaming zeroCells->i9
open Go.IntKind renaming wrap->jo
open Array renaming replicate->jt
open Go.Oper renaming wp->jy
open Go.Addr renaming add->jA
open Go.Sem renaming run->jP
open Bk.Stp renaming items->mx,leaves->mG,enters->mI
open Bk.EX renaming cells->mE
open Bk.VdV renaming zero->mJ
namespace Bk
open Go
section
variable {ρ:Nat->nP} {st st' a b:Stp} {f g:Frm} {v:List VD}
def OL {vs:List VD} {cs:List Nat} {d:VD} {h n m:Nat} (G:a.cur=⟨vs++[d],cs++[h],n⟩) (M:b.cur=⟨vs,cs,m⟩) (U:vs.length=cs.length) {s:lB} (N:s≠d.name) (O:∀c∈cs,a.items c=b.items c):a.look s=b.look s:=by
 unfold Stp.look Frm.cell;rw [G,M];simp only;rw [Jp,At (λe=>N e.symm)];cases e:BP s vs with
 | none=>rfl
 | some i=>
  have:=DY e;simp only [jZ];rw [gW Ab,gN (show i<cs.length by omega)];simp only [jI];rw [O _ (ig _)]
def VS {d:VD} {xs:List Int}:((b.plus d xs).setCur b.cur).base=b.base/\((b.plus d xs).setCur b.cur).calls=b.calls:=by
 have h:=GD (a:=b.plus d xs) (b:=b.setCur ⟨b.cur.vars++[d],b.cur.cells++[b.heap.length],b.cur.locals+1⟩) (f:=b.cur) rfl rfl;have G:=Ft (st:=b) (f:=⟨b.cur.vars++[d],b.cur.cells++[b.heap.length],b.cur.locals+1⟩) (g:=b.cur);have M:=Ga (st:=b);exact ⟨h.1.trans (G.1.trans M.1),h.2.trans (G.2.trans M.2)⟩
def XV {blk X:Rn->Except Int Rn} {s:lB} {d:VD} (hd:d.kind=1\/d.kind=3) (hn:d.name=s) (h:Rv blk X (v++[d])) {M:Nat} {x u:Int} {N:Rn} (hG:Good st) (hv:st.cur.vars=v) (hx:E0 x) (ho:(st.opens d x).1=0)
 (hb:blk ⟨(st.opens d x).2,M⟩ = .ok N) (hc:(N.st.closes s u).1=0) :
 BP s v=none/\Good (N.st.closes s u).2/\(N.st.closes s u).2.base=st.base/\(N.st.closes s u).2.calls=st.calls/\st.heap.length<=(N.st.closes s u).2.heap.length/\N.rem<=M/\(∀V,V≠s->(N.st.closes s u).2.look V=N.st.look V) /\
 ∀(ρ:Nat->nP) (a:Stp),(∀c d,ρ c d->d<st.heap.length)->Sim ρ a (N.st.closes s u).2->(a.opens d u).1=0 /\ ∃a',(∀F,M-N.rem<=F->X ⟨(a.opens d u).2,F⟩ = .ok ⟨a',F-(M-N.rem)⟩)/\(∀V,V≠s->a'.look V=st.look V)/\(a'.closes s x).1=0/\Sim ρ (a'.closes s x).2 st:=by
 obtain ⟨h0,-⟩:=RT ho;rw [KZ x h0] at hb;have ae:=hG.plus hd hx h0;have O:=hG.len;obtain ⟨Y,b1,c1,l1,m1,k1⟩:=h _ M N ae (by rw [Kt,hv]) hb;have U:N.st.cur=⟨st.cur.vars++[d],st.cur.cells++[st.heap.length],st.cur.locals+1⟩:=(Fh b1 c1).trans Kt;have h1:d.kind=1->(N.st.items st.heap.length).length=1:=λhk=>by
  obtain ⟨K,m,hw⟩:=Y.wf;have hf:=hw.cur;rw [U] at hf;have h2:=hf.kind st.cur.vars.length d st.heap.length AK (by rw [O];simp);rcases hw.cell _ _ h2 with ⟨-,h⟩|⟨h,-⟩|⟨h,-⟩
  . exact h
  . simp only at h;omega
  . simp only at h;omega
 obtain ⟨hH,af⟩:=RV U O hn hd h1 hc;have G:(N.st.closes s u).2=N.st.setCur st.cur:=af;have e0:(N.st.setCur st.cur).base=st.base/\(N.st.setCur st.cur).calls=st.calls:=by
  have e1:=GD (f:=st.cur) b1 c1;have e2:=VS (b:=st) (d:=d) (xs:=if d.kind=1 then [x] else []);exact ⟨e1.1.trans e2.1,e1.2.trans e2.2⟩
 rw [RU] at l1;have Z:∀V,V≠s->(N.st.setCur st.cur).look V=N.st.look V:=λV aa=>
  (OL U (FK (f:=st.cur)) O (by rw [hn];exact aa) (λc _=>(Ew c).symm)).symm
 refine ⟨by rw [<-hv,<-hn];exact h0,?_,by rw [G];exact e0.1,by rw [G];exact e0.2,by rw [G,setCur_heapR];omega,m1,by rw [G];exact Z,λρ a hρ hS=>?_⟩
 . obtain ⟨K,m,hw⟩:=Y.wf;have ag:=hw.closes s u;refine ⟨⟨K,m,ag⟩,λc=>?_,?_,?_,?_,?_,?_⟩
   . rw [G,Ew];exact Y.rng c
   . rw [G,setCur_tin];exact Y.tin
   . rw [G,setCur_tout];exact Y.tout
   . rw [G,setCur_tin];exact Y.tinR
   . rw [G,setCur_tout];exact Y.toutR
   . rw [G,e0.1,e0.2];exact hG.nodup
 . rw [G] at hS;have ah:a.cur.vars=st.cur.vars:=by rw [hS.cur.vars,FK]
   have ai:BP d.name a.cur.vars=none:=by rw [ah];exact h0
   rw [KZ u ai];refine ⟨rfl,?_⟩;have aj:Sim (λc d'=>ρ c d'\/(c=a.heap.length/\d'=st.heap.length)) (a.plus d (if d.kind=1 then [u] else [])) N.st:=by
    have ab:(N.st.setCur st.cur).cur=st.cur:=FK;have ht:=Ft (st:=N.st) (f:=st.cur) (g:=N.st.cur);have hs:=Ga (st:=N.st);refine Sim.plus hS (by rw [ab];exact O) ?_ ?_ setCur_heapR.symm setCur_tin.symm setCur_tout.symm (by rw [setCur_heapR];omega) (by rw [Ew];exact hH) (λc d' hr=>by have:=hρ c d' hr;omega)
    . rw [ab,<-U,ht.1,hs.1]
    . rw [ab,<-U,ht.2,hs.2]
   obtain ⟨a',ac,e1⟩:=k1 _ _ (λc d' hr=>by
    rw [RU];rcases hr with hr|⟨-,rfl⟩
    . have:=hρ _ _ hr;omega
    . omega) aj
   obtain ⟨cs,c0,q1,q2,q3,q4⟩:=ac.minus hG hρ;have ad:=Tn (x:=x) hd q1 q2 hn q3;refine ⟨a',e1,λV aa=>?_,by rw [ad],by rw [ad];exact q4⟩;rw [ac.look];refine OL Kt rfl O (by rw [hn];exact aa) (λc hc=>?_);rw [FL,At];have:=hG.lt (Ix st) hc;omega
def Rv.local_ {blk U:Rn->Except Int Rn} {s:lB} {first N:Nd} (h:Rv blk U (v++[⟨s,1,0⟩])) (w1:first.wf) (hm:BP s v=none->first.ment s=false/\N.ment s=false) :
 Rv (λr=>(A4 r).bind λr=>(BD first r).bind λx=>(Cy (·.opens ⟨s,1,0⟩ x) r).bind λr=>(blk r).bind λr=>(A4 r).bind λr=>(BD N r).bind λx=>Cy (·.closes s x) r)
  (λr=>(A4 r).bind λr=>(BD N r).bind λx=>(Cy (·.opens ⟨s,1,0⟩ x) r).bind λr=>(U r).bind λr=>(A4 r).bind λr=>(BD first r).bind λx=>Cy (·.closes s x) r) v:=λst M r' hG hv G=>by
 obtain ⟨q1,h1,G⟩:=AM G;obtain ⟨hM,rfl⟩:=B8 h1;obtain ⟨x,h2,G⟩:=AM G;obtain ⟨q3,h3,G⟩:=AM G;obtain ⟨ho,rfl⟩:=Dw h3;obtain ⟨r1,h4,G⟩:=AM G;obtain ⟨q5,h5,G⟩:=AM G;obtain ⟨V,rfl⟩:=B8 h5;obtain ⟨u,h6,G⟩:=AM G;obtain ⟨hc,rfl⟩:=Dw G;have X:=MX h2;have hu:=MX h6;simp only at X hu ho hc h4 hM V ⊢;have Y:E0 x:=by
  have:=hG.ev w1;rw [X] at this;exact this
 obtain ⟨n1,n2,n3,n4,n5,n6,n7,n8⟩:=XV (gP rfl) rfl h hG hv Y ho h4 hc;obtain ⟨m1,m2⟩:=hm n1;refine ⟨n2,n3,n4,n5,Ab,λρ a hρ hS=>?_⟩;obtain ⟨p1,a',p2,p3,p4,p5⟩:=n8 ρ a hρ hS;refine ⟨_,p5,λF hF=>?_⟩;show (A4 ⟨a,F⟩).bind _=_;rw [Fb a Ab];simp only [ir];have Z:AW a.look N=(u,0):=by
  rw [hS.look,<-hu];refine IA λs' O=>n7 s' ?_
  rintro rfl;rw [m2] at O;cases O
 have aa:AW a'.look first=(x,0):=by
  rw [<-X];refine IA λs' O=>p3 s' ?_
  rintro rfl;rw [m1] at O;cases O
 rw [KY _ Z];simp only;rw [Jw _ p1];simp only;rw [p2 _ Ab];simp only;rw [Fb a' Ab];simp only;rw [KY _ aa];simp only;rw [Jw _ p4];simp only [jK,Rn.mk.injEq,true_and];omega
def Rv.lstack {blk N:Rn->Except Int Rn} {s:lB} (h:Rv blk N (v++[⟨s,3,0⟩])) :
 Rv (λr=>(A4 r).bind λr=>(Cy (·.opens ⟨s,3,0⟩ 0) r).bind λr=>(blk r).bind λr=>(A4 r).bind (Cy (·.closes s 0)))
  (λr=>(A4 r).bind λr=>(Cy (·.opens ⟨s,3,0⟩ 0) r).bind λr=>(N r).bind λr=>(A4 r).bind (Cy (·.closes s 0))) v:=λst M r' Y Z G=>by
 obtain ⟨q1,h1,G⟩:=AM G;obtain ⟨hM,rfl⟩:=B8 h1;obtain ⟨q3,h3,G⟩:=AM G;obtain ⟨U,rfl⟩:=Dw h3;obtain ⟨r1,V,G⟩:=AM G;obtain ⟨q5,h5,G⟩:=AM G;obtain ⟨O,rfl⟩:=B8 h5;obtain ⟨X,rfl⟩:=Dw G;simp only at U X V hM O ⊢;obtain ⟨n1,n2,n3,n4,n5,n6,n7,n8⟩:=XV (gQ rfl) rfl h Y Z (by simp [E0]) U V X;refine ⟨n2,n3,n4,n5,Ab,λρ a hρ hS=>?_⟩;obtain ⟨p1,a',p2,p3,p4,p5⟩:=n8 ρ a hρ hS;refine ⟨_,p5,λF hF=>?_⟩;show (A4 ⟨a,F⟩).bind _=_;rw [Fb a Ab];simp only [ir];rw [Jw _ p1];simp only;rw [p2 _ Ab];simp only;rw [Fb a' Ab];simp only;rw [Jw _ p4];simp only [jK,Rn.mk.injEq,true_and];omega
def OM (O:FrmS ρ f g) (X:g.vars.length=g.cells.length):∀(ps:List VD) (G:List lB),(BQ f ps G).1=(BQ g ps G).1/\((BQ g ps G).1=0->(BQ f ps G).2.length=(BQ g ps G).2.length /\
 ∀(i c d:Nat),(BQ f ps G).2[i]? = some c->(BQ g ps G).2[i]? = some d->ρ c d)
 | [],_=>by simp [BQ]
 | _::_,[]=>by simp [BQ]
 | v::r,s::q=>by
  obtain ⟨Y,Z⟩:=OM O X r q;unfold BQ;rw [O.vars];cases e:BP s g.vars with
  | none=>simp
  | some j=>
   simp only;by_cases V:(g.vars.getD j ⟨[],0,0⟩).kind≠v.kind\/(g.vars.getD j ⟨[],0,0⟩).len≠v.len
   . simp only [AH V];exact ⟨trivial,λh=>by cases h⟩
   . simp only [At V];refine ⟨Y,λh0=>?_⟩;obtain ⟨i3,i4⟩:=Z h0;refine ⟨by simp [i3],λi c d M N=>?_⟩;cases i with
     | zero=>
      have hj:=DY e;have U:j<f.cells.length:=by rw [O.len];omega
      simp only [iw,gU,gT] at M N;rw [gN U] at M;rw [gN (show j<g.cells.length by omega)] at N;simp only [kf] at M N;rw [<-M,<-N];exact O.cell j _ _ (gN _) (gN _)
     | succ i=>exact i4 i c d (by simpa using M) (by simpa using N)
def ON {c:Nat}:∀ {ps:List VD} {G:List lB},g.vars.length=g.cells.length->c∈(BQ g ps G).2 -> ∃s∈G,∃j:Nat,BP s g.vars=some j/\g.cells[j]? = some c
 | [],_,_,h=>by simp [BQ] at h
 | _::_,[],_,h=>by simp [BQ] at h
 | v::r,s::q,M,h=>by
  unfold BQ at h;cases e:BP s g.vars with
  | none=>rw [e] at h;cases h
  | some j=>
   rw [e] at h;simp only at h;split at h
   . cases h
   . rcases io.1 h with rfl|h
     . have V:=DY e;refine ⟨s,AK,j,e,?_⟩;rw [gT,gN (show j<g.cells.length by omega)];rfl
     . obtain ⟨N,O,U⟩:=ON M h;exact ⟨N,by simp [O],U⟩
def LE (G:g.cells.Nodup) (M:g.vars.length=g.cells.length):∀(ps:List VD) (N:List lB),N.Nodup->(BQ g ps N).2.Nodup
 | [],_,_=>by simp [BQ]
 | _::_,[],_=>by simp [BQ]
 | v::r,s::q,h=>by
  unfold BQ;cases e:BP s g.vars with
  | none=>simp
  | some j=>
   simp only;split
   . simp
   . rw [List.nodup_cons] at h;refine List.nodup_cons.2 ⟨λU=>?_,LE G M r q h.2⟩;obtain ⟨s',V,j',X,Y⟩:=ON M U;have hj:=DY e;have Z:g.cells[j]? = some (g.cells.getD j 0):=by
      rw [gT,gN (show j<g.cells.length by omega)];rfl
     obtain rfl:=OH G Z Y;obtain ⟨x,h5,h6⟩:=Dj e;obtain ⟨y,O,h8⟩:=Dj X;rw [h5] at O;obtain rfl:=gZ O;exact h.1 (by rw [<-h6,h8];exact V)
def OO:∀(l acc:List Nd),LJ acc l=none->(l.map Nd.name).Nodup /\ ∀u∈acc,∀t∈l,u.name≠t.name
 | [],_,_=>⟨AK,λ_ _ _ h=>by cases h⟩
 | t::r,acc,h=>by
  unfold LJ at h;split at h
  . cases h
  . rename_i O;obtain ⟨U,N⟩:=OO r (acc++[t]) h;have V:∀u∈acc,u.name≠t.name:=λu M e=>O (ke.2 ⟨u,M,by simp [e]⟩)
    refine ⟨?_,λu M x G=>?_⟩
    . rw [iR,List.nodup_cons];refine ⟨λX=>?_,U⟩;obtain ⟨x,G,e⟩:=List.mem_map.1 X;exact N t AK x G e.symm
    . rcases io.1 G with rfl|G
      . exact V u M
      . exact N u (by simp [M]) x G
def Sim.push (h:Sim ρ a b) (N:FrmS ρ f g):Sim ρ { a with calls:=a.calls++[f] } { b with calls:=b.calls++[g] }:=by
 refine ⟨h.base,by simp [h.nc],λi f' g' G M=>?_,h.tin,h.tout,h.items,h.lt,h.inj⟩;simp only at G M;have O:=h.nc;rcases it i b.calls.length with U|U
 . rw [gW Ab] at G M;exact h.call i _ _ G M
 . rw [ik Ab] at G M;have V:=(List.getElem?_eq_some_iff.1 G).1;simp only [gV,iG] at V;rw [show i-a.calls.length=0 by omega] at G;rw [show i-b.calls.length=0 by omega] at M;simp only [iw,gU] at G M;subst G M;exact N
def Sim.pop (h:Sim ρ a { b with calls:=b.calls++[g] }):a.calls≠[]/\FrmS ρ a.cur g/\Sim ρ { a with calls:=a.calls.dropLast } b:=by
 have G:=h.nc;simp only [iq,gV,iG] at G;have O:=h.cur;have M:({ b with calls:=b.calls++[g] }:Stp).cur=g:=by unfold Stp.cur;simp
 rw [M] at O;refine ⟨λe=>by rw [e] at G;simp at G,O,h.base,by simp;omega,λi f' g' N U=>?_,h.tin,h.tout,h.items,h.lt,h.inj⟩;simp only at N;have V:=(List.getElem?_eq_some_iff.1 U).1;rw [kk,AH Ab] at N;exact h.call i f' g' N (by simp only;rw [gW V];exact U)
def Rv.call {blk Y:Rn->Except Int Rn} {ps:List VD} {V:List lB} (h:Rv blk Y ps) (hq:V.Nodup) :
 Rv (λr=>(A4 r).bind λr=>(Cy (·.enters ps V) r).bind λr=>(blk r).bind λr=>(A4 r).bind (Cy (·.leaves)))
  (λr=>(A4 r).bind λr=>(Cy (·.enters ps V) r).bind λr=>(Y r).bind λr=>(A4 r).bind (Cy (·.leaves))) v:=λst M r' X hv G=>by
 obtain ⟨q1,h1,G⟩:=AM G;obtain ⟨hM,rfl⟩:=B8 h1;obtain ⟨q3,h3,G⟩:=AM G;obtain ⟨Z,rfl⟩:=Dw h3;obtain ⟨O,h4,G⟩:=AM G;obtain ⟨q5,h5,G⟩:=AM G;obtain ⟨ag,rfl⟩:=B8 h5;obtain ⟨hc,rfl⟩:=Dw G;simp only at Z hc h4 hM ag ⊢;have aa:=X.len;obtain ⟨K,m,hw⟩:=X.wf;unfold mI at Z h4;split at Z
 . cases Z
 rename_i c1;rw [At c1] at h4;split at Z
 . rename_i c2;exact absurd Z c2
 rename_i c2;rw [At c2] at h4;split at Z
 . cases Z
 rename_i c3;rw [At c3] at h4;have ah:Good { st with calls:=st.calls++[⟨ps,(BQ st.cur ps V).2,0⟩] }:=by
  have ai:st.WF K (max m ps.length):=⟨hw.len,hw.base,hw.calls,hw.cell,hw.nc,λf U=>jg (hw.vb f U) (Nat.le_max_left _ _)⟩;have ab:=ai.enters (ps:=ps) (Nat.le_max_right _ _) V;unfold mI at ab;rw [At c1,At c2,At c3] at ab;refine ⟨⟨K,_,ab⟩,X.rng,X.tin,X.tout,X.tinR,X.toutR,λf U=>?_⟩;rcases io.1 U with U|U
  . exact X.nodup f (by simp only at U;rw [U];simp)
  . rcases i6.1 U with U|U
    . exact X.nodup f (by simp [U])
    . rw [iu.1 U];exact LE X.cur aa ps V hq
 obtain ⟨g1,b1,k1,l1,m1,j1⟩:=h _ _ O ah (by unfold Stp.cur;simp) h4;simp only at b1 k1 l1;have c4:¬(O.st.calls=[]\/0<O.st.cur.locals):=λc4=>by
  unfold mG at hc;rw [AH c4] at hc;cases hc
 have aj:O.st.leaves=(0,{ O.st with calls:=O.st.calls.dropLast }):=by
  unfold mG;rw [At c4]
 rw [aj];simp only;have N:O.st.calls.dropLast=st.calls:=by rw [k1];simp
 refine ⟨?_,b1,N,l1,Ab,λρ a hρ hS=>?_⟩
 . obtain ⟨K',m',ak⟩:=g1.wf;have ac:=ak.leaves;unfold mG at ac;rw [At c4] at ac;refine ⟨⟨K',m',ac⟩,g1.rng,g1.tin,g1.tout,g1.tinR,g1.toutR,λf U=>?_⟩;simp only [b1,N] at U;exact X.nodup f U
 . have al:({ O.st with calls:=O.st.calls.dropLast }:Stp).cur=st.cur:=Fh b1 N;have ad:=hS.cur;rw [al] at ad;obtain ⟨s1,s2⟩:=OM ad aa ps V;obtain ⟨s3,s4⟩:=s2 (Decidable.not_not.1 c2);have ae:=hS.nc;simp only [N] at ae;have he:a.enters ps V=(0,{ a with calls:=a.calls++[⟨ps,(BQ a.cur ps V).2,0⟩] }):=by
    unfold mI;rw [At c1,At (by rw [s1];exact c2),At (by rw [ae];exact c3)]
   have af:=hS.push (f:=⟨ps,(BQ a.cur ps V).2,0⟩) (g:=⟨ps,(BQ st.cur ps V).2,0⟩) ⟨rfl,rfl,s3,s4⟩;have er:({ ({ O.st with calls:=O.st.calls.dropLast }:Stp) with calls:=({ O.st with calls:=O.st.calls.dropLast }:Stp).calls++[⟨ps,(BQ st.cur ps V).2,0⟩] }:Stp)=O.st:=by
    refine Stp.eq_of rfl ?_ rfl rfl rfl (λ_=>rfl);show O.st.calls.dropLast++[_]=O.st.calls;rw [N,k1]
   rw [er] at af;obtain ⟨a1,am,e1⟩:=j1 ρ _ hρ af;obtain ⟨t1,t2,t3⟩:=am.pop;have hl:a1.leaves=(0,{ a1 with calls:=a1.calls.dropLast }):=by
    unfold mG;rw [At];rintro (h|h)
    . exact t1 h
    . rw [t2.locals] at h;simp at h
   refine ⟨_,t3,λF hF=>?_⟩;show (A4 ⟨a,F⟩).bind _=_;rw [Fb a Ab];simp only [ir];rw [Jw _ (by rw [he]),he];simp only;rw [e1 _ Ab];simp only;rw [Fb a1 Ab];simp only;rw [Jw _ (by rw [hl]),hl];simp only [jK,Rn.mk.injEq,true_and];omega
end
def RW {ps:List PD} {v:List VD}:∀(N:Nat) (t:Nd),t.size<N->t.isExpr=true->t.flt ps v=0 -> ∀m∈t.walk,2<=m.kind->m.kind<=5->Ea v m.name≠none
 | 0,_,h,_,_,_,_,_,_=>by omega
 | N+1,.mk k n s l,h,Y,O,m,M,Z,h5=>by
  have hk:=Gn Y;simp only [Nd.kind] at hk;rw [Fw Ab Ab Ab Ab,iP] at O;simp only [Nd.walk,io] at M;rcases M with rfl|M
  . have G:=Nn O.1;simp only [Nd.kind,Nd.name] at Z h5 ⊢;intro hn;unfold CE Ek at G;rw [hn] at G;by_cases U:k=2
    . rw [AH U] at G;cases G
    by_cases c3:k=3
    . rw [At U,AH c3] at G;cases G
    . rw [At U,At c3,AH Ab] at G;cases G
  . obtain ⟨x,V,X⟩:=Hw M;simp only [Nd.size] at h;exact RW N x (by have:=DI V;omega) ((Iv Y).2.1 x V) (Es O.2 x V) m X Z h5
def IC {ps:List PD} {v:List VD} {t:Nd} {s:lB} (G:t.isExpr=true) (M:t.flt ps v=0) (N:BP s v=none):t.ment s=false:=by
 cases e:t.ment s with
 | false=>rfl
 | true=>
  unfold Nd.ment at e;obtain ⟨m,O,h⟩:=ke.1 e;unfold Nd.isRef at h;simp only [gR,decide_eq_true_eq] at h;have:=RW (t.size+1) t Ab G M m O h.1.1 h.1.2;rw [h.2,Jo,N] at this;exact absurd rfl this
section
variable (ps:List PD) (d:Nat) (b:Bool) (n:Int) (s:lB) (l:List Nd)
def XW (r:Rn):Aw ps (d+1) b (.mk 52 n s l) r=(BI (if b then Bu l (l.length-1) else Bu l 0) r).bind λp=>(AG (Aw ps d) b (if p.1 then Bu l 1 else Bu l 2) p.2).bind (Bj (if b then Bu l 0 else Bu l (l.length-1)) p.1):=by
 conv=>lhs;unfold Aw
 rw [AH rfl]
def To (r:Rn):Aw ps (d+1) b (.mk 53 n s l) r=(Bj (if b then Bu l (l.length-1) else Bu l 0) true r).bind (Ch (AG (Aw ps d) b (Bu l 1)) (AG (Aw ps d) b (Bu l 2)) (if b then Bu l 0 else Bu l (l.length-1)) (if b then Bu l (l.length-1) else Bu l 0) d):=by
 conv=>lhs;unfold Aw
 rw [At B7,AH rfl]
def RX (r:Rn):Aw ps (d+1) b (.mk 54 n s l) r=(A4 r).bind λr=>(BD (if b then Bu l (l.length-1) else Bu l 0) r).bind λv=>(Cy (·.opens ⟨s,1,0⟩ v) r).bind λr=>(AG (Aw ps d) b (Bu l 1) r).bind λr=>
 (A4 r).bind λr=>(BD (if b then Bu l 0 else Bu l (l.length-1)) r).bind λv=>Cy (·.closes s v) r:=by
 conv=>lhs;unfold Aw
 rw [At B7,At B7,AH rfl]
def PX (r:Rn):Aw ps (d+1) b (.mk 55 n s l) r=(A4 r).bind λr=>(Cy (·.opens ⟨s,3,0⟩ 0) r).bind λr=>(AG (Aw ps d) b (Bu l 0) r).bind λr=>(A4 r).bind (Cy (·.closes s 0)):=by
 conv=>lhs;unfold Aw
 rw [At B7,At B7,At B7,AH rfl]
end
structure Acc (ps:List PD) (v:List VD) (t:Nd):Prop where
 wf:t.wf
 flt:t.flt ps v=0
 rej:∀m∈t.walk,(EM m).2=0
def Acc.kid {ps:List PD} {v:List VD} {k n:Int} {s:lB} {l:List Nd} (h:Acc ps v (.mk k n s l)) {x:Nd} (G:x∈l) {M:List VD} (N:x.flt ps M=0):Acc ps M x:=
 ⟨BB (by have:=h.wf;simp only [Nd.wf] at this;exact this.2.2.2.2.2.2) x G,N,λm O=>h.rej m (RP G O)⟩
def Up {ps:List PD} (aa:∀p∈ps,p.body.isBlock=true/\Acc ps p.params p.body):∀(d:Nat) (b:Bool) (t:Nd) (v:List VD),t.isStmt=true->Acc ps v t->Rv (Aw ps d b t) (Aw ps d (!b) t) v
 | 0,b,t,v,_,_=>λst M r' hG hv h=>by
  unfold Aw at h;cases h
 | d+1,b,t,v,ht,O=>by
  have Y:∀ {x:Nd} {v:List VD} (b:Bool),x.isBlock=true->Acc ps v x->Rv (AG (Aw ps d) b x) (AG (Aw ps d) (!b) x) v:=λ{x v} b V O=>by
   obtain ⟨e,X⟩:=Js V;refine Rv.block λy U=>Up aa d b y v (X y U) ?_
   have N:=O.flt;rw [e,Fw B7 B7 B7 B7,iP] at N;rw [e] at O;exact O.kid U (Es N.2 y U)
  have N:=O.flt;have Z:=O.rej _ (OG _);cases B3 ht with
  | upd X V U=>exact Rv.basic ps d b ht Z Ab v
  | swap V U=>exact Rv.basic ps d b ht Z Ab v
  | stack X hn V=>exact Rv.basic ps d b ht Z Ab v
  | tape X V=>exact Rv.basic ps d b ht Z Ab v
  | call X hn hl hv=>
   rename_i k s l;rw [Nd.flt,AH X,iP] at N;have h1:=Nn N.1;unfold CE Qi at h1;rw [At Ab,At Ab,At Ab,At Ab,AH X] at h1;have ab:(Eo (LJ [] l)).2=0:=by
    rw [EM] at Z;rw [At Ab,At Ab,At Ab,At Ab,At Ab,AH Ab] at Z;exact Z
   have ac:(l.map Nd.name).Nodup:=by
    cases e:LJ [] l with
    | none=>exact (OO l [] e).1
    | some x=>rw [e] at ab;cases ab
   cases hp:Cg ps s with
   | none=>rw [hp] at h1;cases h1
   | some i=>
    have hi:i<ps.length:=by
     unfold Cg at hp;exact (List.findIdx?_eq_some_iff_findIdx_eq.1 hp).1
    have ad:ps.getD ((Cg ps s).getD 0) ⟨[],[],.mk 0 0 [] []⟩=ps[i]:=by
     rw [hp];simp [gT,gN hi]
    obtain ⟨q1,q2⟩:=aa ps[i] (ig hi);have hR:=Rv.call (v:=v) (Y (b != decide (k=51)) q1 q2) ac;have G:Aw ps (d+1) b (.mk k 0 s l)=_:=funext (ER ps d b (n:=0) (s:=s) (l:=l) X);have e2:Aw ps (d+1) (!b) (.mk k 0 s l)=_:=funext (ER ps d (!b) (n:=0) (s:=s) (l:=l) X);rw [G,e2,ad,cJ];exact hR
  | branch X V U hz hu=>
   rename_i k x y z u;rw [Fw Ab Ab Ab Ab,iP] at N;have ay:=O.kid (x:=y) AK (Es N.2 y AK);have az:=O.kid (x:=z) AK (Es N.2 z AK);rcases X with rfl|rfl
   . have hg:∀b p:Bool,Rv (λr=>AG (Aw ps d) b (if p then y else z) r) (λr=>AG (Aw ps d) (!b) (if p then y else z) r) v:=λb p=>by
      cases p
      . exact Y b hz az
      . exact Y b U ay
     have G:=λb=>funext (XW ps d b 0 [] [x,y,z,u])
     cases b with
     | false=>
      rw [G,G];exact Rv.branch (g:=λp r=>AG (Aw ps d) false (if p then y else z) r) (g':=λp r=>AG (Aw ps d) true (if p then y else z) r) x u (hg false)
     | true=>
      rw [G,G];exact Rv.branch (g:=λp r=>AG (Aw ps d) true (if p then y else z) r) (g':=λp r=>AG (Aw ps d) false (if p then y else z) r) u x (hg true)
   . have G:=λb=>funext (To ps d b 0 [] [x,y,z,u])
     cases b with
     | false=>
      rw [G,G];exact Rv.loop x u (Y false U ay) (Y false hz az) d
     | true=>
      rw [G,G];exact Rv.loop u x (Y true U ay) (Y true hz az) d
  | local_ hn V U hz=>
   rename_i s x y z;rw [Nd.flt,At Ab] at N;simp only [CS,iP] at N;have fx:x.flt ps v=0:=N.2.1;have fy:y.flt ps (v++[⟨s,1,0⟩])=0:=N.2.2.1;have fz:z.flt ps v=0:=N.2.2.2.1;have ay:=O.kid (x:=y) AK fy;have ax:=O.kid (x:=x) AK fx;have az:=O.kid (x:=z) AK fz;have G:=λb=>funext (RX ps d b 0 s [x,y,z])
   cases b with
   | false=>
    rw [G,G];exact Rv.local_ (Y false U ay) ax.wf λh=>⟨IC V fx h,IC hz fz h⟩
   | true=>
    rw [G,G];exact Rv.local_ (Y true U ay) az.wf λh=>⟨IC hz fz h,IC V fx h⟩
  | lstack hn V=>
   rename_i s x;rw [Nd.flt,At Ab] at N;simp only [CS,iP] at N;have fx:x.flt ps (v++[⟨s,3,0⟩])=0:=N.2.1;have ax:=O.kid (x:=x) AK fx;have G:=λb=>funext (PX ps d b 0 s [x])
   rw [G,G];exact Rv.lstack (Y b V ax)
def Nt {l:List Nd} (h:Cl l=[]):∀m∈l,(EM m).2=0:=λm G=>by
 unfold Cl at h;have:=List.filter_eq_nil_iff.1 h (EM m).2 (List.mem_map.2 ⟨m,G,rfl⟩);simpa using this
def XX {g:PG} (h:g.wf) (N:g.ok=true) (O:g.flt=0) (G:g.errs=[]):(∀p∈g.procs,p.body.isBlock=true/\Acc g.procs p.params p.body)/\g.main.isBlock=true/\Acc g.procs g.vars g.main:=by
 unfold PG.errs at G;rw [AH O,List.append_eq_nil_iff] at G;unfold PG.flt at O;have U:=iP.1 O;have V:=(iP.1 U.1).2;obtain ⟨-,-,-,X,Y⟩:=DU N;refine ⟨λp M=>⟨(body_iff.1 (DN (X p M)).2.2.2).1,(h.procs p M).body,Jt V p M,Nt ?_⟩,(body_iff.1 Y).1,h.main,U.2,Nt G.2⟩;have:=G.1;unfold C7 at this;exact List.flatMap_eq_nil_iff.1 this p M
def Z4 {g:PG} (h:g.wf) (G:g.ok=true) (U:g.flt=0) (V:g.errs=[]) (d:Nat) (b:Bool):Rv (AG (Aw g.procs d) b g.main) (AG (Aw g.procs d) (!b) g.main) g.vars:=by
 obtain ⟨X,Y,M⟩:=XX h G U V;obtain ⟨e,Z⟩:=Js Y;refine Rv.block λy N=>Up X d b y g.vars (Z y N) ?_
 have O:=M.flt;rw [e,Fw B7 B7 B7 B7,iP] at O;rw [e] at M;exact M.kid N (Es O.2 y N)
structure SV.rng (s:SV):Prop where
 cells:∀xs∈s.cells,RngL xs
 tin:RngL s.tin
 tout:RngL s.tout
def Ku {vs:List VD} {s:SV} (h:s.cells.length=vs.length):CK vs s vs.length=⟨s.cells,⟨vs,jj vs.length,0⟩,[],s.tin,s.tout⟩:=by
 unfold CK;rw [ki Ab,im]
def VT {vs:List VD} {s:SV} (h:FitsP vs s) (G:s.rng):Good (CK vs s vs.length):=by
 have M:=PV h;obtain ⟨Y,O,U,V,Z⟩:=h;rw [Ku O] at M ⊢;refine ⟨⟨_,_,M⟩,λc=>?_,U,V,G.tin,G.tout,λf N=>?_⟩
 . unfold mx;rw [gT];cases e:s.cells[c]? with
   | none=>intro x X;cases X
   | some xs=>exact G.cells xs (iF e)
 . simp only [iu] at N;rw [N];exact List.nodup_range
def RY {g:PG} (ac:g.wf) (ad:g.ok=true) (h0:g.flt=0) (he:g.errs=[]) {s:SV} (hf:FitsP g.vars s) (O:s.rng) {d F:Nat} {b:Bool} {r:Rn} (h:AG (Aw g.procs d) b g.main ⟨CK g.vars s g.vars.length,F⟩ = .ok r) :
 FitsP g.vars r.st.sv/\r.st.sv.rng/\r.rem<=F /\ ∃r2,AG (Aw g.procs d) (!b) g.main ⟨CK g.vars r.st.sv g.vars.length,F⟩ = .ok r2/\r2.rem=r.rem/\r2.st.sv=s:=by
 have hG:=VT hf O;obtain ⟨hv,h3,h4,h5,h6⟩:=hf;rw [Ku h3] at h hG;obtain ⟨Y,b1,c1,l1,m1,k1⟩:=Z4 ac ad h0 he d b _ F r hG rfl h;simp only at b1 c1 l1;have M:r.st.sv.cells.length=g.vars.length:=by
  unfold Stp.sv;rw [b1];simp
 have G:∀i,i<g.vars.length->r.st.sv.cells[i]? = some (r.st.items i):=λi N=>by
  unfold Stp.sv;rw [b1];simp [N]
 have aa:FitsP g.vars r.st.sv:=by
  refine ⟨hv,M,Y.tin,Y.tout,λi v xs h7 Z=>?_⟩;have N:=(List.getElem?_eq_some_iff.1 h7).1;rw [G i N] at Z;obtain rfl:=gZ Z;obtain ⟨K,m,hw⟩:=Y.wf;have hb:=hw.base;rw [b1] at hb;have hk:=hb.kind i v i h7 (by simp [N]);have ae:=hv.2 v (iF h7);unfold IG at ae;unfold Mq CT;rcases hw.cell _ _ hk with ⟨q1,q2⟩|⟨q1,q2,-⟩|⟨q1,q2⟩<;>simp only at q1 q2
  . rw [At Ab,AH q1];omega
  . rw [At Ab,At Ab];exact q2
  . rw [AH q1];exact q2
 have ab:r.st.sv.rng:=⟨λxs hx=>by
  obtain ⟨i,N,rfl⟩:=List.mem_iff_getElem.1 hx;rw [M] at N;have:=G i N;rw [gN Ab] at this;rw [gZ this];exact Y.rng i,Y.tinR,Y.toutR⟩
 refine ⟨aa,ab,m1,?_⟩;have hS:Sim (λc d=>c=d/\d<g.vars.length) (CK g.vars r.st.sv g.vars.length) r.st:=by
  rw [Ku M];refine ⟨?_,by rw [c1],λi f g X _=>by simp at X,rfl,rfl,λc d O=>?_,λc d O=>?_,λc d c' d' X h2=>by rw [X.1,h2.1]⟩
  . rw [b1];refine ⟨rfl,rfl,rfl,λi c d X h2=>?_⟩;simp only at X h2;rw [X] at h2;obtain rfl:=gZ h2;have:=iF X;exact ⟨rfl,kp.1 this⟩
  . obtain ⟨rfl,Z⟩:=O;unfold mx;simp only;rw [gT,G c Z];rfl
  . obtain ⟨rfl,Z⟩:=O;simp only;rw [M];omega
 obtain ⟨a,U,e⟩:=k1 _ _ (λc d O=>by simp only;rw [h3];exact O.2) hS;refine ⟨_,e F Ab,by simp only;omega,?_⟩;have hb:=U.base;have V:=hb.locals;have hl:=hb.len;simp only at V hl;simp only [lN] at hl;unfold Stp.sv;obtain ⟨cells,tin,tout⟩:=s;simp only at h3;congr 1
 . rw [V,jM,im];refine kP (by simp [hl,h3]) λi Z h9=>?_
   rw [kz];have N:i<g.vars.length:=by rw [h3] at h9;exact h9
   have O:=hb.cell i a.base.cells[i] i (gN (by rw [hl];exact N)) (by simp [N]);rw [U.items _ _ O];unfold mx;simp [gT,gN h9]
 . exact U.tin
 . exact U.tout
structure Fin_ (st:Stp):Prop where
 wf:∃K m,st.WF K m
 tin:st.tin.length<=4096
 tout:st.tout.length<=4096
def Kpt (a b:Stp):Prop:=Fin_ b/\b.base=a.base/\b.calls=a.calls
def Kpt.refl {a:Stp} (h:Fin_ a):Kpt a a:=⟨h,rfl,rfl⟩
def Kpt.trans {a b c:Stp} (h:Kpt a b) (k:Kpt b c):Kpt a c:=⟨k.1,k.2.1.trans h.2.1,k.2.2.trans h.2.2⟩
def KeepX (f:Rn->Except Int Rn):Prop:= ∀r r',Fin_ r.st->f r = .ok r'->Kpt r.st r'.st
def Tp (st:Stp) (k:Int) (s:lB) (l:List Nd) (G:st.tin.length<=4096) (M:st.tout.length<=4096):(st.exec k s l).2.tin.length<=4096/\(st.exec k s l).2.tout.length<=4096:=by
 rcases Ju st k s l with h|⟨i,r,c,e,d,h⟩<;>rw [h]
 . exact ⟨G,M⟩
 unfold Stp.execT Stp.move Stp.transfer
 repeat' split
 all_goals first
  | exact ⟨G,M⟩
  | exact ⟨by simp only [gV];omega,M⟩
  | exact ⟨G,by simp only [iq,gV,iG];omega⟩
  | exact ⟨G,by simp only [kv];omega⟩
  | (rename_i N _;rw [N] at G;exact ⟨by simp at G ⊢;omega,M⟩)
def Z5 {st:Stp} (h:Fin_ st) (k n:Int) (s:lB) (l:List Nd):Kpt st (st.run1 k n s l).2:=by
 obtain ⟨⟨K,m,O⟩,G,M⟩:=h;obtain ⟨U,V,-⟩:=GB st k n s l;have N:(st.run1 k n s l).2.tin.length<=4096/\(st.run1 k n s l).2.tout.length<=4096:=by
  unfold Stp.run1;split
  . exact ⟨G,M⟩
  split
  . exact ⟨G,M⟩
  . exact Tp st k s l G M
 exact ⟨⟨⟨K,m,O.run1 k n s l⟩,N.1,N.2⟩,U,V⟩
def RZ {st G:Stp} (h:Fin_ st) {v:VD} (hv:v.kind=1\/v.kind=3) {x y:Int} {s:lB} (ho:(st.opens v x).1=0) (hb:Fin_ (st.opens v x).2->Kpt (st.opens v x).2 G) (M:(G.closes s y).1=0):Kpt st (G.closes s y).2:=by
 obtain ⟨⟨K,m,hw⟩,h1,h2⟩:=h;obtain ⟨K',V⟩:=hw.opens hv x;obtain ⟨-,U⟩:=RT ho;have hF:Fin_ (st.opens v x).2:=⟨⟨_,_,V⟩,by rw [U];show (st.setCur _).tin.length<=4096;rw [setCur_tin];exact h1,by rw [U];show (st.setCur _).tout.length<=4096;rw [setCur_tout];exact h2⟩;obtain ⟨⟨⟨K2,m2,X⟩,t1,t2⟩,Z,b2⟩:=hb hF;have N:G.cur=⟨st.cur.vars++[v],st.cur.cells++[st.heap.length],st.cur.locals+1⟩:=by
  rw [Fh Z b2,U];exact FK (st:=st)
 have Y:(G.closes s y).2=G.setCur st.cur:=by
  unfold Stp.closes at M ⊢;simp only at M ⊢;split at M
  . simp at M
  . rename_i q1;rw [At q1];split at M
    . simp at M
    . rename_i q2;rw [At q2,N];simp
 obtain ⟨f1,f2⟩:=GD (f:=st.cur) Z b2;have e2:(((st.opens v x).2).setCur st.cur).base=st.base/\(((st.opens v x).2).setCur st.cur).calls=st.calls:=by
  rw [U];obtain ⟨g1,g2⟩:=Ft (st:=st) (f:=⟨st.cur.vars++[v],st.cur.cells++[st.heap.length],st.cur.locals+1⟩) (g:=st.cur);obtain ⟨g3,g4⟩:=Ga (st:=st);obtain ⟨g5,g6⟩:=GD (a:={ st.setCur ⟨st.cur.vars++[v],st.cur.cells++[st.heap.length],st.cur.locals+1⟩ with heap:=st.heap++[if v.kind=1 then [x] else []] }) (b:=st.setCur ⟨st.cur.vars++[v],st.cur.cells++[st.heap.length],st.cur.locals+1⟩) (f:=st.cur) rfl rfl;exact ⟨g5.trans (g1.trans g3),g6.trans (g2.trans g4)⟩
 have O:=X.closes s y;rw [Y] at O ⊢;exact ⟨⟨⟨_,_,O⟩,by rw [setCur_tin];exact t1,by rw [setCur_tout];exact t2⟩,f1.trans e2.1,f2.trans e2.2⟩
def Stp.WF.up {st:Stp} {K:List (Int×Int)} {m m':Nat} (h:st.WF K m) (G:m<=m'):st.WF K m':=⟨h.len,h.base,h.calls,h.cell,h.nc,λf M=>jg (h.vb f M) G⟩
def VU {st st2:Stp} (h:Fin_ st) {ps:List VD} {qs:List lB} (ho:(st.enters ps qs).1=0) (hb:Fin_ (st.enters ps qs).2->Kpt (st.enters ps qs).2 st2) (hc:(st2.leaves).1=0):Kpt st (st2.leaves).2:=by
 obtain ⟨⟨K,m,hw⟩,h1,h2⟩:=h;have b:=(hw.up (Nat.le_max_left m ps.length)).enters (Nat.le_max_right m ps.length) qs;obtain ⟨fr,e1⟩:∃fr,(st.enters ps qs).2={ st with calls:=st.calls++[fr] }:=by
  unfold mI at ho ⊢;split at ho
  . simp at ho
  . rename_i q1;rw [At q1];split at ho
    . rename_i q2;exact absurd ho q2
    . rename_i q2;rw [At q2];split at ho
      . simp at ho
      . rename_i q3;rw [At q3];exact ⟨_,rfl⟩
 obtain ⟨⟨⟨K2,m2,c⟩,t1,t2⟩,b1,b2⟩:=hb ⟨⟨_,_,b⟩,by rw [e1];exact h1,by rw [e1];exact h2⟩;have a:=c.leaves;have hl:(st2.leaves).2={ st2 with calls:=st2.calls.dropLast }:=by
  unfold mG at hc ⊢;split at hc
  . simp at hc
  . rename_i q1;rw [At q1]
 rw [hl] at a ⊢;refine ⟨⟨⟨_,_,a⟩,t1,t2⟩,?_,?_⟩
 . show st2.base=st.base;rw [b1,e1]
 . show st2.calls.dropLast=st.calls;rw [b2,e1];simp
def KeepX.row {f:Nd->Rn->Except Int Rn}:∀(l:List Nd),(∀t,KeepX (f t))->KeepX (Eh f l)
 | [],_,r,N,G,h=>by
  simp only [Eh,jK] at h;subst h;exact .refl G
 | t::l,M,r,N,G,h=>by
  simp only [Eh] at h;obtain ⟨a,O,U⟩:=AM h;have k1:=M t _ _ G O;exact k1.trans (KeepX.row l M _ _ k1.1 U)
def KeepX.block {f:Bool->Nd->Rn->Except Int Rn} (h:∀b t,KeepX (f b t)) (b:Bool) (t:Nd):KeepX (AG f b t):=KeepX.row _ (h b)
def KeepX.loop {M N:Rn->Except Int Rn} {test entry:Nd} (O:KeepX M) (U:KeepX N):∀m,KeepX (Ch M N test entry m)
 | 0,r,r',_,h=>by simp [Ch] at h
 | m+1,r,r',hF,h=>by
  simp only [Ch] at h;obtain ⟨V,k1,h⟩:=AM h;obtain ⟨a2,k2,h⟩:=AM h;have G:=O _ _ hF k1;obtain ⟨-,X,-⟩:=Er k2;split at h
  . simp only [jK] at h;subst h;rw [X];exact G
  . obtain ⟨a3,Y,h⟩:=AM h;obtain ⟨a4,k4,h⟩:=AM h;rw [X] at Y;have Z:=U ⟨V.st,V.rem-1⟩ _ G.1 Y;obtain ⟨-,e4,-⟩:=Dc k4;rw [e4] at h;exact G.trans (Z.trans (KeepX.loop O U m ⟨a3.st,a3.rem-1⟩ _ Z.1 h))
def OP (ps:List PD):∀(d:Nat) (b:Bool) (t:Nd),KeepX (Aw ps d b t)
 | 0,b,t,r,r',_,h=>by simp [Aw] at h
 | d+1,b,.mk k n s l,r,r',G,h=>by
  have M:∀b t,KeepX (AG (Aw ps d) b t):=KeepX.block (OP ps d);unfold Aw at h;by_cases c1:k=52
  . simp only [AH c1] at h;obtain ⟨p,k1,h⟩:=AM h;obtain ⟨c,N,h⟩:=AM h;obtain ⟨-,e2,-⟩:=Er k1;rw [e2] at N;have e3:=M _ _ ⟨r.st,r.rem-1⟩ _ G N;obtain ⟨-,e5,-⟩:=Dc h;rw [e5];exact e3
  simp only [At c1] at h;by_cases c2:k=53
  . simp only [AH c2] at h;obtain ⟨c,N,h⟩:=AM h;obtain ⟨-,e5,-⟩:=Dc N;rw [e5] at h;exact KeepX.loop (M b _) (M b _) d ⟨r.st,r.rem-1⟩ _ G h
  simp only [At c2] at h;by_cases c3:k=54
  . simp only [AH c3] at h;obtain ⟨a1,k1,h⟩:=AM h;obtain ⟨a2,N,h⟩:=AM h;obtain ⟨a3,O,h⟩:=AM h;obtain ⟨a4,U,h⟩:=AM h;obtain ⟨a5,V,h⟩:=AM h;obtain ⟨a6,k6,h⟩:=AM h;obtain ⟨-,rfl⟩:=B8 k1;obtain ⟨X,rfl⟩:=Dw O;obtain ⟨-,rfl⟩:=B8 V;obtain ⟨Y,rfl⟩:=Dw h;exact RZ G (gP rfl) X (λZ=>M _ _ _ _ Z U) Y
  simp only [At c3] at h;by_cases c4:k=55
  . simp only [AH c4] at h;obtain ⟨a1,k1,h⟩:=AM h;obtain ⟨a3,O,h⟩:=AM h;obtain ⟨a4,U,h⟩:=AM h;obtain ⟨a5,V,h⟩:=AM h;obtain ⟨-,rfl⟩:=B8 k1;obtain ⟨X,rfl⟩:=Dw O;obtain ⟨-,rfl⟩:=B8 V;obtain ⟨Y,rfl⟩:=Dw h;exact RZ G (gQ rfl) X (λZ=>M _ _ _ _ Z U) Y
  simp only [At c4] at h;by_cases c5:k=50\/k=51
  . simp only [AH c5] at h;obtain ⟨a1,k1,h⟩:=AM h;obtain ⟨a3,O,h⟩:=AM h;obtain ⟨a4,U,h⟩:=AM h;obtain ⟨a5,V,h⟩:=AM h;obtain ⟨-,rfl⟩:=B8 k1;obtain ⟨X,rfl⟩:=Dw O;obtain ⟨-,rfl⟩:=B8 V;obtain ⟨Y,rfl⟩:=Dw h;exact VU G X (λZ=>M _ _ _ _ Z U) Y
  . simp only [At c5] at h;obtain ⟨a1,k1,h⟩:=AM h;obtain ⟨-,rfl⟩:=B8 k1;obtain ⟨-,rfl⟩:=Dw h;exact Z5 G ..
def XY {vs:List VD} {ps:List PD} {s:SV} (hf:FitsP vs s) {d F:Nat} {b:Bool} {t:Nd} {r:Rn} (h:AG (Aw ps d) b t ⟨CK vs s vs.length,F⟩ = .ok r):FitsP vs r.st.sv:=by
 have M:=PV hf;obtain ⟨hv,h3,h4,h5,h6⟩:=hf;rw [Ku h3] at h M;obtain ⟨⟨⟨K,m,hw⟩,t1,t2⟩,V,-⟩:=KeepX.block (OP ps d) b t _ _ ⟨⟨_,_,M⟩,h4,h5⟩ h;simp only at V;have N:r.st.sv.cells.length=vs.length:=by
  unfold Stp.sv;rw [V];simp
 have G:∀i,i<vs.length->r.st.sv.cells[i]? = some (r.st.items i):=λi X=>by
  unfold Stp.sv;rw [V];simp [X]
 refine ⟨hv,N,t1,t2,λi v xs Y h8=>?_⟩;have X:=(List.getElem?_eq_some_iff.1 Y).1;rw [G i X] at h8;obtain rfl:=gZ h8;have hb:=hw.base;rw [V] at hb;have hk:=hb.kind i v i Y (by simp [X]);have Z:=hv.2 v (iF Y);unfold IG at Z;unfold Mq CT;rcases hw.cell _ _ hk with ⟨O,U⟩|⟨O,U,-⟩|⟨O,U⟩<;>simp only at O U
 . rw [At Ab,AH O];omega
 . rw [At Ab,At Ab];exact U
 . rw [AH O];exact U
def Tr {r:Int} (h:0<=r) (G:r<=4000):E0 (Cx r):=by
 unfold E0 Cx;split
 . omega
 . split<;>omega
def R0 {h:Int} (N:h<=2001) (r:Int×Int):∀(k:Nat) (left:Int),∀q∈Ib h r k left,RngL q.1
 | 0,_,q,G=>by
  simp only [Ib,iu] at G;rw [G];intro x M;simp at M
 | k+1,left,q,G=>by
  simp only [Ib,List.mem_flatMap,List.mem_map,kp] at G;obtain ⟨m,V,p,O,rfl⟩:=G;have U:=R0 N r k _ p O;intro x M;rcases io.1 M with rfl|M
  . have X:0<=Rk h r k left:=by unfold Rk;omega
    have Y:aX h r k left<=h-1:=by unfold aX;omega
    exact Tr Ab Ab
  . exact U x M
def OQ {h:Int} (N:h<=2001):∀(l:List (Int×Int)) (left:Int),∀s∈FJ h l left,∀xs∈s,RngL xs
 | [],_,s,G=>by
  simp only [FJ,iu] at G;subst G;intro xs M;simp at M
 | p::l,left,s,G=>by
  simp only [FJ,List.mem_flatMap,List.mem_map] at G;obtain ⟨m,-,q,O,r,U,rfl⟩:=G;intro xs M;rcases io.1 M with rfl|M
  . exact R0 N _ _ _ q O
  . exact OQ N l _ r U xs M
def XZ {vs:List VD} {b:BoxV}:∀s∈LM vs b,s.rng:=by
 intro s G;unfold LM at G;split at G
 . rename_i U;rw [List.mem_map] at G;obtain ⟨t,M,rfl⟩:=G;unfold Vu at M;rw [List.mem_flatMap] at M;obtain ⟨m,-,M⟩:=M;have O:=OQ (h:=2*b.v+1) (by have:=U.1.1;omega) _ _ t M;refine ⟨λxs N=>O xs (List.dropLast_subset _ N),?_,λx N=>by cases N⟩;show RngL (t.getLastD []);rw [List.getLastD_eq_getLast?];cases e:t.getLast? with
   | none=>intro x N;cases N
   | some xs=>exact O xs (List.mem_of_getLast? e)
 . cases G
def X6 {g:PG} {s:SV} (h:FitsP g.vars s) (f:Nat):FitsP g.vars (DQ g s f).st:=by
 unfold DQ;generalize Classical.choose _=d;cases hx:AG (Aw g.procs d) false g.main ⟨CK g.vars s g.vars.length,f⟩ with
 | error e=>exact h
 | ok r=>exact XY h hx
def Z6 (p:PG):∀x∈p.errs,x≠0:=by
 have h:∀l:List Nd,∀x∈Cl l,x≠0:=λl x G=>by
  unfold Cl at G;simpa using (List.mem_filter.1 G).2
 intro x G;unfold PG.errs at G;split at G
 . rcases i6.1 G with G|G
   . unfold C7 at G;rw [List.mem_flatMap] at G;obtain ⟨q,-,G⟩:=G;exact h _ x G
   . exact h _ x G
 . cases G
def Nu (g p:PG) (f:Nat) (s:SV) (l:List SV) (n:Int):Wm g p f (s::l) n=if (DQ g s f).err≠0 then Wm g p f l n
 else if (DQ p (DQ g s f).st f).err=0/\(DQ p (DQ g s f).st f).st=s then Wm g p f l (Go.IntKind.wrap .i64 (n+1))
 else ⟨false,Go.IntKind.wrap .i64 (n+1),s,(DQ p (DQ g s f).st f).err⟩:=rfl
noncomputable def BM (e:EX) (p:PG):VdV×Int:=if D8 e p≠0 then (mJ,D8 e p) else (Wm e.g p e.fuel.toNat (LM e.g.vars e.box) 0,0)
open Go.RowKit Go.Proofs
variable {n m:Nat} {w w':wD} {Q:Exit->Act->wD->Prop} {G:List (Int×Int)} {J:(nP)->List SV->wD->Prop} {P:Program} {F:List (List Int)} {e:Ending} {A:nP} {h:Int} {S:List SV} {l:Sl} {x:Operand} {es:List EX} {xs:List BJ} {z:List Int} {ty:TypeId} {α:Type} {vs:lV} {v:Value} {a:oA} {s:BJ} {b:SV}
attribute [local irreducible] Go.Calls
def Tt (l m:List (List Int)) (S S':nP) (a Y:oA) (c c':Nat) (w:wD) (hl:l.length<=1000000) (hf:∀xs∈l,xs.length<=1000000) (aa:∀xs∈m,xs.length<=1000000) (U:ICs S w l a) (G:ICs S' w m Y) :
 Calls prog 123 #[.slice a l.length c,.slice Y m.length c',.func (.func 124) #[] #[]] w λe w'=> ∃q,e = .returned (.bool q)/\(q=true↔l=m)/\Ext w w':=by
 have X:=Ne w;rcases Decidable.em (l.length=m.length) with hn|hn
 case inr=>
  refine Ad func123 ntmps123 rfl rfl (kR ?_);exact ⟨false,rfl,⟨λh=>(by cases h),λh=>absurd (by rw [h]) hn⟩,X⟩
 refine Ad func123 ntmps123 rfl rfl (eK ?_);have U:=U.ltA;have G:=G.ltA;refine AQ (ι:=Nat) (λj=>[(1,.slice Y m.length c'),(2,.func (.func 124) #[] #[]),(15,.slice a l.length c),(16,.int .i64 l.length),(17,.int .i64 j)])
  (λj w'=>j<=l.length/\l.take j=m.take j/\ICs (· < w.heap.size) w' l a/\ICs (· < w.heap.size) w' m Y/\Ext w w') (λj=>l.length-j) 0 sB ⟨ii _,rfl,U,G,X⟩ ?_
 rintro j w1 ⟨hj,ht,U,G,X⟩;by_cases N:j<l.length
 . have M:j<m.length:=by omega
   obtain ⟨kb,ko,rfl,kS,hk⟩:=U.get (by intro e;subst e;simp at N);obtain ⟨ah,ai,rfl,aj,ab⟩:=G.get (by intro e;subst e;simp at M);obtain ⟨xa,xc,r1,v1⟩:=hk j _ (gN N);obtain ⟨ac,ad,r2,v2⟩:=ab j _ (gN M);have p1:=hf _ (ig N);have p2:=aa _ (ig M);have V:l[j]=m[j]->l.take (j+1)=m.take (j+1):=λh=>by rw [gS N,gS M,ht,h]
   have ae:l[j]≠m[j]->l≠m:=λh e=>h (by subst e;rfl)
   generalize l[j]=x at *;generalize m[j]=y at *;have Z:=gO (λw1 h h'=>Mp x y p1 p2 xa ac xc ad w1 (Gh (S:=(· < w.heap.size)) h) (Gh (S:=(· < w.heap.size)) h'));by_cases O:x=y
   . rw [decide_eq_true O] at Z;refine eK ?_;refine Ax (A8 (fi:=[]) (ca:=[]) AU rfl rfl (Z.out _ Ae Ae) (λ_ _ h=>⟨_,h.1⟩)) rfl ?_ aFh;rintro ak al ⟨⟨⟩,af⟩;revert X U G;refine eE af ?_;intro X U G;refine eK ?_;exact AA (j+1) sB ⟨Ab,V O,U,G,X⟩ Ab
   . rw [decide_eq_false O] at Z;refine eK ?_;refine Ax (A8 (fi:=[]) (ca:=[]) AU rfl rfl (Z.out _ Ae Ae) (λ_ _ h=>⟨_,h.1⟩)) rfl ?_ aFh;rintro am an ⟨⟨⟩,ag⟩;have X:=X.ext ag;refine kR ?_;exact ⟨false,rfl,⟨λh=>(by cases h),λh=>absurd h (ae O)⟩,X⟩
 . obtain rfl:j=l.length:=by omega
   rw [im,hn,im] at ht;refine kR ?_;exact ⟨true,rfl,⟨λ_=>ht,λ_=>rfl⟩,X⟩
def VV (s t:SV) (ag:s.small) (ah:t.small) (S S':nP) (a ta oa a' V Y:oA) (c tc oc c' ac ad:Nat) (w:wD) (hs:s.sits S w a ta oa) (ai:t.sits S' w a' V Y) :
 Calls prog 87 #[.agg (s.row a c ta tc oa oc).toArray,.agg (t.row a' c' V ac Y ad).toArray] w λe w'=> ∃q,e = .returned (.bool q)/\(q=true↔s=t)/\Ext w w':=by
 have X:=Ne w;obtain ⟨cells,tin,tout⟩:=s;obtain ⟨M,ab,O⟩:=t;obtain ⟨h1,h2,h3⟩:=hs;obtain ⟨Z,N,G⟩:=ai;obtain ⟨m1,m2,m3,m4⟩:=ag;obtain ⟨aq,aj,ak,al⟩:=ah;simp only [SV.mk.injEq] at *;have HE:=gO (λw1 h h'=>Tt cells M S S' a a' c c' w1 m1 m2 aj h h');have HI:=gO (λw1 h h'=>Mp tin ab m3 ak ta V tc ac w1 (Gh (S:=S) h) (Gh (S:=S') h'));have HO:=gO (λw1 h h'=>Mp tout O m4 al oa Y oc ad w1 (Gh (S:=S) h) (Gh (S:=S') h'));change Calls prog _ #[.agg #[.slice a cells.length c,.slice ta tin.length tc,.slice oa tout.length oc],.agg #[.slice a' M.length c',.slice V ab.length ac,.slice Y O.length ad]] w _;refine Ad func87 ntmps87 rfl rfl ?_
 focus
  refine cS (eB [_,_,_] ?_);intro b1 w2 h4 x5 _ _;revert X h1 h2 h3 Z N G;refine eE x5 ?_;intro X h1 h2 h3 Z N G;refine eB [_,_,_] ?_;intro b8 w9 U am _ _;revert h4 X h1 h2 h3 Z N G;refine eE am ?_;intro h4 X h1 h2 h3 Z N G;refine eK ?_;refine Ax (AN AU rfl (HE.out _ Ae Ae) (λ_ _ ⟨_,h⟩=>⟨_,h.1⟩)) rfl ?_ aFh;rintro _ ar ⟨au,⟨⟩,af,an⟩;revert U h4 X h2 h3 N G;refine eE an ?_;intro U h4 X h2 h3 N G;refine C1 Mv (O2 rfl rfl rfl (λaa=>?_) (λaa=>?_));refine Bn rfl rfl rfl (Hi Ae) (C1 Pf (Bn rfl rfl rfl (Hi Ae) (C1 (Pl h4) (Bn rfl rfl rfl (Hi Ae) (C1 Pf (Bn rfl rfl rfl (Hi Ae) (C1 (Pl U) (Bn rfl rfl rfl (Hi Ae) (cC rfl (HI.out _ Ae Ae) ?_)))))))));rintro _ av ⟨⟨⟩,ao⟩;revert U h4 X h3 G;refine eE ao ?_;intro U h4 X h3 G;refine C1 (Co rfl rfl Ae) (C1 Mv (B0 rfl rfl rfl (λae=>?_) (λae=>?_)));refine kC (HO.out _ Ae Ae) ?_;rintro _ aw ⟨⟨⟩,ap⟩;have X:=X.ext ap;refine kR ?_;rotate_left;refine kR ?_;rotate_left;refine Bh rfl rfl rfl (Hj Ae) rfl (Bh rfl rfl rfl (Hj Ae) rfl (Bh rfl rfl rfl (Hj Ae) rfl (Bh rfl rfl rfl (Hj Ae) rfl (Bh rfl rfl rfl (Hj Ae) rfl (C1 (BR rfl rfl Ae) (kR ?_))))));rotate_left
 . exact ⟨_,rfl,⟨λh=>⟨af.1 aa,ae,of_decide_eq_true h⟩,λh=>decide_eq_true h.2.2⟩,X⟩
 . exact ⟨false,rfl,⟨λh=>(by cases h),λh=>absurd h.2.1 ae⟩,X⟩
 . exact ⟨false,rfl,⟨λh=>(by cases h),λh=>by rw [af.2 h.1] at aa;cases aa⟩,X⟩
def Kv {P:Program} {d:Nat} {xs ys:Array Value} {w:wD} {B:Nat->Bool}:∀(G:List Field),(∀f∈G,(f.name == "_")=false /\ ∃u v,(part f.type xs f.offset).run P w = .ok u w/\(part f.type ys f.offset).run P w = .ok v w/\(Op.equalIn d f.type u v).run P w = .ok (B f.offset) w)->(Op.eqFields d xs ys G).run P w = .ok (G.all λf=>B f.offset) w
 | [],_=>by simp [Op.eqFields]
 | f::G,h=>by
  obtain ⟨M,u,v,N,O,U⟩:=h f je;have V:=Kv (P:=P) (d:=d) (xs:=xs) (ys:=ys) (w:=w) (B:=B) G (λg X=>h g (iU _ X))
  unfold Op.eqFields
  rw [AH (show f.name ≠ "_" from λe=>by rw [e] at M;cases M)]
  cases hb:B f.offset
  . simp [ij,N,O,U,hb,jq]
  . simp [ij,N,O,U,hb,jq,V]
def VW (u v:VD) (o:Nat):Bool:=if o=0 then decide (u.name=v.name) else if o=1 then decide (u.kind=v.kind) else decide (u.len=v.len)
def Tu (u v:VD) (w:wD):(Op.equalIn 10000 77 u.val v.val).run prog w = .ok (VW u v 0&&(VW u v 1&&VW u v 2)) w:=by
 rw [show (10000:Nat)=9999+1 from rfl,run_equalIn_agg w 9999 _ _ _ QV QX];rw [Kv (B:=VW u v) _ (λf O=>?_)]
 . have e:((prog.fieldsOf 77).toList.all λf=>VW u v f.offset)=(((prog.fieldsOf 77).toList.map (λf=>(f.name == "_",f.type,f.offset))).all λt=>VW u v t.2.2):=by rw [List.all_map];rfl
   rw [e,KK];simp only [kU,List.all_nil,Bool.and_true]
 . have N:(f.name == "_",f.type,f.offset)∈(prog.fieldsOf 77).toList.map (λf=>(f.name == "_",f.type,f.offset)):=List.mem_map.2 ⟨f,O,rfl⟩
   rw [KK] at N;simp only [io,iZ,or_false,kE] at N
   rcases N with ⟨h,G,M⟩|⟨h,G,M⟩|⟨h,G,M⟩
   . rw [G,M]
     refine ⟨h,str u.name,str v.name,Ep (cs:=u.cells) Ac rfl rfl rfl w,Ep (cs:=v.cells) Ac rfl rfl rfl w,?_⟩
     rw [run_equalIn_string w 9998 _ _ _ (show prog.underlying 9=some .string from (Ac 9 .str 1 rfl).under)];simp [VW,FT]
   . rw [G,M]
     refine ⟨h,.int .u8 u.kind,.int .u8 v.kind,Ep (cs:=u.cells) Ac rfl rfl rfl w,Ep (cs:=v.cells) Ac rfl rfl rfl w,?_⟩
     rw [run_equalIn_int w 9998 _ _ .u8 _ _ (show prog.underlying 5=some (.int .u8) from (Ac 5 (.int .u8) 1 rfl).under)];simp [VW,FT]
   . rw [G,M]
     refine ⟨h,.int .i64 u.len,.int .i64 v.len,Ep (cs:=u.cells) Ac rfl rfl rfl w,Ep (cs:=v.cells) Ac rfl rfl rfl w,?_⟩
     rw [run_equalIn_int w 9998 _ _ .i64 _ _ (show prog.underlying 3=some (.int .i64) from (Ac 3 (.int .i64) 1 rfl).under)];simp [VW,FT]
def dA {u v:VD} (h:u≠v):(VW u v 0&&(VW u v 1&&VW u v 2))=false:=by
 obtain ⟨un,O,U⟩:=u;obtain ⟨V,X,Y⟩:=v;rw [<-Bool.not_eq_true];intro e;simp only [VW,gR] at e;obtain ⟨G,M,N⟩:=e;simp at G M N;exact h (by rw [G,M,N])
def X8 {S:wD->Prop} {t':TypeId} {y:Operand} {u v:VD} (h:u≠v) (M:ev l x=some u.val) (N:ev l y=some v.val):Br prog n l S (.binOp .neq 77 x y t') ty (.bool true):=by
 unfold Br;intro a w O pos after g G _;have U:=run_eqGuard_agg (P:=prog) w .neq 77 x y u.cells.toArray v.cells.toArray QY;have V:(binOp .neq 77 u.val v.val).run prog w = .ok (.bool true) w:=by
  rw [run_neq_struct,Tu,dA h];rfl
 simp only [execOp,G.ev M,G.ev N,ij,U,V,jq,iC]
def Tv (l m:List VD) (S S':nP) (a a':oA) (c c':Nat) (w:wD) (hl:l.length<=1000000000) (hs:VDs S w l a) (G:VDs S' w m a') :
 Calls prog 82 #[.slice a l.length c,.slice a' m.length c'] w λe w'=> ∃q,e = .returned (.bool q)/\(q=true↔l=m)/\Ext w w':=by
 have X:=Ne w;rcases Decidable.em (l.length=m.length) with hn|hn
 case inr=>
  refine Ad func82 ntmps82 rfl rfl ?_;refine kR ?_;exact ⟨false,rfl,⟨λh=>(by cases h),λh=>absurd (by rw [h]) hn⟩,X⟩
 refine Ad func82 ntmps82 rfl rfl ?_;refine eK ?_;refine AQ (ι:=Nat) (λj=>[(0,.slice a l.length c),(1,.slice a' m.length c'),(12,.int .i64 l.length),(13,.int .i64 j)]) (λj w'=>VDs S w' l a/\VDs S' w' m a'/\l.take j=m.take j/\Ext w w'/\j<=l.length) (λj=>l.length-j) 0 sB ⟨hs,G,rfl,X,ii _⟩ ?_;clear hs G X;rintro j w1 ⟨hs,G,ht,X,hj⟩;by_cases ac:j<l.length
 . have U:j<m.length:=by omega
   obtain ⟨kb,ko,rfl,-,hk⟩:=mw hs Ab;obtain ⟨ag,ah,rfl,-,ad⟩:=mw G Ab;have r1:Row w1 ⟨kb,ko+j*3,none⟩ l[j].cells:=hk j _ (gN ac);have r2:Row w1 ⟨ag,ah+j*3,none⟩ m[j].cells:=ad j _ (gN U);have V:l[j]=m[j]->l.take (j+1)=m.take (j+1):=λh=>by rw [gS ac,gS U,ht,h]
   have aa:l[j]≠m[j]->l≠m:=λh e=>h (by subst e;rfl)
   clear hk ad;generalize l[j]=x at *;generalize m[j]=y at *;by_cases ab:x=y
   . subst ab;refine eK ?_;refine Aq (λM=>Ext w1 M) 8 (.pure 0 (.pure 1 (.pure 2 (.pure 3 (.pure 4 (.pure 5 (.pure 6 (.pure 7 .tail)))))))) mixed AU (Aa (Af (Aa (Aa (Af (Aa Ag)))))) ?_;intro ai ae _;have Y:(λM=>Ext w1 M) ai:=ae;simp only at Y;have N:=r1;have O:=r2;revert X hs G;refine eE ae ?_;intro X hs G;refine ⟨Y,?_⟩;refine eT ?_;refine Tq rfl (BC Ac rfl rfl rfl (λM hz=>(l5 N hz)) rfl) ?_;refine eT ?_;refine Tq rfl (BC Ac rfl rfl rfl (λM hz=>(l5 O hz)) rfl) ?_;refine Ar rfl (C1 (Vj (v:=x) rfl rfl) ?_);refine eK ?_;exact AA (j+1) sB ⟨hs,G,V rfl,X,Ab⟩ Ab
   . have aa:=aa ab;clear V;refine eK ?_;refine Aq (λM=>Ext w1 M) 8 (.pure 0 (.pure 1 (.pure 2 (.pure 3 (.pure 4 (.pure 5 (.pure 6 (.pure 7 .tail)))))))) mixed AU (Aa (Af (Aa (Aa (Af (Aa Ag)))))) ?_;intro aj af _;have Z:(λM=>Ext w1 M) aj:=af;simp only at Z;have N:=r1;have O:=r2;have X:=X.ext af;refine ⟨Z,?_⟩;refine eT ?_;refine Tq rfl (BC Ac rfl rfl rfl (λM hz=>(l5 N hz)) rfl) ?_;refine eT ?_;refine Tq rfl (BC Ac rfl rfl rfl (λM hz=>(l5 O hz)) rfl) ?_;refine Ar rfl (C1 (X8 (u:=x) (v:=y) ab rfl rfl) ?_);refine kR ?_;exact ⟨false,rfl,⟨λh=>(by cases h),λh=>absurd h aa⟩,X⟩
 . obtain rfl:j=l.length:=by omega
   rw [im,hn,im] at ht;refine kR ?_;exact ⟨true,rfl,⟨λ_=>ht,λ_=>rfl⟩,X⟩
def Ya (g:PG) (h:g.wf) (G:g.ok=false) (S:nP) (M:oA) (vc:Nat) (N:oA) (V:Nat) (O:oA) (Y:Nat) (w:wD) (U:g.sits S w M N O) :
 Calls prog 70 #[.agg (g.cells M vc N V O Y).toArray] w (ChkR [] w):=by
 have Z:=gO (F6 h G);have X:=Ne w;refine Ad func70 ntmps70 rfl rfl (cS (eB [_,_,_,_,_,_] ?_));intro b1 w2 h4 x5 _ _;revert U X;refine eE x5 ?_;intro U X;refine kC (Z.out _ _ _ _ _ _ _ _ Ae) ?_;rintro _ w9 ⟨⟨⟩,x8⟩;have X:=X.ext x8;refine kR ?_;exact ⟨none,0,rfl,mP,X,λ_=>⟨rfl,rfl⟩⟩
def Z7 (e:EX) (hw:e.wf) (p:PG) (hp:p.wf) (db:p.vars.length<=1000000) (S:nP) (va:oA) (vc:Nat) (pa:oA) (pc:Nat) (ma:oA) (mc:Nat) (ae:oA) (al:Nat) (an:oA) (ap:Nat) (ao:oA) (aq:Nat) (w:wD)
 (U:e.sits S w va pa ma vc) (G:p.sits S w ae an ao) (M:PDsC S w p.procs an) (ay:p.vars.length<=al) :
 Calls prog 46 #[.agg (e.cells va vc pa pc ma mc).toArray,.agg (p.cells ae al an ap ao aq).toArray] w λr w'=>r = .returned (.int .i64 (D8 e p))/\Ext w w':=by
 have X:=Ne w;have U:=U.ltA;have G:=G.ltA;have M:=M.ltA;have HE:=gO (λw1 h=>KO e hw (· < w.heap.size) va vc pa pc ma mc w1 h);have HV:=gO (λ(q:Bool) (h:p.ok=q)=>F6 hp h);have HS:=gO (λ(h:p.ok=true) w1 h1 h2=>Kc p hp h (· < w.heap.size) ae al an ap ao aq w1 h1 h2 ay);have HC:=gO (λ(h:p.ok=true) w1 h1 h2=>Ra p hp h (· < w.heap.size) ae al an ap ao aq w1 h1 h2 ay);have HN:=gO (λ(h:p.ok=false) w1 h1=>Ya p hp h (· < w.heap.size) ae al an ap ao aq w1 h1);have HQ:=gO (λw1 (h1:VDs (· < w.heap.size) w1 p.vars ae) (h2:VDs (· < w.heap.size) w1 e.g.vars va)=>Tv p.vars e.g.vars _ _ ae va al vc w1 Ab h1 h2);have N:=U.g.vars;have O:=G.vars;unfold mE D8 at *;generalize ar:decide e.valid=q1 at *;rcases Decidable.em e.valid with h1|h1
 case inr=>
  rw [decide_eq_false h1] at ar;subst ar;rw [AH h1];clear HV HS HC HN HQ hp hw;refine Ad func46 ntmps46 rfl rfl ?_;refine cS (eB [_,_,_,_,_,_,_,_,_,_,_,_] ?_);intro b1 w2 h4 x5 _ _;revert X U G M N O;refine eE x5 ?_;intro X U G M N O;refine eB [_,_,_,_,_,_] ?_;intro b8 w9 az bs _ _;revert h4 X U G M N O;refine eE bs ?_;intro h4 X U G M N O;refine eK ?_;refine A1 [_,_,_,_,_,_,_,_,_,_,_,_] Ac rfl rfl rfl h4 rfl rfl rfl (cC rfl (HE.out _ Ae) ?_);rintro _ dc ⟨⟨⟩,bt⟩;revert az h4 X U G M N O;refine eE bt ?_;intro az h4 X U G M N O;refine kR ?_;exact ⟨rfl,X⟩
 rw [decide_eq_true h1] at ar;subst ar;rw [At (λh=>h h1)];cases hok:p.ok
 . have HV:=gO (HV.out _ hok);have HN:=gO (HN.out hok);rw [AH (gP rfl)];clear HS HC HQ hp hw hok h1;refine Ad func46 ntmps46 rfl rfl ?_;refine cS (eB [_,_,_,_,_,_,_,_,_,_,_,_] ?_);intro dd de ak bu _ _;revert X U G M N O;refine eE bu ?_;intro X U G M N O;refine eB [_,_,_,_,_,_] ?_;intro df dg ag a0 _ _;revert ak X U G M N O;refine eE a0 ?_;intro ak X U G M N O;refine eK ?_;refine A1 [_,_,_,_,_,_,_,_,_,_,_,_] Ac rfl rfl rfl ak rfl rfl rfl (cC rfl (HE.out _ Ae) ?_);rintro _ b0 ⟨⟨⟩,a1⟩;revert ag ak X U G M N O;refine eE a1 ?_;intro ag ak X U G M N O;refine kQ (HN.out _ Ae) ?_;rintro _ b2 ⟨b3,b4,⟨⟩,au,a2,b5⟩;revert ag ak X U G M N O;refine eE a2 ?_;intro ag ak X U G M N O;refine kC (HV.out _ _ _ _ _ _ _ _ Ae) ?_;rintro _ b6 ⟨⟨⟩,a3⟩;revert au ag ak X U G M N O;refine eE a3 ?_;intro au ag ak X U G M N O;refine kR ?_;exact ⟨rfl,X⟩
 have HV:=gO (HV.out _ hok);have HS:=gO (HS.out hok);have HC:=gO (HC.out hok);clear HN hp hw hok h1;rcases Decidable.em (p.flt=0) with h2|h2
 case inr=>
  rw [AH (gQ h2)];have h3:0<p.flt:=Nat.pos_of_ne_zero h2;generalize p.flt=nf at *;generalize p.errs=xs at *;clear HQ h2;refine Ad func46 ntmps46 rfl rfl ?_;refine cS (eB [_,_,_,_,_,_,_,_,_,_,_,_] ?_);intro dh di af bv _ _;revert X U G M N O;refine eE bv ?_;intro X U G M N O;refine eB [_,_,_,_,_,_] ?_;intro dk dl ac a4 _ _;revert af X U G M N O;refine eE a4 ?_;intro af X U G M N O;refine eK ?_;refine A1 [_,_,_,_,_,_,_,_,_,_,_,_] Ac rfl rfl rfl af rfl rfl rfl (cC rfl (HE.out _ Ae) ?_);rintro _ b7 ⟨⟨⟩,a5⟩;revert ac af X U G M N O;refine eE a5 ?_;intro ac af X U G M N O;refine kQ (HC.out _ Ae Ae) ?_;rintro _ b9 ⟨ca,cb,⟨⟩,am,a6,cc⟩;revert ac af X U G M N O;refine eE a6 ?_;intro ac af X U G M N O;refine kC (HV.out _ _ _ _ _ _ _ _ Ae) ?_;rintro _ cd ⟨⟨⟩,a7⟩;revert am ac af X U G M N O;refine eE a7 ?_;intro am ac af X U G M N O;refine kQ (HS.out _ Ae Ae) ?_;rintro _ ce ⟨cf,cg,⟨⟩,a8⟩;revert am ac af X U G M N O;refine eE a8 ?_;intro am ac af X U G M N O;refine kR ?_;exact ⟨rfl,X⟩
 rw [h2] at HS;rw [At (by simp [h2])];cases hE:p.errs with
 | cons er tl=>
  rw [hE] at HC;clear HQ;refine Ad func46 ntmps46 rfl rfl ?_
  focus
   refine cS (eB [_,_,_,_,_,_,_,_,_,_,_,_] ?_);intro dm dn ad bw _ _;revert X U G M N O;refine eE bw ?_;intro X U G M N O;refine eB [_,_,_,_,_,_] ?_;intro dp dq Z a9 _ _;revert ad X U G M N O;refine eE a9 ?_;intro ad X U G M N O;refine eK ?_;refine A1 [_,_,_,_,_,_,_,_,_,_,_,_] Ac rfl rfl rfl ad rfl rfl rfl (cC rfl (HE.out _ Ae) ?_);rintro _ ch ⟨⟨⟩,ba⟩;revert Z ad X U G M N O;refine eE ba ?_;intro Z ad X U G M N O;refine kQ (HC.out _ Ae Ae) ?_;rintro _ ci ⟨cj,ck,⟨⟩,ah,bb,bc⟩;revert Z ad X U G M N O;refine eE bb ?_;intro Z ad X U G M N O;refine kC (HV.out _ _ _ _ _ _ _ _ Ae) ?_;rintro _ cl ⟨⟨⟩,bd⟩;revert ah Z ad X U G M N O;refine eE bd ?_;intro ah Z ad X U G M N O;refine kQ (HS.out _ Ae Ae) ?_;rintro _ cm ⟨cn,co,⟨⟩,be⟩;revert ah Z ad X U G M N O;refine eE be ?_;intro ah Z ad X U G M N O;refine eK ?_;refine Ay rfl (λav=>?_) (λav=>?_);rotate_left;refine eK ?_;rotate_left
  . obtain ⟨g0,cp,bf,-,-,aw⟩:=ah.rows AK;simp only [iK] at bf;obtain ⟨rfl,-,-⟩:=bf;obtain ⟨cs,hr,p0,dr,ds,dt,s0,rfl⟩:=aw 0 er rfl;clear aw ah bc Z ad N O HC HS HV HE hE;refine eK ?_;refine C1 (Pw hr) ?_;refine kR ?_;exact ⟨rfl,X⟩
  . exact absurd AK av
 | nil=>
  rw [hE] at HC;by_cases h3:p.vars=e.g.vars
  . rw [AH h3];have ax:Hid (∀w1,VDs (· < w.heap.size) w1 p.vars ae->VDs (· < w.heap.size) w1 e.g.vars va->Calls prog 82 #[.slice ae p.vars.length al,.slice va e.g.vars.length vc] w1 λe w'=>e = .returned (.bool true)/\Ext w1 w'):=gO λw1 h1 h2=>(HQ.out w1 h1 h2).mono λ_ _ ⟨q,g1,g2,g3⟩=>⟨by rw [g1,g2.2 h3],g3⟩
    clear HQ h3;refine Ad func46 ntmps46 rfl rfl ?_;refine cS (eB [_,_,_,_,_,_,_,_,_,_,_,_] ?_);intro du dv aa bx _ _;revert X U G M N O;refine eE bx ?_;intro X U G M N O;refine eB [_,_,_,_,_,_] ?_;intro dw dx V bg _ _;revert aa X U G M N O;refine eE bg ?_;intro aa X U G M N O;refine eK ?_;refine A1 [_,_,_,_,_,_,_,_,_,_,_,_] Ac rfl rfl rfl aa rfl rfl rfl (cC rfl (HE.out _ Ae) ?_);rintro _ cq ⟨⟨⟩,bh⟩;revert V aa X U G M N O;refine eE bh ?_;intro V aa X U G M N O;refine kQ (HC.out _ Ae Ae) ?_;rintro _ cr ⟨ct,cu,⟨⟩,ai,bi,cv⟩;revert V aa X U G M N O;refine eE bi ?_;intro V aa X U G M N O;refine kC (HV.out _ _ _ _ _ _ _ _ Ae) ?_;rintro _ cw ⟨⟨⟩,bj⟩;revert ai V aa X U G M N O;refine eE bj ?_;intro ai V aa X U G M N O;refine kQ (HS.out _ Ae Ae) ?_;rintro _ cx ⟨cy,cz,⟨⟩,bk⟩;revert ai V aa X U G M N O;refine eE bk ?_;intro ai V aa X U G M N O;refine kC (ax.out _ Ae Ae) ?_;rintro _ c0 ⟨⟨⟩,bl⟩;revert ai V aa X U G M N O;refine eE bl ?_;intro ai V aa X U G M N O;refine kR ?_;exact ⟨rfl,X⟩
  . rw [At h3];have ax:Hid (∀w1,VDs (· < w.heap.size) w1 p.vars ae->VDs (· < w.heap.size) w1 e.g.vars va->Calls prog 82 #[.slice ae p.vars.length al,.slice va e.g.vars.length vc] w1 λe w'=>e = .returned (.bool false)/\Ext w1 w'):=gO λw1 h1 h2=>(HQ.out w1 h1 h2).mono λ_ _ ⟨q,g1,g2,g3⟩=>⟨by rw [g1];cases q;rfl;exact absurd (g2.1 rfl) h3,g3⟩
    clear HQ h3;refine Ad func46 ntmps46 rfl rfl ?_;refine cS (eB [_,_,_,_,_,_,_,_,_,_,_,_] ?_);intro dy dz ab bz _ _;revert X U G M N O;refine eE bz ?_;intro X U G M N O;refine eB [_,_,_,_,_,_] ?_;intro d0 d1 Y bm _ _;revert ab X U G M N O;refine eE bm ?_;intro ab X U G M N O;refine eK ?_;refine A1 [_,_,_,_,_,_,_,_,_,_,_,_] Ac rfl rfl rfl ab rfl rfl rfl (cC rfl (HE.out _ Ae) ?_);rintro _ c1 ⟨⟨⟩,bn⟩;revert Y ab X U G M N O;refine eE bn ?_;intro Y ab X U G M N O;refine kQ (HC.out _ Ae Ae) ?_;rintro _ c2 ⟨c3,c4,⟨⟩,aj,bo,c5⟩;revert Y ab X U G M N O;refine eE bo ?_;intro Y ab X U G M N O;refine kC (HV.out _ _ _ _ _ _ _ _ Ae) ?_;rintro _ c6 ⟨⟨⟩,bp⟩;revert aj Y ab X U G M N O;refine eE bp ?_;intro aj Y ab X U G M N O;refine kQ (HS.out _ Ae Ae) ?_;rintro _ c7 ⟨c8,c9,⟨⟩,bq⟩;revert aj Y ab X U G M N O;refine eE bq ?_;intro aj Y ab X U G M N O;refine kC (ax.out _ Ae Ae) ?_;rintro _ da ⟨⟨⟩,br⟩;revert aj Y ab X U G M N O;refine eE br ?_;intro aj Y ab X U G M N O;refine kR ?_;exact ⟨rfl,X⟩
def VX (e:EX) (f:Nat) (hf:e.fuel=(f:Int)) (b6:f<=10000) (p:PG) (hp:p.wf) (ao:p.acc) (s t:SV) (a9:FitsP p.vars s) (bl:t.small) (S:nP) (va:oA) (vc:Nat) (pa:oA) (pc:Nat) (ma:oA) (mc:Nat) (ap:oA) (aw:Nat) (af:oA) (be:Nat) (aq:oA) (bf:Nat)
 (ca ta oa ax ay az:oA) (cc tc oc bm bn bo:Nat) (w:wD) (G:p.sits S w ap af aq) (M:PDsC S w p.procs af) (b7:p.vars.length<=aw) (k1:s.sits S w ca ta oa) (O:t.sits S w ax ay az) :
 Calls prog 49 #[.agg (e.cells va vc pa pc ma mc).toArray,.agg (p.cells ap aw af be aq bf).toArray,.agg (s.row ca cc ta tc oa oc).toArray,.agg (t.row ax bm ay bn az bo).toArray] w λr w'=>
  ∃q,r = .returned (.tuple #[.bool q,.int .i64 (DQ p s f).err])/\(q=true↔(DQ p s f).err=0/\(DQ p s f).st=t)/\Ext w w':=by
 have X:=Ne w;have G:=G.ltA;have M:=M.ltA;have k1:=k1.ltA;have O:=O.ltA;have HF:Hid (∀w1,p.sits (· < w.heap.size) w1 ap af aq->PDsC (· < w.heap.size) w1 p.procs af->s.sits (· < w.heap.size) w1 ca ta oa->Calls prog 48 #[.agg (p.cells ap aw af be aq bf).toArray,.agg (s.row ca cc ta tc oa oc).toArray,.int .i64 e.fuel] w1 (ResR (DQ p s f) w1)):=
  gO λw1 h1 h2 h3=>by rw [hf];exact OF p hp ao.1 ao.2.1 s a9 f b6 _ (PW p s f) _ ap aw af be aq bf ca ta oa cc tc oc w1 h1 h2 b7 h3
 have HQ:=gO (λ(u:SV) S1 a1 a2 a3 c1 c2 c3 w1 h0 h1 (h2:t.sits (· < w.heap.size) w1 ax ay az)=>VV u t h0 bl S1 _ a1 a2 a3 ax ay az c1 c2 c3 bm bn bo w1 h1 h2);generalize DQ p s f=r at *;clear hp ao a9 hf bl;unfold mE at *;obtain ⟨⟨a0,bp,bg⟩,n,er⟩:=r;obtain ⟨b4,cq,b9⟩:=t;obtain ⟨b5,cr,cb⟩:=s;simp only [SV.mk.injEq] at *;by_cases bq:er=0
 . subst bq;refine Ad func49 ntmps49 rfl rfl ?_;refine cS (eB [_,_,_,_,_,_,_,_,_,_,_,_] ?_);intro b1 w2 h4 x5 _ _;revert X G M O k1;refine eE x5 ?_;intro X G M O k1;refine eB [_,_,_,_,_,_] ?_;intro b8 w9 V cd _ _;revert h4 X G M O k1;refine eE cd ?_;intro h4 X G M O k1;refine Du [_,_,_] rfl rfl rfl ?_;intro da db br;have aa:=br.blk;dsimp only at aa;have ce:=br.ext;revert V h4 X G M O k1;refine eE ce ?_;intro V h4 X G M O k1;refine Du [_,_,_] rfl rfl rfl ?_;intro dc dd bs;have ab:=bs.blk;dsimp only at ab;have cf:=bs.ext;revert aa V h4 X G M O k1;refine eE cf ?_;intro aa V h4 X G M O k1;refine kQ (HF.out _ Ae Ae Ae) ?_;rintro _ de ⟨df,dg,ct,cu,cv,cw,⟨⟩,ag,dh,cg⟩;revert ab aa V h4 X G M O k1;refine eE cg ?_;intro ab aa V h4 X G M O k1;refine xA [_,_,_,_,_] ?_;intro di dk a4;refine Dl [_,_,_,_,_] Ac rfl rfl rfl rfl rfl rfl a4 rfl ?_;intro bt a4;have an:=a4.blk;dsimp only at an;have ch:=a4.ext;revert ag ab aa V h4 X G M O k1;refine eE ch ?_;intro ag ab aa V h4 X G M O k1;refine eK ?_;refine Aq (λwz=>Ext bt wz) 12 (.pure 0 (.pure 1 (.pure 2 (.pure 3 (.pure 4 (.pure 5 (.pure 6 (.pure 9 (.pure 10 (.fork 7 (.pure 8 (.pure 11 .tail)) .none)))))))))) mixed AU (Aa Ag) ?_
   intro ci bu _;have ac:(λwz=>Ext bt wz) ci:=bu;simp only at ac;have ah:=an;have bh:=ag;have ar:=ab;have bi:=aa;have bj:=V;have bv:=h4;have ai:=G;have aj:=M;have au:=O;have av:=k1;revert an ag ab aa V h4 X G M O k1;refine eE bu ?_;intro an ag ab aa V h4 X G M O k1;refine ⟨ac,?_⟩;refine eT ?_;refine eN rfl (xL [_,_,_] (λwz hz=>(l9 ah hz))) (eN rfl (xL [_,_,_] (λwz hz=>(l9 ar hz))) (Tq rfl Pf (Tq rfl (Db ah) ?_)));refine D2 rfl rfl rfl rfl (G6 B7) (AN AU rfl (HQ.out ⟨a0,bp,bg⟩ _ _ _ _ _ _ _ _ Ae Ae Ae) (λ_ _ ⟨_,h⟩=>⟨_,h.1⟩)) rfl ?_ aFh AC;rintro _ dl ⟨dm,⟨⟩,cj,ck⟩;revert ac an ag ab aa V h4 X G M O k1;refine eE ck ?_;intro ac an ag ab aa V h4 X G M O k1;refine ⟨ac,?_⟩;refine Tq rfl aN (Tq rfl Pa ?_);clear ah bh ar bi bj bv ai aj au av ac;refine Ar rfl ?_;refine kT ?_;exact ⟨_,rfl,by rw [cj];simp [SV.mk.injEq],X⟩
 . refine Ad func49 ntmps49 rfl rfl ?_;refine cS (eB [_,_,_,_,_,_,_,_,_,_,_,_] ?_);intro dn dp Y cl _ _;revert X G M O k1;refine eE cl ?_;intro X G M O k1;refine eB [_,_,_,_,_,_] ?_;intro dq dr N bw _ _;revert Y X G M O k1;refine eE bw ?_;intro Y X G M O k1;refine Du [_,_,_] rfl rfl rfl ?_;intro cx cy ba;have U:=ba.blk;dsimp only at U;have bx:=ba.ext;revert N Y X G M O k1;refine eE bx ?_;intro N Y X G M O k1;refine Du [_,_,_] rfl rfl rfl ?_;intro cz c0 bb;have Z:=bb.blk;dsimp only at Z;have bz:=bb.ext;revert U N Y X G M O k1;refine eE bz ?_;intro U N Y X G M O k1;refine kQ (HF.out _ Ae Ae Ae) ?_;rintro _ c4 ⟨c5,c6,cm,cn,co,cp,⟨⟩,ae,c7,b0⟩;revert Z U N Y X G M O k1;refine eE b0 ?_;intro Z U N Y X G M O k1;refine xA [_,_,_,_,_] ?_;intro c8 c9 al;refine Dl [_,_,_,_,_] Ac rfl rfl rfl rfl rfl rfl al rfl ?_;intro bc al;have am:=al.blk;dsimp only at am;have b2:=al.ext;revert ae Z U N Y X G M O k1;refine eE b2 ?_;intro ae Z U N Y X G M O k1;refine eK ?_;refine Aq (λwz=>Ext bc wz) 12 (.pure 0 (.pure 1 (.pure 2 (.pure 3 (.pure 4 (.pure 5 (.pure 6 (.pure 7 (.pure 8 (.pure 9 (.pure 10 (.pure 11 .tail)))))))))))) mixed AU (Aa Ag) ?_
   intro b3 bd _;have ak:(λwz=>Ext bc wz) b3:=bd;simp only at ak;have ad:=am;have a5:=ae;have a6:=Z;have a7:=U;have a8:=N;have bk:=Y;have ai:=G;have aj:=M;have au:=O;have av:=k1;revert am ae Z U N Y X G M O k1;refine eE bd ?_;intro am ae Z U N Y X G M O k1;refine ⟨ak,?_⟩;refine Tq rfl Pf (Tq rfl (Db ad) (Tq rfl V1 (Tq rfl Mv (L5 rfl rfl rfl rfl (IP Ae) rfl (L5 rfl rfl rfl rfl (IP Ae) rfl (L5 rfl rfl rfl rfl (IP Ae) rfl (L5 rfl rfl rfl rfl (IP Ae) rfl (Tq rfl Sh (Tq rfl Pf (Tq rfl (Db ad) (Tq rfl Pa ?_)))))))))));clear ak ad a5 a6 a7 a8 bk ai aj au av;refine Ar rfl ?_;refine kT ?_;exact ⟨_,rfl,⟨λh=>(by cases h),λh=>absurd h.1 bq⟩,X⟩
def Yb (r:Int) (h:r<=4000) (w:wD):Calls prog 117 #[.int .i64 r] w λe w'=>e = .returned (.int .i64 (Cx r))/\Ext w w':=by
 have X:=Ne w;by_cases G:r<0
 . rw [show Cx r=0 by unfold Cx;rw [AH G]];refine Ad func117 ntmps117 rfl rfl (kR ?_);exact ⟨rfl,X⟩
 . have M:r.tmod 2=r%2:=Int.tmod_eq_emod_of_nonneg Ab;have N:jo .i64 (r.tdiv 2)=r/2:=by rw [Int.tdiv_eq_ediv_of_nonneg Ab];exact gX _ Ab
   have V:0<=r/2/\r/2<=2000:=by omega
   by_cases O:r%2=1
   . rw [show Cx r=r/2+1 by unfold Cx;rw [At G,AH O]];generalize r/2=q at *;generalize r%2=m at *;refine Ad func117 ntmps117 rfl rfl (eK ?_);refine C1 (LP rfl rfl B7 M) (eK ?_);refine C1 (Il rfl rfl B7 N) (kR ?_);exact ⟨rfl,X⟩
   . rw [show Cx r = -(r/2) by unfold Cx;rw [At G,At O]];have U:KE (0-r/2) = -(r/2):=by rw [show (0:Int)-r/2 = -(r/2) by omega];exact gX _ Ab
     generalize r/2=q at *;generalize r%2=m at *;refine Ad func117 ntmps117 rfl rfl (eK ?_);refine C1 (LP rfl rfl B7 M) (eK ?_);refine C1 (Il rfl rfl B7 N) (C1 (Ma rfl) (kR ?_));rw [U];exact ⟨rfl,X⟩
def IK (h:Int) (ls:List (Int×Int)) (m:Nat):List (Int×Int):=(jj (ls.length+1)).map λj=>if m<=j then Bx h (ls.drop j) else (0,0)
def G5 (h:Int) (G:List (Int×Int)) (m:Nat):(IK h G m).length=G.length+1:=by simp [IK]
def E4 {j:Nat} (M:j<=G.length):(IK h G m)[j]? = some (if m<=j then Bx h (G.drop j) else (0,0)):=by
 unfold IK;rw [iJ,List.getElem?_range Ab];rfl
def VY (h:Int) (G:List (Int×Int)):IK h G G.length=iL (G.length+1) (0,0):=by
 apply jG;intro j;by_cases M:j<G.length+1
 . rw [E4 Ab,List.getElem?_replicate,AH M];split
   . rw [jd Ab];rfl
   . rfl
 . rw [ic (by rw [G5];omega),ic (by simp;omega)]
def Yc (U:m<G.length):(IK h G (m+1)).set m ((Bx h (G.drop (m+1))).1+G[m].1,(Bx h (G.drop (m+1))).2+G[m].2*h)=IK h G m:=by
 apply jG;intro j;by_cases N:j<=G.length
 . by_cases M:m=j
   . subst M;rw [jl (by rw [G5];omega),E4 N,AH (ip _),iB U];rfl
   . rw [iV M,E4 N,E4 N];by_cases O:m<=j
     . rw [AH O,AH Ab]
     . rw [At O,At Ab]
 . rw [ic (by rw [jx,G5];omega),ic (by rw [G5];omega)]
def PY {h:Int} (M:1<=h/\h<=2001):∀G:List (Int×Int),(∀p∈G,0<=p.1/\p.1<=p.2/\p.2<=1000)->0<=(Bx h G).1/\(Bx h G).1<=1000*G.length/\(Bx h G).1<=(Bx h G).2/\(Bx h G).2<=2001000*G.length
 | [],_=>by simp [Bx]
 | p::G,N=>by
  obtain ⟨V,X,Y,Z⟩:=PY M G (λq O=>N q (iU _ O));obtain ⟨p1,p2,U⟩:=N p je;have m1:p.2*h<=1000*2001:=Int.mul_le_mul U M.2 Ab Ab;have m2:p.2*1<=p.2*h:=Int.mul_le_mul_of_nonneg_left M.1 Ab;simp only [Bx,gV];omega
def R1 (h:Int) (ls:List (Int×Int)) (F:List (List Int)) (left:Int):List SV:=(FJ h (ls.drop F.length) left).map λs=>II (F++s)
def Yd (h:Int) (ls:List (Int×Int)) (F:List (List Int)) (xs:List Int) (k:Nat) (left:Int):List SV:=
 (Ib h (Bx h (ls.drop (F.length+1))) k left).flatMap λq=>R1 h ls (F++[xs++q.1]) q.2
def Z8 (M:F.length=G.length) (left:Int):R1 h G F left=[II F]:=by
 unfold R1;rw [M,kA];simp [FJ]
def Ye {xs:List Int} {left:Int}:Yd h G F xs 0 left=R1 h G (F++[xs]) left:=by
 simp [Yd,Ib]
def fQ (h:Int) (ls:List (Int×Int)) (c:Nat) (p:Int×Int) (left:Int):Int:=dU h (Bx h (ls.drop (c+1))) p left
def gp (h:Int) (ls:List (Int×Int)) (c:Nat) (p:Int×Int) (left:Int):Int:=eO (Bx h (ls.drop (c+1))) p left
def Yf {p:Int×Int} (N:G[F.length]? = some p) (left:Int) :
 R1 h G F left=(jj (gp h G F.length p left-fQ h G F.length p left+1).toNat).flatMap λ(m:Nat)=>Yd h G F [] (fQ h G F.length p left+m).toNat left:=by
 obtain ⟨M,O⟩:=List.getElem?_eq_some_iff.1 N;unfold R1;rw [iB M,O];simp only [FJ,List.map_flatMap,List.map_map,Yd,R1,fQ,gp,jJ,iq,gV,iG,iY];congr 1;funext m;congr 1;funext q;congr 1;funext s;simp [Function.comp]
def Yg {xs:List Int} {k:Nat} {left:Int} :
 Yd h G F xs (k+1) left=(jj (aX h (Bx h (G.drop (F.length+1))) k left-Rk h (Bx h (G.drop (F.length+1))) k left+1).toNat).flatMap λ(m:Nat)=>
  Yd h G F (xs++[Cx (Rk h (Bx h (G.drop (F.length+1))) k left+m)]) k (left-1-Rk h (Bx h (G.drop (F.length+1))) k left-m):=by
 unfold Yd;simp only [Ib,List.flatMap_assoc,List.flatMap_map];congr 1;funext m;congr 1;funext q;simp
def Yh:(Vu h G).map II=(jj ((Bx h G).2-(Bx h G).1+1).toNat).flatMap λ(m:Nat)=>R1 h G [] ((Bx h G).1+m):=by
 simp [Vu,R1,List.map_flatMap]
def K0 {f:Nat->List α} {N:Nat} {out S:List α} (h:out++(jj N).flatMap f <+: S) (G:m<N):(out++(jj m).flatMap f)++f m <+: S:=by
 refine List.IsPrefix.trans ?_ h;rw [iI,List.prefix_append_right_inj];have e:(jj m).flatMap f++f m=(jj (m+1)).flatMap f:=by rw [List.range_succ,jL];simp
 rw [e];obtain ⟨d,rfl⟩:∃d,N=m+1+d:=⟨N-(m+1),Ab⟩;rw [List.range_add (n:=m+1),jL];exact List.prefix_append _ _
def JA {f:Nat->List α} {out:List α}:(out++(jj m).flatMap f)++f m=out++(jj (m+1)).flatMap f:=by
 rw [List.range_succ,jL,iI];simp
def fB {r:Int×Int} {k left:Int} (G:0<=r.1) (M:0<=k) (N:(m:Int)<aX h r k left-Rk h r k left+1):0<=Rk h r k left+m/\Rk h r k left+m<=h-1/\k+r.1<=left-1-Rk h r k left-m/\left-1-Rk h r k left-m<=left-1:=by
 unfold aX Rk at *;omega
def R2 {l:lV} {i:Nat} {b:Value} (h:l[i]? = some b):l.set i b=l:=by
 apply jG;intro j;by_cases G:i=j
 . subst G;rw [jl (List.getElem?_eq_some_iff.1 h).1,h]
 . rw [iV G]
section
variable {tab:Tab}
def Yi {h:List lV} {j:Nat} {a b:Value} (O:∀cs∈h,cs.length=2) (M:h[j]? = some [a,b]):h.flatten[j*2]? = some a/\h.flatten[j*2+1]? = some b:=by
 have G:=(List.getElem?_eq_some_iff.1 M).1;have U:=(List.getElem?_eq_some_iff.1 M).2;obtain ⟨e,N⟩:=FE O G;rw [e,U,iI];constructor
 . rw [ik Ab,N];simp
 . rw [ik Ab,N,show j*2+1-j*2=1 by omega];simp
def LF {y:Operand} {t C D g j f:Nat} {v:Int} {xs:List (Int×Int)} {p z u:Int×Int} {i:Nat} (T:TabOk P tab) (ht:AB tab t=some (.int .i64,1)) (hx:ev l x=some (.pointer (some ⟨g,0+j*2+f,none⟩))) (hy:ev l y=some (.int .i64 v))
 (hA:ArrS CX C D w g xs) (hj:xs[j]? = some p) (hg:g<C\/D<=g) (hz:(f=0/\z=(v,p.2))\/(f=1/\z=(p.1,v))) (hi:xs[i]? = some u) (hij:j≠i) :
 BE P n l (.store t x y) ty w (GR λw'=>ArrS CX C D w' g (xs.set j z)/\Row w' ⟨g,0+i*2,none⟩ [.int .i64 u.1,.int .i64 u.2]/\Fr (· = g) w w'/\w'.heap.size=w.heap.size):=by
 obtain ⟨css,c1,c2,c3⟩:=hA.ex;have hl:=hA.lens c2 c3;have hjl:=(List.getElem?_eq_some_iff.1 hj).1;have hcj:css[j]? = some [.int .i64 p.1,.int .i64 p.2]:=by
  have h1:css[j]? = some css[j]:=gN Ab;rw [h1,show css[j]=_ from c3 j p _ hj h1]
 obtain ⟨g1,g2⟩:=Yi hl hcj;have hfl:=El hl;have hsz:css.flatten.length=css.length*2:=hfl;have hd:=D1 (P:=P) (n:=n) (l:=l) (ty:=ty) (us:=[.int .i64 v]) T ht hx hy rfl rfl rfl c1 (by rw [lJ];simp only [gV,iG];omega);unfold BE at hd ⊢;intro a dst pos after gd next Q ha hn b;refine hd a dst pos after gd next Q ha (λv' w' h=>h.elim) (λw' hP=>b w' ?_);have hP':Put w w' g (A7 css.flatten (j*2) [.int .i64 z.1,.int .i64 z.2]):=by
  have e:A7 css.flatten (0+j*2+f) [.int .i64 v]=A7 css.flatten (j*2) [.int .i64 z.1,.int .i64 z.2]:=by
   rcases hz with ⟨rfl,rfl⟩|⟨rfl,rfl⟩
   . simp only [A7,iY,jT];refine (R2 ?_).symm;rw [iV Ab];exact g2
   . simp only [A7,iY];rw [R2 g1]
  rw [<-e];exact hP
 have hA2:=TV c2 c3 hjl hg rfl hP';obtain ⟨cs,r1,r2⟩:=hA2.row (by rw [iV hij];exact hi);obtain rfl:cs=_:=r2;exact ⟨hA2,r1,hP'.fr,hP'.size⟩
end
def fC (L:List (Int×Int)) (w:wD):Ending->wD->Prop:=λe w'=> ∃g,e = .returned (.slice (some ⟨g,0,none⟩) L.length L.length)/\w.heap.size<=g/\g<w'.heap.size/\ArrS CX 0 0 w' g L/\Ext w w'
def VZ (G:List (Int×Int)) (hp:∀p∈G,0<=p.1/\p.1<=p.2/\p.2<=1000) (hn:G.length<=33) (h:Int) (hh:1<=h/\h<=2001) (la:oA) (c:Nat) (w:wD) (hs:Bds w G la) :
 Calls prog 84 #[.slice la G.length c,.int .i64 h] w (fC (IK h G 0) w):=by
 have X:=Ne w;have HP:=gO hp;replace hs:Arr (λb=>b<w.heap.size) 2 LK w G la:=by
  rcases hs with h|⟨b,o,h1,M,h3⟩
  . exact gP h
  . cases G with
    | nil=>exact gP rfl
    | cons v r=>exact gQ ⟨b,o,h1,Cs (mb (h3 0 v rfl) rfl),h3⟩
 have HX:Hid (∀w2,Ext w w2->Arr (λb=>b<w.heap.size) 2 LK w2 G la):=gO λw2 x=>hs.mono aFh (λ_ _ _ _ _ h=>l5 h x)
 clear hp hs;refine Ad func84 ntmps84 rfl rfl ?_;refine eK ?_;refine Ax (Dq (sh:=CX) (C:=0) (D:=0) (N:=G.length+1) (z:=((0,0):Int×Int)) Ac CJ rfl rfl rfl rfl AU rfl rfl Ab (λ_ _=>rfl)) rfl ?_ aFh;rintro _ w6 ⟨g1,rfl,M,h3,h4,x5⟩;have X:=X.ext x5;refine eK ?_;refine C1 (AL rfl rfl (gX _ Ab)) (C1 Pa (cT ?_));refine Au ?_;rw [<-VY h G] at M;refine AQ (ι:=Nat) (λm=>[(0,.slice la G.length c),(1,.int .i64 h),(5,.slice (some ⟨g1,0,none⟩) (G.length+1) (G.length+1)),(6,.int .i64 ((m:Int)-1))])
  (λm w'=>m<=G.length/\ArrS CX 0 0 w' g1 (IK h G m)/\Ext w w') (λm=>m) G.length sB ⟨ip _,M,X⟩ ?_
 clear M X h4;rintro m w7 ⟨hm,M,X⟩;cases m with
 | zero=>
  refine kR ?_;exact ⟨g1,by rw [G5];first|done|rfl,Ab,M.lt,M,X⟩
 | succ k=>
  have hk:k<G.length:=by omega
  obtain ⟨kb,ko,rfl,kS,Y⟩:=mw (HX.out _ X) Ab;have Z:=Y k _ (gN hk);obtain ⟨cs,ry,ae⟩:=M.row (E4 (m:=k+1) (j:=k+1) Ab);rw [AH (ip _)] at ae;obtain rfl:cs=_:=ae;have hr:=PY hh (G.drop (k+1)) (λq hq=>HP.out q (List.mem_of_mem_drop hq));have ay:(G.drop (k+1)).length<=33:=by rw [kd];omega
  have af:=HP.out _ (ig hk);have ac:=Yc (h:=h) hk;have hz:(IK h G (k+1))[k]? = some ((0,0):Int×Int):=by rw [E4 Ab,At Ab]
  have hy:(IK h G (k+1))[k+1]? = some (Bx h (G.drop (k+1))):=by rw [E4 Ab,AH (ip _)]
  have ar:=G5 h G (k+1);clear Y HP HX;generalize Bx h (G.drop (k+1))=r at *;generalize G[k]=p at *;generalize (G.drop (k+1)).length=dl at *;obtain ⟨r1,r2⟩:=r;obtain ⟨p1,p2⟩:=p;simp only at hr af ac;replace Z:Row w7 ⟨kb,ko+k*2,none⟩ [.int .i64 p1,.int .i64 p2]:=Z;replace ry:Row w7 ⟨g1,0+(k+1)*2,none⟩ [.int .i64 r1,.int .i64 r2]:=ry;obtain ⟨q,hq⟩:∃q,p2*h=q:=⟨_,rfl⟩
  have az:0<=q/\q<=2001000:=by
   rw [<-hq];have m1:p2*h<=1000*2001:=Int.mul_le_mul af.2.2 hh.2 Ab Ab;have m2:0<=p2*h:=Int.mul_nonneg Ab Ab;omega
  have an:jo .i64 (p2*h)=q:=by rw [hq];exact gX _ Ab
  rw [hq] at ac;generalize IK h G (k+1)=W at *;have ao:k<W.length:=by omega
  refine mK (m:=[(0,.slice (some ⟨kb,ko,none⟩) G.length c),(1,.int .i64 h),(5,.slice (some ⟨g1,0,none⟩) (G.length+1) (G.length+1)),(6,.int .i64 (k:Int))]) ?_ (by (refine An rfl ?_;refine An rfl ?_;refine An rfl ?_;refine B4 rfl (by go_num) ?_;exact BK));refine eK ?_;refine Aq (λV=>Ext w7 V) 14 (.pure 0 (.pure 1 (.pure 2 (.pure 3 (.pure 4 (.pure 5 (.pure 6 (.pure 7 (.pure 8 (.pure 9 (.pure 10 (.pure 11 (.pure 12 (.pure 13 .tail)))))))))))))) mixed AU (Aa (Af (Aa (Aa (Af (Aa Ag)))))) ?_;intro ap ag _;have aa:(λV=>Ext w7 V) ap:=ag;simp only at aa;have O:=Z;have ah:=ry;revert X Z M;refine eE ag ?_;intro X Z M;refine ⟨aa,?_⟩;refine eT ?_;refine Tq rfl (Ap Ac rfl rfl rfl (λV hz=>mb (l5 ah hz) rfl)) ?_;refine eT ?_;refine Tq rfl (Ap Ac rfl rfl rfl (λV hz=>mb (l5 O hz) rfl)) (Tq rfl V7 ?_);refine Ar rfl ?_;refine eK ?_;refine A6 (LF (j:=k) (i:=k+1) (f:=0) (z:=((r1+p1,0):Int×Int)) Ac rfl rfl rfl Ae hz (gQ Ab) (gP ⟨rfl,rfl⟩) hy Ab) (BH ?_);rintro _ ai ⟨aj,aq,ak,a0⟩;revert X Z;refine eF ak ?_;intro X Z;clear ry M ak;refine cT (Aq (λV=>Ext ai V) 16 (.pure 0 (.pure 1 (.pure 2 (.pure 3 (.pure 4 (.pure 5 (.pure 6 (.pure 7 (.pure 8 (.pure 9 (.pure 10 (.pure 11 (.pure 12 (.pure 13 (.pure 14 (.pure 15 .tail)))))))))))))))) mixed AU (Af (Aa (Aa (Af (Aa Ag))))) ?_);intro al ab _;have U:(λV=>Ext ai V) al:=ab
  simp only at U;have ad:=aq;have O:=Z;revert aj X;refine eE ab ?_;intro aj X;refine ⟨U,?_⟩;refine eT ?_;refine Tq rfl (Dr ad) ?_;refine eT ?_;refine Tq rfl (Dr O) (Tq rfl Mv (Tq rfl (Ik rfl rfl an) (Tq rfl V7 ?_)));refine Ar rfl ?_;refine eK ?_;refine A6 (LF (j:=k) (i:=k+1) (f:=1) (z:=((r1+p1,r2+q):Int×Int)) Ac rfl rfl rfl Ae (jl ao) (gQ Ab) (gQ ⟨rfl,rfl⟩) (by rw [iV Ab];exact hy) Ab) ?_;refine BH ?_;rintro _ au ⟨av,aw,am,ax⟩;have X:=X.fr am Ab;refine eK ?_;refine C1 (AL rfl rfl (gX _ Ab)) (C1 Pa (Ak ?_));exact AA k sB ⟨Ab,by rw [<-ac,show W.set k (r1+p1,r2+q)=(W.set k (r1+p1,0)).set k (r1+p1,r2+q) from (kL ..).symm];assumption,X⟩ Ab
def Ig:Shape Value where
 sz:=1
 rep _ _ v cs:=cs=[v]/\Value.one v=true
 len h:=by rw [h.1];rfl
 one h:=by rw [h.1];simp [h.2]
 mono h _ _:=h
 lt h:=h
structure DCx where
 y:Nat
 c:Nat
 bY:Nat
 bL:Nat
 bR:Nat
 bH:Nat
 bS:Nat
 bI:Nat
 bN:Nat
 g:Nat
 gr:Nat
 lc:Nat
 la:oA
 h:Int
 ls:List (Int×Int)
 Rt:nP
section
variable {x:DCx} {T:nP} {W W':wD}
abbrev Yj (b:Nat):Value:=.pointer (some ⟨b,0,none⟩)
abbrev DCx.capI (x:DCx):lV:=[Yj x.bS,Yj x.bY,Yj x.bL,Yj x.bR,Yj x.bH,Yj x.bN]
abbrev DCx.capN (x:DCx):lV:=[Yj x.bS,Yj x.bI,Yj x.bH,Yj x.bR,Yj x.bN]
def DCx.fix (x:DCx) (k:Nat):Prop:=x.Rt k\/k=x.bY\/k=x.bL\/k=x.bR\/k=x.bH\/k=x.bS\/k=x.bI\/k=x.bN\/k=x.gr
structure DCx.K (x:DCx) (W:wD):Prop where
 y0:Blk W x.bY [.func (.yield x.y) #[] #[]]
 l0:Blk W x.bL [.slice x.la x.ls.length x.lc]
 r0:Blk W x.bR [.slice (some ⟨x.gr,0,none⟩) (x.ls.length+1) (x.ls.length+1)]
 h0:Blk W x.bH [.int .i64 x.h]
 s0:Blk W x.bS [.slice (some ⟨x.g,0,none⟩) x.ls.length x.ls.length]
 i0:Blk W x.bI [.func (.func 115) #[] x.capI.toArray]
 n0:Blk W x.bN [.func (.func 116) #[] x.capN.toArray]
 ld:Arr x.Rt 2 LK W x.ls x.la
 rs:ArrS CX 0 0 W x.gr (IK x.h x.ls 0)
def DCx.K.fr (h:x.K W) (f:Fr T W W') (G:∀k,x.fix k -> ¬T k):x.K W':=by
 obtain ⟨M,N,O,U,V,X,Y,Z,h9⟩:=h;unfold DCx.fix at G;exact ⟨M.fr f (G _ AK),N.fr f (G _ AK),O.fr f (G _ AK),U.fr f (G _ AK),V.fr f (G _ AK),X.fr f (G _ AK),Y.fr f (G _ AK),
  Z.mono aFh (λb _ _ _ hb h=>mo h f (G b (gP hb))),h9.fr f (λk hk=>⟨Ab,λe=>G k (by simp [e]) hk⟩)⟩
instance  : LfF T W W' (x.K W) (∀k,x.fix k -> ¬T k) (x.K W'):=⟨λx s h=>Bk.DCx.K.fr h x s⟩
def DCx.L (x:DCx) (A:nP) (W:wD) (F:List (List Int)):Prop:= ∃(bl:Nat->Nat) (cs:lV),ArrS Ig 0 0 W x.g cs/\cs.length=x.ls.length /\
 (∀i xs,F[i]? = some xs->cs[i]? = some (.slice (some ⟨bl i,0,none⟩) xs.length xs.length)/\ArrS C8 0 0 W (bl i) xs/\A (bl i) /\ ¬x.fix (bl i)/\bl i≠x.g) /\
 ∀i j,i<F.length->j<F.length->bl i=bl j->i=j
def DCx.L.fr (h:x.L A W F) (f:Fr T W W') (O:A x.g) (M:∀k,A k -> ¬T k):x.L A W' F:=by
 obtain ⟨U,cs,V,X,Y,Z⟩:=h;refine ⟨U,cs,V.fr f (λk G=>⟨Ab,λe=>M k (e▸O) G⟩),X,λi xs hi=>?_,Z⟩;obtain ⟨g1,g2,N,g4⟩:=Y i xs hi;exact ⟨g1,g2.fr f (λk G=>⟨Ab,λe=>M k (e▸N) G⟩),N,g4⟩
def DCx.L.more {N:nP} (h:x.L A W F) (O:∀k,A k->N k):x.L N W F:=by
 obtain ⟨U,cs,V,X,G,Y⟩:=h;exact ⟨U,cs,V,X,λi xs M=>⟨(G i xs M).1,(G i xs M).2.1,O _ (G i xs M).2.2.1,(G i xs M).2.2.2⟩,Y⟩
def DCx.L.less (h:x.L A W (F++[z])):x.L A W F:=by
 obtain ⟨M,cs,N,O,U,V⟩:=h;refine ⟨M,cs,N,O,λi xs G=>U i xs ?_,λi j G X=>V i j (by simp;omega) (by simp;omega)⟩;rw [gW (List.getElem?_eq_some_iff.1 G).1];exact G
structure DCx.D (x:DCx) (J:(nP)->List SV->wD->Prop) (A:nP) (out:List SV) (W:wD) (F:List (List Int)):Prop where
 k:x.K W
 l:x.L A W F
 j:J A out W
 lt:∀k,A k->x.c<=k/\k<W.heap.size
 own:∀k,x.fix k->x.Rt k\/A k
 ag:A x.g
 sz:x.c<=W.heap.size
structure DCx.Ok (x:DCx):Prop where
 rt:∀k,x.Rt k->k<x.c
 h:1<=x.h/\x.h<=2001
 ls:∀p∈x.ls,0<=p.1/\p.1<=p.2/\p.2<=1000
 n:1<=x.ls.length/\x.ls.length<=33
 g:¬x.fix x.g
def DCx.grow (A:nP) (W W':wD):nP:=λk=>A k\/(W.heap.size<=k/\k<W'.heap.size)
def DCx.grow_j {out:List SV} {c:Nat} (N:EK c J) (O:J A out W) (M:∀k,A k->c<=k/\k<W.heap.size) (U:c<=W.heap.size) (f:Fr A W W'):J (DCx.grow A W W') out W':=
 N A _ out W W' O f (λk G=>(M k G).1) (λk G=>G.elim (λh=>(M k h).1) (λh=>by omega)) (λk G h=>h.elim id (λh=>by omega))
def DCx.D.grow {J:(nP)->List SV->wD->Prop} {out:List SV} {G:List (List Int)} (N:EK x.c J) (h:x.D J A out W F) (f:Fr A W W') (M:x.K W') (O:x.L (DCx.grow A W W') W' G):x.D J (DCx.grow A W W') out W' G:=
 ⟨M,O,DCx.grow_j N h.j h.lt h.sz f,λk M=>M.elim (λe=>⟨(h.lt k e).1,by have:=(h.lt k e).2;have:=f.size;omega⟩) (λe=>⟨by have:=h.sz;omega,e.2⟩),λk M=>(h.own k M).imp id gP,gP h.ag,by have:=h.sz;have:=f.size;omega⟩
def DCx.End (x:DCx) (J Jx:(nP)->List SV->wD->Prop) (S:List SV) (A:nP) (out:List SV) (G:List (List Int)->Prop):Ending->wD->Prop:=λe W'=>
 ∃q A',e = .returned (.bool q)/\(∀k,A k->A' k)/\((q=true /\ ∃F,G F/\x.D J A' out W' F)\/(q=false/\(∀k,A' k->x.c<=k) /\ ∃pre,pre <+: S/\Jx A' pre W'))
def DCx.End.ret {Jx:(nP)->List SV->wD->Prop} {out:List SV} {G:List (List Int)->Prop} (h:x.End J Jx S A out G e W'):∃v,e = .returned v:=by
 obtain ⟨_,_,h,-⟩:=h;exact ⟨_,h⟩
def DCx.end_nl {Jx:(nP)->List SV->wD->Prop} {out:List SV} {G:List (List Int)->Prop} (w:wD):¬x.End J Jx S A out G .outgrown w:=λ⟨_,_,h,_⟩=>by cases h
end
def PZ (b0:Nat) (W:wD) (vs:lV) (s:SV):Prop:= ∃a c ta tc oa oc,vs=[.agg (s.row a c ta tc oa oc).toArray]/\s.sits (λb=>b0<=b) W a ta oa
def SRes (Rt:nP) (J Jx:(nP)->List SV->wD->Prop) (A:nP) (xs:List SV) (W:wD):Ending->wD->Prop:=λe W'=>
 Keeps (λk=>A k\/Rt k) W W'/\((e = .returned (.bool true)/\J A xs W')\/(e = .returned (.bool false)/\Jx A xs W'))
def SRes.ret {G:nP} {Jx:(nP)->List SV->wD->Prop} {xs:List SV} (h:SRes G J Jx A xs w e w'):∃v,e = .returned v:=by
 obtain ⟨-,⟨h,-⟩|⟨h,-⟩⟩:=h<;>exact ⟨_,h⟩
def DCx.L.sits {x:DCx} {A:nP} {W:wD} {F:List (List Int)} (h:x.L A W F) (U:F.length=x.ls.length) (hn:1<=x.ls.length) (V:A x.g):∃b,(∃cs,ArrS Ig 0 0 W x.g cs/\cs[x.ls.length-1]? = some (.slice (some ⟨b,0,none⟩) (F.getLastD []).length (F.getLastD []).length)) /\
 (II F).sits A W (some ⟨x.g,0,none⟩) (some ⟨b,0,none⟩) none:=by
 obtain ⟨bl,cs,N,h2,O,-⟩:=h;have X:F[x.ls.length-1]? = some (F.getLastD []):=by
  rw [List.getLastD_eq_getLast?,List.getLast?_eq_getElem?,U,gN Ab];rfl
 obtain ⟨Y,Z,g3,-,-⟩:=O _ _ X;refine ⟨_,⟨cs,N,Y⟩,gQ ⟨x.g,0,rfl,V,λi xs G=>?_⟩,gQ ⟨_,0,rfl,g3,Z.blkI.row⟩,gP rfl⟩;have M:F[i]? = some xs:=by
  have:(II F).cells=F.dropLast:=rfl;rw [this] at G;rw [kk] at G;split at G
  . exact G
  . cases G
 obtain ⟨k1,k2,k3,-,-⟩:=O i xs M;obtain ⟨us,hr,hu,-⟩:=N.row k1;subst hu;exact ⟨_,_,hr,gQ ⟨_,0,rfl,k3,k2.blkI.row⟩⟩
def SV.row_of {s:SV} {ta oa:oA} {c h G k:Nat} (M:s.cells.length=n) (N:s.tin.length=m) (O:s.tout.length=k):s.row a c ta h oa G=[.slice a n c,.slice ta m h,.slice oa k G]:=by subst M N O;rfl
set_option maxHeartbeats 8000000 in
def Yk (x:DCx) (hx:x.Ok) (J Jx:(nP)->List SV->wD->Prop) (hJ:EK x.c J) (S:List SV)
 (hY:∀A pre s vs W1,(∀k,A k->x.c<=k/\k<W1.heap.size)->J A pre W1->PZ x.c W1 vs s->(pre++[s]) <+: S->YieldAt (WF none) 0 prog x.y vs.toArray W1 (SRes x.Rt J Jx A (pre++[s]) W1))
 (F:List (List Int)) (A:nP) (out:List SV) (W:wD) (left:Int) (hc:F.length=x.ls.length) (ae:∀xs∈F,xs.length<=1000) (M:x.D J A out W F) (V:(out++[II F]) <+: S) :
 Calls prog 115 #[.int .i64 F.length,.int .i64 left,pt x.bS,pt x.bY,pt x.bL,pt x.bR,pt x.bH,pt x.bN] W
  (x.End J Jx S A (out++[II F]) (λG=>G=F)):=by
 obtain ⟨d,hd⟩:∃d,x.ls.length=d+1:=⟨x.ls.length-1,by have:=hx.n.1;omega⟩
 have aw:d<=32:=by have:=hx.n.2;omega
 obtain ⟨b,⟨cs,af,ah⟩,ai⟩:=M.l.sits hc hx.n.1 M.ag;obtain ⟨us,hr,hu,-⟩:=af.row ah;subst hu;rw [hd] at hr;have am:Row W ⟨x.g,0+d*1,none⟩ [.slice (some ⟨b,0,none⟩) (F.getLastD []).length (F.getLastD []).length]:=hr;have an:((d+1:Nat):Int)-1=(d:Int):=by omega
 have Y:jo .i64 (((d+1:Nat):Int)-1)=(d:Int):=by rw [an];exact gX _ Ab
 have y0:=M.k.y0;have s0:=M.k.s0;rw [hd] at s0;have e1:(II F).cells.length=d:=by show F.dropLast.length=d;rw [kv];omega
 have e2:(II F).tin.length=(F.getLastD []).length:=rfl;have e3:(II F).tout.length=0:=rfl;have ax:(F.getLastD []).length<=1000:=by
  rw [List.getLastD_eq_getLast?];cases hF:F.getLast? with
  | none=>simp
  | some v=>exact ae v (List.mem_of_getLast? hF)
 have HC:=gO (λw1 (h:(II F).sits (λk=>k<W.heap.size) w1 (some ⟨x.g,0,none⟩) (some ⟨b,0,none⟩) none)=>
  KN (II F) _ _ _ none (d+1) (F.getLastD []).length 0 w1 Ab (λxs hx=>by have:=ae xs (List.dropLast_subset _ hx);omega) Ab Ab h)
 have aa:=ai.wide (S':=λk=>k<W.heap.size) (λk N=>(M.lt k N).2);have ao:=gO hY;have HD:=gO M;rw [SV.row_of e1 e2 e3] at HC;rw [hc,hd];generalize (F.getLastD []).length=ll at *;have X:=Ne W;refine Ad func115 ntmps115 rfl rfl (eK ?_);refine Aq (λwz=>Ext W wz) 10 (.pure 0 (.pure 1 (.pure 2 (.pure 3 (.pure 4 (.pure 5 (.pure 6 (.pure 7 (.pure 8 (.pure 9 .tail)))))))))) mixed AU (Aa (Aa Ag)) ?_;intro w1 x2 _;have aj:(λwz=>Ext W wz) w1:=x2;simp only at aj;have Z:=s0;have ab:=am;revert y0 aa X;refine eY x2 ?_;intro z4 y0 aa X;refine ⟨aj,(Tq rfl (Db Z) (Tq rfl Mv (Tq rfl (AL (c:=(d:Int)) rfl rfl Y) (Tq rfl (DM (m:=d) Ac rfl rfl rfl rfl rfl Ab) (Tq rfl (Db Z) (Tq rfl Mv (Tq rfl (AL (c:=(d:Int)) rfl rfl Y) (Tq rfl Pi (Tq rfl (Ap Ac rfl rfl rfl (λwz hz=>mb (l5 ab hz) rfl)) (Tq rfl Pa (Ar rfl (C1 Pa (cT (Aj (QJ (λwz=>Ext w1 wz) 5 (.pure 0 (.pure 1 (.pure 2 (.pure 3 (.fork 4 .tail .none))))) mixed AU (Aa (Aa Ag)) (Bw (Bw (JX DCx.end_nl))) ?_)))))))))))))))⟩;intro w3 x3 _;refine ⟨x3,(GU rfl (Ap Ac rfl rfl rfl (λwz hz=>l7 (l9 y0 hz) rfl)) rfl (GU rfl (Av rfl) rfl (GU rfl (Av rfl) rfl (GU rfl (D3 [.slice (some ⟨x.g,0,none⟩) d (d+1),.slice (some ⟨b,0,none⟩) ll ll,.slice none 0 0] Ac CJ rfl rfl rfl rfl) rfl (PA rfl rfl (AN AU rfl (HC.out _ (aa.ext x3)) (λ_ _ h=>h.ret)) rfl ?_ aFh Pv)))))⟩;rintro _ w4 ⟨ca,cc,ta,tc,oa,oc,⟨⟩,ap,x4⟩;have ak:=mh x3 x4;refine ⟨ak,(T2 rfl ?_)⟩;have X4:=X.trans ak;have au:=X4.size;have M:=HD.out
 have U:∀k,DCx.grow A W w4 k->x.c<=k/\k<w4.heap.size:=λk N=>N.elim (λh=>⟨(M.lt k h).1,by have:=(M.lt k h).2;omega⟩) (λh=>⟨by have:=M.sz;omega,h.2⟩)
 have J4:=DCx.grow_j hJ M.j M.lt M.sz (lX X4);have O:∀k,A k->DCx.grow A W w4 k:=λk h=>gP h
 have av:=M.sz;refine Mw rfl rfl (ao.out _ out (II F) [_] w4 U J4 ⟨ca,cc,ta,tc,oa,oc,rfl,mT ap (λb hb=>by have:=x3.size;have:=X.size;omega)⟩ V) (λ_ _ h=>h.ret) rfl ?_;rintro v w6 ⟨ac,aq⟩;refine WS (Bw (Bw (JX DCx.end_nl))) rfl ?_;have hT:∀k,x.fix k -> ¬ ¬(DCx.grow A W w4 k\/x.Rt k):=λk N e=>e ((M.own k N).elim gQ (λh=>gP (gP h)))
 have K6:=(M.k.fr (T:=λ_=>False) (lX X4) (λ_ _ h=>h)).fr ac hT;have L6:=((M.l.fr (T:=λ_=>False) (lX X4) M.ag (λ_ _ h=>h)).fr ac M.ag (λk N e=>e (gP (gP N)))).more O;have ay:=ac.size;have al:=M.own;have ar:=M.ag;rcases aq with ⟨⟨⟩,ad⟩|⟨⟨⟩,ad⟩
 . refine kR ?_;exact ⟨true,_,rfl,O,gP ⟨rfl,F,rfl,K6,L6,ad,λk N=>⟨(U k N).1,by have:=(U k N).2;omega⟩,λk N=>(al k N).imp id (O k),O _ ar,Ab⟩⟩
 . refine kR ?_;exact ⟨false,_,rfl,O,gQ ⟨rfl,λk N=>(U k N).1,_,V,ad⟩⟩
abbrev DCx.argL (x:DCx) (c:Nat) (left:Int):lV:=[.int .i64 c,.int .i64 left,.pointer (some ⟨x.bS,0,none⟩),.pointer (some ⟨x.bY,0,none⟩),.pointer (some ⟨x.bL,0,none⟩),.pointer (some ⟨x.bR,0,none⟩),.pointer (some ⟨x.bH,0,none⟩),.pointer (some ⟨x.bN,0,none⟩)]
abbrev DCx.argN (x:DCx) (c i:Nat) (left:Int):lV:=[.int .i64 c,.int .i64 i,.int .i64 left,.pointer (some ⟨x.bS,0,none⟩),.pointer (some ⟨x.bI,0,none⟩),.pointer (some ⟨x.bH,0,none⟩),.pointer (some ⟨x.bR,0,none⟩),.pointer (some ⟨x.bN,0,none⟩)]
def DCx.CL (x:DCx) (J Jx:(nP)->List SV->wD->Prop) (S:List SV) (N:Nat):Prop:=
 ∀(F:List (List Int)) (A:nP) (out:List SV) (W:wD) (left:Int),(x.ls.length-F.length)*1002<N->F.length<=x.ls.length->(∀xs∈F,xs.length<=1000)->0<=left->left<=70000000->x.D J A out W F->(out++R1 x.h x.ls F left) <+: S ->
  Calls prog 115 (x.argL F.length left).toArray W (x.End J Jx S A (out++R1 x.h x.ls F left) (λG=>G=F))
def DCx.CN (x:DCx) (J Jx:(nP)->List SV->wD->Prop) (S:List SV) (N:Nat):Prop:=
 ∀(F:List (List Int)) (zs:List Int) (i:Nat) (A:nP) (out:List SV) (W:wD) (left:Int),(x.ls.length-F.length)*1002-1-i<N->F.length<x.ls.length->(∀xs∈F,xs.length<=1000)->zs.length<=1000->i<=zs.length->0<=left->left<=70000000->x.D J A out W (F++[zs]) ->
  (out++Yd x.h x.ls F (zs.take i) (zs.length-i) left) <+: S ->
  Calls prog 116 (x.argN F.length i left).toArray W (x.End J Jx S A (out++Yd x.h x.ls F (zs.take i) (zs.length-i) left) (λG=> ∃ys,G=F++[ys]/\ys.length=zs.length/\ys.take i=zs.take i))
section
variable {x:DCx} {Jx:(nP)->List SV->wD->Prop}
def DCx.Ok.rest (G:x.Ok) (c:Nat):0<=(Bx x.h (x.ls.drop c)).1/\(Bx x.h (x.ls.drop c)).1<=33000/\(Bx x.h (x.ls.drop c)).2<=66033000/\(Bx x.h (x.ls.drop c)).1<=(Bx x.h (x.ls.drop c)).2:=by
 have N:=PY G.h (x.ls.drop c) (λp M=>G.ls p (List.mem_of_mem_drop M));have O:(x.ls.drop c).length<=33:=by rw [kd];have:=G.n.2;omega
 omega
def DCx.K.rowR (h:x.K w) {c:Nat} (M:c<=x.ls.length):Row w ⟨x.gr,0+c*2,none⟩ [.int .i64 (Bx x.h (x.ls.drop c)).1,.int .i64 (Bx x.h (x.ls.drop c)).2]:=by
 obtain ⟨cs,N,G⟩:=h.rs.row (E4 (m:=0) (j:=c) M);rw [AH (ii _)] at G;obtain rfl:cs=_:=G;exact N
def DCx.L.at {A:nP} {W:wD} {F:List (List Int)} {zs:List Int} (h:x.L A W (F++[zs])):∃b,Row W ⟨x.g,0+F.length*1,none⟩ [.slice (some ⟨b,0,none⟩) zs.length zs.length]/\ArrS C8 0 0 W b zs/\A b /\ ¬x.fix b/\b≠x.g /\
 ∀(W':wD) (ys:List Int),Fr (· = b) W W'->ArrS C8 0 0 W' b ys->ys.length=zs.length->x.L A W' (F++[ys]):=by
 obtain ⟨U,cs,V,h2,X,Y⟩:=h;obtain ⟨Z,g2,g3,g4,N⟩:=X F.length zs AK;obtain ⟨us,hr,hu,-⟩:=V.row Z;subst hu;refine ⟨U F.length,hr,g2,g3,g4,N,λW' ys f hy hl=>⟨U,cs,V.fr f (λk O=>⟨Ab,λe=>N (O.symm.trans e)⟩),h2,λi xs G=>?_,λi j G hj=>Y i j (by simpa using G) (by simpa using hj)⟩⟩;by_cases M:i<F.length
 . rw [gW M] at G;obtain ⟨k1,k2,k3,k4,k5⟩:=X i xs (by rw [gW M];exact G);refine ⟨k1,k2.fr f (λk O=>⟨Ab,λe=>?_⟩),k3,k4,k5⟩;have:=Y i F.length (by simp;omega) AK (e.symm.trans O);omega
 . obtain rfl:i=F.length:=by
    have:=(List.getElem?_eq_some_iff.1 G).1;simp at this;omega
   simp only [List.getElem?_concat_length,gU] at G;subst G;exact ⟨by rw [hl];exact Z,hy,g3,g4,N⟩
def DCx.L.snoc {N:nP} {zs:List Int} {b:Nat} {h:Nat->Nat} {cs:lV} (Y:cs.length=x.ls.length)
 (V:∀i xs,F[i]? = some xs->cs[i]? = some (.slice (some ⟨h i,0,none⟩) xs.length xs.length)/\ArrS C8 0 0 w (h i) xs/\A (h i) /\ ¬x.fix (h i)/\h i≠x.g)
 (Z:∀i j,i<F.length->j<F.length->h i=h j->i=j) (hF:F.length<x.ls.length) (f:Fr (· = x.g) w w') (O:∀k,A k->N k) (hb:N b /\ ¬x.fix b/\b≠x.g) (hn:¬A b) (hz:ArrS C8 0 0 w' b zs)
 (hs:ArrS Ig 0 0 w' x.g (cs.set F.length (.slice (some ⟨b,0,none⟩) zs.length zs.length))):x.L N w' (F++[zs]):=by
 have M:∀i,i<F.length->h i≠b:=λi G e=>hn (e▸(V i _ (gN G)).2.2.1)
 refine ⟨λi=>if i=F.length then b else h i,_,hs,by simp [Y],λi xs G=>?_,λi j G hj=>?_⟩
 . by_cases U:i<F.length
   . rw [gW U] at G;obtain ⟨k1,k2,k3,k4,X⟩:=V i xs G;simp only [At (show i≠F.length by omega)];rw [iV Ab];exact ⟨k1,k2.fr f (λk hk=>⟨Ab,λe=>X (e.symm.trans hk)⟩),O _ k3,k4,X⟩
   . obtain rfl:i=F.length:=by
      have:=(List.getElem?_eq_some_iff.1 G).1;simp at this;omega
     simp only [List.getElem?_concat_length,gU] at G;subst G;simp only [if_true];rw [jl Ab];exact ⟨rfl,hz,hb⟩
 . simp only [iq,gV,iG] at G hj;dsimp only;split<;>split
   . omega
   . intro e;exact absurd e.symm (M j Ab)
   . intro e;exact absurd e (M i Ab)
   . exact Z i j Ab Ab
def DCx.D.ext {out:List SV} (G:EK x.c J) (h:x.D J A out w F) (X:Ext w w'):x.D J (DCx.grow A w w') out w' F:=
 h.grow G (lX X) (h.k.fr (T:=λ_=>False) (lX X) (λ_ _ h=>h)) ((h.l.fr (T:=λ_=>False) (lX X) h.ag (λ_ _ h=>h)).more (λ_ h=>gP h))
end
set_option maxHeartbeats 8000000 in
def Z9 (x:DCx) (hx:x.Ok) (J Jx:(nP)->List SV->wD->Prop) (hJ:EK x.c J) (S:List SV) (N:Nat) (HL:x.CL J Jx S N) (HN:x.CN J Jx S N):x.CN J Jx S (N+1):=by
 intro F zs i A out W left hm hF ao bc hi h0 h1 M O;obtain ⟨b,hr,Y,hb,ag,ap,Z⟩:=M.l.at;have s0:=M.k.s0;have aq:(F++[zs]).length=F.length+1:=by simp
 by_cases hk:i=zs.length
 . subst hk;have i0:=M.k.i0;rw [jw,im,Ye] at O ⊢;have HX:=gO (HL (F++[zs]) A out W left (by rw [aq];omega) (by rw [aq];omega) (λxs bd=>by
    rcases i6.1 bd with h|h
    . exact ao xs h
    . rw [iu.1 h];exact bc) h0 h1 M O)
   rw [aq] at HX;have hn:=hx.n;clear M O Z ag hb ap HL HN hJ ao Y;refine Ad func116 ntmps116 rfl rfl ?_;refine eK ?_;refine Ax (A8 (fi:=[]) (ca:=x.capI) AU rfl rfl HX.out (λ_ _ h=>h.ret)) rfl ?_ aFh;rintro _ w5 ⟨q1,bw,⟨⟩,h3,h4⟩;refine kR ?_;exact ⟨_,_,rfl,h3,h4.imp (λ⟨e,F',e2,hd⟩=>⟨e,F',⟨zs,e2,rfl,by rw [im]⟩,hd⟩) id⟩
 . obtain ⟨k,be⟩:∃k,zs.length-i=k+1:=⟨zs.length-i-1,Ab⟩
   have ek:(zs.length:Int)-1-i=k:=by omega
   rw [be] at O ⊢;rw [Yg] at O ⊢;have ae:=M.k.h0;have r0:=M.k.r0;have ry:=M.k.rowR (c:=F.length+1) Ab;obtain ⟨r1,r2,r3,r4⟩:=hx.rest (F.length+1);have hh:=hx.h;have hn:=hx.n;have ar:=gO (λ(m:Nat)=>fB (h:=x.h) (r:=Bx x.h (x.ls.drop (F.length+1))) (k:=k) (left:=left) (m:=m) r1 Ab);obtain ⟨q,hq⟩:∃q,(k:Int)*x.h=q:=⟨_,rfl⟩
   have bf:0<=q/\q<=2001000:=by
    rw [<-hq];have m1:(k:Int)*x.h<=1000*2001:=Int.mul_le_mul Ab hh.2 Ab Ab;have m2:0<=(k:Int)*x.h:=Int.mul_nonneg Ab Ab;omega
   have ay:jo .i64 (((zs.length:Int)-1-i)*x.h)=q:=by rw [ek,hq];exact gX _ Ab
   have az:Rk x.h (Bx x.h (x.ls.drop (F.length+1))) k left=max 0 (left-1-q-(Bx x.h (x.ls.drop (F.length+1))).2):=by unfold Rk;rw [hq]
   have a0:aX x.h (Bx x.h (x.ls.drop (F.length+1))) k left=min (x.h-1) (left-1-k-(Bx x.h (x.ls.drop (F.length+1))).1):=rfl;have HP:=gO O;have HD:=gO M;generalize Rk x.h (Bx x.h (x.ls.drop (F.length+1))) k left=V at *;generalize aX x.h (Bx x.h (x.ls.drop (F.length+1))) k left=hi at *;generalize Bx x.h (x.ls.drop (F.length+1))=r at *;obtain ⟨ra,rb⟩:=r;simp only at r1 r2 r3 r4 az a0 ry;have au:=gO HN;clear O M Z ag hb ap HL HN Y hq;have X:=Ne W;refine Ad func116 ntmps116 rfl rfl ?_;refine eK ?_;refine C1 (AL rfl rfl (gX _ Ab)) (C1 Mv (C1 (AL rfl rfl (gX _ Ab)) ?_));refine eK ?_;refine Aq (λwz=>Ext W wz) 12 (.pure 0 (.pure 1 (.pure 2 (.pure 3 (.pure 4 (.pure 5 (.pure 6 (.pure 7 (.pure 8 (.pure 9 (.pure 10 (.pure 11 .tail)))))))))))) mixed AU (Aa Ag) ?_;intro av a1 _;have ah:(λwz=>Ext W wz) av:=a1;simp only at ah;have aa:=hr;have af:=s0;have U:=ae;have ai:=r0;have ab:=ry;revert hr s0 ae r0 ry X;refine eY a1 ?_;intro bx hr s0 ae r0 ry X;refine ⟨ah,?_⟩;refine Tq rfl Mv (Tq rfl (AL rfl rfl (gX _ Ab)) (Tq rfl Mv (Tq rfl (Ap Ac rfl rfl rfl (λwz Y=>l7 (l9 U Y) rfl)) (Tq rfl (Ik rfl rfl ay) (Tq rfl (AL rfl rfl (gX _ Ab)) ?_)))));refine eT ?_;refine Tq rfl (Dr ab) ?_;clear ah aa af U ai ab;refine Ar rfl (C1 (AL rfl rfl (gX _ Ab)) (C1 (TK (m:=V) rfl rfl Ab) ?_));refine eK ?_;refine Aq (λwz=>Ext av wz) 13 (.pure 0 (.pure 1 (.pure 2 (.pure 3 (.pure 4 (.pure 5 (.pure 6 (.pure 7 (.pure 8 (.pure 9 (.pure 10 (.pure 11 (.pure 12 .tail))))))))))))) mixed AU (Aa Ag) ?_;intro bg a2 _;have aj:(λwz=>Ext av wz) bg:=a2;simp only at aj;have aa:=hr;have af:=s0;have U:=ae
   have ai:=r0;have ab:=ry;revert hr s0 ae r0 ry X;refine eY a2 ?_;intro bz hr s0 ae r0 ry X;refine ⟨aj,?_⟩;refine Tq rfl (Ap Ac rfl rfl rfl (λwz Y=>l7 (l9 U Y) rfl)) (Tq rfl (AL rfl rfl (gX _ Ab)) (Tq rfl Mv (Tq rfl (AL rfl rfl (gX _ Ab)) (Tq rfl Mv (Tq rfl (AL rfl rfl (gX _ Ab)) ?_)))));refine eT ?_;refine Tq rfl (Ap Ac rfl rfl rfl (λwz Y=>mb (l5 ab Y) rfl)) (Tq rfl (AL rfl rfl (gX _ Ab)) ?_);clear aj aa af U ai ab;refine Ar rfl (C1 (PL (m:=hi) rfl rfl Ab) ?_);refine eK ?_;refine C1 (AL rfl rfl (gX _ Ab)) (C1 V7 (C1 Mv (cT ?_)));have HD:=HD.out.ext hJ X;have br:0<=V:=by omega
   clear ae r0 ry s0 hr ay az a0 bf;refine Au ?_;refine AQ (ι:=Nat×(nP)×List Int) (λy=>[(0,.int .i64 F.length),(1,.int .i64 i),(2,.int .i64 left),(3,pt x.bS),(7,pt x.bN),(13,.int .i64 V),(67,.int .i64 (hi-V+1)),(68,.int .i64 y.1)])
    (λy w'=>y.1<=(hi-V+1).toNat/\y.2.2.length=zs.length/\y.2.2.take i=zs.take i/\(∀k,A k->y.2.1 k)/\x.D J y.2.1 (out++(jj y.1).flatMap λ(m:Nat)=>Yd x.h x.ls F (zs.take i++[Cx (V+m)]) k (left-1-V-m)) w' (F++[y.2.2]))
    (λy=>(hi-V+1).toNat-y.1) (0,_,zs) sB ⟨ii _,rfl,rfl,λ_ h=>gP h,by rw [List.range_zero,List.flatMap_nil,kH];exact HD⟩ ?_
   clear HD X;rintro ⟨m,B,ys⟩ w7 ⟨bh,al,aw,am,M⟩;simp only at bh al aw am M;refine mK (m:=[(0,.int .i64 F.length),(1,.int .i64 i),(2,.int .i64 left),(3,pt x.bS),(7,pt x.bN),(13,.int .i64 V),(67,.int .i64 (hi-V+1)),(68,.int .i64 m)]) ?_ sB;by_cases bi:m<(hi-V+1).toNat
   . obtain ⟨b,hr,Y,hb,ag,ap,Z⟩:=M.l.at;have b0:=ar.out m Ab;have s0:=M.k.s0;have n0:=M.k.n0;have b1:=(M.lt b hb).2;have HD:=gO M;have HU:=gO Z;have HF:=gO ag;rw [al] at hr;have bj:i<ys.length:=by omega
     clear M Z ag;have X7:=lZ (λk=>k=b) w7;refine eK ?_;refine Aq (λwz=>Ext w7 wz) 9 (.pure 0 (.pure 1 (.pure 2 (.pure 3 (.pure 4 (.pure 5 (.pure 6 (.pure 7 (.fork 8 .tail .none))))))))) mixed AU (Aa (Af (Aa (Aa (Af (Aa Ag)))))) ?_;intro bk a3 _;have ac:(λwz=>Ext w7 wz) bk:=a3;simp only at ac;have aa:=hr;have bs:=Y;have af:=s0;have bt:=n0;revert hr Y s0 n0 X7;refine eY a3 ?_;intro b2 hr Y s0 n0 X7;refine ⟨ac,?_⟩;refine eT ?_;refine Tq rfl (Ap Ac rfl rfl rfl (λwz Y=>mb (l5 aa Y) rfl)) ?_;refine eT ?_;refine tC rfl rfl (Yb (V+m) Ab _) ?_;rintro _ b3 ⟨⟨⟩,bl⟩;revert ac hr Y s0 n0 X7;refine eY bl ?_;intro b4 ac hr Y s0 n0 X7;refine ⟨ac,?_⟩;refine Ar rfl (C1 Pi (A6 (Cj (sh:=C8) (j:=i) (z:=Cx (V+m)) (us:=[_]) Ac rfl rfl rfl rfl rfl rfl Ae bj (gQ Ab) rfl) (BH ?_)));rintro _ ad ⟨b5,ak,bu⟩;have bv:=ak.size;have hr:=mo hr ak (by simp only;omega);clear Y s0 n0;have X7:=X7.fr ak Ab;refine cT ?_;have b6:=X7.size;have M:=HD.out;have a4:∀k,B k->DCx.grow B w7 ad k:=λ_ h=>gP h
     have ax:x.D J (DCx.grow B w7 ad) _ ad (F++[ys.set i (Cx (V+m))]):=M.grow hJ (X7.weaken λk (e:k=b)=>by subst e;exact hb) (M.k.fr X7 (λk hk e=>HF.out (e▸hk))) ((HU.out ad _ X7 Ae AK).more a4);have a5:(ys.set i (Cx (V+m))).length=zs.length:=by simp [al]
     have a6:(ys.set i (Cx (V+m))).length-(i+1)=k:=by omega
     have a7:(ys.set i (Cx (V+m))).take (i+1)=zs.take i++[Cx (V+m)]:=by
      rw [gS (by rw [a5];omega),List.getElem_set_self,List.take_set_of_le (ip _),aw]
     have HX:=gO (au.out F (ys.set i (Cx (V+m))) (i+1) _ _ ad (left-1-V-m) Ab hF ao Ab Ab Ab Ab ax (by rw [a7,a6];exact K0 HP.out bi));rw [a7,a6,JA] at HX;have n0:=ax.k.n0;clear M HU HF ax X7 a4;refine eK ?_;refine C1 (AL rfl rfl (gX _ Ab)) (C1 Mv (C1 (AL rfl rfl (gX _ Ab)) (C1 Mv (C1 (AL rfl rfl (gX _ Ab)) ?_))));refine Ax (A8 (fi:=[]) (ca:=x.capN) AU rfl rfl HX.out (λ_ _ h=>h.ret)) rfl ?_ aFh;rintro _ b7 ⟨b8,an,⟨⟩,a8,bm⟩;refine C1 Pt (cT ?_);have a9:∀k,A k->an k:=λk h=>a8 k (gP (am k h))
     obtain ⟨rfl,G,⟨us,rfl,ba,bn⟩,bo⟩|⟨rfl,bp,bq⟩:=bm
     . clear a8 am ar HP HX au;rw [a5] at ba;have bb:us.take i=zs.take i:=by
        have:=congrArg (List.take i) bn;rw [List.take_take,kY (Nat.le_succ i),List.take_left' (by rw [iO];omega)] at this;exact this
       refine Ba rfl (Ao (Ah (Ai (Al (C1 V7 (C1 Mv (Ak ?_)))))));exact AA (m+1,an,us) sB ⟨by simp only;omega,ba,bb,a9,bo⟩ (by simp only;omega)
     . refine kR ?_;exact ⟨false,_,rfl,a9,gQ ⟨rfl,bp,bq⟩⟩
   . obtain rfl:m=(hi-V+1).toNat:=by omega
     clear HP ar au;refine kR ?_;exact ⟨true,B,rfl,am,gP ⟨rfl,_,⟨ys,rfl,al,aw⟩,M⟩⟩
def dB {n M:Int} (N:1<=h) (O : -M<=n) (U:n<=M) : -M<=n.tdiv h/\n.tdiv h<=M:=by
 rcases Int.le_total 0 n with G|G
 . rw [Int.tdiv_eq_ediv_of_nonneg G];have a:=Int.ediv_nonneg G (show 0<=h by omega);have b:=Int.ediv_le_self h G;omega
 . have e:n.tdiv h = -((-n)/h):=by
    rw [<-Int.tdiv_eq_ediv_of_nonneg (show 0 <= -n by omega),Int.neg_tdiv,Int.neg_neg]
   rw [e];have a:=Int.ediv_nonneg (show 0 <= -n by omega) (show 0<=h by omega);have b:=Int.ediv_le_self h (show 0 <= -n by omega);omega
set_option maxHeartbeats 8000000 in
def aA (x:DCx) (hx:x.Ok) (J Jx:(Nat->Prop)->List SV->World->Prop) (hJ:EK x.c J) (S:List SV)
 (hY:∀A pre s vs W1,(∀k,A k->x.c<=k/\k<W1.heap.size)->J A pre W1->PZ x.c W1 vs s->(pre++[s]) <+: S->YieldAt (WF none) 0 Tryz.prog x.y vs.toArray W1 (SRes x.Rt J Jx A (pre++[s]) W1))
 (N:Nat) (HN:x.CN J Jx S N):x.CL J Jx S (N+1):=by
 intro F A out W left hm hF hFl h0 h1 hD hpre
 by_cases hc:F.length=x.ls.length
 . rw [Z8 hc] at hpre ⊢
   exact Yk x hx J Jx hJ S hY F A out W left hc hFl hD hpre
 . have hlt:F.length<x.ls.length:=by omega
   have hp:x.ls[F.length]? = some x.ls[F.length]:=gN hlt;rw [Yf hp] at hpre ⊢;have hpb:=hx.ls _ (ig hlt);have h0':=hD.k.h0;have r0:=hD.k.r0;have s0:=hD.k.s0;have l0:=hD.k.l0;have ry:=hD.k.rowR (c:=F.length+1) (by omega);obtain ⟨kb,ko,hla,-,hk⟩:=mw hD.k.ld (by omega);have rx:Row W ⟨kb,ko+F.length*2,none⟩ [.int .i64 x.ls[F.length].1,.int .i64 x.ls[F.length].2]:=hk F.length _ hp;rw [hla] at l0;obtain ⟨r1,r2,r3,r4⟩:=hx.rest (F.length+1);have hh:=hx.h;have hn:=hx.n;have HP:=gO hpre;have HD:=gO hD;have HL2:=gO HN;have hgf:=hx.g;have HR:=gO hx.rt
   unfold fQ gp dU eO at HP ⊢
   clear hpre hD HN hk hY hx hla hc
   generalize x.ls[F.length]=p at *
   generalize Bx x.h (x.ls.drop (F.length+1))=r at *
   obtain ⟨ra,rb⟩:=r;obtain ⟨pa,pb⟩:=p;simp only at r1 r2 r3 r4 rx ry hpb HP ⊢;obtain ⟨q,hq⟩:∃q,(left-rb+x.h-1).tdiv x.h=q:=⟨_,rfl⟩
   have hqb : -200000000<=q/\q<=200000000:=by
    rw [<-hq]
    exact dB hh.1 (by omega) (by omega)
   have hqw:jo .i64 ((left-rb+x.h-1).tdiv x.h)=q:=by rw [hq];exact gX _ (by omega)
   have V:x.h≠0:=by omega
   rw [hq] at HP ⊢;obtain ⟨lo,hlo⟩:∃lo,max pa q=lo:=⟨_,rfl⟩;obtain ⟨hi,hhi⟩:∃hi,min pb (left-ra)=hi:=⟨_,rfl⟩;rw [hlo,hhi] at HP ⊢;have X:=Ne W;refine Ad Tryz.func115 Tryz.ntmps115 rfl rfl ?_
   focus
    refine cS (C1 Pa (cT (Aj (cS (C1 Mv (C1 (Pl s0) (C1 Pz (C1 V1 (cT (Dz (Ao ?_)))))))))));refine Ai (Aj ?_);refine Aq (λwz=>Ext W wz) 18 (.pure 0 (.pure 1 (.pure 2 (.pure 3 (.pure 4 (.pure 5 (.pure 6 (.pure 7 (.pure 8 (.pure 9 (.pure 10 (.pure 11 (.pure 12 (.pure 13 (.pure 14 (.pure 15 (.pure 16 (.pure 17 .tail)))))))))))))))))) mixed (by kernel_rfl) (Aa Ag) ?_;intro w1 x2 _;have O:(λwz=>Ext W wz) w1:=x2;simp only at O;have a:=h0';have f:=r0;have b:=s0;have i:=l0;have o:=ry;have t:=rx;replace h0':=l9 h0' x2;replace r0:=r0.ext x2;replace s0:=s0.ext x2;replace l0:=l0.ext x2;replace ry:=ry.ext x2;replace rx:=rx.ext x2;replace X:=X.ext x2;clear x2;refine ⟨O,?_⟩;refine Tq rfl (Db i) (Tq rfl Mv (Tq rfl Pi (Tq rfl Pg (Tq rfl (Ap Ac rfl rfl rfl (λwz hz=>mb (l5 t hz) rfl)) (Tq rfl Mv (Tq rfl (Db f) (Tq rfl Mv (Tq rfl V7 (Tq rfl Pi (Tq rfl Pf (Tq rfl (Dr o) ?_)))))))))));refine Tq rfl (AL rfl rfl (gX _ (by omega))) ?_;refine Tq rfl (Ap Ac rfl rfl rfl (λwz hz=>l7 (l9 a hz) rfl)) (Tq rfl V7 ?_);refine Tq rfl (AL rfl rfl (gX _ (by omega))) ?_;refine Tq rfl (Ap Ac rfl rfl rfl (λwz hz=>l7 (l9 a hz) rfl)) (Tq rfl (Il rfl rfl V hqw) ?_);clear O a f b i o t;refine Ar rfl (C1 (TK (m:=lo) rfl rfl hlo) (C1 Pa (cT (Aj ?_))))
    refine Aq (λwz=>Ext w1 wz) 13 (.pure 0 (.pure 1 (.pure 2 (.pure 3 (.pure 4 (.pure 5 (.pure 6 (.pure 7 (.pure 8 (.pure 9 (.pure 10 (.pure 11 (.pure 12 .tail))))))))))))) mixed (by kernel_rfl) (Aa Ag) ?_;intro w5 x6 _;have Q:(λwz=>Ext w1 wz) w5:=x6;simp only at Q;have a:=h0';have f:=r0;have b:=s0;have i:=l0;have o:=ry;have t:=rx;replace h0':=l9 h0' x6;replace r0:=r0.ext x6;replace s0:=s0.ext x6;replace l0:=l0.ext x6;replace ry:=ry.ext x6;replace rx:=rx.ext x6;replace X:=X.ext x6;clear x6;refine ⟨Q,?_⟩;refine Tq rfl (Db i) (Tq rfl Mv (Tq rfl Pi (Tq rfl Pf (Tq rfl (Dr t) (Tq rfl Mv (Tq rfl (Db f) (Tq rfl Mv (Tq rfl V7 (Tq rfl Pi (Tq rfl Pg (Tq rfl (Ap Ac rfl rfl rfl (λwz hz=>mb (l5 o hz) rfl)) ?_)))))))))));refine Tq rfl (AL rfl rfl (gX _ (by omega))) ?_;clear Q a f b i o t;refine Ar rfl (C1 (PL (m:=hi) rfl rfl hhi) (C1 Pa (cT (Aj (cS (C1 Mv (C1 Mv ?_)))))));refine C1 (AL rfl rfl (gX _ (by omega))) ?_;refine C1 V7 (C1 Mv (cT ?_));rotate_left 1
   have hD:=HD.out.ext hJ X
   have ac:pa<=lo:=by omega
   have ad:hi<=pb:=by omega
   clear HD X rx ry r0 h0' s0 l0 hqw hq hlo hhi hqb;refine Au ?_;refine AQ (ι:=Nat×(Nat->Prop)) (λy=>[(0,.int .i64 F.length),(1,.int .i64 left),(2,.pointer (some ⟨x.bS,0,none⟩)),(7,.pointer (some ⟨x.bN,0,none⟩)),(13,.int .i64 lo),(71,.int .i64 (hi-lo+1)),(72,.int .i64 y.1)])
    (λy w'=>y.1<=(hi-lo+1).toNat/\(∀k,A k->y.2 k)/\x.D J y.2 (out++(jj y.1).flatMap λ(m:Nat)=>Yd x.h x.ls F [] (lo+m).toNat left) w' F)
    (λy=>(hi-lo+1).toNat-y.1) (0,_) (by (refine An rfl ?_;refine An rfl ?_;refine An rfl ?_;refine An rfl ?_;refine An rfl ?_;refine An rfl ?_;refine An rfl ?_;exact BK)) ⟨ii _,λ_ h=>gP h,by rw [List.range_zero,List.flatMap_nil,kH];exact hD⟩ ?_
   clear hD;rintro ⟨m,B⟩ w7 ⟨Y,hAB,hD⟩;simp only at Y hAB hD;refine mK (m:=[(0,.int .i64 F.length),(1,.int .i64 left),(2,.pointer (some ⟨x.bS,0,none⟩)),(7,.pointer (some ⟨x.bN,0,none⟩)),(13,.int .i64 lo),(71,.int .i64 (hi-lo+1)),(72,.int .i64 m)]) ?_ (by (refine An rfl ?_;refine An rfl ?_;refine An rfl ?_;refine An rfl ?_;refine An rfl ?_;refine An rfl ?_;refine An rfl ?_;exact BK))
   by_cases T:m<(hi-lo+1).toNat
   . obtain ⟨bl,cs,hcs,hcl,h3,h4⟩:=hD.l;obtain ⟨k,hk⟩:∃k:Nat,lo+m=k:=⟨(lo+m).toNat,by omega⟩
     have ah:k<=1000:=by omega
     have hkn:(lo+m).toNat=k:=by omega
     have hadd:jo .i64 (lo+m)=(k:Int):=by rw [hk];exact gX _ (by omega)
     have s0:=hD.k.s0;have hgl:=(hD.lt _ hD.ag).2;have HD:=gO hD;have H3:=gO h3;have H4:=gO h4
     have hcF:F.length<cs.length:=by omega
     clear hD h3 h4;have X7:=lZ (λk=>k=x.g) w7
     focus
      refine cS (C1 V3 (cT (Aj (TM (Ao (Ai (Aj (Au (cS (C1 Mv (C1 Pa ?_)))))))))));refine cT (Aj ?_);refine Aq (λwz=>Ext w7 wz) 6 (.pure 0 (.pure 1 (.pure 2 (.pure 3 (.pure 4 (.fork 5 .tail .none)))))) mixed (by kernel_rfl) (Aa (Af (Aa (Aa (Af (Aa Ag)))))) ?_;intro Z w _;have d:(λwz=>Ext w7 wz) Z:=w;simp only at d;have R:=hcs;have b:=s0;have ai:=w.size;replace hcs:=hcs.ext w;replace s0:=s0.ext w;replace X7:=X7.ext w;clear w;refine ⟨d,?_⟩;refine Tq rfl (Db b) (Tq rfl Mv (Tq rfl Mv (Tq rfl Mv (Tq rfl (LN (c:=(k:Int)) rfl rfl hadd) ?_))));refine AE rfl (Dq (sh:=C8) (C:=0) (D:=0) (N:=k) (z:=0) Ac CJ rfl rfl rfl rfl (by kernel_rfl) rfl rfl (by omega) (λ_ _=>rfl)) rfl ?_ (λ_ h=>h) AC;rintro _ ae ⟨aj,rfl,I,ak,al,u⟩;replace d:=d.ext u;replace hcs:=hcs.ext u;replace s0:=s0.ext u;replace X7:=X7.ext u;clear u;refine ⟨d,?_⟩;clear R b d;refine Ar rfl (C1 Pi ?_);refine A6 (Cj (sh:=Ig) (j:=F.length) (us:=[_]) Ac rfl rfl rfl rfl rfl rfl (by assumption) hcF (gQ (by omega)) ⟨rfl,rfl⟩) ?_;refine BH ?_;rintro _ v ⟨M,E,af⟩;replace I:=I.fr E (by omega);clear hcs s0;replace X7:=X7.fr E (by omega);clear E;refine cT ?_
      rotate_left 1
     have am:=X7.size;have hD:=HD.out;have hsz:=hD.sz
     have hfx:∀k,x.fix k->k<w7.heap.size:=λk hk=>(hD.own k hk).elim (λh=>by have:=HR.out k h;omega) (λh=>(hD.lt k h).2)
     have hAg:∀k,B k->DCx.grow B w7 v k:=λ_ h=>gP h
     have hD8:x.D J (DCx.grow B w7 v) _ v (F++[iL k 0]):=hD.grow hJ (X7.weaken λk (e:k=x.g)=>by subst e;exact hD.ag) (hD.k.fr X7 (λk hk (e:k=x.g)=>hgf (e▸hk)))
      (DCx.L.snoc hcl H3.out H4.out hlt X7 hAg ⟨gQ ⟨by omega,by omega⟩,λh=>by have:=hfx _ h;omega,by omega⟩ (λh=>by have:=(hD.lt _ h).2;omega) I (by rw [List.length_replicate];exact M))
     have n0:=hD8.k.n0;have HX:=gO (HL2.out F (iL k 0) 0 _ _ v left (by omega) hlt hFl (by simp;omega) (by omega) h0 h1 hD8 (by rw [kg,List.length_replicate,jM,<-hkn];exact K0 HP.out T));rw [kg,List.length_replicate,jM,<-hkn,JA] at HX;clear hD HD H3 H4 hD8 X7 hAg hfx I M HR
     focus
      refine cS (C1 (Pl n0) (C1 Mv (C1 Mv ?_)));refine Ax (A8 (fi:=[]) (ca:=x.capN) (by kernel_rfl) rfl rfl HX.out (λ_ _ h=>h.ret)) rfl ?_ (λ_ h=>h);rintro _ aa ⟨an,A'b2,⟨⟩,U,ab⟩;refine C1 Pt (cT ?_);rotate_left 1
     have hBC:∀k,A k->A'b2 k:=λk h=>U k (gP (hAB k h))
     obtain ⟨rfl,G,⟨us,rfl,-,-⟩,hD9⟩|⟨rfl,hAc,hpr⟩:=ab
     . have hD9:x.D J A'b2 _ aa F:=⟨hD9.k,hD9.l.less,hD9.j,hD9.lt,hD9.own,hD9.ag,hD9.sz⟩;clear U hAB HP HX HL2
       focus
        refine Ba rfl (Ao (Ah (Ai (Al (C1 V7 (C1 Mv (Ak ?_)))))));rotate_left 1
       exact AA (m+1,A'b2) (by (refine An rfl ?_;refine An rfl ?_;refine An rfl ?_;refine An rfl ?_;refine An rfl ?_;refine An rfl ?_;refine An rfl ?_;exact BK)) ⟨by simp only;omega,hBC,hD9⟩ (by simp only;omega)
     . focus
        refine BO rfl (cS (C1 Pa (cT (AR (AJ (As (As (AJ (As (AT rfl rfl ?_))))))))));rotate_left 1
       exact ⟨false,_,rfl,hBC,gQ ⟨rfl,hAc,hpr⟩⟩
   . obtain rfl:m=(hi-lo+1).toNat:=by omega
     clear HP HL2
     focus
      refine cS (C1 V3 (cT (Aj (Dz (B9 (Az (Az (A0 (Ai (cS (C1 Pa ?_)))))))))));refine cT (AR (AT rfl rfl ?_));rotate_left 1
     exact ⟨true,B,rfl,hAB,gP ⟨rfl,_,rfl,hD⟩⟩
def R3 (x:DCx) (M:x.Ok) (J Jx:(nP)->List SV->wD->Prop) (O:EK x.c J) (S:List SV)
 (U:∀A pre s vs G,(∀k,A k->x.c<=k/\k<G.heap.size)->J A pre G->PZ x.c G vs s->(pre++[s]) <+: S->YieldAt (WF none) 0 prog x.y vs.toArray G (SRes x.Rt J Jx A (pre++[s]) G)) :
 ∀N,x.CL J Jx S N/\x.CN J Jx S N
 | 0=>⟨λ_ _ _ _ _ h=>absurd h (Nat.not_lt_zero _),λ_ _ _ _ _ _ _ h=>absurd h (Nat.not_lt_zero _)⟩
 | N+1=>
  have ⟨h1,h2⟩:=R3 x M J Jx O S U N
  ⟨aA x M J Jx O S U N h2,Z9 x M J Jx O S N h1 h2⟩
def Nv {g:Operand} {p:Tmp} {G X:Code} {lb:lV} {rep:Nat->wD->lV->α->Prop} {Z Fin:List α->Prop}
 (hp:iE p n=true) (hg:ev l g=some (.func (.func m) #[] lb.toArray)) (eg:BZ P m=true) (ac:JW P m lb rep A Z Fin w) (ab:∀c W vs x,rep c W vs x -> ∃u,vs=[u]) (ad:∀k,A k->k<w.heap.size)
 (J Jx:(nP)->List α->wD->Prop) (hJ:EK w.heap.size J) (ae:EK w.heap.size Jx) (h0:J (λ_=>False) [] w)
 (U:∀r Rt pre x u W,(∀k,Rt k->w.heap.size<=k/\k<W.heap.size)->Rt (w.heap.size+1)->J Rt pre W->rep (w.heap.size+2) W [u] x->Z (pre++[x]) ->
  CR P n (some r) G (Exit.then (Ir P (some r) (λk=>Rt k\/A k) (w.heap.size+1) X (λW₂=>En (λk=>Rt k\/A k) J Jx Rt (pre++[x]) W₂) W) (λ_ _ _=>False)) ((p,u)::l) W)
 (M:∀Rt S W,Fin S->(∀k,Rt k->w.heap.size<=k)->J Rt S W->Rt w.heap.size->W.heap[w.heap.size]? = some (.deferred (some []))->JZ (GX w.heap.size) n Q .normal l W)
 (N:∀Rt pre W,(∀k,Rt k->w.heap.size<=k)->Z pre->Jx Rt pre W->Rt w.heap.size->W.heap[w.heap.size]? = some (.deferred (some []))->JZ (GX w.heap.size) n Q .ret l W) :
 CW P n (.rangeFunc g #[p] G X) Q l w:=by
 refine T0 λa V=>?_
 refine Li (V.ev hg) eg ac (λc W vs x h=>by obtain ⟨u,rfl⟩:=ab c W vs x h;rfl) ad J Jx hJ ae h0 (λr Rt pre x vs W hA af hj Y O=>?_) (λRt S W hS hA hj aa hk=>?_) (λRt pre W hA O hj aa hk=>?_)
 . obtain ⟨u,rfl⟩:=ab _ W vs x Y;refine U r Rt pre x u W hA af hj Y O _ ?_;have e1:Env n l { a with defers:=[] }:=⟨V.size,rfl,V.has⟩
   simpa [Act.put] using e1.put hp u
 . unfold JZ at M;exact M Rt S W hS hA hj aa hk _ ⟨⟨V.size,rfl,V.has⟩,by rw [V.defers];rfl⟩
 . unfold JZ at N;exact N Rt pre W hA O hj aa hk _ ⟨⟨V.size,rfl,V.has⟩,by rw [V.defers];rfl⟩
def V0 {g:Operand} {p:Tmp} {G N:Code} {lb:lV} {rep:Nat->wD->lV->α->Prop} {S:List α}
 (hp:iE p n=true) (hg:ev l g=some (.func (.func m) #[] lb.toArray)) (eg:BZ P m=true) (Y:IterOk P m lb rep A S w) (Z:∀c W vs x,rep c W vs x -> ∃u,vs=[u]) (aa:∀k,A k->k<w.heap.size)
 (J Jx:(nP)->List α->wD->Prop) (hJ:EK w.heap.size J) (ab:EK w.heap.size Jx) (h0:J (λ_=>False) [] w)
 (M:∀r V pre x u W,(∀k,V k->w.heap.size<=k/\k<W.heap.size)->V (w.heap.size+1)->J V pre W->rep (w.heap.size+2) W [u] x->(pre++[x]) <+: S ->
  CR P n (some r) G (Exit.then (Ir P (some r) (λk=>V k\/A k) (w.heap.size+1) N (λW₂=>En (λk=>V k\/A k) J Jx V (pre++[x]) W₂) W) (λ_ _ _=>False)) ((p,u)::l) W)
 (O:∀V W,(∀k,V k->w.heap.size<=k)->J V S W->V w.heap.size->W.heap[w.heap.size]? = some (.deferred (some []))->JZ (GX w.heap.size) n Q .normal l W)
 (U:∀V pre W,(∀k,V k->w.heap.size<=k)->pre <+: S->Jx V pre W->V w.heap.size->W.heap[w.heap.size]? = some (.deferred (some []))->JZ (GX w.heap.size) n Q .ret l W) :
 CW P n (.rangeFunc g #[p] G N) Q l w  :=
 Nv hp hg eg Y.gen Z aa J Jx hJ ab h0 M (λV S' W e h=>by subst e;exact O V W h) U
def DistR (c:Nat) (J Jx:(nP)->List SV->wD->Prop) (S:List SV) (A:nP) (out:List SV) (gr:Nat) (V:List (Int×Int)):Ending->wD->Prop:=λe W'=>
 ∃q A',e = .returned (.bool q)/\(∀k,A k->A' k)/\((q=true/\J A' out W'/\ArrS CX 0 0 W' gr V/\(∀k,A' k->c<=k/\k<W'.heap.size)/\c<=W'.heap.size)\/(q=false/\(∀k,A' k->c<=k) /\ ∃pre,pre <+: S/\Jx A' pre W'))
def DistR.ret {c:Nat} {Jx:(nP)->List SV->wD->Prop} {out:List SV} {V:List (Int×Int)} (h:DistR c J Jx S A out n V e w):∃v,e = .returned v:=by
 obtain ⟨_,_,h,-⟩:=h;exact ⟨_,h⟩
set_option maxHeartbeats 8000000 in
def P0 (y c gr lc:Nat) (la:oA) (h:Int) (ls:List (Int×Int)) (Rt:nP) (an:∀k,Rt k->k<c) (hh:1<=h/\h<=2001) (ao:∀p∈ls,0<=p.1/\p.1<=p.2/\p.2<=1000) (hn:1<=ls.length/\ls.length<=33) (J Jx:(nP)->List SV->wD->Prop) (hJ:EK c J) (S:List SV)
 (hY:∀A pre s vs W1,(∀k,A k->c<=k/\k<W1.heap.size)->J A pre W1->PZ c W1 vs s->(pre++[s]) <+: S->YieldAt (WF none) 0 prog y vs.toArray W1 (SRes Rt J Jx A (pre++[s]) W1))
 (A:nP) (out:List SV) (W:wD) (wt:Int) (h0:0<=wt) (h1:wt<=70000000) (hj:J A out W) (hA:∀k,A k->c<=k/\k<W.heap.size) (hc:c<=W.heap.size) (hg:A gr) (V:ArrS CX 0 0 W gr (IK h ls 0)) (hl:Arr Rt 2 LK W ls la) (aj:(out++R1 h ls [] wt) <+: S) :
 Calls prog 85 #[.slice la ls.length lc,.slice (some ⟨gr,0,none⟩) (ls.length+1) (ls.length+1),.int .i64 h,.int .i64 wt,.func (.yield y) #[] #[]] W (DistR c J Jx S A (out++R1 h ls [] wt) gr (IK h ls 0)):=by
 have X:=Ne W;have a7:=(hA gr hg).2;have HL:Hid (∀w2,Ext W w2->Arr Rt 2 LK w2 ls la):=gO λw2 x=>hl.mono aFh (λ_ _ _ _ _ h=>l5 h x)
 have HY:=gO hY;have HA:=gO hA;have HR:=gO an;have HJ:=gO hj;have HS:=gO ao;refine Ad func85 ntmps85 rfl rfl (cS (eB [_] ?_));intro b1 w2 Y x5 p6 z7;revert V X;refine eE x5 ?_;intro V X;refine eB [_] ?_;intro b8 w9 G ap a8 a9;revert Y V X;refine eE ap ?_;intro Y V X;refine eB [_] ?_;intro ac ba M aq bb bc;revert G Y V X;refine eE aq ?_;intro G Y V X;refine eB [_] ?_;intro ad bd O ar be z28;revert M G Y V X;refine eE ar ?_;intro M G Y V X;refine eK ?_;refine Ax (Dq (sh:=Ig) (C:=0) (D:=0) (N:=ls.length) (z:=.slice none 0 0) Ac CJ rfl rfl rfl rfl AU rfl rfl Ab (λ_ _=>⟨rfl,rfl⟩)) rfl ?_ aFh;rintro _ bf ⟨aa,rfl,U,bg,bh,au⟩;revert O M G Y V X;refine eE au ?_;intro O M G Y V X;refine xA [_] ?_;intro ae bi av;refine eI [_] av ?_;intro bj Z aw bk bl;revert U O M G Y V X;refine eE aw ?_;intro U O M G Y V X;refine cN (eA [_] ?_);intro ak bm af ax bn bo;revert Z U O M G Y V X;refine eE ax ?_;intro Z U O M G Y V X;refine cN (eA [_] ?_);intro ag bp ah ay bq br;revert af Z U O M G Y V X;refine eE ay ?_;intro af Z U O M G Y V X;refine cN (C1 (B6 rfl) (eS [_] af ?_));intro bs ai az bt;revert ah Z U O M G Y V X;refine eF az ?_;intro ah Z U O M G Y V X
 refine cN (C1 (B6 rfl) (eS [_] ah ?_));intro ab a0 a1 bu;revert ai Z U O M G Y V X;refine eF a1 ?_;intro ai Z U O M G Y V X;refine cT ?_;obtain ⟨x,hx⟩:∃x:DCx,x=⟨y,c,ad,b1,b8,ac,ae,ak,ag,aa,gr,lc,la,h,ls,Rt⟩:=⟨_,rfl⟩;have hA:=HA.out;have bv:=hA gr hg;have al:∀k,x.fix k↔(Rt k\/k=ad\/k=b1\/k=b8\/k=ac\/k=ae\/k=ak\/k=ag\/k=gr):=λk=>by rw [hx];exact Iff.rfl
 have a2:¬x.fix aa:=by
  rw [al];rintro (h|h)
  . have:=HR.out _ h;omega
  . omega
 have a3:x.Ok:=⟨by rw [hx];exact HR.out,by rw [hx];exact hh,by rw [hx];exact HS.out,by rw [hx];exact hn,by rw [show x.g=aa by rw [hx]];exact a2⟩
 have hD:x.D J (DCx.grow A W ab) out ab []:=by
  have hl:=HL.out _ X;refine ⟨by rw [hx];exact ⟨O,Y,G,M,Z,ai,a0,hl,V⟩,by rw [hx];exact ⟨λ_=>0,_,U,by rw [List.length_replicate],λi xs hi=>by simp at hi,λi j hi=>by simp at hi⟩,
   DCx.grow_j hJ HJ.out hA hc (lX X),λk hk=>?_,λk hk=>?_,?_,?_⟩
  . have:c<=k/\k<ab.heap.size:=hk.elim (λh=>⟨(hA k h).1,by have:=(hA k h).2;omega⟩) (λh=>⟨Ab,h.2⟩);rw [hx];exact this
  . rw [al] at hk;rw [hx];rcases hk with h|h
    . exact gP h
    . right;by_cases e:k=gr
      . exact gP (e▸hg)
      . exact gQ ⟨Ab,Ab⟩
  . have:W.heap.size<=aa/\aa<ab.heap.size:=⟨Ab,Ab⟩;rw [hx];exact gQ this
  . rw [hx];show c<=_;omega
 have HX:=gO ((R3 x a3 J Jx (by rw [hx];exact hJ) S (by rw [hx];exact HY.out) (x.ls.length*1002+1)).1 [] _ out ab wt AK AK AK h0 h1 hD (by rw [hx];exact aj));rw [hx] at HX;refine eK ?_;refine Ax (A8 (fi:=[]) (ca:=[pt ae,pt ad,pt b1,pt b8,pt ac,pt ag]) AU rfl rfl HX.out (λ_ _ h=>h.ret)) rfl ?_ aFh;rintro _ bw ⟨bx,a6,⟨⟩,am,a4⟩;refine kR ?_;obtain ⟨rfl,F,rfl,hD⟩|⟨rfl,a5,hp⟩:=a4
 . exact ⟨true,_,rfl,λk h=>am k (gP h),gP ⟨rfl,hD.j,hD.k.rs,hD.lt,hD.sz⟩⟩
 . exact ⟨false,_,rfl,λk h=>am k (gP h),gQ ⟨rfl,a5,hp⟩⟩
def Tw {F:Fence} {l:Nat} {args:Array Value} {R R':Ending->wD->Prop} (h:YieldAt F m P l args w' R) (N:∀e w,R e w->R' e w):YieldAt F m P l args w' R':=by
 obtain ⟨fn,tmps,G,M,O,U⟩:=h;exact ⟨fn,tmps,G,M,O,U.mono N⟩
def fD {s:SV} (h:PZ n w vs s):∃u,vs=[u]:=by
 obtain ⟨_,_,_,_,_,_,h,-⟩:=h;exact ⟨_,h⟩
set_option maxHeartbeats 8000000 in
def dC (vs:List VD) (b:BoxV) (hb:b.ok) (hv:C3 vs) (N:nP) (bo bb bl:Nat) (la:oA) (lc:Nat) (w:wD) (an:∀k,N k->k<w.heap.size) (hR:N bo/\N bb/\N bl) (p1:Blk w bo [.bool true]) (p2:Blk w bb [.int .i64 b.v,.int .i64 b.l,.int .i64 b.i]) (p3:Blk w bl [.slice la (CV vs b).length lc]) (p4:Arr N 2 LK w (CV vs b) la) :
 IterOk prog 83 [pt bo,pt bb,pt bl] PZ N (LM vs b) w:=by
 intro y J Jx W hK hJ ay hY h0;have az:=hK.size;obtain ⟨o1,o2,o3⟩:=hR;have p1:=p1.fr hK (λe=>e o1);have p2:=p2.fr hK (λe=>e o2);have p3:=p3.fr hK (λe=>e o3);replace p4:Arr N 2 LK W (CV vs b) la:=p4.mono aFh (λb _ _ _ hb h=>mo h hK (λe=>e hb));have ag:∀k,N k->k<W.heap.size:=λk hk=>js (an k hk) az
 have ac:=Pq hb hv;have ba:=KI vs b;have bc:=hv.1;have hS:LM vs b=(jj ((Bx (2*b.v+1) (CV vs b)).2-(Bx (2*b.v+1) (CV vs b)).1+1).toNat).flatMap λ(m:Nat)=>R1 (2*b.v+1) (CV vs b) [] ((Bx (2*b.v+1) (CV vs b)).1+m):=by
  rw [<-Yh];exact AH ⟨hb,hv⟩
 have hh:1<=2*b.v+1/\2*b.v+1<=2001:=by have:=hb.1;omega
 have hm:jo .i64 (2*b.v)=2*b.v:=gX _ Ab;have a0:=PY hh (CV vs b) ac;obtain ⟨V,ao,bi⟩:=b;simp only at *;generalize CV vs ⟨V,ao,bi⟩=O at *;generalize LM vs ⟨V,ao,bi⟩=S at *;obtain ⟨J2,Y⟩:∃J2:(nP)->List SV->wD->Prop,J2=λA out W'=>J A out W'/\Keeps N W W':=⟨_,rfl⟩
 have ah:EK W.heap.size J2:=by
  rw [Y];exact λA A' xs W1 W2 h f Z g2 g3=>⟨hJ A A' xs W1 W2 h.1 f Z g2 g3,h.2.trans (mO f (λk hk hA=>by have:=ag k hk;have:=Z k hA;omega))⟩
 have ap:=gO (show ∀A pre s vs W1,(∀k,A k->W.heap.size<=k/\k<W1.heap.size)->J2 A pre W1->PZ W.heap.size W1 vs s->(pre++[s]) <+: S->YieldAt (WF none) 0 prog y vs.toArray W1 (SRes N J2 Jx A (pre++[s]) W1) from λA pre s vs W1 hA G hs hp=>by
  rw [Y] at G ⊢;exact Tw (hY A pre s vs W1 hA G.1 hs hp) (λe W2 ⟨k1,k2⟩=>⟨k1,k2.imp (λh=>⟨h.1,h.2,G.2.trans (k1.less λ_ h=>gQ h)⟩) id⟩))
 have aq:J2 (λ_=>False) [] W:=by rw [Y];exact ⟨h0,Keeps.refl _ _⟩
 have HJ:=gO aq;have HR:=gO ag;have HL:=gO ac;have ar:=gO (λw1 h=>by have:=VZ O ac Ab (2*V+1) hh la lc w1 h;unfold fC at this;rw [G5] at this;exact this);have a1:Bds W O la:=p4.mono (λ_ _=>trivial) (λ_ _ _ _ _ h=>h);have ai:=gO p3;have aj:=gO p4;have X:=Ne W;clear hY hJ ay h0 aq an ag hK p4 ac hb;show Calls _ _ #[.func (.yield y) #[] #[],pt bo,pt bb,pt bl] W _;refine Ad func83 ntmps83 rfl rfl ?_;refine eK ?_;refine C1 (Ik rfl rfl hm) ?_;refine eK ?_;refine Ax (AN AU rfl (ar.out _ Ae) (λ_ _ ⟨_,h⟩=>⟨_,h.1⟩)) rfl ?_ aFh;rintro _ w6 ⟨Z,⟨⟩,h2,h3,h4,x5⟩;have X:=X.ext x5;refine C1 Pa (cT ?_);obtain ⟨cs,ry,aa⟩:=h4.row (E4 (m:=0) (j:=0) (ii _));rw [AH (ii _),jE] at aa;obtain rfl:cs=_:=aa;generalize a2:Bx (2*V+1) O=r at *;obtain ⟨U,rb⟩:=r;simp only at a0 hS ry;replace ry:Row w6 ⟨Z,0+0*2,none⟩ [.int .i64 U,.int .i64 rb]:=ry;clear p1 p2 p3 a1 ar;refine Aj (Aq (λwz=>Ext w6 wz) 11 (.pure 0 (.pure 1 (.pure 2 (.pure 3 (.pure 4 (.pure 5 (.pure 6 (.pure 7 (.pure 8 (.pure 9 (.pure 10 .done))))))))))) mixed AU (Aa Ag) ?_);intro au av _;have ad:(λwz=>Ext w6 wz) au:=av;simp only at ad;have M:=ry;revert h4 X;refine eY av ?_;intro bd h4 X;refine ⟨ad,?_⟩;refine eT ?_;refine Tq rfl (Dr M) ?_;refine eT ?_;refine Tq rfl (Dr M) (Tq rfl (AL rfl rfl (gX _ Ab)) (Tq rfl V7 (Tq rfl Mv ?_)));refine YL (Ai ?_)
 have G:=DCx.grow_j ah HJ.out (λ_ h=>h.elim) (ip _) (lX X);clear ry HJ;refine Au ?_;refine AQ (ι:=Nat×(nP)) (λz=>[(0,.func (.yield y) #[] #[]),(3,pt bl),(5,.int .i64 (2*V+1)),(6,.slice (some ⟨Z,0,none⟩) (O.length+1) (O.length+1)),(26,.int .i64 (rb-U+1)),(27,.int .i64 z.1)])
  (λz w'=>z.1<=(rb-U+1).toNat/\J2 z.2 ((jj z.1).flatMap λ(m:Nat)=>R1 (2*V+1) O [] (U+m)) w'/\ArrS CX 0 0 w' Z (IK (2*V+1) O 0)/\z.2 Z/\(∀k,z.2 k->W.heap.size<=k/\k<w'.heap.size)/\W.heap.size<=w'.heap.size)
  (λz=>(rb-U+1).toNat-z.1) (0,DCx.grow (λ_=>False) W au) sB ⟨ii _,by rw [List.range_zero,List.flatMap_nil];exact G,h4,gQ ⟨Ab,Ab⟩,λk hk=>hk.elim (λh=>h.elim) id,X.size⟩ ?_
 clear G h4 X;rintro ⟨m,A⟩ w7 ⟨a3,G,hr,hg,hA,hz⟩;simp only at a3 G hr hg hA hz;refine mK (m:=[(0,.func (.yield y) #[] #[]),(3,pt bl),(5,.int .i64 (2*V+1)),(6,.slice (some ⟨Z,0,none⟩) (O.length+1) (O.length+1)),(26,.int .i64 (rb-U+1)),(27,.int .i64 m)]) ?_ sB;by_cases a4:m<(rb-U+1).toNat
 . have ak:Keeps N W w7:=by rw [Y] at G;exact G.2
   have p3:=ai.out.fr ak (λe=>e o3);have p4:Arr N 2 LK w7 O la:=aj.out.mono aFh (λb _ _ _ hb h=>mo h ak (λe=>e hb));have ab:=K0 (f:=λ(m:Nat)=>R1 (2*V+1) O [] (U+m)) (out:=[]) (S:=S) (by rw [jJ,hS];exact List.prefix_refl _) a4;have al:=JA (f:=λ(m:Nat)=>R1 (2*V+1) O [] (U+m)) (m:=m) (out:=[]);simp only [jJ] at ab al;have HX:=gO (show ∀w8,Ext w7 w8->_ from λw8 x8=>P0 y W.heap.size Z lc la (2*V+1) O N HR.out hh HL.out Ab J2 Jx ah S ap.out (DCx.grow A w7 w8) _ w8 (U+m) Ab Ab (DCx.grow_j ah G hA hz (lX x8))
    (λk hk=>hk.elim (λh=>⟨(hA k h).1,by have:=(hA k h).2;have:=x8.size;omega⟩) (λh=>⟨Ab,h.2⟩)) (by have:=x8.size;omega) (gP hg) (hr.ext x8) (p4.mono aFh (λ_ _ _ _ _ h=>l5 h x8)) ab)
   rw [al] at HX;obtain ⟨cs,ry,aa⟩:=hr.row (E4 (m:=0) (j:=0) (ii _));rw [AH (ii _),jE,a2] at aa;obtain rfl:cs=_:=aa;replace ry:Row w7 ⟨Z,0+0*2,none⟩ [.int .i64 U,.int .i64 rb]:=ry;have X7:=Ne w7;clear G hr ak p4 ab al ai aj HR ap HL;refine eK ?_;refine Aq (λwz=>Ext w7 wz) 10 (.pure 0 (.pure 1 (.pure 2 (.pure 3 (.pure 4 (.pure 5 (.pure 6 (.pure 7 (.pure 8 (.pure 9 .tail)))))))))) mixed AU (Aa (Af (Aa (Aa (Af Ag))))) ?_;intro a5 aw _;have ae:(λwz=>Ext w7 wz) a5:=aw;simp only at ae;have a9:=p3;have M:=ry;have X7:=X7.ext aw;refine ⟨ae,?_⟩;refine eT ?_;refine Tq rfl (Dr M) (Tq rfl Mv (Tq rfl V7 (Tq rfl Mv ?_)));refine Ar rfl (eQ rfl (HX.out _ Ae) ?_);rintro _ be ⟨bf,af,⟨⟩,ax,a6⟩;refine C1 Pt (cT ?_);obtain ⟨rfl,G,hr,am,a7⟩|⟨rfl,am,hp⟩:=a6
   . have a8:=ax Z (gP hg);clear ax hA hz hg;refine eK ?_;exact AA (m+1,af) sB ⟨by simp only;omega,G,hr,a8,am,a7⟩ (by simp only;omega)
   . refine eK ?_;refine EW rfl ?_;exact ⟨⟨_,rfl⟩,af,am,gQ hp⟩
 . obtain rfl:m=(rb-U+1).toNat:=by omega
   clear ai aj;rw [<-hS,Y] at G;refine cS (C1 V3 (cT (Aj (Dz (B9 (Az (Az (A0 (Bm rfl ?_)))))))));exact ⟨⟨_,rfl⟩,A,λk h=>(hA k h).1,gP G.1⟩
def dD (G M N:Nat) (O:nP) (w:wD) (V:O G) (U:Blk w G [.bool false]) :
 IterOk prog 83 [pt G,pt M,pt N] PZ O [] w:=by
 intro y J Jx W X hJ Y hY Z;have U:=U.fr X (λe=>e V);have H0:=gO Z;show Calls _ _ #[.func (.yield y) #[] #[],pt G,pt M,pt N] W _;refine Ad func83 ntmps83 rfl rfl (eK ?_);refine EW rfl ?_;exact ⟨⟨_,rfl⟩,λ_=>False,λ_ h=>h.elim,gP H0.out⟩
def AllR (vs:List VD) (b:BoxV) (w:wD):Ending->wD->Prop:=λe w'=> ∃bo bb bl,e = .returned (.func (.func 83) #[] #[.pointer (some ⟨bo,0,none⟩),.pointer (some ⟨bb,0,none⟩),.pointer (some ⟨bl,0,none⟩)]) /\
 IterOk prog 83 [.pointer (some ⟨bo,0,none⟩),.pointer (some ⟨bb,0,none⟩),.pointer (some ⟨bl,0,none⟩)] PZ (λk=>w.heap.size<=k/\k<w'.heap.size) (LM vs b) w'/\Ext w w'
def AllR.ret {vs:List VD} {b:BoxV} (h:AllR vs b w e w'):∃v,e = .returned v:=by
 obtain ⟨_,_,_,h,-⟩:=h;exact ⟨_,h⟩
def fE (vs:List VD) (hl:vs.length<=1000000) (b:BoxV) (S:nP) (a:oA) (c:Nat) (w:wD) (hs:VDs S w vs a) :
 Calls prog 47 #[.slice a vs.length c,.agg #[.int .i64 b.v,.int .i64 b.l,.int .i64 b.i]] w (AllR vs b w):=by
 have X:=Ne w;by_cases hv:b.ok/\C3 vs
 . have HL:=gO (λw1 h=>MM vs b hv.1 hv.2 S a c w1 h);have HA:=gO (dC vs b hv.1 hv.2);obtain ⟨bv,bl,bi⟩:=b;simp only at HL HA;refine Ad func47 ntmps47 rfl rfl (cS (Du [_,_,_] rfl rfl rfl ?_));intro b1 w2 n3;have M:=n3.blk;dsimp only at M;have x5:=n3.ext;have p6:=n3.pos;have z7:=n3.size;revert hs X;refine eE x5 ?_;intro hs X;refine eK ?_;refine Ax (AN AU rfl (HL.out _ Ae) (λ_ _ ⟨_,_,h⟩=>⟨_,h.1⟩)) rfl ?_ aFh;rintro _ a4 ⟨a8,c9,⟨⟩,G,ai⟩;revert M X;refine eY ai ?_;intro a5 M X;refine eK ?_;refine eA [_] ?_;intro a6 a7 Y aj a9 ba;revert G M X;refine eE aj ?_;intro G M X;refine eA [_] ?_;intro bb bc Z ak bd be;revert Y G M X;refine eE ak ?_;intro Y G M X;refine eS [_] Y ?_;intro bf aa ab bg;revert Z G M;refine eF ab ?_;intro Z G M;have X:=X.fr ab Ab;refine eS [_] Z ?_;intro al am an bh;revert aa G M X;refine eF an ?_;intro aa G M X;refine cN (C1 (B6 rfl) (kR ?_));exact ⟨_,_,_,rfl,HA.out (λk=>w.heap.size<=k/\k<al.heap.size) _ _ _ _ _ _ (λk hk=>hk.2) ⟨⟨Ab,Ab⟩,⟨Ab,Ab⟩,Ab,Ab⟩ am M aa (Arr.mono G (λb h=>⟨Ab,Ab⟩) (λ_ _ _ _ _ h=>h)),X⟩
 . have HL:=gO (λw1 h=>Oj vs hl b hv S a c w1 h);have e:LM vs b=[]:=At hv;unfold AllR;rw [e];obtain ⟨bv,bl,bi⟩:=b;simp only at HL;refine Ad func47 ntmps47 rfl rfl (cS (Du [_,_,_] rfl rfl rfl ?_));intro bj bk U;have ao:=U.blk;dsimp only at ao;have ap:=U.ext;have bm:=U.pos;have bn:=U.size;revert hs X;refine eE ap ?_;intro hs X;refine kC (HL.out _ Ae) ?_;rintro _ bo ⟨⟨⟩,ac⟩;have aq:=ac.size;have X:=X.ext ac;refine eK ?_;refine eA [_] ?_;intro ar au N ad av aw;have X:=X.ext ad;refine eA [_] ?_;intro ax ay O ae az a0;revert N X;refine eE ae ?_;intro N X;refine eS [_] N ?_;intro a1 _ V a2;have O:=O.fr V Ab;have X:=X.fr V Ab;refine eS [_] O ?_;intro af ag ah a3;have X:=X.fr ah Ab;refine cN (C1 (B6 rfl) (kR ?_));exact ⟨_,_,_,rfl,dD _ _ _ (λk=>w.heap.size<=k/\k<af.heap.size) _ ⟨Ab,Ab⟩ ag,X⟩
def dE {fn:Func} {R:Ending->wD->Prop} (h:QW n (bodyPost P fn R) .ret l w):QW n (bodyPostM (WF none) 0 P fn R) .ret l w:=by
 unfold QW at h ⊢;intro a G;obtain ⟨M,N⟩:=h a G;show LeavesInM _ _ _ _ _ _ a.defers _ _;rw [M];exact N
def Yl {fn:Func} {R:Ending->wD->Prop} (G:w.heap[m]? = some (.deferred (some []))) (h:∀w',Fr (· = m) w w'->QW n (bodyPost P fn R) .ret l w'):JZ (GX m) n (bodyPostM (WF none) 0 P fn R) .ret l w:=by
 unfold JZ;intro a M;show LeavesInM _ _ _ _ _ _ a.defers _ _;rw [M.2];refine ⟨AK,.inl ⟨_,_,rfl,run_takeDeferred G,?_⟩⟩;have N:=h (w.putObj m (.deferred none)) (Iq _ G);unfold QW at N;obtain ⟨-,v,O,U⟩:=N _ M.1;exact ⟨v,O,U⟩
def Wa {o:Oper} {a:Act} {K:Act->wD->Prop} (N:∀w d w',(execOp a.eval o).run P w≠.ok (.defer d) w') (h:o.wp P { a with defers:=[] } w (λM w'=>K { M with defers:=a.defers } w') (λe M w'=>Q e { M with defers:=a.defers } w')):o.wp P a w K Q:=by
 unfold jy at h ⊢;have e:({ a with defers:=[] }:Act).eval=a.eval:=rfl;have O:LetsOut (λe M w'=>Q e { M with defers:=a.defers } w')->LetsOut Q:=λ⟨M,w',h⟩=>⟨_,w',h⟩
 have G:∀v,({ ({ a with defers:=[] }:Act).put o.dst v with defers:=a.defers }:Act)=a.put o.dst v:=λv=>by cases o.dst<;>rfl
 rw [e] at h;generalize U:(execOp a.eval o).run P w=x at h;cases x with
 | ok v w'=>
  cases v with
  | value v=>simp only [Oper.upon,G] at h ⊢;exact h
  | skip=>simp only [Oper.upon,G] at h ⊢;exact h
  | enter f args=>
   simp only [Oper.upon,G] at h ⊢;exact i7 h (λe w h=>by
    cases e with
    | returned v=>exact h
    | panicked c=>exact h
    | outgrown=>exact O h)
  | row r args=>simp only [Oper.upon,G] at h ⊢;exact h
  | defer d=>exact absurd U (N w d w')
  | _=>exact h.elim
 | halt v w'=>cases v<;>simp only [Oper.upon] at h ⊢ <;> first|exact h|exact h.elim
def Wb {D:List Deferred} {ops:Array Oper} {rest:List Oper} {op:Op} {pos:String} {after:Array Edge} {K:Option Value->wD->Prop} (G:∀(a:Act) w d w',(execOp a.eval ⟨none,op,ty,pos,after,none⟩).run P w≠.ok (.defer d) w') (N:BE P n l op ty w K) (O:∀v w1,¬K (some v) w1) (k:∀w1,K none w1->SM P D n ops Q rest l w1) :
 SM P D n ops Q (⟨none,op,ty,pos,after,none⟩::rest) l w:=by
 unfold SM at k ⊢;intro a M;unfold wpList;rw [AH (Bd rfl)];left;refine Wa (G a) ?_;unfold BE at N;refine N _ _ _ _ _ _ _ M.1 (λv w1 h=>absurd h (O v w1)) (λw1 h=>?_);exact k w1 h _ ⟨M.1,rfl.trans M.2⟩
def Nw {tab:Tab} {sz:Nat} {fn:Func} {R:Ending->wD->Prop} {Z M b N G X:Nat} {sk O:Sk} (h:fn.results = #[.cell Z M,.cell N G]) (T:TabOk P tab) (ht:AB tab M=some (sk,sz)) (aa:AB tab G=some (O,m)) (hs:sk.agg=true) (ab:O.agg=false)
 (hv:look l Z=some (pt b)) (ac:look l N=some (pt X)) (hb:Blk w b vs) (ad:Blk w X [v]) (hl:vs.length=sz) (hR:R (.returned (.tuple #[.agg vs.toArray,v])) w):QW n (bodyPost P fn R) .ret l w:=by
 unfold QW;intro a ha;refine ⟨ha.defers,.tuple #[.agg vs.toArray,v],?_,hR⟩;have e:(loadVar M ⟨b,0,none⟩).run P w = .ok (.agg vs.toArray) w:=by
  simp only [ij,iC,gY,loadVar,CB (T _ _ _ ht),hs,if_true,Ca (T _ _ _ ht)];rw [<-hl,CD hb.row]
 have e':(loadVar G ⟨X,0,none⟩).run P w = .ok v w:=by
  simp only [ij,iC,gY,loadVar,CB (T _ _ _ aa),ab];have hc:w.cell? ⟨X,0,none⟩=some v:=l7 ad rfl;simp [load,jP,hc]
 have U:=ha.has Z _ hv;have V:=ha.has N _ ac;simp only [jf] at U V;simp [results,h,U,V,e,e',asAddr]
def Ym {t:TypeId} {y:Operand} {pos:String} {after:Array Edge} (a:Act) (w:wD) (d:Deferred) (w':wD):(execOp a.eval ⟨none,.store t x y,ty,pos,after,none⟩).run P w≠.ok (.defer d) w':=by
 simp only [execOp,ij];intro h;generalize (Instr.storeAt t (a.eval x) (a.eval y)).run P w=r at h;cases r<;>simp [gY,iC] at h
section
variable {r:Option Nat} {ops:Array Oper}
def Yn {i:Nat} {a:Act} {G:Act->wD->Prop} (N:¬LetsOut Q) (O:∀o,ops[i]? = some o->Gs o=true) (h:wpOp P ops Q i G a w):wpOpIn (WF r) 0 P ops Q i G a w:=by
 unfold wpOp at h;unfold wpOpIn;cases ho:ops[i]? with
 | none=>rw [ho] at h;exact h
 | some o=>
  rw [ho] at h;simp only at h ⊢;by_cases M:Region.wanted o (yielded ops a.tmps)=true
  . rw [AH M] at h ⊢;rcases h with h|h
    . exact TZ (O o ho) h
    . exact absurd h.2 N
  . rw [At M] at h ⊢;exact ⟨λ_ _=>trivial,h⟩
def OR (N:¬LetsOut Q) (O:∀(i:Nat) (o:Oper),ops[i]? = some o->Gs o=true):∀(G:Nat) (M:Array Bool) (a:Act) (w:wD),wpAny P .any ops Q G M a w->wpAnyIn (WF r) 0 P .any ops Q G M a w
 | 0,_,_,_,h=>h
 | G+1,_,_,_,h=>⟨h.1,λi U=>wpOpIn_mono (λV w' X=>OR N O G _ V w' X) (Yn N (O i) (h.2 i U))⟩
end
def NO {Kp:nP} {J Jx:(nP)->List α->wD->Prop} {xs:List α}:Df (En Kp J Jx A xs w):=λ_ _ _ _ _ h=>h
def Yo {r:Option Nat} {G:List Oper} (S:wD->Prop) (K:Nat) (s:Sc) (hm:P.follows .mixedOrders=true) (N:(G.all Gs&&(Region.noSelect G.toArray&&(jr G.length K||I4 G.toArray K)&&Sc.ok G.toArray K true s G.length (jt G.length false)))=true) (hQ:Df Q) (hL:¬LetsOut Q)
 (h:∀w1,Ext w w1->w1.heap=w.heap->S w1/\TW P n G.toArray Q S K s l w1):CR P n r (.region m G.toArray true) Q l w:=by
 intro a ha;simp only [gR] at N;obtain ⟨U,N⟩:=N;obtain ⟨h1,h2⟩:=h w.drew (Ne w).drew rfl;unfold TW at h2;have V:∀i,i<K->Ej G.toArray K i:=by
  by_cases hK:K<G.toArray.size
  . have M:=N.1.2;simp only [jc] at M;rcases M with M|M
    . have:=iA M;simp at hK;omega
    . exact DT M hK
  . intro i hi O j o _ hj X _;have aa:j<G.toArray.size:=(Array.getElem?_eq_some_iff.1 X).1;omega
 have Y:DC G.toArray (jt G.length false):=λk o _ M=>by
  exfalso;rcases it k G.length with Z|Z
  . simp [Z] at M
  . simp [iQ,Z] at M
 refine wpIn_region_any hm (OR hL (λi o X=>iN.1 U o (iF (by simpa using X))) _ _ _ _ (I5 (S:=S) (K:=K) _ _ _ _ ?_));have:=(HT.any N.1.1 V hQ s G.length (jt G.length false) a w.drew Y h1 (h2 a ha)).1 N.2;simpa using this
def fF {G:List Oper} (h:LI P n G.toArray Q G l w):CW P n (.region m G.toArray false) Q l w:=T0 λa N=>wpIn_region_lit (h a N)
def Uq {ops:Array Oper} {rest:List Oper} {op:Op} {d:Nat} {pos:String} {after:Array Edge} (h:Gs ⟨some d,op,ty,pos,after,none⟩=true) (G:Br P n l (· = w) op ty v) (N:iE d n=true) (k:LI P n ops Q rest ((d,v)::l) w) :
 LI P n ops Q (⟨some d,op,ty,pos,after,none⟩::rest) l w:=λa M=>by
 unfold Br at G;have e:=G a w (some d) pos after none M rfl;unfold wpListIn;rw [AH (Bd rfl)];refine TZ h ?_;unfold jy;rw [e];exact k _ (M.put N v)
abbrev VdV.row (v:VdV) (a:oA) (c:Nat) (ta:oA) (tc:Nat) (oa:oA) (oc:Nat):lV:=[.bool v.ok,.int .i64 v.tried,.slice a v.st.cells.length c,.slice ta v.st.tin.length tc,.slice oa v.st.tout.length oc,.int .i64 v.err]
def VdR (r:VdV×Int) (w:wD):Ending->wD->Prop:=λe w'=> ∃a c ta tc oa oc,e = .returned (.tuple #[.agg (r.1.row a c ta tc oa oc).toArray,.int .i64 r.2])/\r.1.st.sits (λb=>w.heap.size<=b/\b<w'.heap.size) w' a ta oa/\r.1.st.small/\Ext w w'
def VdR.ret {r:VdV×Int} (h:VdR r w e w'):∃v,e = .returned v:=by
 obtain ⟨_,_,_,_,_,_,h,-⟩:=h;exact ⟨_,h⟩
def Ih {S:nP}:(⟨[],[],[]⟩:SV).sits S w none none none:=⟨gP rfl,gP rfl,gP rfl⟩
def GE:(⟨[],[],[]⟩:SV).small:=⟨AK,AK,AK,AK⟩
def fG {e:EX} (h:e.valid):e.fuel=(e.fuel.toNat:Int):=by have:=h.1.2.2;omega
set_option maxHeartbeats 8000000 in
def aB (e:EX) (hw:e.wf) (d2:e.fuel<=10000) (p:PG) (hp:p.wf) (b7:p.vars.length<=1000000) (S:nP) (va:oA) (vc:Nat) (pa:oA) (pc:Nat) (ma:oA) (mc:Nat) (am:oA) (ar:Nat) (ac:oA) (az:Nat) (an:oA) (a0:Nat) (w:wD)
 (hs:e.sits S w va pa ma vc) (G:p.sits S w am ac an) (M:PDsC S w p.procs ac) (bi:p.vars.length<=ar) :
 Calls prog 24 #[.agg (e.cells va vc pa pc ma mc).toArray,.agg (p.cells am ar ac az an a0).toArray] w (VdR (BM e p) w):=by
 have X:=Ne w;replace hs:=hs.ltA;replace G:=G.ltA;replace M:=M.ltA;have HA:=gO (λw1 h1 h2 h3=>Z7 e hw p hp b7 (· < w.heap.size) va vc pa pc ma mc am ar ac az an a0 w1 h1 h2 h3 bi);by_cases hv:D8 e p=0
 . obtain ⟨a8,bj,a9⟩:=VM (Z6 p) hv;obtain ⟨f,bk⟩:∃f:Nat,e.fuel=(f:Int):=⟨_,fG a8⟩
   have b9:e.fuel.toNat=f:=by omega
   have hg:BM e p=(Wm e.g p e.fuel.toNat (LM e.g.vars e.box) 0,0):=At (λh=>h hv);have Y:=hs.g.vars;rw [hg,b9];rw [hv] at HA;have bl:=gO (λw1 h=>fE e.g.vars hw.few e.box (· < w.heap.size) va vc w1 h);have HC:=gO (λ(s t:SV) (h1:FitsP p.vars s) (h2:t.small) (S1 S2 S3 S4:nP) ca ta oa ca' ta' oa' cc tc oc cc' tc' oc' w1 (h3:p.sits S1 w1 am ac an) (h4:PDsC S2 w1 p.procs ac) (h5:s.sits S3 w1 ca ta oa) (h6:t.sits S4 w1 ca' ta' oa')=>VX e f bk Ab p hp bj s t h1 h2 (λ_=>True) va vc pa pc ma mc am ar ac az an a0 ca ta oa ca' ta' oa' cc tc oc cc' tc' oc' w1 (h3.wide λ_ _=>trivial) (h4.wide λ_ _=>trivial) bi (h5.wide λ_ _=>trivial) (h6.wide λ_ _=>trivial));have HF:=gO (λ(s:SV) (h1:FitsP e.g.vars s) (S1 S2 S3:nP) ca ta oa cc tc oc w1 (h3:e.g.sits S1 w1 va pa ma) (h4:PDsC S2 w1 e.g.procs pa) (h5:s.sits S3 w1 ca ta oa)=>show Calls prog 48 #[.agg (e.g.cells va vc pa pc ma mc).toArray,.agg (s.row ca cc ta tc oa oc).toArray,.int .i64 e.fuel] _ (ResR (DQ e.g s f) w1) from bk▸OF e.g hw.g a8.2.1.1 a8.2.1.2.1 s h1 f Ab _ (PW e.g s f) (λ_=>True) va vc pa pc ma mc ca ta oa cc tc oc w1 (h3.wide λ_ _=>trivial) (h4.wide λ_ _=>trivial) hs.room (h5.wide λ_ _=>trivial));have HK:=gO (λ(s:SV) h1=>X6 (g:=e.g) (s:=s) h1 f);have HA:=gO (λw1 h1 cb h2 h3=>HA.out w1 ⟨h1,cb,hs.room⟩ h2 h3)
   have N:=hs.g;have O:=hs.p;unfold mE at *;refine Gu (args:=[_,_]) func24 ntmps24 rfl rfl (cS (eB [_,_,_,_,_,_,_,_,_,_,_,_] ?_));intro b1 w2 h4 x5 p6 z7;revert X G M Y N O;refine eE x5 ?_;intro X G M Y N O;refine eB [_,_,_,_,_,_] ?_;intro b8 w9 Z cd d3 d4;revert h4 X G M Y N O;refine eE cd ?_;intro h4 X G M Y N O;refine eA [_,_,_,_,_,_] ?_;intro au d5 ae ce d6 z22;revert Z h4 X G M Y N O;refine eE ce ?_;intro Z h4 X G M Y N O;refine eA [_] ?_;intro a1 d7 ag cf d8 d9;revert ae Z h4 X G M Y N O;refine eE cf ?_;intro ae Z h4 X G M Y N O;refine eK ?_;refine A1 [_,_,_,_,_,_,_,_,_,_,_,_] Ac rfl rfl rfl h4 rfl rfl rfl (A1 [_,_,_,_,_,_] Ac rfl rfl rfl Z rfl rfl rfl (cC rfl (HA.out _ Ae Ae Ae Ae) ?_));rintro _ ea ⟨⟨⟩,cg⟩;revert ag ae Z h4 X G M Y N O;refine eY cg ?_;intro eb ag ae Z h4 X G M Y N O;refine eK ?_;refine ED [_] CJ rfl rfl ?_;intro ba ec ch;refine eI [_] ch ?_;intro ci bb cj ed ee;revert ag ae Z h4 X G M Y N O;refine eE cj ?_;intro ag ae Z h4 X G M Y N O;refine kQ (bl.out _ Ae) ?_;rintro _ a2 ⟨cz,c0,c1,⟨⟩,ck,bm⟩;have ef:=bm.size;revert bb ag ae Z h4 X G M N O;refine eE bm ?_;intro bb ag ae Z h4 X G M N O;refine cT ?_
   have l4:=ag.lt;generalize cl:LM e.g.vars e.box=S' at *;refine Au ?_;refine V0 rfl rfl AU ck (λ_ _ _ _ h=>fD h) (λk hk=>hk.2)
    (λA xs W=> ∃n,Wm e.g p f S' 0=Wm e.g p f (S'.drop xs.length) n/\Blk W ba [.int .i64 n]/\Blk W a1 [.int .i64 0]/\Blk W au [.bool false,.int .i64 0,.slice none 0 0,.slice none 0 0,.slice none 0 0,.int .i64 0]/\Blk W b8 (p.cells am ar ac az an a0)/\Blk W b1 (e.cells va vc pa pc ma mc)/\e.g.sits (· < w.heap.size) W va pa ma/\PDsC (· < w.heap.size) W e.g.procs pa/\p.sits (· < w.heap.size) W am ac an/\PDsC (· < w.heap.size) W p.procs ac/\Ext w W)
    (λA xs W=> ∃(s:SV) (n er:Int) (a:oA) (c:Nat) (ta:oA) (tc:Nat) (oa:oA) (oc:Nat),Wm e.g p f S' 0=⟨false,n,s,er⟩/\Blk W au [.bool false,.int .i64 n,.slice a s.cells.length c,.slice ta s.tin.length tc,.slice oa s.tout.length oc,.int .i64 er]/\Blk W a1 [.int .i64 0]/\s.sits (λb=>w.heap.size<=b /\ ¬A b/\b<W.heap.size) W a ta oa/\s.small/\Ext w W) ?_ ?_ ?_ ?_ ?_ ?_
   . rintro A A' xs W W' ⟨n,g1,g2,g3,g4,g5,g6,g7,g8,g9,bn,x⟩ hf hA - -;have ho:∀b,b<w.heap.size -> ¬A b:=λb hb h=>by have:=hA b h;omega
     exact ⟨n,g1,g2.fr hf (λe=>by have:=hA _ e;omega),g3.fr hf (λe=>by have:=hA _ e;omega),g4.fr hf (λe=>by have:=hA _ e;omega),g5.fr hf (λe=>by have:=hA _ e;omega),g6.fr hf (λe=>by have:=hA _ e;omega),g7.fr hf ho,g8.fr hf ho,g9.fr hf ho,bn.fr hf ho,me x hf (λk hk=>by have:=hA _ hk;omega)⟩
   . rintro A A' xs W W' ⟨s,n,er,a,c,ta,tc,oa,oc,g1,g2,g3,g4,g5,x⟩ hf hA-cm;exact ⟨s,n,er,a,c,ta,tc,oa,oc,g1,g2.fr hf (λe=>by have:=hA _ e;omega),g3.fr hf (λe=>by have:=hA _ e;omega),(g4.fr hf (λb hb=>hb.2.1)).wide (λb hb=>⟨hb.1,λh=>hb.2.1 (cm b hb.2.2 h),by have:=hf.size;omega⟩),g5,me x hf (λk hk=>by have:=hA _ hk;omega)⟩
   . exact ⟨0,AK,bb,ag,ae,Z,h4,N,O,G,M,X⟩
   . rintro r A pre x u W hA cn ⟨n,j1,j2,j3,j4,j5,j6,j7,j8,j9,U,x0⟩ ⟨ca,cc,ta,tc,oa,oc,eu,sx⟩ av;simp only [iT,and_true] at eu;subst eu;have bo:x∈S':=by obtain ⟨q,hq⟩:=av;rw [<-hq];simp
     have bc:S'.drop pre.length=x::S'.drop (pre++[x]).length:=by obtain ⟨q,hq⟩:=av;rw [<-hq];simp
     rw [bc] at j1;have V:FitsP e.g.vars x:=Ov x (by rw [cl];exact bo);have bd:=HK.out x V;have bp:=gO (HF.out x V);have co:=gO (λS a ta oa c tc oc w1 h=>KN x S a ta oa c tc oc w1 V.small.few V.small.each V.small.tin V.small.tout h);have cp:=V.small;have be:=gO (HC.out _ x (by rw [a9];exact bd) V.small);have eg:=hA _ cn;have X1:=Ne W;obtain ⟨xc,xi,xo⟩:=x;unfold mE at *;refine Bs rfl Gv (ED [_,_,_] CJ rfl rfl ?_);intro eh ei aq;refine Dl [_,_,_] Ac rfl rfl rfl rfl rfl rfl aq rfl ?_;intro ej aq;have aa:=aq.blk;dsimp only at aa;have cq:=aq.ext;have ek:=aq.pos;have el:=aq.size;revert j2 j3 j4 j5 j6 j7 j8 j9 U x0 X1 sx;refine eE cq ?_;intro j2 j3 j4 j5 j6 j7 j8 j9 U x0 X1 sx;refine Ak (Is (mW X1) λW2 f2=>?_)
     revert aa j2 j3 j4 j5 j6;refine eF f2 ?_;intro aa j2 j3 j4 j5 j6;replace j7:=j7.fr f2 (λb hb e=>by omega);replace j8:=j8.fr f2 (λb hb e=>by omega);replace j9:=j9.fr f2 (λb hb e=>by omega);replace U:=U.fr f2 (λb hb e=>by omega);replace x0:=me x0 f2 (λk hk=>by omega);replace sx:=sx.fr f2 (λb hb e=>by omega);have em:=f2.size;have bq:=gO (show ∀k,A k->a2.heap.size<=k/\k<W2.heap.size from λk hk=>by have:=hA k hk;omega);have X3:=lZ (λk=>k=ba\/k=au\/k=a1) W2;have hK:∀k,A k\/(ci.heap.size<=k/\k<a2.heap.size) -> ¬(k=ba\/k=au\/k=a1):=λk hk h=>by
      rcases hk with hk|hk
      . have:=bq.out k hk;omega
      . omega
     have bf:=gO hK;rw [Nu] at j1;generalize DQ e.g ⟨xc,xi,xo⟩ f=gv at *;obtain ⟨⟨gc,gi,go⟩,gn,ge⟩:=gv;simp only at j1 be bp;refine Gt (Dh (Bs rfl (Bw (By B5)) (kQ (bp.out _ _ _ _ _ _ _ _ _ _ Ae Ae Ae) ?_)));rintro _ c2 ⟨en,eo,c3,c4,c5,c6,⟨⟩,a3,ep,cr⟩;revert aa j2 j3 j4 j5 j6 j7 j8 j9 U x0 sx X3;refine eY cr ?_;intro c7 aa j2 j3 j4 j5 j6 j7 j8 j9 U x0 sx X3;refine ED [_,_,_,_,_] CJ rfl rfl ?_;intro c8 c9 ad;refine Dl [_,_,_,_,_] Ac rfl rfl rfl rfl rfl rfl ad rfl ?_;intro da ad;have ah:=ad.blk;dsimp only at ah;have br:=ad.ext;have db:=ad.pos;have dc:=ad.size;revert a3 aa j2 j3 j4 j5 j6 j7 j8 j9 U x0 sx X3;refine eE br ?_;intro a3 aa j2 j3 j4 j5 j6 j7 j8 j9 U x0 sx X3;refine Ak (Cw (Dh ?_));by_cases bs:ge=0
     . subst bs;rw [At AK] at j1;generalize DQ p ⟨gc,gi,go⟩ f=rv at *;obtain ⟨rs,rn,re⟩:=rv;simp only at j1 be
       focus
        refine Dh (Bs rfl (Bw (Bw (By B5))) (C1 Pf (C1 (Pl ah) (C1 V2 (Ak (Cw (aR rfl B7 (F0 (Cw (Dh (Bs rfl (Bw (By B5)) (C1 (Pl j2) (C1 (LN rfl rfl rfl) (eS [_] j2 ?_))))))))))))));intro eq a4 af et;revert aa j3 j4 j5 j6;refine eF af ?_;intro aa j3 j4 j5 j6;replace j7:=mN j7 af (λb hb h=>by omega);replace j8:=m5 j8 af (λb hb h=>by omega);replace j9:=mN j9 af (λb hb h=>by omega);replace U:=m5 U af (λb hb h=>by omega);replace x0:=x0.fr af Ab;replace sx:=mX sx af (λb hb h=>by omega);revert X3 ah;refine eF af ?_;intro X3 ah;replace a3:=mX a3 af (λb hb h=>by omega);refine Ak (Cw (Dh (Bs rfl (Bw (By B5)) (A1 [_,_,_,_,_,_,_,_,_,_,_,_] Ac rfl rfl rfl j6 rfl rfl rfl (eK ?_)))));refine Ax (AN AU rfl (be.out _ _ _ _ _ _ _ _ _ _ _ _ _ _ _ _ _ Ae Ae Ae Ae) (λ_ _ ⟨_,h⟩=>⟨_,h.1⟩)) rfl ?_ aFh;rintro _ bt ⟨ew,⟨⟩,bu,ct⟩;revert a4 aa j3 j4 j5 j6 j7 j8 j9 U x0 sx X3;refine eY ct ?_;intro dd a4 aa j3 j4 j5 j6 j7 j8 j9 U x0 sx X3;refine C1 Mv (C1 Px (C1 Px (C1 Pa (C1 Pa (Ak (Cw (Dh (Bs rfl (Bw (By B5)) (C1 Mv (C1 Pt (Ak (Cw (WX rfl (λap=>?_) (λap=>?_))))))))))))));refine Dh (Yo (λwz=>Ext bt wz) 4 (.pure 0 (.pure 1 (.pure 3 (.fork 2 .tail .none)))) mixed AU (Aa (Af NO)) (Bw (By B5)) ?_);intro bv a5 _;have ab:(λwz=>Ext bt wz) bv:=a5;simp only at ab;have bg:=a4;have bh:=aa;revert j3 j4 x0 sx X3;refine eY a5 ?_;intro de j3 j4 x0 sx X3;refine ⟨ab,(Tq rfl (Db bg) (Tq rfl (BV [_,_,_] Ac rfl rfl rfl (λwz hz=>(l9 bh hz)) rfl rfl) (Tq rfl Mv (AE rfl (AN AU rfl (co.out _ _ _ _ _ _ _ _ Ae) (λ_ _ h=>h.ret)) rfl ?_ aFh AC))))⟩;rintro _ df ⟨dg,dh,cu,cv,cw,cx,⟨⟩,ai,bw⟩;revert ab j3 j4 x0 X3;refine eE bw ?_;intro ab j3 j4 x0 X3;refine ⟨ab,(Ar rfl (C1 (D3 [_,_,_,_,_,_] Ac CJ rfl rfl rfl rfl) (eS [_,_,_,_,_,_] j4 ?_)))⟩;intro di aw a6 dk;replace ai:=mX ai a6 (λb hb h=>by omega);revert j3 x0 X3;refine eF a6 ?_;intro j3 x0 X3;refine eS [_] j3 ?_;intro dl bx ax dm;replace aw:=aw.fr ax Ab;replace ai:=mX ai ax (λb hb h=>by omega);revert x0 X3;refine eF ax ?_;intro x0 X3
        refine Ak (Cw (WR (AJ ?_)));rotate_left;refine F0 (Ah ?_);rotate_left
       . rw [At (λh=>by rw [bu.2 h] at ap;cases ap)] at j1;have:=X3.size;exact WV (mO X3 bf.out) ⟨⟨xc,xi,xo⟩,_,re,_,_,_,_,_,_,j1,aw,bx,ai.wide (λb hb=>⟨Ab,λh=>by have:=(bq.out b h).2;omega,Ab⟩),cp,x0⟩
       . rw [AH (bu.1 ap)] at j1;exact Jg (mO X3 bf.out) ⟨_,j1,a4,j3,j4,j5,j6,j7,j8,j9,U,x0⟩
     . rw [AH bs] at j1;refine Dh (Bs rfl (Bw (Bw (By B5))) (C1 Pf (C1 (Pl ah) (C1 V2 (Ak (Cw (WW rfl Ae (YZ (Az (A0 ?_))))))))));exact Jg (mO X3 bf.out) ⟨n,j1,j2,j3,j4,j5,j6,j7,j8,j9,U,x0⟩
   . rintro A W hA ⟨n,g1,g2,g3,g4,g5,g6,g7,g8,g9,bn,x⟩ hm hk;rw [kA] at g1;rw [g1];have bz:a2.heap.size<W.heap.size:=(Array.getElem?_eq_some_iff.1 hk).1;refine It (DE (Ip (EL (FF (Ap Ac rfl rfl rfl (λwz hz=>by rw [show wz=W from hz];exact g2.cell rfl)) rfl (FF (D3 [.bool true,.int .i64 n,.slice none 0 0,.slice none 0 0,.slice none 0 0,.int .i64 0] Ac CJ rfl rfl rfl rfl) rfl
      (Wb Ym (D1 (us:=[_,_,_,_,_,_]) Ac rfl rfl rfl rfl rfl rfl g4 rfl) (λ_ _ h=>h) λw1 hp=>?_))))))
     have ay:Put W w1 au [.bool true,.int .i64 n,.slice none 0 0,.slice none 0 0,.slice none 0 0,.int .i64 0]:=hp;have bd:w1.heap[a2.heap.size]? = some (.deferred (some [])):=(ay.fr.block _ bz (λh=>by omega)).trans hk;refine KJ Ac rfl rfl rfl rfl rfl (g3.fr ay.fr Ab) λw2 h2 f2=>GW (DE (J0 (Yl ((f2.block _ (by rw [ay.size];exact bz) (λh=>by omega)).trans bd) λw3 f3=>Nw rfl Ac rfl rfl rfl rfl rfl rfl ((ay.blk.fr f2 Ab).fr f3 Ab) (h2.fr f3 Ab) rfl ?_)))
     exact ⟨none,0,none,0,none,0,rfl,Ih,GE,me (me (me x ay.fr (λk hk=>by omega)) f2 (λk hk=>by omega)) f3 (λk hk=>by omega)⟩
   . rintro A pre W hA av ⟨s,n,er,a,c,ta,tc,oa,oc,g1,g2,g3,g4,g5,x⟩ hm hk;rw [g1];refine IS (J3 (Yl hk λw3 f3=>Nw rfl Ac rfl rfl rfl rfl rfl rfl (g2.fr f3 Ab) (g3.fr f3 Ab) rfl ?_));exact ⟨a,c,ta,tc,oa,oc,rfl,(g4.fr f3 (λb hb e=>hb.2.1 (e▸hm))).wide (λb hb=>⟨hb.1,by have:=f3.size;omega⟩),g5,me x f3 (λk hk=>by omega)⟩
 . have hg:BM e p=(mJ,D8 e p):=AH hv;rw [hg];generalize D8 e p=k at *;unfold mE at *;refine Gu (args:=[_,_]) func24 ntmps24 rfl rfl (cS (eB [_,_,_,_,_,_,_,_,_,_,_,_] ?_));intro ex ey ao cy ez e0;revert X hs G M;refine eE cy ?_;intro X hs G M;refine eB [_,_,_,_,_,_] ?_;intro e1 e2 aj b0 dn dp;revert ao X hs G M;refine eE b0 ?_;intro ao X hs G M;refine eA [_,_,_,_,_,_] ?_;intro dq dr ak b2 ds dt;revert aj ao X hs G M;refine eE b2 ?_;intro aj ao X hs G M;refine eA [_] ?_;intro du dv al b3 dw dx;revert ak aj ao X hs G M;refine eE b3 ?_;intro ak aj ao X hs G M;refine eK ?_;refine A1 [_,_,_,_,_,_,_,_,_,_,_,_] Ac rfl rfl rfl ao rfl rfl rfl (A1 [_,_,_,_,_,_] Ac rfl rfl rfl aj rfl rfl rfl (cC rfl (HA.out _ Ae Ae Ae) ?_));rintro _ dy ⟨⟨⟩,b4⟩;revert al ak X;refine eE b4 ?_;intro al ak X;refine eK ?_;refine C1 (D3 [_,_,_,_,_,_] Ac CJ rfl rfl rfl rfl) (C1 Mv (eS [_,_,_,_,_,_] ak ?_));intro dz a7 b5 _;revert al X;refine eF b5 ?_;intro al X;refine eS [_] al ?_;intro d0 d1 b6 _;revert a7 X;refine eF b6 ?_;intro a7 X;refine eK ?_;refine dE (Nw rfl Ac rfl rfl rfl rfl rfl rfl Ae Ae rfl ?_);exact ⟨none,0,none,0,none,0,rfl,Ih,GE,X⟩
noncomputable def Cm (es:List EX) (L:List AtV) (s n:BJ) (p:PG):(VdV×Int)×List AtV:=
 if Cv s=true then match S0 es n with
  | none=>((mJ,21),L)
  | some i=>match es[i]? with
   | none=>((mJ,21),L)
   | some e=>if (BM e p).2≠0 then ((mJ,(BM e p).2),L) else (((BM e p).1,0),KP L s n (BM e p).1.ok)
 else ((mJ,3),L)
def SubR (M X:nP) (bb:Nat) (es:List EX) (r:(VdV×Int)×List AtV) (w:wD):Ending->wD->Prop:=λe w'=> ∃a c ta tc oa oc,e = .returned (.tuple #[.agg (r.1.1.row a c ta tc oa oc).toArray,.int .i64 r.1.2])/\r.1.1.st.sits (λb=>w.heap.size<=b/\b<w'.heap.size) w' a ta oa/\r.1.1.st.small /\
 ∃M':nP,(∀k,M k->M' k)/\(∀k,M' k->M k\/(w.heap.size<=k/\k<w'.heap.size))/\BkAt M' X w' bb es r.2/\Fr M w w'
def SubR.ret {X:nP} {r:(VdV×Int)×List AtV} (h:SubR A X n es r w e w'):∃v,e = .returned v:=by
 obtain ⟨_,_,_,_,_,_,h,-⟩:=h;exact ⟨_,h⟩
def ID {X:nP} {L:List AtV} {v:VdV} {k:Int} {ta oa:oA} {c N:Nat} (U:BkAt A X w n es L) (x:Ext w w') (V:v.st.sits (λb=>w.heap.size<=b/\b<w'.heap.size) w' a ta oa) (Y:v.st.small) :
 SubR A X n es ((v,k),L) w (.returned (.tuple #[.agg (v.row a c ta N oa m).toArray,.int .i64 k])) w':=
 ⟨a,c,ta,N,oa,m,rfl,V,Y,A,λ_ h=>h,λ_ h=>gP h,U.ext x,lX x⟩
def Nx {n:BJ} {i:Nat} (h:S0 es n=some i):∃e,es[i]? = some e/\e.name=n/\Ia es n=i:=by
 have G:=h;unfold S0 at h;obtain ⟨M,N,-⟩:=List.findIdx?_eq_some_iff_getElem.1 h;exact ⟨_,gN M,by simpa using N,by unfold Ia;rw [G]⟩
set_option maxHeartbeats 8000000 in
def R4 (M X:nP) (bb:Nat) (es:List EX) (ao:es.length<=1000) (L:List AtV) (s n:BJ) (ad:s.length<=9223372036854775807) (p:PG) (ae:Cv s=false\/S0 es n=none) (va:oA) (vc:Nat) (pa:oA) (pc:Nat) (ma:oA) (mc:Nat) (w:wD) (hb:BkAt M X w bb es L) :
 Calls prog 14 #[pt bb,str s,str n,.agg (p.cells va vc pa pc ma mc).toArray] w (SubR M X bb es (Cm es L s n p) w):=by
 have G:=Ne w;have HB:=gO hb;obtain ⟨ea,ec,r,V,h2,Y,-,-,-⟩:=hb;have HN:=gO (λw1=>KH s w1 ad);have HF:=gO (λw1 h h2=>PO bb es Ab n X ea ec (.map (some r)) w1 h rfl h2);cases hq:Cv s
 . have hv:Cm es L s n p=((mJ,3),L):=by unfold Cm;rw [At (by simp [hq])]
   rw [hv];rw [hq] at HN;refine Ad func14 ntmps14 rfl rfl (cS (eB [_,_,_,_,_,_] ?_));intro b1 w2 _ x5 p6 z7;have G:=G.ext x5;refine eA [_,_,_,_,_,_] ?_;intro b8 w9 U af ap aq;have G:=G.ext af;refine eK ?_;refine C1 (Fo Ac rfl rfl) (kC (HN.out _) ?_);rintro _ ar ⟨⟨⟩,ag⟩;revert U G;refine eE ag ?_;intro U G;refine eK ?_;refine C1 (xB [_,_,_,_,_,_]) (eS [_,_,_,_,_,_] U ?_);intro au av f21 _;have G:=G.fr f21 Ab;refine eK ?_;refine C4 rfl Ac rfl rfl rfl Ae rfl rfl ?_;exact ID (v:=mJ) HB.out G Ih GE
 . have O:=ae.resolve_left (by simp [hq]);have hv:Cm es L s n p=((mJ,21),L):=by unfold Cm;rw [AH hq,O]
   have hi:Ia es n = -1:=by unfold Ia;rw [O]
   rw [hv];rw [hq] at HN;rw [hi] at HF;refine Ad func14 ntmps14 rfl rfl (cS (eB [_,_,_,_,_,_] ?_));intro aw ax _ ah ay az;revert G V Y;refine eE ah ?_;intro G V Y;refine eA [_,_,_,_,_,_] ?_;intro a0 a1 N Z ai aj;revert G V Y;refine eE Z ?_;intro G V Y;refine eK ?_;refine C1 (Fo Ac rfl rfl) (kC (HN.out _) ?_);rintro _ ak ⟨⟨⟩,aa⟩;revert N G V Y;refine eE aa ?_;intro N G V Y;refine kC (HF.out _ Ae Ae) ?_;rintro _ al ⟨⟨⟩,ab⟩;revert N G;refine eE ab ?_;intro N G;refine eK ?_;refine C1 (xB [_,_,_,_,_,_]) (eS [_,_,_,_,_,_] N ?_);intro am an ac _;have G:=G.fr ac Ab;refine eK ?_;refine C4 rfl Ac rfl rfl rfl Ae rfl rfl ?_;exact ID (v:=mJ) HB.out G Ih GE
def Ur:Except Int Rn->Bool
 | .error e=>decide (e ≠ -1)
 | .ok _=>true
def IL (g:PG) (s:SV) (f d:Nat):Except Int Rn:=AG (Aw g.procs d) false g.main ⟨CK g.vars s g.vars.length,f⟩
def P1 {g:PG} {s:SV} {f d:Nat} (h:Ur (IL g s f d)=true):DQ g s f=IJ s f (IL g s f d):=by
 unfold DQ;have M:=PW g s f;generalize Classical.choose _=G at *;have N:IL g s f d≠.error (-1):=λe=>by rw [e] at h;simp [Ur] at h
 have k1:=LeX.blockN (ps:=g.procs) (Nat.le_max_left G d) false g.main ⟨CK g.vars s g.vars.length,f⟩ M;have O:=LeX.blockN (ps:=g.procs) (Nat.le_max_right G d) false g.main ⟨CK g.vars s g.vars.length,f⟩ N;rw [<-k1,O];rfl
def Tx (a b:SV):Bool:=decide (a.cells=b.cells)&&(decide (a.tin=b.tin)&&decide (a.tout=b.tout))
def sameSB_iff {a:SV}:Tx a b=true↔a=b:=by
 obtain ⟨h,G,a3⟩:=a;obtain ⟨M,N,O⟩:=b;simp [Tx]
def fH (g p:PG) (f d:Nat):List SV->Option Bool
 | []=>some true
 | s::l=>
  if Ur (IL g s f d)=true then
   if (IJ s f (IL g s f d)).err≠0 then fH g p f d l
   else if Ur (IL p (IJ s f (IL g s f d)).st f d)=true then
    if (IJ (IJ s f (IL g s f d)).st f (IL p (IJ s f (IL g s f d)).st f d)).err=0/\Tx (IJ (IJ s f (IL g s f d)).st f (IL p (IJ s f (IL g s f d)).st f d)).st s=true then fH g p f d l
    else some false
   else none
  else none
def P2 {g p:PG} {f d:Nat} {q:Bool}:∀(l:List SV) (n:Int),fH g p f d l=some q->(Wm g p f l n).ok=q
 | [],n,h=>by
  simp only [fH,gU] at h;rw [<-h];rfl
 | s::l,n,h=>by
  unfold fH at h;split at h
  . rename_i N;rw [Nu,P1 N];split at h
    . rename_i M;rw [AH M];exact P2 l n h
    . rename_i M;rw [At M];split at h
      . rename_i O;rw [P1 O];split at h
        . rename_i G;rw [AH ⟨G.1,sameSB_iff.1 G.2⟩];exact P2 l _ h
        . rename_i G;rw [At (λe=>G ⟨e.1,sameSB_iff.2 e.2⟩)];simpa using h
      . cases h
  . cases h
def pG (k:Int):PG:=⟨[⟨[120],1,0⟩],[],.mk 57 0 [] [.mk k 0 [] [.mk 2 0 [120] [],.mk 1 1 [] []]]⟩
def e50:EX:=⟨[105,110,99],5,9,⟨1,0,0⟩,pG 40⟩
def K1:e50.valid:=of_decide_eq_true AU
def fI:D8 e50 (pG 40)=0:=by
 have h:(pG 40).acc:=of_decide_eq_true AU;unfold D8;rw [At (λh=>h K1),At (by rw [h.1,h.2.1];simp),h.2.2];exact AH rfl
def fJ:D8 e50 (pG 41)=0:=by
 have h:(pG 41).acc:=of_decide_eq_true AU;unfold D8;rw [At (λh=>h K1),At (by rw [h.1,h.2.1];simp),h.2.2];exact AH rfl
def go40:(BM e50 (pG 40)).2=0/\(BM e50 (pG 40)).1.ok=false:=by
 unfold BM;rw [At (λh=>h fI)];exact ⟨rfl,P2 (d:=5) _ _ AU⟩
def go41:(BM e50 (pG 41)).2=0/\(BM e50 (pG 41)).1.ok=true:=by
 unfold BM;rw [At (λh=>h fJ)];exact ⟨rfl,P2 (d:=5) _ _ AU⟩
def L50:List AtV:=[⟨[97,110,110],[105,110,99],false⟩,⟨[97,110,110],[105,110,99],true⟩,⟨[98,111,98],[105,110,99],true⟩]
def gq:Cm [e50] [] [97,110,110] [105,110,99] (pG 40)=(((BM e50 (pG 40)).1,0),L50.take 1):=by
 have G:S0 [e50] [105,110,99]=some 0:=by kernel_rfl
 unfold Cm;rw [AH AU,G];show (if (BM e50 (pG 40)).2≠0 then _ else _)=_;rw [At (λh=>h go40.1),go40.2];rfl
def gt:Cm [e50] (L50.take 1) [97,110,110] [105,110,99] (pG 41)=(((BM e50 (pG 41)).1,0),L50.take 2):=by
 have G:S0 [e50] [105,110,99]=some 0:=by kernel_rfl
 unfold Cm;rw [AH AU,G];show (if (BM e50 (pG 41)).2≠0 then _ else _)=_;rw [At (λh=>h go41.1),go41.2];rfl
def gu:Cm [e50] (L50.take 2) [98,111,98] [105,110,99] (pG 41)=(((BM e50 (pG 41)).1,0),L50):=by
 have G:S0 [e50] [105,110,99]=some 0:=by kernel_rfl
 unfold Cm;rw [AH AU,G];show (if (BM e50 (pG 41)).2≠0 then _ else _)=_;rw [At (λh=>h go41.1),go41.2];rfl
def pts50:CG L50 [97,110,110] (Ki [e50])=5/\CG L50 [98,111,98] (Ki [e50])=5/\DV L50 [97,110,110] [105,110,99]=2/\Hy (SY L50 (Ki [e50])) L50=[[98,111,98],[97,110,110]]:=⟨by kernel_rfl,by kernel_rfl,by kernel_rfl,by kernel_rfl⟩
def Yp {g:PG} (M:g.wf) (G:g.acc) {s:SV} (N:FitsP g.vars s) (O:s.rng) (f:Nat) (h:(DQ g s f).err=0):(DQ g.pinv (DQ g s f).st f).err=0/\(DQ g.pinv (DQ g s f).st f).st=s:=by
 obtain ⟨d,U⟩:∃d,DQ g s f=IJ s f (IL g s f d):=⟨_,rfl⟩;rw [U] at h ⊢;cases hx:IL g s f d with
 | error k=>
  rw [hx] at h;have V:k=0:=h;rw [V] at hx;exact absurd hx (Nm (PU g.procs d) false g.main _)
 | ok r=>
  obtain ⟨-,-,-,X,Y,-,Z⟩:=RY M G.1 G.2.1 G.2.2 N O hx;have key:IL g.pinv r.st.sv f d = .ok X:=by
   have:=VF false (Xc G.1) d false (MG G.1);exact (congrFun this _).trans Y
  show (DQ g.pinv r.st.sv f).err=0/\(DQ g.pinv r.st.sv f).st=s;rw [P1 (d:=d) (by rw [key];rfl),key];exact ⟨rfl,Z⟩
def P3 {g:PG} (G:g.wf) (M:g.acc) (f:Nat):∀(l:List SV) (n:Int),(∀s∈l,FitsP g.vars s/\s.rng)->(Wm g g.pinv f l n).ok=true
 | [],_,_=>rfl
 | s::l,n,h=>by
  rw [Nu];obtain ⟨O,U⟩:=h s (je ..);split
  . exact P3 G M f l n (λx N=>h x (iU _ N))
  . rename_i V;rw [AH (Yp G M O U f (Decidable.not_not.1 V))];exact P3 G M f l _ (λx N=>h x (iU _ N))
def Wc {e:EX} (M:e.g.wf) (h:e.valid):(BM e e.g.pinv).2=0/\(BM e e.g.pinv).1.ok=true:=by
 have N:D8 e e.g.pinv=0:=by
  unfold D8;rw [At (not_not_intro h),At (by simp [h.2.2.1.1,h.2.2.1.2.1]),h.2.2.1.2.2];exact AH rfl
 unfold BM;rw [At (not_not_intro N)];exact ⟨rfl,P3 M h.2.1 _ _ _ (λs G=>⟨Ov s G,XZ s G⟩)⟩
def Yq (k:lB) (v z:Value) (kvs:List (lB×Value)):CI (Ez (Gm kvs k v) k) z false=v:=by simp [CI,WT]
def R5 {r:Nat} {L:List AtV} {n:BJ} {ok:Bool} {bf:BJ->Nat} (hm:A r) (h1:MapB w' r ((EN (Bo L) s).map λt=>(t,.map (some (bf t))))) (hs:A (bf s)/\bf s≠r/\MapB w' (bf s) (G1 (L++[⟨s,n,ok⟩]) s))
 (U:∀t∈Bo L,t≠s->A (bf t)/\bf t≠r/\bf t≠bf s/\MapB w' (bf t) (G1 L t)) (hj:∀t∈Bo L,t≠s -> ∀u∈Bo L,u≠s->bf t=bf u->t=u):RecAt A w' r (L++[⟨s,n,ok⟩]):=by
 have V:Bo (L++[⟨s,n,ok⟩])=EN (Bo L) s:=Lx ..;have h:∀t,t∈EN (Bo L) s->t=s\/(t∈Bo L/\t≠s):=λt G=>by
  by_cases e:t=s
  . exact gP e
  . exact gQ ⟨(mem_addN.1 G).resolve_right e,e⟩
 refine ⟨bf,by rw [V];exact h1,hm,λt G=>?_,λt G u X e=>?_⟩
 . rw [V] at G;rcases h t G with rfl|⟨O,N⟩
   . exact hs
   . obtain ⟨k1,k2,-,k4⟩:=U t O N;exact ⟨k1,k2,by rw [Vt L (λe=>N e.symm)];exact k4⟩
 . rw [V] at G X;rcases h t G with rfl|⟨O,N⟩
   . rcases h u X with rfl|⟨Y,Z⟩
     . rfl
     . exact absurd e.symm (U u Y Z).2.2.1
   . rcases h u X with rfl|⟨Y,Z⟩
     . exact absurd e (U t O N).2.2.1
     . exact hj t O N u Y Z e
set_option maxHeartbeats 8000000 in
def R6 (M X:nP) (bb:Nat) (es:List EX) (fa:es.length<=1000) (L:List AtV) (hL:L.length<=1000000) (s n:BJ) (cw:s.length<=9223372036854775807) (hq:Cv s=true) (e:EX) (i:Nat) (hi:S0 es n=some i) (he:es[i]? = some e) (hw:e.wf) (cx:e.fuel<=10000) (p:PG) (hp:p.wf) (cy:p.vars.length<=1000000) (S:nP) (va:oA) (vc:Nat) (pa:oA) (pc:Nat) (ma:oA) (mc:Nat) (w:wD)
 (hb:BkAt M X w bb es L) (Y:p.sits S w va pa ma) (Z:PDsC S w p.procs pa) (cz:p.vars.length<=vc) :
 Calls prog 14 #[pt bb,str s,str n,.agg (p.cells va vc pa pc ma mc).toArray] w (SubR M X bb es (Cm es L s n p) w):=by
 have X0:=Ne w;have hv:Cm es L s n p=if (BM e p).2≠0 then ((mJ,(BM e p).2),L) else (((BM e p).1,0),KP L s n (BM e p).1.ok):=by
  unfold Cm;rw [AH hq,hi];simp only [he]
 obtain ⟨-,-,-,c0⟩:=Nx hi;have fb:=(List.getElem?_eq_some_iff.1 he).1;rw [hv];have HB:=gO hb;obtain ⟨ea,ec,r,O,h2,h3,h4,h5,h6⟩:=hb;have HN:=gO (λw1=>KH s w1 cw);rw [hq] at HN;have HF:=gO (λw1 h h2=>PO bb es Ab n X ea ec (.map (some r)) w1 h rfl h2);rw [c0] at HF;obtain ⟨kb,ko,rfl,-,hk⟩:=mw h3 Ab;obtain ⟨b9,c4,b2,c5,ca,c6,rx,sx⟩:=hk i e he;have HG:=gO (λ(S1 S2 S3:nP) w1 (g1:e.g.sits S1 w1 b9 b2 ca) (c7:PDsC S1 w1 e.g.procs b2) (g2:p.sits S2 w1 va pa ma) (g3:PDsC S3 w1 p.procs pa)=>aB e hw cx p hp cy (λ_=>True) b9 c4 b2 c5 ca c6 va vc pa pc ma mc w1 ⟨g1.wide λ_ _=>trivial,c7.wide λ_ _=>trivial,sx.room⟩ (g2.wide λ_ _=>trivial) (g3.wide λ_ _=>trivial) cz);have q1:=sx.g;have q2:=sx.p;have fc:=O.lt;have c8:=gO h4;have H5:=gO h5;have H6:=gO h6;have H3:=gO h3;have H2:=gO h2;have H1:=gO O;clear h4 h5 h6 h2 hk sx hi hq hv;generalize fd:BM e p=gv at *;obtain ⟨vd,er⟩:=gv;simp only;unfold mE at *;obtain ⟨ac,cb,⟨bk,bl,bm⟩,cc⟩:=vd;refine Ad func14 ntmps14 rfl rfl ?_;refine cS (eB [_,_,_,_,_,_] ?_);intro b1 w2 h4 x5 p6 z7;revert Y Z X0 O h3 rx q1 q2;refine eE x5 ?_;intro Y Z X0 O h3 rx q1 q2;refine eA [_,_,_,_,_,_] ?_;intro b8 w9 aa c9 fe ff;revert h4 Y Z X0 O h3 rx q1 q2;refine eE c9 ?_;intro h4 Y Z X0 O h3 rx q1 q2;refine eK ?_;refine C1 (Fo Ac rfl rfl) ?_;refine kC (HN.out _) ?_;rintro _ fg ⟨⟨⟩,da⟩;revert aa h4 Y Z X0 O h3 rx q1 q2;refine eY da ?_;intro fh aa h4 Y Z X0 O h3 rx q1 q2;refine kC (HF.out _ Ae Ae) ?_;rintro _ cd ⟨⟨⟩,db⟩;revert aa h4 Y Z X0 O h3 rx q1 q2;refine eY db ?_;intro fj aa h4 Y Z X0 O h3 rx q1 q2;refine C1 Pa (cT (Aj (cS (C1 Mv (C1 V3 (cT (Dz (Ao (Ai ?_)))))))))
 refine FZ (ι:=Nat×oA×Nat×oA×Nat×oA×Nat) (λy=>[(0,pt bb),(1,str s),(2,str n),(8,pt b8),(11,pt y.1),(12,.int .i64 er)])
  (λy w'=>Blk w' y.1 [.bool ac,.int .i64 cb,.slice y.2.1 bk.length y.2.2.1,.slice y.2.2.2.1 bl.length y.2.2.2.2.1,.slice y.2.2.2.2.2.1 bm.length y.2.2.2.2.2.2,.int .i64 cc]/\(⟨bk,bl,bm⟩:SV).sits (λb=>w.heap.size<=b/\b≠y.1/\b≠b8/\b<w'.heap.size) w' y.2.1 y.2.2.2.1 y.2.2.2.2.2.1/\(⟨bk,bl,bm⟩:SV).small/\Blk w' bb [.slice (some ⟨kb,ko,none⟩) es.length ec,.map (some r)]/\Blk w' b8 [.bool false,.int .i64 0,.slice none 0 0,.slice none 0 0,.slice none 0 0,.int .i64 0]/\Ext w w'/\w.heap.size<=y.1/\y.1<w'.heap.size/\y.1≠b8) ?_ ?_
 . focus
    refine Aq (λwz=>Ext cd wz) 14 (.pure 0 (.pure 1 (.pure 2 (.pure 3 (.pure 4 (.pure 5 (.pure 6 (.pure 7 (.fork 8 (.pure 9 (.pure 10 (.pure 11 (.fork 12 (.fork 13 .tail .none) .none)))) (.fork 12 (.fork 8 (.pure 9 (.pure 10 (.pure 11 (.fork 13 .tail .none)))) .none) .none)))))))))) mixed AU (Aa Ag) ?_;intro dc ce _;have G:(λwz=>Ext cd wz) dc:=ce;simp only at G;have ay:=aa;have az:=h4;have a0:=Y;have a4:=Z;have ah:=O;have bo:=h3;have a5:=rx;have bp:=q1;have bq:=q2;revert aa h4 Y Z X0 O h3 rx q1 q2;refine eY ce ?_;intro fk aa h4 Y Z X0 O h3 rx q1 q2;refine ⟨G,?_⟩;refine eT ?_;refine Tq rfl (BC Ac rfl rfl rfl (λwz V=>(l5 a5 V)) rfl) (Tq rfl (xL [_,_,_,_,_,_] (λwz V=>(l9 az V))) ?_);refine AE rfl (AN AU rfl (HG.out _ _ _ _ Ae Ae Ae Ae) (λ_ _ h=>h.ret)) rfl ?_ aFh ?kra5;rintro _ dz ⟨fl,fm,d0,d1,dd,de,⟨⟩,an,d2,cf⟩;revert G aa h4 Y Z X0 O h3 rx q1 q2;refine eY cf ?_;intro d3 G aa h4 Y Z X0 O h3 rx q1 q2;refine ⟨G,?_⟩;refine eT ?_;refine AE rfl (Bb CJ rfl) rfl ?_ aFh AC;rintro _ d4 ⟨d5,rfl,ao⟩;have br:=ao.blk;dsimp only at br;have cg:=ao.ext;have d6:=ao.pos;have d7:=ao.size;revert an G aa h4 Y Z X0 O h3 rx q1 q2;refine eE cg ?_;intro an G aa h4 Y Z X0 O h3 rx q1 q2;refine ⟨G,?_⟩;refine Dm [_,_,_,_,_,_] [_,_,_,_,_,_] rfl Ac rfl rfl rfl rfl rfl rfl br rfl rfl ?_ AC;intro d8 a6;have d9:=a6.blk;have a7:=a6.fr;have eb:=a6.size;revert an G aa h4;refine eF a7 ?_;intro an G aa h4;clear Y Z;revert X0 O;refine eF a7 ?_;intro X0 O;clear h3 rx q1 q2 a7;refine ⟨G,?_⟩;clear ay az a0 a4 ah bo a5 bp bq G;refine Ar rfl (C1 Pa (Ak ?_));rotate_left;refine AE rfl (Bb CJ rfl) rfl ?_ aFh AC;rintro _ ed ⟨ee,rfl,ap⟩;have aq:=ap.blk;dsimp only at aq;have ch:=ap.ext;have ef:=ap.pos;have eg:=ap.size;revert G aa h4 Y Z X0 O h3 rx q1 q2;refine eE ch ?_;intro G aa h4 Y Z X0 O h3 rx q1 q2;refine ⟨G,?_⟩;refine tC rfl rfl (HG.out _ _ _ _ Ae Ae Ae Ae) ?_;rintro _ eh ⟨ei,ej,df,dg,dh,di,⟨⟩,bs,ek,ci⟩;revert aq G aa h4 Y Z X0 O h3 rx q1 q2;refine eY ci ?_;intro el aq G aa h4 Y Z X0 O h3 rx q1 q2
    refine ⟨G,?_⟩;refine eT ?_;refine Dm [_,_,_,_,_,_] [_,_,_,_,_,_] rfl Ac rfl rfl rfl rfl rfl rfl aq rfl rfl ?_ AC;intro en a8;have eo:=a8.blk;have a9:=a8.fr;have ep:=a8.size;revert bs G aa h4;refine eF a9 ?_;intro bs G aa h4;clear Y Z;revert X0 O;refine eF a9 ?_;intro X0 O;clear h3 rx q1 q2 a9;refine ⟨G,?_⟩;clear ay az a0 a4 ah bo a5 bp bq G;refine Ar rfl (C1 Pa (Ak ?_));rotate_left
   all_goals exact BY (_,_,_,_,_,_,_) sC ⟨Ae,mT Ae (λb h=>⟨Ab,by simp only;omega,Ab,Ab⟩),Ae,Ae,Ae,X0,by simp only;omega,by simp only;omega,by simp only;omega⟩
 . clear O h3 h4 aa HN HF HG rx q1 q2 Y Z X0;rintro ⟨dk,a1,c1,a2,c2,a3,c3⟩ w1 ⟨hv,sv,b3,O,U,X0,o1,o2,o3⟩;simp only at hv sv o1 o2 o3;refine mK (m:=[(0,pt bb),(1,str s),(2,str n),(8,pt b8),(11,pt dk),(12,.int .i64 er)]) ?_ sB;rcases Decidable.em (er=0) with b4|b4
   case inr=>
    rw [AH b4];refine eK ?_;refine C1 (xB [_,_,_,_,_,_]) (C1 Mv (eS [_,_,_,_,_,_] U ?_));intro fo fp dl _;revert hv sv O X0;refine eF dl ?_;intro hv sv O X0;refine C1 Pa (cT (AR (As ?_)));refine C4 rfl Ac rfl rfl rfl Ae rfl rfl ?_;exact ID (v:=mJ) HB.out X0 Ih GE
   subst b4;rw [At AK];have HX:=gO X0;have fq:=X0.size;obtain ⟨bf,b5,r2,r3,r4⟩:=c8.out;have dm:=gO b5;have r1:=b5.ext X0;have fs:=r1.lt;clear b5;have N:=r1.is;have hg:=PN L s n;unfold Hz at hg;by_cases ak:s∈Bo L
   . have al:CI (Ez ((Bo L).map λs=>(s,Value.map (some (bf s)))) s) (.map none) false = .map (some (bf s)):=by
      rw [FI (λs=>.map (some (bf s))),AH ak];rfl
     obtain ⟨m1,m2,cj⟩:=r3 s ak;have m3:=cj.ext X0;clear cj;have V:MapZ w1 (some (bf s)) (G1 L s):=gQ ⟨_,rfl,m3.is⟩;have b6:=gO r3;have ar:=gO r4;cases ad:Ce L s n
     . have ae:KP L s n ac=L++[⟨s,n,ac⟩]:=by unfold KP;rw [At (by simp [ad])]
       rw [ad] at hg;have af:=Ud L s n ac;rw [Rg L s n ac ad] at af;have dn:DV L s n<=1000000:=jg (List.countP_le_length ..) hL;have F:Fr (· = bf s) w w1:=lX X0;have ft:=H6.out _ m1;have dp:=H6.out _ r2;rw [ae];clear ae ad X0;refine eK ?_;refine C1 (Da Ac rfl rfl rfl rfl rfl al (λwz V=>by rw [show wz=_ from V];assumption)) (C1 Mv (C1 (Fv Ac rfl rfl rfl rfl rfl hg (λwz V=>by rw [show wz=_ from V];assumption)) (xA [_,_] ?_)));intro fu fv dq;refine eI [_,_] dq ?_;intro ck ba dr fw fx;revert hv sv O U r1 N m3 V F;refine eE dr ?_;intro hv sv O U r1 N m3 V F;refine eK ?_;refine C1 (Da Ac rfl rfl rfl rfl rfl al (λwz V=>by rw [show wz=_ from V];assumption)) (C1 (Zm Ac rfl rfl) ?_);refine eK ?_;refine Aq (λwz=>Ext ck wz) 13 (.pure 0 (.pure 1 (.pure 2 (.pure 3 (.pure 4 (.pure 5 (.pure 6 (.pure 7 (.pure 8 (.pure 9 (.pure 10 (.pure 11 (.pure 12 .tail))))))))))))) mixed AU (Aa Ag) ?_;intro ds bt _;have am:(λwz=>Ext ck wz) ds:=bt;simp only at am;have b7:=ba;have bu:=hv;have bv:=sv;have ah:=O;have bc:=U;have cl:=r1;have bn:=N;have cm:=m3;have bw:=V;revert ba hv sv O U r1 N m3 V F;refine eY bt ?_;intro eq ba hv sv O U r1 N m3 V F;refine ⟨am,?_⟩;refine eT ?_;refine Tq rfl (Da Ac rfl rfl rfl rfl rfl al (λwz V=>MapIs.ext Ae V)) ?_;refine eT ?_;refine Tq rfl (xB [_,_]) ?_;clear am b7 bu bv ah bc cl bn cm bw
       refine Ar rfl (A6 (Fg Ac rfl rfl rfl rfl rfl Ae) (BH ?_));rintro _ et ⟨au,ai,eu⟩;revert ba hv sv;refine eF ai ?_;intro ba hv sv;have U:=U.fr ai Ab;have r1:=MapB.fr r1 ai (λe=>m2 e.symm);have N:=MapIs.fr N ai (λe=>m2 e.symm);clear m3 V;have F:=l8 F ai (λk hk=>gP hk);refine eK ?_;refine eS [_,_,_,_,_,_] U ?_;intro ew ex bd ey;have au:=au.fr bd Ab;revert hv sv r1 N;refine eF bd ?_;intro hv sv r1 N;have F:=l8 F bd (λk hk=>gQ Ab);refine C1 Pa (cT (AR ?_));refine C4 rfl Ac rfl rfl rfl Ae rfl rfl ?_;rw [af] at au;have be:∀k,X k -> ¬k=bf s:=λk hk e=>(H5.out k hk).1 (e▸m1)
       refine ⟨a1,c1,a2,c2,a3,c3,rfl,sv.wide (λb h=>⟨h.1,Ab⟩),b3,M,λ_ h=>h,λ_ h=>gP h,⟨_,ec,r,H1.out.fr F (be _ H2.out),H2.out,H3.out.fr F be,R5 (bf:=bf) r2 ?_ ⟨m1,m2,au⟩ (λt ht bg=>?_) (λt ht _ u hu _=>ar.out t ht u hu),λk hk=>⟨(H5.out k hk).1,by have:=(H5.out k hk).2;have:=F.size;omega⟩,λk hk=>by have:=H6.out k hk;have:=F.size;omega⟩,F.weaken λk (e:k=bf s)=>by subst e;exact m1⟩
       . unfold EN;rw [AH ak];exact dm.out.fr F (λe=>m2 e.symm)
       . obtain ⟨k1,k2,k3⟩:=b6.out t ht;have cn:bf t≠bf s:=λe=>bg (ar.out t ht s ak e)
         exact ⟨k1,k2,cn,k3.fr F cn⟩
     . have ae:KP L s n ac=L:=by unfold KP;rw [AH ad]
       rw [ad] at hg;rw [ae];refine eK ?_;refine C1 (Da Ac rfl rfl rfl rfl rfl al (λwz V=>by rw [show wz=_ from V];assumption)) (C1 Mv (C1 (Fv Ac rfl rfl rfl rfl rfl hg (λwz V=>by rw [show wz=_ from V];assumption)) (xA [_,_] ?_)));intro fy fz dt;refine eI [_,_] dt ?_;intro f0 f1 du f2 f3;revert hv sv O U X0 r1 N m3 V;refine eE du ?_;intro hv sv O U X0 r1 N m3 V;refine eK ?_;refine eS [_,_,_,_,_,_] U ?_;intro f4 ez bx e0;revert hv sv O X0;refine eF bx ?_;intro hv sv O X0;clear r1 N m3 V bx;refine C1 Pa (cT (AR ?_));refine C4 rfl Ac rfl rfl rfl Ae rfl rfl ?_;exact ID (v:=⟨ac,cb,⟨bk,bl,bm⟩,cc⟩) HB.out X0 (sv.wide (λb h=>⟨h.1,Ab⟩)) b3
   . have co:G1 L s=[]:=by unfold G1;rw [MS ak];rfl
     have al:CI (Ez ((Bo L).map λs=>(s,Value.map (some (bf s)))) s) (.map none) false = .map none:=by
      rw [FI (λs=>.map (some (bf s))),At ak];rfl
     have V:MapZ w1 none (G1 L s):=gP ⟨rfl,co⟩;have ad:Ce L s n=false:=(KR L s n (by rw [MS ak];simp)).2;have ae:KP L s n ac=L++[⟨s,n,ac⟩]:=by unfold KP;rw [At (by simp [ad])]
     have af:=Ud L s n ac;rw [Rg L s n ac ad] at af;have dn:DV L s n<=1000000:=jg (List.countP_le_length ..) hL;have F:Fr (· = r) w w1:=lX X0;have b6:=gO r3;have ar:=gO r4;have dp:=H6.out _ r2;have f5:bb≠r:=λe=>(H5.out _ H2.out).1 (e▸r2)
     rw [ad] at hg;rw [ae];clear ae ad X0 r3 r4;refine eK ?_;refine C1 (Da Ac rfl rfl rfl rfl rfl al (λwz V=>by rw [show wz=_ from V];assumption)) (C1 Mv (C1 (Fv Ac rfl rfl rfl rfl rfl hg (λwz V=>by rw [show wz=_ from V];assumption)) (xA [_,_] ?_)));intro f6 f7 dv;refine eI [_,_] dv ?_;intro f8 ag dw f9 ga;revert hv sv O U r1 N V F;refine eE dw ?_;intro hv sv O U r1 N V F;refine eK ?_;refine C1 (Da Ac rfl rfl rfl rfl rfl al (λwz V=>by rw [show wz=_ from V];assumption)) (C1 (Zn Ac rfl rfl) ?_);refine eK ?_;refine Ax (IZ) rfl ?_ aFh;rintro _ e1 ⟨bh,rfl,e2,aj,cp,e3⟩;revert ag hv sv O U r1 N V F;refine eE cp ?_;intro ag hv sv O U r1 N V F;refine A6 (Fg Ac rfl rfl rfl rfl rfl Ae) (BH ?_);rintro _ bz ⟨ab,bi,e4⟩;revert aj ag hv sv O U;refine eF bi ?_;intro aj ag hv sv O U;clear r1 N;have V:=MapZ.fr V bi (λk hk=>(jX _ hk.symm).elim);have F:=l8 F bi (λk hk=>gP hk);refine cT (Aq (λwz=>Ext bz wz) 13 (.pure 0 (.pure 1 (.pure 2 (.pure 3 (.pure 4 (.pure 5 (.pure 6 (.pure 7 (.pure 8 (.pure 9 (.pure 10 (.pure 11 (.pure 12 .tail))))))))))))) mixed AU (Aa Ag) ?_);intro cq b0 _;have bj:(λwz=>Ext bz wz) cq:=b0;simp only at bj;have cu:=ab;have cv:=aj;have dx:=ag;have bu:=hv;have bv:=sv;have ah:=O;have bc:=U;have bw:=V;revert ab aj ag hv sv O U V F;refine eY b0 ?_;intro e5 ab aj ag hv sv O U V F;refine ⟨bj,?_⟩;refine eT ?_;refine Tq rfl (Da Ac rfl rfl rfl rfl rfl (Yq _ _ _ _) (λwz V=>MapIs.ext (MapB.is Ae) V)) ?_;refine eT ?_;refine Tq rfl (xB [_,_]) ?_;refine Ar rfl (A6 (Fg Ac rfl rfl rfl rfl rfl Ae) (BH ?_));rintro _ e6 ⟨av,aw,e7⟩;have ab:=ab.fr aw Ab;revert ag hv sv O U;refine eF aw ?_;intro ag hv sv O U;have V:=MapZ.fr V aw (λk hk=>(jX _ hk.symm).elim);have F:=l8 F aw (λk hk=>gQ Ab);refine eK ?_;refine eS [_,_,_,_,_,_] U ?_;intro cr e8 ax e9;revert av ab;refine eF ax ?_;intro av ab;revert hv sv O;refine eF ax ?_;intro hv sv O;have V:=MapZ.fr V ax (λk hk=>(jX _ hk.symm).elim);have F:=l8 F ax (λk hk=>gQ Ab);refine C1 Pa (cT (AR ?_))
     refine C4 rfl Ac rfl rfl rfl Ae rfl rfl ?_;rw [co] at af;rw [af] at av;have be:∀k,X k -> ¬k=r:=λk hk e=>(H5.out k hk).1 (e▸r2)
     have ct:=MT (f:=λt=>Value.map (some (bf t))) (g:=λt=>Value.map (some (if t=s then bh else bf t))) (n:=s) (λt ht=>by simp only [At ht]) (Bo L) (Kf L);simp only [if_true] at ct;rw [ct] at ab;have gb:w.heap.size<=bh/\bh<cr.heap.size:=⟨Ab,Ab⟩;have gc:=F.size;refine ⟨a1,c1,a2,c2,a3,c3,rfl,sv.wide (λb h=>⟨h.1,Ab⟩),b3,λk=>M k\/k=bh,λ_ h=>gP h,λk h=>h.imp id (λe=>by omega),⟨_,ec,r,H1.out.fr F (be _ H2.out),H2.out,H3.out.fr F be,R5 (bf:=λt=>if t=s then bh else bf t) (gP r2) ab ⟨?_,?_,?_⟩ (λt ht bg=>?_) (λt ht bg u hu dy e=>?_),λk hk=>⟨λh=>?_,by have:=(H5.out k hk).2;omega⟩,λk hk=>?_⟩,F.weaken λk (e:k=r)=>by subst e;exact r2⟩
     . simp
     . simp only [if_true];omega
     . simp only [if_true];exact av
     . obtain ⟨k1,k2,k3⟩:=b6.out t ht;have:=H6.out _ k1;simp only [At bg,if_true];exact ⟨gP k1,k2,Ab,k3.fr F (λe=>k2 e)⟩
     . simp only [At bg,At dy] at e;exact ar.out t ht u hu e
     . rcases h with h|h
       . exact (H5.out k hk).1 h
       . have:=(H5.out k hk).2;omega
     . rcases hk with hk|hk
       . have:=H6.out k hk;omega
       . omega
def D0:List Int->Int
 | []=>0
 | x::r=>if x≠0 then x else D0 r
def P4 {l:List Int} {j:Nat} (h:j<l.length):D0 (l.drop j)=if l[j]≠0 then l[j] else D0 (l.drop (j+1)):=by
 rw [iB h,D0]
def gw (xs:List Int) (Y:xs.length<=1000) (g c:Nat) (w:wD) (h:Blk w g (AZ xs)):Calls prog 37 #[.slice (some ⟨g,0,none⟩) xs.length c] w λe w'=>e = .returned (.int .i64 (D0 xs))/\Ext w w':=by
 have X:=Ne w;refine Ad func37 ntmps37 rfl rfl (cS (C1 Pa (cN (C1 Pa (cT (Aj (cS (C1 Mv (C1 Pz (C1 Mv (cT ?_)))))))))));refine Au ?_;refine AQ (ι:=Nat) (λj=>[(3,.int .i64 0),(6,.slice (some ⟨g,0,none⟩) xs.length c),(7,.int .i64 xs.length),(8,.int .i64 j)])
  (λj w'=>j<=xs.length/\D0 xs=D0 (xs.drop j)/\Blk w' g (AZ xs)/\Ext w w') (λj=>xs.length-j) 0 sB ⟨ii _,rfl,h,X⟩ ?_
 rintro j w1 ⟨Z,G,h,X⟩;by_cases M:j<xs.length
 . have U:Row w1 ⟨g,0+j*1,none⟩ [.int .i64 xs[j]]:=λi v N=>by
    have V:w1.cell? ⟨g,j,none⟩=some (.int .i64 xs[j]):=l7 h (by simp [AZ,M]);cases i with
    | zero=>
     simp only [iw,gU] at N;subst N;simpa [jA] using V
    | succ i=>simp at N
   rw [P4 M] at G;generalize xs[j]=x at *;by_cases O:x=0
   . subst O;rw [At AK] at G;refine cS (C1 V3 (cT (Aj (TM (Ao (Ai (Aj (Au (cS (C1 Pi (C1 (UC U) (C1 Pa (cN (C1 Mv (C1 Mv (C1 V2 (cT (NH (Ao (Ah (Ai (Al (C1 V7 (C1 Mv (Ak ?_)))))))))))))))))))))))));exact AA (j+1) sB ⟨Ab,G,h,X⟩ Ab
   . rw [AH O] at G;rw [G];refine kR ?_;exact ⟨rfl,X⟩
 . obtain rfl:j=xs.length:=by omega
   rw [kA] at G;rw [G];refine kR ?_;exact ⟨rfl,X⟩
def R7 (L:List AtV) (ps:List (BJ×Int)) (s t:BJ):D0 [KT Zq (CG L t ps) (CG L s ps),KT Zq (D6 L s) (D6 L t),KT JB s t]=Os L ps s t:=by
 unfold Os D0 D0 D0 D0;split
 . rfl
 . split
   . rfl
   . split
     . rfl
     . rename_i h;simp at h;exact h.symm
def aC (M X:nP) (V:Nat) (es:List EX) (he:es.length<=1000) (hp:∀e∈es,0<=e.points/\e.points<=1000) (L:List AtV) (hL:L.length<=1000000) (s t:BJ) (hs:s∈Bo L) (ht:t∈Bo L) (bx:Nat) (w:wD) (O:BkAt M X w V es L) (hx:Blk w bx [pt V]) :
 Calls prog 36 #[str s,str t,pt bx] w λe w'=>e = .returned (.int .i64 (Os L (Ki es) s t))/\Ext w w':=by
 have N:=Ne w;rw [<-R7];have HP:=gO (λs w1 h=>H7 M X V es he hp L s w1 h);have HT:=gO (λs hs w1 h=>Zp M X V es L hL s hs w1 h);have HO:=gO (λ(a b c:Int) g w1 h=>gw [a,b,c] AK g 3 w1 h);clear hp;refine Ad func36 ntmps36 rfl rfl ?_;refine eK ?_;refine Aq (λY=>Ext w Y) 16 (.pure 0 (.pure 1 (.pure 3 (.pure 4 (.pure 7 (.pure 8 (.pure 10 (.pure 11 (.pure 14 (.pure 15 (.fork 2 (.fork 5 (.fork 6 (.fork 9 (.fork 12 (.fork 13 .tail .none) .none) .none) .none) .none) .none))))))))))) mixed AU (Aa Ag) ?_;intro w1 x2 _;have G:(λY=>Ext w Y) w1:=x2;simp only at G;have ah:=hx;revert O N;refine eE x2 ?_;intro O N;refine ⟨G,?_⟩;refine eT ?_;refine tC rfl rfl (HP.out _ _ Ae) ?_;rintro _ w7 ⟨⟨⟩,x6⟩;revert G O N;refine eE x6 ?_;intro G O N;refine ⟨G,?_⟩;refine tC rfl rfl (HP.out _ _ Ae) ?_;rintro _ ai ⟨⟨⟩,Z⟩;revert G O N;refine eE Z ?_;intro G O N;refine ⟨G,?_⟩;refine tC rfl rfl (Xk _ _ _) ?_;rintro _ aj ⟨⟨⟩,aa⟩;revert G O N;refine eE aa ?_;intro G O N;refine ⟨G,?_⟩;refine tC rfl rfl (HT.out _ Ae _ Ae) ?_;rintro _ ak ⟨⟨⟩,ab⟩;revert G O N;refine eE ab ?_;intro G O N;refine ⟨G,?_⟩;refine tC rfl rfl (HT.out _ Ae _ Ae) ?_;rintro _ al ⟨⟨⟩,ac⟩;revert G N;refine eE ac ?_;intro G N;refine ⟨G,?_⟩;refine tC rfl rfl (Xk _ _ _) ?_;rintro _ am ⟨⟨⟩,ad⟩;revert G N;refine eE ad ?_;intro G N;refine ⟨G,?_⟩;refine Ar rfl (cC rfl (cB _ _ _) ?_);rintro _ an ⟨⟨⟩,ae⟩;have N:=N.ext ae;refine Ax (xS [_,_,_]) rfl ?_ aFh;rintro _ ao ⟨ap,rfl,U,aq⟩;have ar:=U.blk;have af:=U.ext;have N:=N.ext af;refine cC rfl (HO.out _ _ _ _ _ Ae) ?_;rintro _ au ⟨⟨⟩,ag⟩;have N:=N.ext ag;refine kR ?_
 exact ⟨rfl,N⟩
section
variable {lt:α->α->Bool}
def Gb (lt:α->α->Bool) (l:List α):List α:=l.foldl (λa x=>CH lt x a) []
def Ty (l:List α) (x:α):Gb lt (l++[x])=CH lt x (Gb lt l):=by simp [Gb,List.foldl_append]
def Ny (x:α):∀l:List α,(CH lt x l).length=l.length+1
 | []=>rfl
 | y::r=>by unfold CH;split<;>simp [Ny x r]
def Nz:∀l a:List α,(l.foldl (λa x=>CH lt x a) a).length=a.length+l.length
 | [],a=>rfl
 | x::l,a=>by rw [List.foldl_cons,Nz l,Ny,gV];omega
def K3 (l:List α):(Gb lt l).length=l.length:=by
 have:=Nz (lt:=lt) l [];simpa [Gb] using this
def G8 (p:List α) (x:α) (q r:List α):List α:=p.reverse++(x::(q++r))
def Yr (p:List α) (x:α) (q r:List α):(G8 p x q r)[p.length]? = some x:=by unfold G8;simp
def Ys (y:α) (p:List α) (x:α) (q r:List α):(G8 (y::p) x q r)[p.length]? = some y:=by unfold G8;simp
def OS (y:α) (p:List α) (x:α) (q r:List α):((G8 (y::p) x q r).set (p.length+1) y).set p.length x=G8 p x (y::q) r:=by
 unfold G8;rw [jR,iI];simp [List.set_append]
def R8 (p:List α) (x:α) (q r:List α):(G8 p x q r).length=p.length+1+q.length+r.length:=by unfold G8;simp;omega
def InsI (lt:α->α->Bool) (x:α) (a p q:List α):Prop:=(CH lt x a).reverse=(CH lt x p).reverse++q
def InsI.step {x y:α} {a p q:List α} (h:InsI lt x a (y::p) q) (G:lt x y=true):InsI lt x a p (y::q):=by
 unfold InsI at h ⊢;rw [h,CH,AH G];simp
def InsI.stop {x:α} {a p q:List α} (h:InsI lt x a p q) (G:∀y r,p=y::r->lt x y=false) (r:List α):G8 p x q r=(CH lt x a).reverse++r:=by
 unfold InsI at h;rw [h];cases p with
 | nil=>simp [G8,CH]
 | cons y p=>
  rw [CH,At (by rw [G y p rfl];simp)];simp [G8]
def Wd {z:α} {l:List α} (h:z∈Gb lt l):z∈l:=by
 have:=(MN (lt:=lt) (z:=z) l []).1 h;simpa using this
def NA (lt:α->α->Bool) (l:List α) (i:Nat):List α:=(Gb lt (l.take i)).reverse++l.drop i
def R9 {l:List α} {i:Nat} (h:i<l.length):NA lt l i=G8 (Gb lt (l.take i)) l[i] [] (l.drop (i+1)):=by
 unfold NA G8;rw [iB h,jJ]
def OT {l:List α} {i:Nat} (h:i<l.length):NA lt l (i+1)=(CH lt l[i] (Gb lt (l.take i))).reverse++l.drop (i+1):=by
 unfold NA;rw [gS h,Ty]
def NB {l:List α} (h:1<=l.length):NA lt l 1=l:=by
 cases l with
 | nil=>simp at h
 | cons x r=>simp [NA,Gb,CH]
def K4 {l:List α}:NA lt l l.length=FG lt l:=by
 unfold NA FG Gb;simp
def InsI.first (x:α) (a:List α):InsI lt x a a []:=by unfold InsI;simp
end
def ArrT (w:wD) (g:Nat) (xs:List BJ):Prop:= ∃tail,Blk w g (xs.map str++tail)
section
variable {tab:Tab} {g:Nat}
def ArrT.lt (h:ArrT w g xs):g<w.heap.size:=by obtain ⟨_,h⟩:=h;exact h.lt
def ArrT.ext (h:ArrT w g xs) (x:Ext w w'):ArrT w' g xs:=by obtain ⟨t,h⟩:=h;exact ⟨t,h.ext x⟩
instance  : LfE w w' (ArrT w g xs) (ArrT w' g xs):=⟨λx h=>Bk.ArrT.ext h x⟩
def ArrT.row1 {j:Nat} {x:BJ} (h:ArrT w g xs) (M:xs[j]? = some x):Row w ⟨g,0+j*1,none⟩ [str x]:=λi v G=>by
 obtain ⟨t,h⟩:=h;have N:=(List.getElem?_eq_some_iff.1 M).1;have O:w.cell? ⟨g,j,none⟩=some (str x):=l7 h (by rw [gW (by simpa using N),iJ,M];rfl);cases i with
 | zero=>
  simp only [iw,gU] at G;subst G;simpa [jA] using O
 | succ i=>simp at G
def Gc {y:Operand} {t sz j:Nat} {s:Sk} {z:BJ} (T:TabOk P tab) (ht:AB tab t=some (s,sz)) (hz:sz=1) (hx:ev l x=some (.pointer (some ⟨g,0+j*1,none⟩))) (hy:ev l y=some (str z)) (hA:ArrT w g xs) (hj:j<xs.length) :
 BE P n l (.store t x y) ty w (GR λw'=>ArrT w' g (xs.set j z)/\Fr (· = g) w w'/\w'.heap.size=w.heap.size):=by
 subst hz;obtain ⟨tl,hb⟩:=hA;have hd:=D1 (P:=P) (n:=n) (l:=l) (ty:=ty) (us:=[str z]) T ht hx hy rfl rfl rfl hb (by rw [lJ];simp;omega);unfold BE at hd ⊢;intro a dst pos after gd next Q ha hn b;refine hd a dst pos after gd next Q ha (λv' w' h=>h.elim) (λw' hP=>b w' ?_);have hP':Put w w' g (A7 (xs.map str++tl) (0+j*1) [str z]):=hP;have e:A7 (xs.map str++tl) (0+j*1) [str z]=(xs.set j z).map str++tl:=by
  simp only [A7,iY,kh];rw [List.set_append,AH (by simpa using hj),List.map_set]
 rw [e] at hP';exact ⟨⟨tl,hP'.blk⟩,hP'.fr,hP'.size⟩
end
abbrev aZ (bx:Nat):Value:=.func (.func 36) #[] #[.pointer (some ⟨bx,0,none⟩)]
set_option maxHeartbeats 8000000 in
def dF (M X:nP) (bb:Nat) (es:List EX) (he:es.length<=1000) (hp:∀e∈es,0<=e.points/\e.points<=1000) (L:List AtV) (hL:L.length<=1000000) (bx g cap:Nat) (xs:List BJ) (hx:∀x∈xs,x∈Bo L) (hn:1<=xs.length/\xs.length<=12) (hg:¬X g /\ ¬M g/\g≠bx) (w:wD) (O:BkAt M X w bb es L) (G:Blk w bx [pt bb]) (N:ArrT w g xs) :
 Calls prog 92 #[.slice (some ⟨g,0,none⟩) xs.length cap,.int .i64 0,.int .i64 xs.length,aZ bx] w λe w'=>e = .returned (.tuple #[])/\ArrT w' g (FG (SY L (Ki es)) xs)/\Fr (· = g) w w':=by
 have F:=lZ (· = g) w;have HC:=gO (λs t hs ht w1 h1 h2=>aC M X bb es he hp L hL s t hs ht bx w1 h1 h2);have au:=λs t=>Xi L (Ki es) s t
 obtain ⟨g1,g2,g3⟩:=hg;have HX:=gO hx;generalize be:SY L (Ki es)=lt at *;clear hp hx;refine Ad func92 ntmps92 rfl rfl ?_;refine cS (C1 Mv (C1 V7 (C1 Pa (cT ?_))));refine Au ?_;refine AQ (ι:=Nat) (λi=>[(0,.slice (some ⟨g,0,none⟩) xs.length cap),(1,.int .i64 0),(2,.int .i64 xs.length),(3,aZ bx),(8,.int .i64 i)])
  (λi w'=>1<=i/\i<=xs.length/\ArrT w' g (NA lt xs i)/\BkAt M X w' bb es L/\Blk w' bx [pt bb]/\Fr (· = g) w w') (λi=>xs.length-i) 1 sB ⟨ip _,hn.1,by rw [NB hn.1];exact N,O,G,F⟩ ?_
 clear N O G F;rintro i w1 ⟨bk,hi,N,O,G,F⟩;by_cases ao:i<xs.length
 . have ai:∀z∈Gb lt (xs.take i),z∈Bo L:=λz hz=>HX.out z (jz (Wd hz))
   have a3:=HX.out _ (ig ao);have a4:=K3 (lt:=lt) (xs.take i);rw [iO] at a4;have av:=OT (lt:=lt) ao;rw [R9 ao] at N;have bl:(xs.drop (i+1)).length=xs.length-(i+1):=kd ..;have HM:=gO ai;have HN:=gO av;clear ai av HX;generalize bm:Gb lt (xs.take i)=acc at *;generalize xs.drop (i+1)=r at *;generalize xs[i]=x at *;refine Aj (cS (C1 Mv (C1 Mv (C1 V3 (cT (TM (Ao (Ai (Aj (Au (cS ?_)))))))))));refine C1 Mv (C1 Pa (cT ?_));refine Au ?_;refine AQ (ι:=List BJ×List BJ) (λz=>[(0,.slice (some ⟨g,0,none⟩) xs.length cap),(1,.int .i64 0),(2,.int .i64 xs.length),(3,aZ bx),(8,.int .i64 i),(9,.int .i64 z.1.length)])
    (λz w'=>InsI lt x acc z.1 z.2/\z.1.length+z.2.length=i/\(∀y∈z.1,y∈Bo L)/\ArrT w' g (G8 z.1 x z.2 r)/\BkAt M X w' bb es L/\Blk w' bx [pt bb]/\Fr (· = g) w w') (λz=>z.1.length) (acc,[]) (by (refine An rfl ?_;refine An rfl ?_;refine An rfl ?_;refine An rfl ?_;refine An rfl ?_;refine B4 rfl (by go_num) ?_;exact BK)) ⟨InsI.first x acc,by simp only [iG];omega,HM.out,N,O,G,F⟩ ?_
   clear N O G F;rintro ⟨p,q⟩ w2 ⟨hI,ap,ag,N,O,G,F⟩;simp only at hI ap ag N;refine mK (m:=[(0,.slice (some ⟨g,0,none⟩) xs.length cap),(1,.int .i64 0),(2,.int .i64 xs.length),(3,aZ bx),(8,.int .i64 i),(9,.int .i64 p.length)]) ?_ sB;have rx:=N.row1 (Yr p x q r);have aw:=R8 p x q r;cases p with
   | nil=>
    have V:=hI.stop (λy r h=>by cases h) r;rw [<-HN.out] at V;rw [V] at N;refine eK ?_;refine Aq (λU=>Ext w2 U) 14 (.pure 0 (.pure 1 (.pure 2 (.pure 3 (.pure 4 (.pure 5 (.pure 6 (.pure 7 (.pure 8 (.pure 9 (.pure 10 (.pure 11 (.pure 12 (.pure 13 .tail)))))))))))))) mixed AU (Aa (Aa (Aa (Af (Af (Aa (Aa (Af Ag)))))))) ?_;intro a5 ax _;have aj:(λU=>Ext w2 U) a5:=ax;simp only at aj;revert O G F N;refine eE ax ?_;intro O G F N;refine ⟨aj,?_⟩;refine Tq rfl Mv (Tq rfl Mv (Tq rfl V5 (Tq rfl Mv (eM rfl (eM rfl (eM rfl (eM rfl (eM rfl (eM rfl (eM rfl (eM rfl ?_)))))))))));refine eM rfl (eM rfl ?_);refine Ar rfl (YF (YF (C1 aO (cT (Ba rfl (B9 (Az (Az (A0 (Ah (Ai ?_)))))))))));refine Al (C1 Mv (C1 V7 (C1 Pa (Ak ?_))));exact AA (i+1) sB ⟨Ab,Ab,N,O,G,F⟩ Ab
   | cons y p=>
    have ry:=N.row1 (Ys y p x q r);have ay:=OS y p x q r;have az:=gO (HC.out x y a3 (ag y AK));have ad:=au x y;have ak:∀z∈p,z∈Bo L:=λz hz=>ag z (by simp [hz])
    have Y:jo .i64 ((p.length:Int)+1-1)=(p.length:Int):=by rw [Int.add_sub_cancel];exact gX _ (by simp only [gV] at ap;omega)
    have HI:=gO hI;have a6:=gO ak;simp only [gV] at rx aw ap;clear ag hI ak au;refine mK (m:=[(0,.slice (some ⟨g,0,none⟩) xs.length cap),(1,.int .i64 0),(2,.int .i64 xs.length),(3,aZ bx),(8,.int .i64 i),(9,.int .i64 ((p.length:Int)+1))]) ?_ sB;generalize Os L (Ki es) x y=cv at *;by_cases ae:lt x y=true
    . rw [ae] at ad;have a7:cv<0:=of_decide_eq_true ad;have a8:=HI.out.step ae;clear HI ad;generalize G8 (y::p) x q r=row at *;refine eK ?_;refine Aq (λU=>Ext w2 U) 14 (.pure 0 (.pure 1 (.pure 2 (.pure 3 (.pure 4 (.pure 5 (.pure 6 (.pure 7 (.pure 8 (.pure 9 (.pure 10 (.pure 11 (.pure 12 (.pure 13 .tail)))))))))))))) mixed AU (Aa (Aa (Aa (Af (Af (Aa (Aa (Af Ag)))))))) ?_;intro a9 a0 _;have al:(λU=>Ext w2 U) a9:=a0;simp only at al;have Z:=rx;have aa:=ry;revert O G F rx ry N;refine eE a0 ?_;intro O G F ry rx N;refine ⟨al,?_⟩;refine Tq rfl Mv (Tq rfl Mv (Tq rfl V5 (Tq rfl Mv (eN rfl (Av rfl) (eN rfl (Av rfl) (eN rfl (Av rfl) (eN rfl (AO Ac rfl rfl rfl rfl Ab Ab) (eN rfl (Ap Ac rfl rfl rfl (λU hz=>mb (l5 Z hz) rfl)) (eN rfl (Av rfl) (eN rfl (Av rfl) (eN rfl (AL (c:=(p.length:Int)) rfl rfl Y) ?_)))))))))));refine eN rfl (AO Ac rfl rfl rfl rfl Ab Ab) (eN rfl (Ap Ac rfl rfl rfl (λU hz=>mb (l5 aa hz) rfl)) ?_);refine Ar rfl (dP ?_);refine Ax (A8 (fi:=[]) (ca:=[pt bx]) AU rfl rfl (az.out _ Ae Ae) (λ_ _ h=>⟨_,h.1⟩)) rfl ?_ aFh;rintro _ ah ⟨⟨⟩,ba⟩;revert O G F rx ry N;refine eE ba ?_;intro O G F ry rx N;refine eK ?_;refine E6 (λU=>Ext ah U) (λU=>Fr (λx=>x=g) ah U) [2,3,4,15,16,17] [2,3,4] 15 16 (.free 2 (.free 3 (.free 4 (.pure 0 (.pure 1 (.pure 5 (.pure 6 (.pure 7 (.pure 8 (.pure 9 (.pure 10 (.pure 11 (.pure 12 (.pure 13 (.pure 14 (.put 15 (.tail 16))))))))))))))))) (λ_ h=>lX h) mixed AU (Af (Aa (Aa (Af (Af (Aa (Aa (Af Ag)))))))) ?_;intro a1 aq _;have ar:(λU=>Ext ah U) a1:=aq;simp only at ar;have ac:(λU=>Fr (λx=>x=g) ah U) a1:=lX aq;simp only at ac;have Z:=rx;have aa:=ry;revert O G F N;refine eE aq ?_;intro O G F N;refine Bp Ae rfl (Av rfl) rfl (Bp Ae rfl (Av rfl) rfl (Bp Ae rfl (AL (c:=(p.length:Int)) rfl rfl Y) rfl (Am Ae rfl (Av rfl) rfl (Am Ae rfl (Av rfl) rfl (Am Ae rfl (Av rfl) rfl (Am Ae rfl (Av rfl) rfl (Am Ae rfl (AL (c:=(p.length:Int)) rfl rfl Y) rfl (Am Ae rfl (AO Ac rfl rfl rfl rfl Ab Ab) rfl ?_))))))));refine Am Ae rfl (Ap Ac rfl rfl rfl (λU hz=>mb (l5 aa hz) rfl)) rfl (Am Ae rfl (Av rfl) rfl (Am Ae rfl (Av rfl) rfl ?_))
      refine Am Ae rfl (AO Ac rfl rfl rfl rfl Ab Ab) rfl (Am Ae rfl (Ap Ac rfl rfl rfl (λU hz=>mb (l5 Z hz) rfl)) rfl (Am Ae rfl (AO Ac rfl rfl rfl rfl Ab Ab) rfl (DB rfl (Gc (j:=p.length+1) (z:=y) Ac rfl rfl rfl rfl Ae Ab) (BH ?_))));rintro _ bf ⟨bg,ab,bh⟩;have ac:=ac.fr ab Ab;have O:=BkAt.fr O ab (λk hk e=>by (rcases hk with hk|hk;exact g1 (e▸hk);exact g2 (e▸hk)));have G:=lY G ab (λe=>g3 e.symm);have F:=F.fr ab Ab;clear rx ry N ab;refine ⟨Ae,?_⟩;refine DA rfl (C1 Pi (A6 (Gc (j:=p.length) (z:=x) Ac rfl rfl rfl rfl Ae (by rw [jx];omega)) (BH ?_)));rintro _ bi ⟨am,af,bj⟩;have O:=BkAt.fr O af (λk hk e=>by (rcases hk with hk|hk;exact g1 (e▸hk);exact g2 (e▸hk)));have G:=lY G af (λe=>g3 e.symm);have F:=F.fr af Ab;refine eK ?_;refine C1 (AL (c:=(p.length:Int)) rfl rfl Y) (C1 Pa (Ak ?_));rw [ay] at am;exact AA (p,y::q) sB ⟨a8,by simp only [gV];omega,a6.out,am,O,G,F⟩ AK
    . rw [Bool.not_eq_true] at ae;rw [ae] at ad;have a7:¬cv<0:=of_decide_eq_false ad;have V:=HI.out.stop (λy' r' h=>by simp only [iT] at h;rw [<-h.1];exact ae) r;rw [<-HN.out] at V;rw [V] at N;clear HI ad ay;refine eK ?_;refine Aq (λU=>Ext w2 U) 14 (.pure 0 (.pure 1 (.pure 2 (.pure 3 (.pure 4 (.pure 5 (.pure 6 (.pure 7 (.pure 8 (.pure 9 (.pure 10 (.pure 11 (.pure 12 (.pure 13 .tail)))))))))))))) mixed AU (Aa (Aa (Aa (Af (Af (Aa (Aa (Af Ag)))))))) ?_;intro bc a2 _;have an:(λU=>Ext w2 U) bc:=a2;simp only at an;have Z:=rx;have aa:=ry;revert O G F N;refine eE a2 ?_;intro O G F N;refine ⟨an,?_⟩;refine Tq rfl Mv (Tq rfl Mv (Tq rfl V5 (Tq rfl Mv (eN rfl (Av rfl) (eN rfl (Av rfl) (eN rfl (Av rfl) (eN rfl (AO Ac rfl rfl rfl rfl Ab Ab) (eN rfl (Ap Ac rfl rfl rfl (λU hz=>mb (l5 Z hz) rfl)) (eN rfl (Av rfl) (eN rfl (Av rfl) (eN rfl (AL (c:=(p.length:Int)) rfl rfl Y) ?_)))))))))));refine eN rfl (AO Ac rfl rfl rfl rfl Ab Ab) (eN rfl (Ap Ac rfl rfl rfl (λU hz=>mb (l5 aa hz) rfl)) ?_);refine Ar rfl (dP ?_);refine Ax (A8 (fi:=[]) (ca:=[pt bx]) AU rfl rfl (az.out _ Ae Ae) (λ_ _ h=>⟨_,h.1⟩)) rfl ?_ aFh;rintro _ bn ⟨⟨⟩,bd⟩;revert O G F N;refine eE bd ?_;intro O G F N;refine dP (C1 V3 (C1 aP (cT (YE (B9 (Az (Az (A0 (Ah (Ai (Al ?_)))))))))));refine C1 Mv (C1 V7 (C1 Pa (Ak ?_)))
      exact AA (i+1) sB ⟨Ab,Ab,N,O,G,F⟩ Ab
 . obtain rfl:i=xs.length:=by omega
   rw [K4] at N;refine Aj (cS (C1 Mv (C1 Mv (C1 V3 (cT (Dz (B9 (Az (Az (A0 (Bm rfl ?_)))))))))));exact ⟨rfl,N,F⟩
set_option maxHeartbeats 8000000 in
def aD (f:Value) (a:oA) (c:Nat) (w:wD):Calls prog 92 #[.slice a 0 c,.int .i64 0,.int .i64 0,f] w λe w'=>e = .returned (.tuple #[])/\Ext w w':=by
 have X:=Ne w;refine Ad func92 ntmps92 rfl rfl (cS (C1 Mv (C1 V7 (C1 Pa (cT ?_)))));refine Au ?_;refine AQ (ι:=Unit) (λ_=>[(2,.int .i64 0),(8,.int .i64 1)]) (λ_ w'=>Ext w w') (λ_=>0) () sB X ?_;rintro _ w1 X;refine Aj (cS (C1 Mv (C1 Mv (C1 V3 (cT (NH (B9 (Az (Az (A0 (Bm rfl ?_)))))))))));exact ⟨rfl,X⟩
def IE (n:Nat) (h:n<=255) (w:wD):Calls prog 65 #[.int .u64 n] w λe w'=> ∃k:Int,e = .returned (.int .i64 k)/\Ext w w':=by
 have X:=Ne w;have G:Hid (∀w1,Calls prog 101 #[.int .u64 n] w1 λe w'=> ∃k:Int,e = .returned (.int .i64 k)/\Ext w1 w'):=gO λw1=>(Tryz.bits_Len64 n w1 Ab Ab).mono λ_ _ ⟨M,h2⟩=>⟨_,M,by rw [h2];exact Ne _⟩
 refine Ad func65 ntmps65 rfl rfl (eK ?_);refine Ax (AN AU rfl (G.out _) (λ_ _ ⟨_,h⟩=>⟨_,h.1⟩)) rfl ?_ aFh;rintro _ O ⟨k1,⟨⟩,N⟩;have X:=X.ext N;refine kR ?_;exact ⟨_,rfl,X⟩
def dG (x y:BJ) (w:wD):Calls prog 131 #[str x,str y] w λe w'=>e = .returned (.bool (JB x y))/\Ext w w':=by
 have X:=Ne w;unfold JB;refine Ad func131 ntmps131 rfl rfl (kC (Jk _ _) ?_);rintro _ G ⟨⟨⟩,h⟩;have X:=X.ext h;refine eK ?_;refine C1 (Kj rfl rfl) (kR ?_);exact ⟨rfl,X⟩
set_option maxHeartbeats 8000000 in
def Tz (M X:nP) (O:Nat) (es:List EX) (he:es.length<=1000) (hp:∀e∈es,0<=e.points/\e.points<=1000) (L:List AtV) (hL:L.length<=1000000) (N g cap:Nat) (xs:List BJ) (hx:∀x∈xs,x∈Bo L) (hn:1<=xs.length/\xs.length<=12) (hg:¬X g /\ ¬M g/\g≠N) (w:wD) (U:BkAt M X w O es L) (G:Blk w N [pt O]) (V:ArrT w g xs) :
 Calls prog 35 #[.slice (some ⟨g,0,none⟩) xs.length cap,aZ N] w λe w'=>e = .returned (.tuple #[])/\ArrT w' g (FG (SY L (Ki es)) xs)/\Fr (· = g) w w':=by
 have HI:=gO (λw1 h1 h2 h3=>dF M X O es he hp L hL N g cap xs hx hn hg w1 h1 h2 h3);have HQ:Hid (∀(k:Int) w1,BkAt M X w1 O es L->Blk w1 N [pt O]->ArrT w1 g xs->Calls prog 64 #[.slice (some ⟨g,0,none⟩) xs.length cap,.int .i64 0,.int .i64 xs.length,.int .i64 k,aZ N] w1 λe w'=>e = .returned (.tuple #[])/\ArrT w' g (FG (SY L (Ki es)) xs)/\Fr (· = g) w1 w'):=gO λk w1 U G V=>by
  have F:=lZ (· = g) w1;refine Ad func64 ntmps64 rfl rfl (cS (C1 Pa (cN (C1 Pa (cT ?_)))));refine Au ?_;refine AQ (ι:=Unit) (λ_=>[(0,.slice (some ⟨g,0,none⟩) xs.length cap),(1,.int .i64 0),(2,.int .i64 xs.length),(3,.int .i64 k),(4,aZ N)]) (λ_ w'=>ArrT w' g xs/\BkAt M X w' O es L/\Blk w' N [pt O]/\Fr (· = g) w1 w') (λ_=>0) () sB ⟨V,U,G,F⟩ ?_;rintro _ w2 ⟨V,U,G,F⟩;refine eK ?_;refine C1 (AL rfl rfl (gX _ Ab)) (kC (HI.out _ Ae Ae Ae) ?_);rintro _ ab ⟨⟨⟩,ac,Y⟩;have F:=F.fr Y Ab;refine eK ?_;refine EW rfl ?_;exact ⟨rfl,Ae,F⟩
 have F:=lZ (· = g) w;refine Ad func35 ntmps35 rfl rfl (eK ?_);refine C1 (Hg Ac rfl rfl rfl (JI _ Ab Ab)) (Ax (AN AU rfl (IE xs.length Ab _) (λ_ _ ⟨_,h⟩=>⟨_,h.1⟩)) rfl ?_ aFh);rintro _ ad ⟨ae,⟨⟩,Z⟩;revert U G V F;refine eE Z ?_;intro U G V F;refine C1 Mv (cC rfl (HQ.out _ _ Ae Ae Ae) ?_);rintro _ af ⟨⟨⟩,ag,aa⟩;have F:=F.fr aa Ab;refine Ak (Bm rfl ?_);exact ⟨rfl,Ae,F⟩
set_option maxHeartbeats 8000000 in
def Sa (f:Value) (a:oA) (c:Nat) (w:wD):Calls prog 35 #[.slice a 0 c,f] w λe w'=>e = .returned (.tuple #[])/\Ext w w':=by
 have O:Hid (∀(k:Int) w1,Calls prog 64 #[.slice a 0 c,.int .i64 0,.int .i64 0,.int .i64 k,f] w1 λe w'=>e = .returned (.tuple #[])/\Ext w1 w'):=gO λk w1=>by
  have X:=Ne w1;refine Ad func64 ntmps64 rfl rfl (cS (C1 Pa (cN (C1 Pa (cT ?_)))));refine Au ?_;refine AQ (ι:=Unit) (λ_=>[(0,.slice a 0 c),(1,.int .i64 0),(2,.int .i64 0),(3,.int .i64 k),(4,f)]) (λ_ w'=>Ext w1 w') (λ_=>0) () sB X ?_;rintro _ w2 X;refine eK ?_;refine C1 (AL rfl rfl (gX _ Ab)) (kC (aD _ _ _ _) ?_);rintro _ U ⟨⟨⟩,G⟩;have X:=X.ext G;refine eK ?_;refine EW rfl ?_;exact ⟨rfl,X⟩
 have X:=Ne w;refine Ad func35 ntmps35 rfl rfl (eK ?_);refine C1 (Hg Ac rfl rfl rfl (JI _ Ab Ab)) (Ax (AN AU rfl (IE 0 Ab _) (λ_ _ ⟨_,h⟩=>⟨_,h.1⟩)) rfl ?_ aFh);rintro _ V ⟨Y,⟨⟩,M⟩;have X:=X.ext M;refine C1 Mv (cC rfl (O.out _ _) ?_);rintro _ Z ⟨⟨⟩,N⟩;have X:=X.ext N;refine Ak (Bm rfl ?_);exact ⟨rfl,X⟩
def Sb (_:Nat) (_:wD) (vs:lV) (x:BJ):Prop:=vs=[str x]
def fK (h:Sb n w vs s):∃u,vs=[u]:=⟨_,h⟩
def Yt (K p:List BJ):Prop:= ∃S:List BJ,S.Perm K/\p <+: S
def NC {α β:Type} (f:α->β):∀(l:List α) (j:Nat) (p:α),l[j]? = some p->(f p::(l.eraseIdx j).map f).Perm (l.map f)
 | [],j,p,h=>by simp at h
 | x::l,0,p,h=>by
  simp only [iw,gU] at h;subst h;simp
 | x::l,j+1,p,h=>by
  have:=NC f l j p (by simpa using h);simp only [List.eraseIdx_cons_succ,iR];exact (List.Perm.swap _ _ _).trans (this.cons _)
set_option maxHeartbeats 8000000 in
def aE (m bm:Nat) (kvs:List (lB×Value)) (Rt:nP) (w:wD) (al:∀k,Rt k->k<w.heap.size) (hR:Rt m/\Rt bm) (p1:Blk w bm [.map (some m)]) (p2:MapB w m kvs) :
 JW prog 63 [pt bm] Sb Rt (Yt (kvs.map (·.1))) (·.Perm (kvs.map (·.1))) w:=by
 intro y J Jx W hK hJ am hY h0;have p1:=p1.fr hK (λe=>e hR.2);have p2:=p2.fr hK (λe=>e hR.1);have HY:=gO hY;have HJ:=gO hJ;have H0:=gO h0;clear hY hJ am h0 al hK;have X:=Ne W;show Calls _ _ #[.func (.yield y) #[] #[],pt bm] W _;refine Ad func63 ntmps63 rfl rfl ?_;refine eK ?_;refine Ax (Lv Ac rfl rfl Ae) rfl ?_ aFh;rintro _ w6 ⟨r1,rfl,h2,h3,h4,x5⟩;have X:=X.ext x5;refine cT ?_;obtain ⟨A,hA⟩:∃A:nP,A=λk=>W.heap.size<=k/\k<w6.heap.size:=⟨_,rfl⟩
 have Y:∀k,A k->W.heap.size<=k/\k<w6.heap.size:=λk G=>by rw [hA] at G;exact G
 have ad:A r1:=by rw [hA];exact ⟨h2,h3⟩
 have hj:J A [] w6:=HJ.out (λ_=>False) A [] W w6 H0.out ⟨X.os,X.tape,X.output,X.size,λk G _=>X.block G⟩ (λ_ h=>h.elim) (λk G=>(Y k G).1) (λk G h=>by have:=Y k h;omega);have hz:=X.size;clear hA p1 p2 H0 X;refine Au ?_;refine AQ (ι:=List (lB×Value)×List BJ×(nP)) (λ_=>[(0,.func (.yield y) #[] #[]),(5,pt r1)])
  (λx w'=> ∃cur,ItM w' r1 m x.1 cur/\(x.2.1++x.1.map (·.1)).Perm (kvs.map (·.1))/\J x.2.2 x.2.1 w'/\x.2.2 r1/\(∀k,x.2.2 k->W.heap.size<=k/\k<w'.heap.size)/\W.heap.size<=w'.heap.size) (λx=>x.1.length) (kvs,[],A) sB ⟨none,h4,AK,hj,ad,Y,hz⟩ ?_
 clear h4 hj ad Y hz;rintro ⟨M,pre,B⟩ w7 ⟨cur,h4,hp,hj,hB,Z,hz⟩;simp only at h4 hp hj hB Z;cases M with
 | nil=>
  rw [ky,kH] at hp;have X:=Ne w7;refine cS ?_;refine Ax (Lw rfl Ae) rfl ?_ aFh;rintro _ av ⟨rfl,rfl⟩;refine C1 Px (cT (Aj (Ba rfl (B9 (Az (Az (A0 (Bm rfl ?_))))))));exact ⟨⟨_,rfl⟩,B,λk h=>(Z k h).1,gP ⟨pre,hp,Ae⟩⟩
 | cons q0 ae=>
  generalize af:q0::ae=M at *;have ag:M≠[]:=by rw [<-af];simp
  have F:=lZ (· = r1) w7;have aw:=h4.lt;refine cS ?_;refine Ax (MR rfl Ae ag) rfl ?_ aFh;rintro _ O ⟨U,N,aa,rfl,an,ah⟩;have ax:=ah.size;have F:=F.fr ah Ab;refine eK ?_;refine C1 (Om rfl (λwz hz=>by rw [show wz=_ from hz];assumption)) (C1 Px (C1 Pa (cT ?_)));have ab:=NC (·.1) M U N aa;have ao:(M.eraseIdx U).length<M.length:=by
   have:=(List.getElem?_eq_some_iff.1 aa).1;rw [List.length_eraseIdx];split<;>omega
  obtain ⟨C,hC⟩:∃C:nP,C=λk=>B k\/(w7.heap.size<=k/\k<O.heap.size):=⟨_,rfl⟩
  have ai:∀k,B k->C k:=λk G=>by rw [hC];exact gP G
  have V:∀k,C k->W.heap.size<=k/\k<O.heap.size:=λk G=>by
   rw [hC] at G;rcases G with G|G
   . have:=Z k G;omega
   . omega
  have ap:J C pre O:=HJ.out B C pre w7 O hj (F.weaken λk (e:k=r1)=>by subst e;exact hB) (λk G=>(Z k G).1) (λk G=>(V k G).1) (λk G h=>by rw [hC] at h;exact h.elim id (λh=>by omega));have aj:Yt (kvs.map (·.1)) (pre++[N.1]):=⟨_,(show (pre++[N.1]++(M.eraseIdx U).map (·.1)).Perm _ by rw [iI];exact (List.Perm.append_left pre ab).trans hp),List.prefix_append _ _⟩
  have aq:(pre++[N.1]++(M.eraseIdx U).map (·.1)).Perm (kvs.map (·.1)):=by rw [iI];exact (List.Perm.append_left pre ab).trans hp
  clear hC hj hp ab aa F af ag;refine Aj (fF (Uq rfl (Av rfl) rfl (Uq rfl (Av rfl) rfl (Mw rfl rfl (HY.out C pre N.1 [str N.1] O V ap rfl aj) (λ_ _ h=>by obtain ⟨-,⟨h,-⟩|⟨h,-⟩⟩:=h<;>exact ⟨_,h⟩) rfl ?_))));rintro v w8 ⟨ak,ar⟩;refine WS (λ⟨_,_,h⟩=>by obtain ⟨⟨_,h⟩,-⟩:=(show (∃v,Ending.outgrown = .returned v)/\_ from h);cases h) rfl ?_;have au:=an.fr ak ⟨λe=>e (gP (ai _ hB)),λe=>e (gQ hR.1)⟩;have ay:=ak.size;rcases ar with ⟨⟨⟩,ac⟩|⟨⟨⟩,ac⟩
  . refine C1 Pt (cT (Ba rfl (Ao (Ah ?_))));exact AA (M.eraseIdx U,pre++[N.1],C) sB ⟨_,au,aq,ac,ai _ hB,λk G=>⟨(V k G).1,by have:=(V k G).2;omega⟩,Ab⟩ ao
  . refine eK ?_;refine EW rfl ?_;exact ⟨⟨_,rfl⟩,C,λk h=>(V k h).1,gQ ⟨_,aj,ac⟩⟩
def KeysR (K:List BJ) (m:Nat) (w:wD):Ending->wD->Prop:=λe w'=> ∃bm,e = .returned (.func (.func 63) #[] #[.pointer (some ⟨bm,0,none⟩)]) /\
 JW prog 63 [.pointer (some ⟨bm,0,none⟩)] Sb (λk=>k=m\/k=bm) (Yt K) (·.Perm K) w'/\m<w'.heap.size/\w.heap.size<=bm/\bm<w'.heap.size/\Ext w w'
def KeysR.ret {K:List BJ} (h:KeysR K m w e w'):∃v,e = .returned v:=by
 obtain ⟨_,h,-⟩:=h;exact ⟨_,h⟩
set_option maxHeartbeats 8000000 in
def dH (m:Nat) (kvs:List (lB×Value)) (w:wD) (h:MapB w m kvs) :
 Calls prog 34 #[.map (some m)] w (KeysR (kvs.map (·.1)) m w):=by
 have X:=Ne w;have M:=h.lt;refine Ad func34 ntmps34 rfl rfl (cS (eB [_] ?_));intro U V G N Y Z;revert h X;refine eE N ?_;intro h X;refine eK ?_;refine C1 (B6 rfl) (kR ?_);have O:=G.lt;exact ⟨_,rfl,aE m _ kvs _ _ (λk hk=>by omega) ⟨gP rfl,gQ rfl⟩ G Ae,Ab,Ab,Ab,X⟩
def NamsR (F:List BJ->Prop) (w:wD):Ending->wD->Prop:=λe w'=> ∃a c xs,e = .returned (.slice a xs.length c)/\F xs/\OwnQ strShape w' (λ_=>False) w.heap.size 9 (.slice a xs.length c) xs/\Ext w w'
def NamsR.ret {F:List BJ->Prop} (h:NamsR F w e w'):∃v,e = .returned v:=by
 obtain ⟨_,_,_,h,-⟩:=h;exact ⟨_,h⟩
set_option maxHeartbeats 8000000 in
def Yu (gf:Nat) (lb:lV) (eg:BZ prog gf=true) (Rt:nP) (ag Fin:List BJ->Prop) (hN:∀p,ag p->p.length<=1000000) (w:wD) (am:∀k,Rt k->k<w.heap.size) (an:∀w1,Ext w w1->JW prog gf lb Sb Rt ag Fin w1) :
 Calls prog 90 #[.slice none 0 0,.func (.func gf) #[] lb.toArray] w (NamsR Fin w):=by
 have HI:=gO an;have HN:=gO hN;have HR:=gO am;have X:=Ne w;refine Gu (args:=[_,_]) func90 ntmps90 rfl rfl (cS (eB [_] ?_));intro b1 w2 h4 x5 p6 z7;replace X:=X.ext x5;refine C1 Pa (cT (Aj (cS (C1 Mv (cT ?_)))));refine Au ?_;refine Nv rfl rfl eg (HI.out _ X) (λ_ _ _ _ h=>fK h) (λk G=>by have:=HR.out k G;have:=X.size;omega)
  (λA xs W=> ∃N O,xs.length<=1000000/\Blk W b1 [.slice N xs.length O]/\OwnQ strShape W (λ_=>False) w.heap.size 9 (.slice N xs.length O) xs/\(∀g,(iD N xs.length O).ownBlock=some g -> ¬A g/\w2.heap.size<=g)/\Ext w W)
  (λ_ _ _=>False) ?_ (λ_ _ _ _ _ h=>h.elim) ⟨none,0,ii _,h4,mP,λg U=>by simp [jB] at U,X⟩ ?_ ?_ (λ_ _ _ _ _ h=>h.elim)
 . rintro A A' xs W W' ⟨N,O,h0,h1,h2,h3,x⟩ hf hA-ao;exact ⟨N,O,h0,h1.fr hf (λe=>by have:=hA _ e;omega),h2.fr hf (λk G=>⟨id,λe=>(h3 k e).1 G⟩),λg U=>⟨λe=>(h3 g U).1 (ao g (h2.lt U) e),(h3 g U).2⟩,me x hf (λk G=>by have:=hA _ G;omega)⟩
 . rintro r A pre x u W hA ah ⟨N,O,ap,j1,j2,j3,V⟩ eu ai;obtain rfl:u=str x:=by simpa [Sb] using eu
   have M:∀g,(iD N pre.length O).ownBlock=some g -> ¬A g/\w2.heap.size<=g/\g<W.heap.size:=λg U=>⟨(j3 g U).1,(j3 g U).2,j2.lt U⟩
   have ae:=HN.out _ ai;rw [iq] at ae;simp only [gV,iG] at ae;have aw:=hA _ ah;have X1:=Ne W;refine Bs rfl Gv (C1 Pa (Ak (Is (mW X1) λW2 f2=>?_)))
   replace j1:=j1.fr f2 Ab;replace j2:=j2.fr f2 (λk e=>⟨id,λh=>(M k h).1 (e▸ah)⟩);replace V:=me V f2 (λk G=>by omega);have ax:=f2.size;have aj:=gO (show ∀k,A k->w2.heap.size<=k/\k<W2.heap.size from λk G=>by have:=hA k G;omega);have X3:=lZ (λk=>k=b1\/(iD N pre.length O).ownBlock=some k) W2;have hK:Hid (∀k,A k\/Rt k -> ¬(k=b1\/(iD N pre.length O).ownBlock=some k)):=gO λk G h=>by
    rcases h with h|h
    . rcases G with G|G
      . have:=aj.out k G;omega
      . have:=HR.out k G;omega
    . rcases G with G|G
      . exact (M k h).1 G
      . have:=M k h;have:=HR.out k G;omega
   refine Gt (Bs rfl (By B5) (eK ?_));refine Ax (Dd [_] Ac CJ rfl rfl rfl rfl rfl rfl rfl rfl rfl) rfl ?_ aFh;rintro _ ay ⟨az,rfl,aa,a0⟩;have a1:=aa.blk;have aq:=aa.ext;have a2:=aa.pos;have a3:=aa.size;revert j1 j2 V X3;refine eE aq ?_;intro j1 j2 V X3;refine Di (R:=λ_=>False) (sh:=strShape) (z:=x) Ac CJ rfl rfl rfl rfl AU rfl rfl rfl Ae (λ_ h=>by exact h) (mi Ae) rfl Ab Ab rfl ?_;rintro af Y ar ab ac au Z;replace j1:=lY j1 Z (λh=>by have:=M _ h;omega);replace V:=me V Z (λk G=>by have:=M _ G;omega);replace X3:=l8 X3 Z (λk G=>gP (gQ G));refine eS [_] j1 ?_;intro av ak ad _;replace ab:=mS ab ad (λk G=>⟨id,λe=>by (obtain rfl:=gZ (show some af=some k from e);rcases ac with h|h;have:=M _ h;omega;omega)⟩);revert V X3;refine eF ad ?_;intro V X3;refine Ak (Ah (Jg (mO X3 hK.out) ⟨some ⟨af,0,none⟩,Y,by rw [iq];simpa using ae,ak,Ae,λg U=>?_,V⟩));obtain rfl:=gZ (show some af=some g from U);rcases ac with h|h
   . exact ⟨(M _ h).1,(M _ h).2.1⟩
   . exact ⟨λhA=>by have:=aj.out _ hA;omega,Ab⟩
 . rintro A S W hS hA ⟨N,O,ap,j1,j2,j3,V⟩ hm G;refine It (DE (Ip (EL (FF (Ap Ac rfl rfl rfl (λwz hz=>by rw [show wz=W from hz];exact j1.cell rfl)) rfl (FF (I1 rfl) rfl (GW (DE (J0 (QN G rfl rfl (λw3 al=>?_))))))))));exact ⟨N,O,S,rfl,hS,j2.fr al (λk e=>⟨id,λh=>(j3 k h).1 (e▸hm)⟩),me V al (λk e=>by omega)⟩
def We (G:Nat) (M:lV) (Y:BZ prog G=true) (N:nP) (h Fin:List BJ->Prop) (Z:∀p,h p->p.length<=1000000) (w:wD) (O:∀k,N k->k<w.heap.size) (U:∀w1,Ext w w1->JW prog G M Sb N h Fin w1) :
 Calls prog 61 #[.func (.func G) #[] M.toArray] w (NamsR Fin w):=by
 have X:=Ne w;have HA:=gO (λw1 (x:Ext w w1)=>Yu G M Y N h Fin Z w1 (λk V=>by have:=O k V;have:=x.size;omega) (λw2 x2=>U w2 (x.trans x2)));refine Ad func61 ntmps61 rfl rfl (kQ (HA.out _ Ae) ?_);rintro _ w7 ⟨a1,c2,aa,⟨⟩,h4,h5,x6⟩;have X:=X.ext x6;refine kR ?_;exact ⟨_,_,_,rfl,Ae,OwnQ.below Ae (λk V=>by have:=OwnQ.ge Ae V;omega),X⟩
set_option maxHeartbeats 8000000 in
def dI (g cap:Nat) (xs:List BJ) (hn:1<=xs.length/\xs.length<=12) (w:wD) (G:ArrT w g xs) :
 Calls prog 125 #[.slice (some ⟨g,0,none⟩) xs.length cap,.int .i64 0,.int .i64 xs.length] w λe w'=>e = .returned (.tuple #[])/\ArrT w' g (FG JB xs)/\Fr (· = g) w w':=by
 have F:=lZ (· = g) w;have HC:=gO (λs t w1=>dG s t w1);generalize JB=lt at *;refine Ad func125 ntmps125 rfl rfl (cS (C1 Mv (C1 V7 (C1 Pa (cT ?_)))));refine Au ?_;refine AQ (ι:=Nat) (λi=>[(0,.slice (some ⟨g,0,none⟩) xs.length cap),(1,.int .i64 0),(2,.int .i64 xs.length),(6,.int .i64 i)])
  (λi w'=>1<=i/\i<=xs.length/\ArrT w' g (NA lt xs i)/\Fr (· = g) w w') (λi=>xs.length-i) 1 sB ⟨ip _,hn.1,by rw [NB hn.1];exact G,F⟩ ?_
 rintro i w1 ⟨a7,hi,G,F⟩;by_cases ai:i<xs.length
 . have aq:=K3 (lt:=lt) (xs.take i);rw [iO] at aq;have ar:=OT (lt:=lt) ai;rw [R9 ai] at G;have a8:(xs.drop (i+1)).length=xs.length-(i+1):=kd ..;have HN:=gO ar;generalize a9:Gb lt (xs.take i)=acc at *;generalize xs.drop (i+1)=r at *;generalize xs[i]=x at *;refine Aj (cS (C1 Mv (C1 Mv (C1 V3 (cT (TM (Ao (Ai (Aj (Au (cS (C1 Mv (C1 Pa (cT ?_))))))))))))));refine Au ?_;refine AQ (ι:=List BJ×List BJ) (λz=>[(0,.slice (some ⟨g,0,none⟩) xs.length cap),(1,.int .i64 0),(2,.int .i64 xs.length),(6,.int .i64 i),(7,.int .i64 z.1.length)])
    (λz w'=>InsI lt x acc z.1 z.2/\z.1.length+z.2.length=i/\ArrT w' g (G8 z.1 x z.2 r)/\Fr (· = g) w w') (λz=>z.1.length) (acc,[]) (by (refine An rfl ?_;refine An rfl ?_;refine An rfl ?_;refine An rfl ?_;refine B4 rfl (by go_num) ?_;exact BK)) ⟨InsI.first x acc,by simp only [iG];omega,G,F⟩ ?_
   rintro ⟨p,q⟩ w2 ⟨hI,af,G,F⟩;simp only at hI af G;refine mK (m:=[(0,.slice (some ⟨g,0,none⟩) xs.length cap),(1,.int .i64 0),(2,.int .i64 xs.length),(6,.int .i64 i),(7,.int .i64 p.length)]) ?_ sB;have rx:=G.row1 (Yr p x q r);have aj:=R8 p x q r;cases p with
   | nil=>
    have N:=hI.stop (λy r h=>by cases h) r;rw [<-HN.out] at N;rw [N] at G;refine eK ?_;refine Aq (λM=>Ext w2 M) 13 (.pure 0 (.pure 1 (.pure 2 (.pure 3 (.pure 4 (.pure 5 (.pure 6 (.pure 7 (.pure 8 (.pure 9 (.pure 10 (.pure 11 (.pure 12 .tail))))))))))))) mixed AU (Aa (Aa (Aa (Af (Af (Aa (Aa (Af Ag)))))))) ?_;intro au ak _;have ac:(λM=>Ext w2 M) au:=ak;simp only at ac;revert F G;refine eE ak ?_;intro F G;refine ⟨ac,(Tq rfl Mv (Tq rfl Mv (Tq rfl V5 (Tq rfl Mv (eM rfl (eM rfl (eM rfl (eM rfl (eM rfl (eM rfl (eM rfl (eM rfl (eM rfl (Ar rfl (YF (C1 aO (cT (Ba rfl (B9 (Az (Az (A0 (Ah (Ai (Al (C1 Mv (C1 V7 (C1 Pa (Ak ?_)))))))))))))))))))))))))))))⟩;exact AA (i+1) sB ⟨Ab,Ab,G,F⟩ Ab
   | cons y p=>
    have ry:=G.row1 (Ys y p x q r);have av:=OS y p x q r;have aa:=gO (HC.out x y);have O:jo .i64 ((p.length:Int)+1-1)=(p.length:Int):=by rw [Int.add_sub_cancel];exact gX _ (by simp only [gV] at af;omega)
    have HI:=gO hI;simp only [gV] at rx aj af;refine mK (m:=[(0,.slice (some ⟨g,0,none⟩) xs.length cap),(1,.int .i64 0),(2,.int .i64 xs.length),(6,.int .i64 i),(7,.int .i64 ((p.length:Int)+1))]) ?_ sB;by_cases Y:lt x y=true
    . have aw:=HI.out.step Y;rw [Y] at aa;generalize G8 (y::p) x q r=row at *;refine eK ?_;refine Aq (λM=>Ext w2 M) 13 (.pure 0 (.pure 1 (.pure 2 (.pure 3 (.pure 4 (.pure 5 (.pure 6 (.pure 7 (.pure 8 (.pure 9 (.pure 10 (.pure 11 (.pure 12 .tail))))))))))))) mixed AU (Aa (Aa (Aa (Af (Af (Aa (Aa (Af Ag)))))))) ?_;intro ax al _;have ad:(λM=>Ext w2 M) ax:=al;simp only at ad;have U:=rx;have V:=ry;revert F rx ry G;refine eE al ?_;intro F ry rx G;refine ⟨ad,(Tq rfl Mv (Tq rfl Mv (Tq rfl V5 (Tq rfl Mv (eN rfl (Av rfl) (eN rfl (Av rfl) (eN rfl (AO Ac rfl rfl rfl rfl Ab Ab) (eN rfl (Ap Ac rfl rfl rfl (λM Z=>mb (l5 U Z) rfl)) (eN rfl (Av rfl) (eN rfl (Av rfl) (eN rfl (AL (c:=(p.length:Int)) rfl rfl O) (eN rfl (AO Ac rfl rfl rfl rfl Ab Ab) (eN rfl (Ap Ac rfl rfl rfl (λM Z=>mb (l5 V Z) rfl)) (Ar rfl (dP (cC rfl (aa.out _) ?_))))))))))))))))⟩;rintro _ ab ⟨⟨⟩,ay⟩;revert F rx ry G;refine eE ay ?_;intro F ry rx G;refine eK ?_;refine E6 (λM=>Ext ab M) (λM=>Fr (λx=>x=g) ab M) [2,3,4,15,16,17] [2,3,4] 15 16 (.free 2 (.free 3 (.free 4 (.pure 0 (.pure 1 (.pure 5 (.pure 6 (.pure 7 (.pure 8 (.pure 9 (.pure 10 (.pure 11 (.pure 12 (.pure 13 (.pure 14 (.put 15 (.tail 16))))))))))))))))) (λ_ h=>lX h) mixed AU (Af (Aa (Aa (Af (Af (Aa (Aa (Af Ag)))))))) ?_;intro am ag _;have ah:(λM=>Ext ab M) am:=ag;simp only at ah;have X:(λM=>Fr (λx=>x=g) ab M) am:=lX ag;simp only at X;have U:=rx;have V:=ry;revert F G;refine eE ag ?_;intro F G;refine Bp Ae rfl (Av rfl) rfl (Bp Ae rfl (Av rfl) rfl (Bp Ae rfl (AL (c:=(p.length:Int)) rfl rfl O) rfl (Am Ae rfl (Av rfl) rfl (Am Ae rfl (Av rfl) rfl (Am Ae rfl (Av rfl) rfl (Am Ae rfl (Av rfl) rfl (Am Ae rfl (AL (c:=(p.length:Int)) rfl rfl O) rfl (Am Ae rfl (AO Ac rfl rfl rfl rfl Ab Ab) rfl ?_))))))));refine Am Ae rfl (Ap Ac rfl rfl rfl (λM Z=>mb (l5 V Z) rfl)) rfl (Am Ae rfl (Av rfl) rfl (Am Ae rfl (Av rfl) rfl ?_))
      refine Am Ae rfl (AO Ac rfl rfl rfl rfl Ab Ab) rfl (Am Ae rfl (Ap Ac rfl rfl rfl (λM Z=>mb (l5 U Z) rfl)) rfl (Am Ae rfl (AO Ac rfl rfl rfl rfl Ab Ab) rfl (DB rfl (Gc (j:=p.length+1) (z:=y) Ac rfl rfl rfl rfl Ae Ab) (BH ?_))));rintro _ a1 ⟨a2,an,a3⟩;revert X F;refine eF an ?_;intro X F;refine ⟨Ae,(DA rfl (C1 Pi (A6 (Gc (j:=p.length) (z:=x) Ac rfl rfl rfl rfl Ae (by rw [jx];omega)) (BH ?_))))⟩;rintro _ a4 ⟨a5,ao,a6⟩;have F:=F.fr ao Ab;refine eK ?_;refine C1 (AL (c:=(p.length:Int)) rfl rfl O) (C1 Pa (Ak ?_));exact AA (p,y::q) sB ⟨aw,by simp only [gV];omega,by rw [<-av];assumption,F⟩ AK
    . rw [Bool.not_eq_true] at Y;rw [Y] at aa;have N:=HI.out.stop (λy' r' h=>by simp only [iT] at h;rw [<-h.1];exact Y) r;rw [<-HN.out] at N;rw [N] at G;refine eK ?_;refine Aq (λM=>Ext w2 M) 13 (.pure 0 (.pure 1 (.pure 2 (.pure 3 (.pure 4 (.pure 5 (.pure 6 (.pure 7 (.pure 8 (.pure 9 (.pure 10 (.pure 11 (.pure 12 .tail))))))))))))) mixed AU (Aa (Aa (Aa (Af (Af (Aa (Aa (Af Ag)))))))) ?_;intro az ap _;have ae:(λM=>Ext w2 M) az:=ap;simp only at ae;have U:=rx;have V:=ry;revert F G;refine eE ap ?_;intro F G;refine ⟨ae,(Tq rfl Mv (Tq rfl Mv (Tq rfl V5 (Tq rfl Mv (eN rfl (Av rfl) (eN rfl (Av rfl) (eN rfl (AO Ac rfl rfl rfl rfl Ab Ab) (eN rfl (Ap Ac rfl rfl rfl (λM Z=>mb (l5 U Z) rfl)) (eN rfl (Av rfl) (eN rfl (Av rfl) (eN rfl (AL (c:=(p.length:Int)) rfl rfl O) (eN rfl (AO Ac rfl rfl rfl rfl Ab Ab) (eN rfl (Ap Ac rfl rfl rfl (λM Z=>mb (l5 V Z) rfl)) (Ar rfl (dP (cC rfl (aa.out _) ?_))))))))))))))))⟩;rintro _ ba ⟨⟨⟩,a0⟩;revert F G;refine eE a0 ?_;intro F G;refine C1 aP (cT (Ba rfl (B9 (Az (Az (A0 (Ah (Ai (Al (C1 Mv (C1 V7 (C1 Pa (Ak ?_)))))))))))))
      exact AA (i+1) sB ⟨Ab,Ab,G,F⟩ Ab
 . obtain rfl:i=xs.length:=by omega
   rw [K4] at G;refine Aj (cS (C1 Mv (C1 Mv (C1 V3 (cT (Dz (B9 (Az (Az (A0 (Bm rfl ?_)))))))))));exact ⟨rfl,G,F⟩
def NamAt (S:nP) (w:wD) (xs:List BJ) (a:oA):Prop:=xs=[] \/ ∃g,a=some ⟨g,0,none⟩/\S g/\ArrT w g xs
def NamAt.ext {S:nP} {w w':wD} {xs:List BJ} {a:oA} (h:NamAt S w xs a) (x:Ext w w'):NamAt S w' xs a:=h.imp id λ⟨g,h1,h2,h3⟩=>⟨g,h1,h2,h3.ext x⟩
instance {S:nP}:LfE w w' (NamAt S w xs a) (NamAt S w' xs a):=⟨λx h=>Bk.NamAt.ext h x⟩
def bA:∀xs:List BJ,(xs.map λx=>[str x]).flatten=xs.map str
 | []=>rfl
 | x::r=>by simp only [iR,jS,bA r];rfl
def OwnQ.namAt {R:nP} {B e:Nat} {c:Nat} (h:OwnQ strShape w R B e (.slice a n c) xs):NamAt (λb=>B<=b/\b<w.heap.size) w xs a:=by
 by_cases N:xs=[]
 . exact gP N
 . obtain ⟨G,U,V,X⟩:=h.ex;have M:=λk Y=>h.lt (k:=k) Y
   obtain ⟨h4,⟨h5,Z⟩|⟨g,cap,cur,O,hg,hh,-,-,-,h7⟩⟩:=U
   . exact absurd (jF Z) N
   . simp only [iK] at O;obtain ⟨rfl,-,-⟩:=O;refine gQ ⟨g,rfl,⟨hg,M g rfl⟩,cur.toList.drop (xs.length*strShape.sz),e,?_⟩;have e1:G=xs.map λx=>[str x]:=by
      refine kP (by simp [V]) λi hi aa=>?_
      rw [kz];exact X i xs[i] G[i] (gN Ab) (gN hi)
     have e2:G.flatten=xs.map str:=by rw [e1,bA]
     rw [<-e2,<-h7,iX];exact hh
def NamR (xs:List BJ) (w:wD):Ending->wD->Prop:=λe w'=> ∃a c,e = .returned (.slice a xs.length c)/\NamAt (λb=>w.heap.size<=b/\b<w'.heap.size) w' xs a/\Ext w w'
def NamR.ret (h:NamR xs w e w'):∃v,e = .returned v:=by
 obtain ⟨_,_,h,-⟩:=h;exact ⟨_,h⟩
def OU (lt:α->α->Bool) (l:List α):(FG lt l).length=l.length:=by
 rw [<-K4];unfold NA;simp [K3]
set_option maxHeartbeats 8000000 in
def dJ (g cap:Nat) (xs:List BJ) (U:1<=xs.length/\xs.length<=12) (w:wD) (G:ArrT w g xs) :
 Calls prog 62 #[.slice (some ⟨g,0,none⟩) xs.length cap] w λe w'=>e = .returned (.tuple #[])/\ArrT w' g (FG JB xs)/\Fr (· = g) w w':=by
 have V:=gO (λw1 h=>dI g cap xs U w1 h);have X:Hid (∀(k:Int) w1,ArrT w1 g xs->Calls prog 91 #[.slice (some ⟨g,0,none⟩) xs.length cap,.int .i64 0,.int .i64 xs.length,.int .i64 k] w1 λe w'=>e = .returned (.tuple #[])/\ArrT w' g (FG JB xs)/\Fr (· = g) w1 w'):=gO λk w1 G=>by
  have F:=lZ (· = g) w1;refine Ad func91 ntmps91 rfl rfl (cS (C1 Pa (cN (C1 Pa (cT ?_)))));refine Au ?_;refine AQ (ι:=Unit) (λ_=>[(0,.slice (some ⟨g,0,none⟩) xs.length cap),(1,.int .i64 0),(2,.int .i64 xs.length),(3,.int .i64 k)]) (λ_ w'=>ArrT w' g xs/\Fr (· = g) w1 w') (λ_=>0) () sB ⟨G,F⟩ ?_;rintro _ w2 ⟨G,F⟩;refine eK ?_;refine C1 (AL rfl rfl (gX _ Ab)) (kC (V.out _ Ae) ?_);rintro _ Y ⟨⟨⟩,Z,M⟩;have F:=F.fr M Ab;refine eK ?_;refine EW rfl ?_;exact ⟨rfl,Ae,F⟩
 have F:=lZ (· = g) w;refine Ad func62 ntmps62 rfl rfl (eK ?_);refine C1 (Hg Ac rfl rfl rfl (JI _ Ab Ab)) (Ax (AN AU rfl (IE xs.length Ab _) (λ_ _ ⟨_,h⟩=>⟨_,h.1⟩)) rfl ?_ aFh);rintro _ aa ⟨ab,⟨⟩,N⟩;revert G F;refine eE N ?_;intro G F;refine cC rfl (X.out _ _ Ae) ?_;rintro _ ac ⟨⟨⟩,ad,O⟩;have F:=F.fr O Ab;refine Ak (Bm rfl ?_);exact ⟨rfl,Ae,F⟩
set_option maxHeartbeats 8000000 in
def aF (a:oA) (c:Nat) (w:wD):Calls prog 62 #[.slice a 0 c] w λe w'=>e = .returned (.tuple #[])/\Ext w w':=by
 have O:Hid (∀w1,Calls prog 125 #[.slice a 0 c,.int .i64 0,.int .i64 0] w1 λe w'=>e = .returned (.tuple #[])/\Ext w1 w'):=gO λw1=>by
  have X:=Ne w1;refine Ad func125 ntmps125 rfl rfl (cS (C1 Mv (C1 V7 (C1 Pa (cT ?_)))));refine Au ?_;refine AQ (ι:=Unit) (λ_=>[(2,.int .i64 0),(6,.int .i64 1)]) (λ_ w'=>Ext w1 w') (λ_=>0) () sB X ?_;rintro _ U X;refine Aj (cS (C1 Mv (C1 Mv (C1 V3 (cT (NH (B9 (Az (Az (A0 (Bm rfl ?_)))))))))));exact ⟨rfl,X⟩
 have V:Hid (∀(k:Int) w1,Calls prog 91 #[.slice a 0 c,.int .i64 0,.int .i64 0,.int .i64 k] w1 λe w'=>e = .returned (.tuple #[])/\Ext w1 w'):=gO λk w1=>by
  have X:=Ne w1;refine Ad func91 ntmps91 rfl rfl (cS (C1 Pa (cN (C1 Pa (cT ?_)))));refine Au ?_;refine AQ (ι:=Unit) (λ_=>[(0,.slice a 0 c),(1,.int .i64 0),(2,.int .i64 0),(3,.int .i64 k)]) (λ_ w'=>Ext w1 w') (λ_=>0) () sB X ?_;rintro _ U X;refine eK ?_;refine C1 (AL rfl rfl (gX _ Ab)) (kC (O.out _) ?_);rintro _ Y ⟨⟨⟩,G⟩;have X:=X.ext G;refine eK ?_;refine EW rfl ?_;exact ⟨rfl,X⟩
 have X:=Ne w;refine Ad func62 ntmps62 rfl rfl (eK ?_);refine C1 (Hg Ac rfl rfl rfl (JI _ Ab Ab)) (Ax (AN AU rfl (IE 0 Ab _) (λ_ _ ⟨_,h⟩=>⟨_,h.1⟩)) rfl ?_ aFh);rintro _ Z ⟨aa,⟨⟩,M⟩;have X:=X.ext M;refine cC rfl (V.out _ _) ?_;rintro _ ab ⟨⟨⟩,N⟩;have X:=X.ext N;refine Ak (Bm rfl ?_);exact ⟨rfl,X⟩
set_option maxHeartbeats 8000000 in
def Yv (Y:Nat) (Z:lV) (eg:BZ prog Y=true) (Rt:nP) (M Fin:List BJ->Prop) (hN:∀p,M p->p.length<=1000000) (hF:∀p,Fin p->p.length<=12) (T:List BJ) (O:∀p,Fin p->FG JB p=T) (w:wD) (aa:∀k,Rt k->k<w.heap.size) (ab:∀w1,Ext w w1->JW prog Y Z Sb Rt M Fin w1) :
 Calls prog 33 #[.func (.func Y) #[] Z.toArray] w (NamR T w):=by
 have X:=Ne w;have HA:=gO (λw1 (x:Ext w w1)=>We Y Z eg Rt M Fin hN w1 (λk hk=>by have:=aa k hk;have:=x.size;omega) (λw2 x2=>ab w2 (x.trans x2)));have HF:=gO hF;have HT:=gO O;refine Ad func33 ntmps33 rfl rfl (kQ (HA.out _ Ae) ?_);rintro _ w7 ⟨a1,c2,N,⟨⟩,h4,h5,x6⟩;have X:=X.ext x6;refine C1 Pa (cT ?_);have ac:=HF.out _ h4;have O:=HT.out _ h4;have ad:=h5.namAt;by_cases hx:N=[]
 . subst hx;have ae:T=[]:=by rw [<-O];rfl
   subst ae;refine kC (aF _ _ _) ?_;rintro _ ag ⟨⟨⟩,af⟩;have X:=X.ext af;refine kR ?_;exact ⟨_,_,rfl,gP rfl,X⟩
 . obtain ⟨g,rfl,⟨ah,ai⟩,hA⟩:=ad.resolve_left hx;have G:=OU JB N;have U:=List.length_pos_iff.2 hx;rw [O] at G;have HS:=gO (λw1 h=>dJ g c2 N ⟨U,ac⟩ w1 h);rw [O] at HS;refine kC (HS.out _ Ae) ?_;rintro _ aj ⟨⟨⟩,ak,V⟩;have al:=V.size;have X:=me X V (λk hk=>by omega);refine kR ?_;exact ⟨_,_,by rw [G],gQ ⟨g,rfl,⟨Ab,Ab⟩,Ae⟩,X⟩
def ND (lt:BJ->BJ->Bool):∀(L:List AtV) (o:List BJ),(L.foldl (λo a=>if a.s∈o then o else Ke lt a.s o) o).length<=o.length+L.length
 | [],o=>by simp
 | a::L,o=>by
  rw [List.foldl_cons];have h:∀(x:BJ) (l:List BJ),(Ke lt x l).length=l.length+1:=λx l=>by
   induction l with
   | nil=>rfl
   | cons y r G=>unfold Ke;split<;>simp [G]
  split
  . have:=ND lt L o;simp only [gV];omega
  . have:=ND lt L (Ke lt a.s o);rw [h] at this;simp only [gV];omega
def K5:∀(L:List AtV) (o:List BJ),(L.foldl (λo a=>if a.s∈o then o else o++[a.s]) o).length<=o.length+L.length
 | [],o=>by simp
 | a::L,o=>by
  rw [List.foldl_cons];split
  . have:=K5 L o;simp only [gV];omega
  . have:=K5 L (o++[a.s]);simp only [iq,gV,iG] at this ⊢;omega
def TA (L:List AtV):(Bo L).length<=L.length:=by have:=K5 L [];simpa [Bo] using this
set_option maxHeartbeats 8000000 in
def NE (M X:nP) (Z:Nat) (es:List EX) (L:List AtV) (hL:L.length<=12) (w:wD) (hb:BkAt M X w Z es L) :
 Calls prog 18 #[pt Z] w (NamR (Hy JB L) w):=by
 have O:=Ne w;obtain ⟨ea,ec,r,h1,-,-,⟨bf,g1,-,-,-⟩,-,-⟩:=hb;have hk:((Bo L).map λs=>(s,Value.map (some (bf s)))).map (·.1)=Bo L:=by simp [Function.comp_def]
 have HK:=gO (λw1 h=>dH r _ w1 (show MapB w1 r ((Bo L).map λs=>(s,.map (some (bf s)))) from h));rw [hk] at HK;have HS:Hid (∀(G:Nat) (w1:wD),G<w1.heap.size->r<w1.heap.size->(JW prog 63 [pt G] Sb (λk=>k=r\/k=G) (Yt (Bo L)) (·.Perm (Bo L)) w1) ->
  Calls prog 33 #[.func (.func 63) #[] #[pt G]] w1 (NamR (Hy JB L) w1)):=gO λG w1 aa hr U=>by
  have ab:=TA L;refine Yv _ [_] AU (λk=>k=r\/k=G) (Yt (Bo L)) (·.Perm (Bo L)) (λp ⟨S,hS,N⟩=>?_) (λp N=>?_) (Hy JB L) (λp N=>?_) w1 (λk hk=>by omega) (λw2 x2=>?_)
  . have h1:=N.length_le;have h2:=hS.length_eq;omega
  . have h2:=N.length_eq;omega
  . exact Ol nlt_tot L (N.nodup_iff.2 (Kf L)) (λz=>N.mem_iff)
  . exact λy J Jx W hK=>U y J Jx W ((mW x2).trans hK)
 refine Ad func18 ntmps18 rfl rfl (eK ?_);refine C1 (Fo Ac rfl rfl) (kQ (HK.out _ Ae) ?_);rintro _ w7 ⟨ac,⟨⟩,h2,h3,h4,h5,x6⟩;have O:=O.ext x6;refine eQ rfl (HS.out _ _ Ab Ab Ae) ?_;rintro _ ad ⟨a9,ae,⟨⟩,V,Y⟩;have O:=O.ext Y;refine kR ?_;exact ⟨_,_,rfl,V.imp id λ⟨g,q1,q2,q3⟩=>⟨g,q1,⟨Ab,Ab⟩,q3⟩,O⟩
set_option maxHeartbeats 8000000 in
def Wf (M X:nP) (bb:Nat) (es:List EX) (he:es.length<=1000) (hp:∀e∈es,0<=e.points/\e.points<=1000) (L:List AtV) (hL:L.length<=12) (w:wD) (U:BkAt M X w bb es L) :
 Calls prog 19 #[pt bb] w (NamR (Hy (SY L (Ki es)) L) w):=by
 have G:=Ne w;have HS:=gO (λw1 h=>NE M X bb es L hL w1 h);have V:(Hy JB L).length<=12:=by have:=ND JB L [];simp only [iG] at this;unfold Hy;omega
 obtain ⟨ab,ac⟩:=Iw nlt_tot L [] List.Pairwise.nil;have ad:(Hy JB L).Nodup:=G0 nlt_tot ab;have O:∀z,z∈Hy JB L↔z∈Bo L:=λz=>(ac z).trans (((FH L [] List.nodup_nil).2 z).symm)
 have Y:=Ol (Zj L (Ki es)) L ad O;have N:=OU (SY L (Ki es)) (Hy JB L);rw [Y] at N;have Z:∀k,X k\/M k->k<w.heap.size:=by
  obtain ⟨ea,ec,r,-,-,-,-,h5,h6⟩:=U;exact λk hk=>hk.elim (λh=>(h5 k h).2) (h6 k)
 have HF:=gO (λbx g cap hn hg w1 h1 h2 h3=>Tz M X bb es he hp L Ab bx g cap (Hy JB L) (λx hx=>(O x).1 hx) hn hg w1 h1 h2 h3);rw [Y] at HF;have ae:Hy JB L=[]->Hy (SY L (Ki es)) L=[]:=λh=>by rw [h] at N;exact jF N
 generalize Hy (SY L (Ki es)) L=T at *;generalize Hy JB L=xs at *;refine Ad func19 ntmps19 rfl rfl (cS (eB [_] ?_));intro b1 w2 h4 x5 p6 z7;revert U G;refine eE x5 ?_;intro U G;refine eK ?_;refine C1 (Fo Ac rfl rfl) (kQ (HS.out _ Ae) ?_);rintro _ ak ⟨a8,c9,⟨⟩,af,ag⟩;revert h4 U G;refine eE ag ?_;intro h4 U G;refine C1 Pa (cT ?_);by_cases hx:xs=[]
 . subst hx;have ah:=ae rfl;subst ah;refine eK ?_;refine C1 (B6 rfl) (cC rfl (Sa _ _ _ _) ?_);rintro _ al ⟨⟨⟩,ai⟩;have G:=G.ext ai;refine kR ?_;exact ⟨_,_,rfl,gP rfl,G⟩
 . obtain ⟨g,rfl,⟨am,an⟩,hA⟩:=af.resolve_left hx;have aj:=gO (HF.out b1 g c9 ⟨List.length_pos_iff.2 hx,V⟩ ⟨λh=>by have:=Z g (gP h);omega,λh=>by have:=Z g (gQ h);omega,Ab⟩);refine eK ?_;refine C1 (B6 rfl) (cC rfl (aj.out _ Ae Ae Ae) ?_);rintro _ ao ⟨⟨⟩,ap,aa⟩;have aq:=aa.size;have G:=me G aa (λk hk=>by omega);refine kR ?_;exact ⟨_,_,by rw [N],gQ ⟨g,rfl,⟨Ab,Ab⟩,Ae⟩,G⟩
def Yw {g o j:Nat} (h:Row w ⟨g,o,none⟩ vs) (G:vs[j]? = some v):Row w ⟨g,o+j*1,none⟩ [v]:=by
 have k:=h.sub j 1;rw [show (vs.drop j).take 1=[v] from by
  rw [List.take_one,List.head?_drop,G];rfl] at k
 rwa [kh]
def OV (k:Int) (w:wD):Calls prog 12 #[.int .u8 k] w (PgC (pG k) w):=by
 have X:=Ne w;refine Ad func12 ntmps12 rfl rfl (cS (eA [_,_,_,_,_,_] ?_));intro b1 w2 N x6 p7 z8;have X:=X.ext x6;refine eK ?_;refine C1 (xB [_,_,_,_]) (C1 (xB [_,_,_,_]) (Ax (xS [_,_,_,_,_,_,_,_]) rfl ?_ aFh));rintro _ ai ⟨b9,rfl,O,aj⟩;have h:=O.blk;have ab:=O.ext;have ak:=O.pos;have al:=O.size;revert N X;refine eE ab ?_;intro N X;refine C1 (xB [_,_,_,_]) (xA [_,_,_,_] ?_);intro am an ac;refine eI [_,_,_,_] ac ?_;intro ao Y ad ap aq;revert h N X;refine eE ad ?_;intro h N X;refine cN (C1 (xB [_,_,_]) (Ax (xS [_,_,_]) rfl ?_ aFh));rintro _ ar ⟨Z,rfl,U,t28⟩;have M:=U.blk;have ae:=U.ext;have au:=U.pos;have av:=U.size;revert Y h N X;refine eE ae ?_;intro Y h N X;refine A1 [_,_,_,_] Ac rfl rfl rfl Y rfl rfl rfl (Ax (xS [_,_,_,_]) rfl ?_ aFh);rintro _ aw ⟨aa,rfl,V,ax⟩;have G:=V.blk;have af:=V.ext;have ay:=V.pos;have az:=V.size;revert M h N X;refine eE af ?_;intro M h N X;refine C1 (xB [_,_,_,_]) (C1 (xB [_,_,_,_,_,_]) (eS [_,_,_,_,_,_] N ?_));intro a0 ag ah a1;revert G M h X;refine eF ah ?_;intro G M h X;refine kX ag ?_;refine ⟨some ⟨Z,0,none⟩,1,none,0,some ⟨aa,0,none⟩,1,rfl,⟨gQ ⟨Z,0,rfl,⟨Ab,Ab⟩,?_⟩,gP rfl,?_⟩,gP rfl,ip _,X⟩
 . intro i v hi;rcases i with - | i
   . cases hi;exact M.row
   . cases i<;>cases hi
 . exact ⟨aa,0,some ⟨b9,0,none⟩,2,rfl,⟨Ab,Ab⟩,G.cell (i:=0) rfl,G.cell (i:=1) rfl,G.cell (i:=2) rfl,G.cell (i:=3) rfl,
    ⟨b9,0,none,0,rfl,⟨Ab,Ab⟩,h.cell (i:=0) rfl,h.cell (i:=1) rfl,h.cell (i:=2) rfl,h.cell (i:=3) rfl,trivial,
     b9,4,none,0,rfl,⟨Ab,Ab⟩,h.cell (i:=4) rfl,h.cell (i:=5) rfl,h.cell (i:=6) rfl,h.cell (i:=7) rfl,trivial,trivial⟩,trivial⟩
def OW (xs ys:List BJ) (hx:xs.length<=1000000) (S S':nP) (a a':oA) (c c':Nat) (w:wD) (V:Rows S w (xs.map str) a) (Y:Rows S' w (ys.map str) a') :
 Calls prog 29 #[.slice a xs.length c,.slice a' ys.length c'] w λe w'=>e = .returned (.bool (decide (xs=ys)))/\Ext w w':=by
 have X:=Ne w;rcases Decidable.em (xs.length=ys.length) with hn|hn
 case inr=>
  rw [decide_eq_false (λe=>hn (by rw [e]))];refine Ad func29 ntmps29 rfl rfl ?_;refine kR ?_;exact ⟨rfl,X⟩
 refine Ad func29 ntmps29 rfl rfl ?_;refine cS (C1 Pa (cT (Aj (cS (C1 Mv (C1 Pz (C1 Mv (C1 Pz (C1 V2 (cT (Dz ?_)))))))))));refine Ao (Ai (Aj (cS (C1 Pa (cT ?_)))));refine Au ?_;refine AQ (ι:=Nat) (λj=>[(0,.slice a xs.length c),(1,.slice a' ys.length c'),(5,.int .i64 j)])
  (λj w'=>j<=xs.length/\xs.take j=ys.take j/\Rows S w' (xs.map str) a/\Rows S' w' (ys.map str) a'/\Ext w w') (λj=>xs.length-j) 0 sB ⟨ii _,rfl,V,Y,X⟩ ?_
 clear V Y X;rintro j w1 ⟨hj,ht,V,Y,X⟩;by_cases U:j<xs.length
 . have G:j<ys.length:=by omega
   rcases V with h|⟨g,o,rfl,s1,r1⟩
   . rw [List.map_eq_nil_iff] at h;rw [h] at U;simp at U
   rcases Y with h|⟨g',o',rfl,s2,r2⟩
   . rw [List.map_eq_nil_iff] at h;rw [h] at G;simp at G
   have rx:Row w1 ⟨g,o+j*1,none⟩ [str xs[j]]:=Yw r1 (by rw [iJ,gN U];rfl);have ry:Row w1 ⟨g',o'+j*1,none⟩ [str ys[j]]:=Yw r2 (by rw [iJ,gN G];rfl);have Z:xs[j]=ys[j]->xs.take (j+1)=ys.take (j+1):=λh=>by rw [gS U,gS G,ht,h]
   have af:xs[j]≠ys[j]->xs≠ys:=λh e=>h (by subst e;rfl)
   have V:Rows S w1 (xs.map str) (some ⟨g,o,none⟩):=gQ ⟨g,o,rfl,s1,r1⟩;have Y:Rows S' w1 (ys.map str) (some ⟨g',o',none⟩):=gQ ⟨g',o',rfl,s2,r2⟩;generalize xs[j]=x at *;generalize ys[j]=y at *;by_cases ac:x=y
   . subst ac;refine eK ?_;refine Aq (λM=>Ext w1 M) 8 (.pure 0 (.pure 1 (.pure 2 (.pure 3 (.pure 4 (.pure 5 (.pure 6 (.pure 7 .tail)))))))) mixed AU (Aa (Af (Aa (Aa (Af (Aa Ag)))))) ?_;intro ag ad _;have aa:(λM=>Ext w1 M) ag:=ad;simp only at aa;have N:=rx;have O:=ry;revert X V Y;refine eE ad ?_;intro X V Y;refine ⟨aa,?_⟩;refine eT ?_;refine Tq rfl (Ap Ac rfl rfl rfl (λM hz=>mb (l5 N hz) rfl)) ?_;refine eT ?_;refine Tq rfl (Ap Ac rfl rfl rfl (λM hz=>mb (l5 O hz) rfl)) ?_;refine Ar rfl (C1 V9 (cT (NQ rfl (not_not_intro rfl) (Ao (Ah (Ai (Al (C1 Mv (C1 V7 (C1 Pa (Ak ?_)))))))))));exact AA (j+1) sB ⟨Ab,Z rfl,V,Y,X⟩ Ab
   . rw [decide_eq_false (af ac)];clear Z;refine eK ?_;refine Aq (λM=>Ext w1 M) 8 (.pure 0 (.pure 1 (.pure 2 (.pure 3 (.pure 4 (.pure 5 (.pure 6 (.pure 7 .tail)))))))) mixed AU (Aa (Af (Aa (Aa (Af (Aa Ag)))))) ?_;intro ah ae _;have ab:(λM=>Ext w1 M) ah:=ae;simp only at ab;have N:=rx;have O:=ry;have X:=X.ext ae;refine ⟨ab,?_⟩;refine eT ?_;refine Tq rfl (Ap Ac rfl rfl rfl (λM hz=>mb (l5 N hz) rfl)) ?_;refine eT ?_;refine Tq rfl (Ap Ac rfl rfl rfl (λM hz=>mb (l5 O hz) rfl)) ?_;refine Ar rfl ?_;refine kR ?_;exact ⟨rfl,X⟩
 . obtain rfl:j=xs.length:=by omega
   rw [im,hn,im] at ht;rw [decide_eq_true ht];refine kR ?_;exact ⟨rfl,X⟩
def NamAt.rows {S:nP} (h:NamAt S w xs a):Rows S w (xs.map str) a:=by
 rcases h with rfl|⟨g,rfl,M,t,N⟩
 . exact gP rfl
 . refine gQ ⟨g,0,rfl,M,λi v G=>N.row i v ?_⟩;rw [gW (List.getElem?_eq_some_iff.1 G).1,G]
def bB {k:Int} (G:0<=k) (M:k<=255):(pG k).wf:=by
 refine ⟨by simp [pG],by simp [pG],?_,by simp [pG],?_⟩
 . intro v h;simp only [pG,iu] at h;subst h;exact ⟨AK,AK,AK,AK,AK⟩
 . simp [pG,Nd.wf,CY,G,M]
def Yx:e50.wf:=⟨by simp [e50],bB Ab Ab,by simp [e50,pG]⟩
def fL:Jl [e50]=0:=by
 unfold Jl;rw [At AK,AH (by simp [K1]),AH AK]
def NewY (l:List EX) (w:wD):Ending->wD->Prop:=λe w'=> ∃bb M X,e = .returned (.tuple #[.pointer (some ⟨bb,0,none⟩),.int .i64 0])/\BkAt M X w' bb l []/\(∀k,X k\/M k->w.heap.size<=k)/\Ext w w'
def NewY.ret {l:List EX} (h:NewY l w e w'):∃v,e = .returned v:=by
 obtain ⟨_,_,_,h,-⟩:=h;exact ⟨_,h⟩
def bC (l:List EX) (N:∀e∈l,e.wf) (O:l.length<=1000000) (G:Jl l=0) (S:nP) (a:oA) (c:Nat) (w:wD) (U:EXs S w l a) :
 Calls prog 13 #[.slice a l.length c] w (NewY l w):=by
 refine i7 (aW l N O S a c w U) ?_;rintro e w' ⟨p,k,rfl,rfl,X,⟨-,h⟩|⟨-,V,M,Y,rfl,Z,h2⟩⟩
 . exact absurd G h
 . exact ⟨V,M,Y,by rw [G],Z,h2,X⟩
def BkAt.ltM {X:nP} {L:List AtV} (h:BkAt A X w n es L):∀k,A k->k<w.heap.size:=by
 obtain ⟨_,_,_,-,-,-,-,-,h⟩:=h;exact h
def Sub5 (M X:nP) (bb:Nat) (L':List AtV) (q:Bool) (w:wD):Ending->wD->Prop:=λe w'=> ∃tr a x c ta tx tc oa ox oc er,e = .returned (.tuple #[.agg #[.bool q,.int .i64 tr,.slice a x c,.slice ta tx tc,.slice oa ox oc,.int .i64 er],.int .i64 0]) /\
 ∃M':nP,BkAt M' X w' bb [e50] L'/\(∀k,M' k->(M k\/w.heap.size<=k)/\k<w'.heap.size)/\Fr M w w'
def Sub5.ret {X:nP} {N:List AtV} {q:Bool} (h:Sub5 A X n N q w e w'):∃v,e = .returned v:=by
 obtain ⟨_,_,_,_,_,_,_,_,_,_,_,h,-⟩:=h;exact ⟨_,h⟩
def TC (L Z:List AtV) (hL:L.length<=100) (s:BJ) (aa:s.length<=100) (hq:Cv s=true) (k:Int) (h0:0<=k) (h1:k<=255) (q:Bool) (hg:(BM e50 (pG k)).1.ok=q) (hv:Cm [e50] L s [105,110,99] (pG k)=(((BM e50 (pG k)).1,0),Z)) (M X:nP) (G:Nat) (S:nP) (O:oA) (vc:Nat) (N:oA) (pc:Nat) (U:oA) (mc:Nat) (w:wD)
 (hb:BkAt M X w G [e50] L) (hs:(pG k).sits S w O N U) (V:PDsC S w (pG k).procs N) (Y:(pG k).vars.length<=vc) :
 Calls prog 14 #[pt G,str s,str [105,110,99],.agg ((pG k).cells O vc N pc U mc).toArray] w (Sub5 M X G Z q w):=by
 have h:=R6 M X G [e50] B7 L Ab s [105,110,99] Ab hq e50 0 AU rfl Yx B7 (pG k) (bB h0 h1) (by simp [pG]) S O vc N pc U mc w hb hs V Y;rw [hv] at h;refine i7 h ?_;rintro e w' ⟨a,c,ta,tc,oa,oc,rfl,-,-,M',-,k2,k3,k4⟩;refine ⟨(BM e50 (pG k)).1.tried,a,(BM e50 (pG k)).1.st.cells.length,c,ta,(BM e50 (pG k)).1.st.tin.length,tc,oa,(BM e50 (pG k)).1.st.tout.length,oc,(BM e50 (pG k)).1.err,by rw [<-hg],M',k3,λk hk=>⟨(k2 k hk).imp id And.left,BkAt.ltM k3 k hk⟩,k4⟩
def Yy {b:Nat} {x:BJ} (h:Blk w b [str x,str s]):Rows (λ_=>True) w ([x,s].map str) (some ⟨b,0,none⟩):=gQ ⟨b,0,rfl,trivial,h.row⟩
def aG {S:nP} {b:Nat} {e:EX} {h M:oA} {vc N:Nat} (V:Blk w b (e.cells a vc h N M n)) (X:e.g.sits S w a h M) (Y:PDsC S w e.g.procs h) (Z:e.g.vars.length<=vc):EXs (λ_=>True) w [e] (some ⟨b,0,none⟩):=by
 refine gQ ⟨b,0,rfl,trivial,λi x U=>?_⟩;rcases i with - | i
 . cases U;rw [kZ,iY];exact ⟨a,vc,h,N,M,n,V.row,X.wide λ_ _=>trivial,Y.wide λ_ _=>trivial,Z⟩
 . cases i<;>cases U
set_option maxHeartbeats 8000000 in
def Wg (w:wD):Calls prog 11 #[] w λe w'=>e = .returned (.bool true)/\Ext w w':=by
 have N:=Ne w;have al:=gO (λw1=>OV 40 w1);have am:=gO (λw1=>OV 41 w1);have HN:=gO (λS a c w1 h=>bC [e50] (λe he=>by rw [iu] at he;rw [he];exact Yx) B7 fL S a c w1 h);have a8:=gO (λM X bb S va vc pa pc ma mc w1=>TC [] (L50.take 1) B7 [97,110,110] B7 AU 40 B7 B7 false go40.2 gq M X bb S va vc pa pc ma mc w1);have a9:=gO (λM X bb S va vc pa pc ma mc w1=>TC (L50.take 1) (L50.take 2) B7 [97,110,110] B7 AU 41 B7 B7 true go41.2 gt M X bb S va vc pa pc ma mc w1);have ba:=gO (λM X bb S va vc pa pc ma mc w1=>TC (L50.take 2) L50 B7 [98,111,98] B7 AU 41 B7 B7 true go41.2 gu M X bb S va vc pa pc ma mc w1);refine Ad func11 ntmps11 rfl rfl (eK ?_);refine C1 (xB [_,_,_]) (eQ rfl (al.out _) ?_);rintro _ dt ⟨du,dv,dw,dx,dy,dz,⟨⟩,h7,h8,h9,an⟩;have d0:=an.size;have N:=N.ext an;refine C1 (xB [_,_,_,_,_,_,_,_,_,_,_,_]) (Ax (xS [_,_,_,_,_,_,_,_,_,_,_,_]) rfl ?_ aFh);rintro _ d1 ⟨d2,rfl,ab,d3⟩;have d4:=ab.blk;have bc:=ab.ext;have d5:=ab.pos;have d6:=ab.size;revert h7 h8 N;refine eE bc ?_;intro h7 h8 N;refine eQ rfl (HN.out _ _ _ _ (aG (e:=e50) Ae Ae Ae Ae)) ?_;rintro _ d7 ⟨V,d8,d9,⟨⟩,ao,ap,aq⟩;have z28:=aq.size;have N:=N.ext aq;refine eK ?_
 refine eK ?_;refine C1 (Fo Ac rfl rfl) (kQ (al.out _) ?_);rintro _ b6 ⟨b7,b8,b9,ca,cb,cc,⟨⟩,ea,eb,ec,ar⟩;revert ao N;refine eY ar ?_;intro cd ao N;refine eQ rfl (a8.out _ _ _ _ _ _ _ _ _ _ _ Ae Ae Ae Ae) ?_;rintro _ ce ⟨bd,cf,cg,ch,be,bf,bg,bh,bi,bj,bk,⟨⟩,ah,Y,au,ac⟩;have ci:=ac.size;have N:=me N ac (λk hk=>by have:=ap k (gQ hk);omega);refine eK ?_;refine xA [_,_,_,_,_,_] ?_;intro ad cj av;refine eI [_,_,_,_,_,_] av ?_;intro ck G aw cl cm;revert Y N;refine eE aw ?_;intro Y N;refine C1 Pa (cT ?_);have ai:∀k,ah k->w.heap.size<=k/\k≠ad:=λk hk=>by
  obtain ⟨k1|k1,k2⟩:=au k hk
  . have:=ap k (gQ k1);omega
  . omega
 refine kQ (am.out _) ?_;rintro _ cn ⟨co,cp,cq,cr,ct,cu,⟨⟩,ed,ee,ef,ax⟩;revert G Y N;refine eY ax ?_;intro cv G Y N;refine eQ rfl (a9.out _ _ _ _ _ _ _ _ _ _ _ Ae Ae Ae Ae) ?_;rintro _ cw ⟨bl,cx,cy,cz,bm,bn,bo,bp,bq,br,bs,⟨⟩,aj,Z,ay,ae⟩;have G:=lY G ae (λe=>(ai _ e).2 rfl);have N:=me N ae (λk hk=>(ai k hk).1);refine eK ?_;refine xA [_,_,_,_,_,_] ?_;intro az c0 a0;refine eI [_,_,_,_,_,_] a0 ?_;intro c1 U a1 c2 c3;revert Z G N;refine eE a1 ?_;intro Z G N;refine C1 Pa (cT ?_);have ak:∀k,aj k->w.heap.size<=k/\k≠ad/\k≠az:=λk hk=>by
  obtain ⟨k1|k1,k2⟩:=ay k hk
  . have:=ai k k1;omega
  . omega
 refine kQ (am.out _) ?_;rintro _ c4 ⟨c5,c6,c7,c8,c9,da,⟨⟩,eg,eh,ei,a2⟩;revert U Z G N;refine eE a2 ?_;intro U Z G N;refine eQ rfl (ba.out _ _ _ _ _ _ _ _ _ _ _ Ae Ae Ae Ae) ?_;rintro _ db ⟨bt,dc,dd,de,bu,bv,bw,bx,bz,b0,b1,⟨⟩,b2,O,df,aa⟩;have U:=lY U aa (λe=>(ak _ e).2.2 rfl);have G:=lY G aa (λe=>(ak _ e).2.1 rfl);have N:=me N aa (λk hk=>(ak k hk).1);refine eK ?_;refine xA [_,_,_,_,_,_] ?_;intro dg dh a3;refine eI [_,_,_,_,_,_] a3 ?_;intro di _ a4 _ _;revert O U G N;refine eE a4 ?_;intro O U G N;refine C1 Pa (cT ?_);have hp:∀e∈[e50],0<=e.points/\e.points<=1000:=λe he=>by rw [iu] at he;rw [he];decide
 have HA:=gO (λM X w1 h=>Jj M X V [e50] L50 [97,110,110] [105,110,99] w1 h);have HP:=gO (λM X w1 h=>H7 M X V [e50] B7 hp L50 [97,110,110] w1 h);have HQ:=gO (λM X w1 h=>H7 M X V [e50] B7 hp L50 [98,111,98] w1 h);have HR:=gO (λM X w1 h=>Wf M X V [e50] B7 hp L50 B7 w1 h);have HS:=gO (λS S' a a' c c' w1 h1 h2=>OW [[98,111,98],[97,110,110]] [[98,111,98],[97,110,110]] B7 S S' a a' c c' w1 h1 h2);rw [decide_eq_true rfl] at HS;rw [pts50.2.2.1] at HA;rw [pts50.1] at HP;rw [pts50.2.1] at HQ;rw [pts50.2.2.2] at HR;refine kC (HP.out _ _ _ Ae) ?_;rintro _ ej ⟨⟨⟩,b3⟩;revert O N;refine eE b3 ?_;intro O N;refine kC (HQ.out _ _ _ Ae) ?_;rintro _ ek ⟨⟨⟩,b4⟩;revert O N;refine eE b4 ?_;intro O N;refine kC (HA.out _ _ _ Ae) ?_;rintro _ el ⟨⟨⟩,b5⟩;revert O N;refine eE b5 ?_;intro O N;refine kQ (HR.out _ _ _ Ae) ?_;rintro _ dk ⟨dl,dm,⟨⟩,af,a5⟩;have N:=N.ext a5;refine O5 (Ax (xS [_,_]) rfl ?_ aFh);rintro _ dn ⟨dp,rfl,ag,dq⟩;have dr:=ag.blk;have a6:=ag.ext;revert af N;refine eE a6 ?_;intro af N;refine O5 (cC rfl (HS.out _ _ _ _ _ _ _ (NamAt.rows Ae) (Yy Ae)) ?_);rintro _ ds ⟨⟨⟩,a7⟩;have N:=N.ext a7;refine kR ?_;exact ⟨rfl,N⟩
def Sd (N:Nat):∀(t:Nd) (S:nP) (a:oA) (c:Nat) (w:wD),t.size<N->t.wf->t.sits S w a ->
 Calls prog 55 #[t.val a c] w λe w'=> ∃n:Int,e = .returned (.int .i64 n)/\Ext w w':=by
 induction N with
 | zero=>intro t S a c w h;omega
 | succ N ih=>
  rintro ⟨k,n,s,l⟩ S a c w hN hM G;have IH:=gO ih;simp only [Nd.sits] at G;simp only [Nd.size] at hN;obtain ⟨-,-,-,-,-,hl,V⟩:=hM;have X:=Ne w;refine Ad func55 ntmps55 rfl rfl (cS (eB [_,_,_,_] ?_));intro b1 w2 h4 x5 _ _;revert G X;refine eE x5 ?_;intro G X;refine eK ?_;refine AQ (ι:=Nat×Int) (λx=>[(9,.int .i64 x.1),(8,.int .i64 l.length),(7,.slice a l.length c),(3,.int .i64 x.2)]) (λx w'=>rowSits S w' l a/\Ext w w'/\x.1<=l.length) (λx=>l.length-x.1) (0,1) sB ⟨G,X,ii _⟩ ?_;rintro ⟨j,q⟩ w1 ⟨G,X,hj⟩;simp only at hj;by_cases M:j<l.length
  . obtain ⟨kb,ko,rfl,ad,O⟩:=BG G (by intro e;subst e;simp at M);obtain ⟨xa,xc,rx,sx⟩:=O j l[j] (gN M);have ae:=Ei (ig M);have Y:=BB V _ (ig M);generalize l[j]=x at *;refine eK ?_;refine xA [_,_,_,_] ?_;intro af ag Z;refine eI [_,_,_,_] Z ?_;intro ah ai aa _ _;revert X G sx;refine eE aa ?_;intro X G sx;refine eK ?_;refine Ax (AN AU rfl (IH.out _ S _ _ _ Ab Y Ae) (λ_ _ ⟨_,h⟩=>⟨_,h.1⟩)) rfl ?_ aFh;rintro _ ac ⟨ab,⟨⟩,U⟩;revert X G;refine eE U ?_;intro X G;refine C1 (JL (a:=q) rfl rfl) (eK ?_);exact AA (j+1,KE (q+ab)) sB ⟨G,X,M⟩ (by simp only;omega)
  . have:j=l.length:=by omega
    subst this;refine kR ?_;exact ⟨_,rfl,X⟩
def Q01 (p:Prop) (w:wD):Ending->wD->Prop:=λe w'=> ∃q:Int,e = .returned (.int .i64 q)/\(q=0\/q=1/\p)/\Ext w w'
def Q01.ret {p:Prop} (h:Q01 p w e w'):∃v,e = .returned v:=by
 obtain ⟨_,h,-⟩:=h;exact ⟨_,h⟩
def P5 (p:PG) (hp:p.wf) (S:nP) (Y:oA) (vc:Nat) (O:oA) (pc:Nat) (U:oA) (Z:Nat) (w:wD) (hs:p.sits S w Y O U) :
 Calls prog 27 #[.agg (p.cells Y vc O pc U Z).toArray] w (Q01 (p.vars.length<=4) w):=by
 have X:=Ne w;have hm:=hs.main;have M:=hs.procs.ltA;have aa:=hp.main;have ab:=gO hp.procs;have ag:=hp.np;obtain ⟨pv,G,pm⟩:=p;simp only at *;have HM:=gO (λw1 h=>Sd (pm.size+1) pm S U Z w1 Ab aa h);obtain ⟨mk,mn,ms,ml⟩:=pm;have HZ:=gO (λ(b:PD) (hb:b∈G) (S:nP) a c w1 h=>Sd (b.body.size+1) b.body S a c w1 Ab (ab.out b hb).body h);change Calls prog _ #[.agg #[.slice Y pv.length vc,.slice O G.length pc,.int .u8 mk,.int .i64 mn,str ms,.slice U ml.length Z]] w _;refine Ad func27 ntmps27 rfl rfl ?_
 focus
  refine cS (eB [_,_,_,_,_,_] ?_);intro b1 w2 N x5 _ _;revert X M hm;refine eE x5 ?_;intro X M hm;refine eK ?_;refine B0 rfl rfl rfl (λc8=>?_) (λc8=>?_);refine kR ?_;rotate_left;refine eK ?_;refine B0 rfl rfl rfl (λc9=>?_) (λc9=>?_);refine kR ?_;rotate_left;refine eK ?_;refine Ax (AN AU rfl (HM.out _ Ae) (λ_ _ ⟨_,h⟩=>⟨_,h.1⟩)) rfl ?_ aFh;rintro _ ah ⟨ai,⟨⟩,ac⟩;revert N X M;refine eE ac ?_;intro N X M;refine eK ?_;refine Ay rfl (λad=>?_) (λad=>?_);refine kR ?_;rotate_left;refine Ao (Ai (Aj (cS (C1 Pa (cT ?_)))));rotate_left
 all_goals try exact ⟨0,rfl,gP rfl,X⟩
 refine Au ?_;refine AQ (ι:=Nat) (λj=>[(1,pt b1),(3,.int .i64 j)])
  (λj w'=>j<=G.length/\Blk w' b1 [.slice Y pv.length vc,.slice O G.length pc,.int .u8 mk,.int .i64 mn,str ms,.slice U ml.length Z]/\PDs (· < w.heap.size) w' G O/\Ext w w') (λj=>G.length-j) 0 sB ⟨ii _,N,M,X⟩ ?_
 rintro j w1 ⟨hj,N,M,X⟩;by_cases V:j<G.length
 . obtain ⟨kb,ko,rfl,-,hk⟩:=mw M Ab;obtain ⟨aj,ak,al,am,rx,-,sx⟩:=hk j G[j] (gN V);have HY:=gO (HZ.out G[j] (ig V));generalize G[j]=x at *;obtain ⟨xn,an,bk,bn,bs,bl⟩:=x;unfold PD.cells at rx;simp only at *
   focus
    refine eK ?_;refine BT [_,_,_,_] Ac rfl rfl rfl rx rfl rfl rfl (Ax (AN AU rfl (HY.out _ _ _ _ Ae) (λ_ _ ⟨_,h⟩=>⟨_,h.1⟩)) rfl ?_ aFh);rintro _ ao ⟨ap,⟨⟩,ae⟩;revert X N M;refine eE ae ?_;intro X N M;refine eK ?_;refine Ay rfl (λaf=>?_) (λaf=>?_);refine kR ?_;rotate_left;refine Ao (Ah (Ai (Al (C1 Mv (C1 V7 (C1 Pa (Ak ?_)))))));rotate_left
   . exact ⟨0,rfl,gP rfl,X⟩
   . exact AA (j+1) sB ⟨Ab,N,M,X⟩ Ab
 . obtain rfl:j=G.length:=by omega
   refine kR ?_;exact ⟨1,rfl,gQ ⟨rfl,Ab⟩,X⟩
structure SB where
 stu:BJ
 name:BJ
 ans:PG
abbrev SB.cells (s:SB) (va:oA) (vc:Nat) (pa:oA) (pc:Nat) (ma:oA) (mc:Nat):lV:=[str s.stu,str s.name,.slice va s.ans.vars.length vc,.slice pa s.ans.procs.length pc,.int .u8 s.ans.main.kind,.int .i64 s.ans.main.num,str s.ans.main.name,.slice ma s.ans.main.kids.length mc]
structure SB.sits (S:nP) (w:wD) (s:SB) (va pa ma:oA) (vc:Nat):Prop where
 g:s.ans.sits S w va pa ma
 p:PDsC S w s.ans.procs pa
 room:s.ans.vars.length<=vc
def gx (S:nP) (w:wD) (b o:Nat) (s:SB):Prop:= ∃va vc pa pc ma mc,Row w ⟨b,o,none⟩ (s.cells va vc pa pc ma mc)/\s.sits S w va pa ma vc
def SBs (S:nP) (w:wD) (l:List SB) (a:oA):Prop:=Arr S 8 (gx S) w l a
def SB.sits.ext {S:nP} {w w':wD} {s:SB} {G M N:oA} {vc:Nat} (h:s.sits S w G M N vc) (x:Ext w w'):s.sits S w' G M N vc:=⟨h.g.ext x,h.p.ext x,h.room⟩
instance {S:nP} {s:SB} {M N:oA} {vc:Nat}:LfE w w' (s.sits S w a M N vc) (s.sits S w' a M N vc):=⟨λx h=>Bk.SB.sits.ext h x⟩
def SBs.ext {S:nP} {w w':wD} {l:List SB} {a:oA} (h:SBs S w l a) (x:Ext w w'):SBs S w' l a:=
 h.mono aFh (λ_ _ _ _ _ ⟨G,vc,pa,pc,ma,mc,h1,h2⟩=>⟨G,vc,pa,pc,ma,mc,h1.ext x,h2.ext x⟩)
instance {S:nP} {l:List SB}:LfE w w' (SBs S w l a) (SBs S w' l a):=⟨λx h=>Bk.SBs.ext h x⟩
def SBs.ltA {S:nP} {w:wD} {l:List SB} {a:oA} (h:SBs S w l a):SBs (· < w.heap.size) w l a:=by
 rcases h with h|⟨b,o,Z,h2,N⟩
 . exact gP h
 . cases l with
   | nil=>exact gP rfl
   | cons v r=>
    refine gQ ⟨b,o,Z,?_,λi x hi=>?_⟩
    . obtain ⟨O,vc,U,V,X,Y,G,-⟩:=N 0 v rfl;exact Cs (mb G rfl)
    . obtain ⟨O,vc,U,V,X,Y,G,M⟩:=N i x hi;exact ⟨O,vc,U,V,X,Y,G,M.g.ltA,M.p.ltA,M.room⟩
def dK (l:List EX) (subs:List SB):Prop:=l.length<=4/\subs.length<=8/\(∀e∈l,e.g.vars.length<=4/\e.fuel<=400) /\ ∀s∈subs,s.ans.vars.length<=4
set_option maxHeartbeats 8000000 in
def aH (l:List EX) (G:List SB) (hl:∀e∈l,e.g.wf) (hb:∀s∈G,s.ans.wf) (S S':nP) (a a':oA) (c c':Nat) (w:wD) (N:EXs S w l a) (M:SBs S' w G a') :
 Calls prog 20 #[.slice a l.length c,.slice a' G.length c'] w (Q01 (dK l G) w):=by
 have X:=Ne w;have N:=N.ltA;have M:=M.ltA;refine Ad func20 ntmps20 rfl rfl ?_
 focus
  refine eK ?_;refine B0 rfl rfl rfl (λc1=>?_) (λc1=>?_);refine kR ?_;rotate_left;refine eK ?_;refine Ay rfl (λc2=>?_) (λc2=>?_);refine kR ?_;rotate_left;refine Ao (Ai (Aj (cS (C1 Pa (cT ?_)))));rotate_left
 all_goals try exact ⟨0,rfl,gP rfl,X⟩
 refine Au ?_;refine AQ (ι:=Nat) (λj=>[(0,.slice a l.length c),(1,.slice a' G.length c'),(5,.int .i64 j)])
  (λj w'=>j<=l.length/\(∀e∈l.take j,e.g.vars.length<=4/\e.fuel<=400)/\EXs (· < w.heap.size) w' l a/\SBs (· < w.heap.size) w' G a'/\Ext w w') (λj=>l.length-j) 0 sB ⟨ii _,AK,N,M,X⟩ ?_
 rintro j w1 ⟨hj,Z,N,M,X⟩;by_cases O:j<l.length
 . obtain ⟨kb,ko,rfl,-,hk⟩:=mw N Ab;obtain ⟨va,vc,pa,pc,ma,mc,rx,sx⟩:=hk j l[j] (gN O);have aa:l[j].g.vars.length<=4/\l[j].fuel<=400 -> ∀e∈l.take (j+1),e.g.vars.length<=4/\e.fuel<=400:=λh e V=>by
    rw [gS O,i6,iu] at V;rcases V with V|rfl
    . exact Z e V
    . exact h
   have sg:=sx.g;have ab:=hl _ (ig O);generalize l[j]=x at *;have HT:=gO (λS w1 h=>P5 x.g ab S va vc pa pc ma mc w1 h);unfold mE at *
   focus
    refine eK ?_;refine xA [_,_,_,_,_,_,_,_,_,_,_,_] ?_;intro ap aq ak;refine eI [_,_,_,_,_,_,_,_,_,_,_,_] ak ?_;intro ar ac al _ _;revert M X N sg;refine eE al ?_;intro M X N sg;refine kQ (HT.out _ _ Ae) ?_;rintro _ ao ⟨au,⟨⟩,ad,ae⟩;revert ac M X N;refine eE ae ?_;intro ac M X N;refine eK ?_;refine B0 rfl rfl rfl (λY=>?_) (λY=>?_);refine kR ?_;rotate_left;refine eK ?_;refine B0 rfl rfl rfl (λaf=>?_) (λaf=>?_);refine kR ?_;rotate_left;refine eK ?_;refine B0 rfl rfl rfl (λag=>?_) (λag=>?_);refine kR ?_;rotate_left;refine eK ?_;refine B0 rfl rfl rfl (λah=>?_) (λah=>?_);refine kR ?_;rotate_left;refine eK ?_;refine Ay rfl (λai=>?_) (λai=>?_);refine kR ?_;rotate_left;refine Ao (Ah (Ai (Al (C1 Mv (C1 V7 (C1 Pa (Ak ?_)))))));rotate_left
   all_goals try exact ⟨0,rfl,gP rfl,X⟩
   exact AA (j+1) sB ⟨Ab,aa ⟨(ad.resolve_left Y).2,Ab⟩,N,M,X⟩ Ab
 . obtain rfl:j=l.length:=by omega
   rw [im] at Z;refine Aj (cS (C1 Mv (C1 Mv (C1 Pz (C1 V3 (cT (Dz (B9 (Az (Az (A0 (Ai (Aj (cS (C1 Pa (cT (Au ?_)))))))))))))))));refine AQ (ι:=Nat) (λj=>[(1,.slice a' G.length c'),(7,.int .i64 j)])
    (λj w'=>j<=G.length/\(∀e∈G.take j,e.ans.vars.length<=4)/\SBs (· < w.heap.size) w' G a'/\Ext w w') (λj=>G.length-j) 0 sB ⟨ii _,AK,M,X⟩ ?_
   rintro j w1 ⟨hj,U,N,X⟩;by_cases O:j<G.length
   . obtain ⟨kb,ko,rfl,-,hk⟩:=mw N Ab;obtain ⟨va,vc,pa,pc,ma,mc,rx,sx⟩:=hk j G[j] (gN O);have aa:G[j].ans.vars.length<=4 -> ∀e∈G.take (j+1),e.ans.vars.length<=4:=λh e V=>by
      rw [gS O,i6,iu] at V;rcases V with V|rfl
      . exact U e V
      . exact h
     have sg:=sx.g;have ab:=hb _ (ig O);generalize G[j]=x at *;have HT:=gO (λS w1 h=>P5 x.ans ab S va vc pa pc ma mc w1 h);unfold SB.cells at *
     focus
      refine eK ?_;refine BT [_,_,_,_,_,_] Ac rfl rfl rfl rx rfl rfl rfl (eQ rfl (HT.out _ _ Ae) ?_);rintro _ av ⟨aw,⟨⟩,am,an⟩;revert X N;refine eE an ?_;intro X N;refine eK ?_;refine Ay rfl (λaj=>?_) (λaj=>?_);refine kR ?_;rotate_left;refine Ao (Ah (Ai (Al (C1 Mv (C1 V7 (C1 Pa (Ak ?_)))))));rotate_left
     all_goals try exact ⟨0,rfl,gP rfl,X⟩
     exact AA (j+1) sB ⟨Ab,aa (am.resolve_left aj).2,N,X⟩ Ab
   . obtain rfl:j=G.length:=by omega
     rw [im] at U;refine kR ?_;exact ⟨1,rfl,gQ ⟨rfl,Ab,Ab,Z,U⟩,X⟩
def fM (l:List EX) (M:∀e∈l,e.wf) (N:l.length<=1000000) {k:Int} (G:Jl l=k) (O:k≠0) (S:nP) (a:oA) (c:Nat) (w:wD) (U:EXs S w l a) :
 Calls prog 13 #[.slice a l.length c] w λe w'=>e = .returned (.tuple #[.pointer none,.int .i64 k])/\Ext w w':=by
 refine i7 (aW l M N S a c w U) ?_;rintro e w' ⟨p,V,rfl,rfl,X,⟨rfl,-⟩|⟨h,-⟩⟩
 . exact ⟨by rw [G],X⟩
 . exact absurd (G.symm.trans h) O
def Wh {l:List EX} (h:Jl l=0):(∀e∈l,e.valid)/\(l.map (·.name)).Nodup:=by
 unfold Jl at h;split at h
 . omega
 . split at h
   . split at h
     . exact ⟨Ae,Ae⟩
     . omega
   . omega
end Bk
namespace Bk
open Go Go.RowKit Go.Proofs
def NF (M X:nP) (G:Nat) (es:List EX) (ac:es.length<=4) (Z:∀e∈es,e.wf/\e.fuel<=400) (L:List AtV) (hL:L.length<=1000) (s n:BJ) (h:s.length<=9223372036854775807) (p:PG) (hp:p.wf) (ad:p.vars.length<=4) (S:nP) (O:oA) (vc:Nat) (N:oA) (V:Nat) (U:oA) (Y:Nat) (w:wD)
 (hb:BkAt M X w G es L) (hs:p.sits S w O N U) (aa:PDsC S w p.procs N) (ab:p.vars.length<=vc) :
 Calls prog 14 #[pt G,str s,str n,.agg (p.cells O vc N V U Y).toArray] w (SubR M X G es (Cm es L s n p) w):=by
 cases hq:Cv s
 . exact R4 M X G es Ab L s n h p (gP hq) O vc N V U Y w hb
 cases hi:S0 es n with
 | none=>exact R4 M X G es Ab L s n h p (gQ hi) O vc N V U Y w hb
 | some i=>
  obtain ⟨e,he,-,-⟩:=Nx hi;obtain ⟨h1,h2⟩:=Z e (iF he);exact R6 M X G es Ab L Ab s n h hq e i hi he h1 Ab p hp Ab S O vc N V U Y w hb hs aa ab
end Bk
