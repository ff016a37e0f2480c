/- Texts that the proofs of GradebookPlays need. No condition. (Part 6 of 9.) -/
import Derived.Test.YteiiipaobncfgaaGreatPGpl5
set_option linter.unusedSimpArgs false
set_option linter.unusedVariables false
set_option linter.defProp false
set_option maxRecDepth 100000
set_option maxHeartbeats 4000000
open Go.Proofs.Tryz
open Or renaming inl->gA,inr->gB
open Go.Result renaming andThen->gF
open Go renaming Calls->gS
open Except renaming bind->gZ
open Go.Value renaming slice->iA,int->iV,ownBlock->kw
open Nat renaming blt->iC,ble->jW,beq->kk
open Go.Region renaming ready->iH,binds->jM
open List renaming replicate->iK,range->jQ
open Go.DataW renaming trod->iQ
open Go.Builtin renaming zeroCells->jI
open Go.Addr renaming add->jY
open Go.Oper renaming wp->km
open Array renaming replicate->kn
open Go.IntKind renaming wrap->kN
open Go.Sem renaming run->kV
namespace Bk
abbrev mU:=@StR.same
abbrev nj:=@BkAt.fr
abbrev nq:=@FramesOk.move
abbrev nt:=@Ro.low
abbrev nC:=@Ro.refl
end Bk
open Bk.Nd renaming isPlace->mP,name->mQ,kind->mY
open Bk.Stp renaming transfer->mR
namespace Bk
open Go Go.RowKit Go.Proofs
attribute [local irreducible] Go.Calls
variable {n i m c g:Nat} {k u:Int} {l:List Nd} {xs:List Int} {w w':wD} {s:lB} {ρ:Nat->Rl} {Z:Except Int Rn} {P P':nP} {x y:Nd} {κ:Nat->Nat} {e:Ending} {r:Rn} {st:Stp} {cs:lV}
section
variable {ρ':Nat->Rl} {K:List (Int×Int)} {sb:Nat} {S:nP}
def fV (ρ:Nat->Rl) (n k:Nat):Prop:= ¬Mg (ρ k)\/ρ k = .vars (n+1)\/ρ k = .cels (n+1)
def StoreAt.moveN (h:StoreAt ρ κ w sb st) (x:Fr S w w') (Y:∀k,S k->fV ρ st.calls.length k) (N:Ro ρ ρ' w) (O:Fresh ρ' w'):StoreAt ρ' κ w' sb st:=by
 obtain ⟨U,-,⟨Z,bc,cv,tb,cs,V,h3,h4,h5,h6⟩,h7⟩:=h;have X:=V.lt;have M:∀ {r:Rl},Mg r->r≠.vars (st.calls.length+1)->r≠.cels (st.calls.length+1) -> ∀k,S k->ρ k≠r:=λN n1 n2 k G e=>by
  rcases Y k G with h|h|h
  . exact h (by rw [e];exact N)
  . exact n1 (by rw [<-e,h])
  . exact n2 (by rw [<-e,h])
 exact ⟨by rw [N _ X,U],O,⟨Z,bc,cv,tb,cs,V.fr x (λhS=>M (r:=.store) trivial AQ AQ _ hS U),h3.move x (λk G=>⟨M (by exact trivial) AQ AQ k G,M (by exact trivial) AQ AQ k G⟩) N (λ_ _=>rfl),h4.move x (M (by exact trivial) AQ AQ) N,
  nq x N _ _ _ h5 (λk G i U V=>⟨M (by exact trivial) (by simp;omega) AQ k G,M (by exact trivial) AQ (by simp;omega) k G⟩) (λ_ _ _ _=>rfl),h6.move x (λk G=>⟨M (by exact trivial) AQ AQ k G,M (by exact trivial) AQ AQ k G,M (by exact trivial) AQ AQ k G⟩) N⟩,
  λc xs hc=>(h7 c xs hc).move x (λk G=>⟨M (by exact trivial) AQ AQ k G,M (by exact trivial) AQ AQ k G⟩) N rfl⟩
def StoreAt.push (h:StoreAt ρ κ w sb st):∃V X Y O tp cs,Blk w sb [V,X,Y,O,tp]/\Own w 0 229 3 O st.calls.length cs/\(∀k,O.ownBlock=some k->ρ k = .calls) /\
 ∀(ρ':Nat->Rl) (w':wD) (f:Frm) (vv vc M:Value),Ro ρ ρ' w->Fresh ρ' w'->Fr (λk=>k=sb\/O.ownBlock=some k) w w'->Blk w' sb [V,X,Y,M,tp]->Own w' 0 229 3 M (st.calls.length+1) (cs++[vv,vc,.int .i64 f.locals])->(∀k,M.ownBlock=some k->ρ' k = .calls)->FrameOk ρ κ w (st.calls.length+1) f vv vc ->
  StoreAt ρ' κ w' sb { st with calls:=st.calls++[f] }:=by
 obtain ⟨h1,-,⟨V,X,O,tb,cs,h2,h3,Z,h5,h6⟩,h7⟩:=h;have aa:=h2.lt;refine ⟨V,X,_,O,_,cs,h2,Z.1,Z.2,λρ' w' f vv vc M U ab x hb ho hc hf=>?_⟩;have N:∀ {r:Rl},r≠.store->r≠.calls -> ∀k,(k=sb\/O.ownBlock=some k)->ρ k≠r:=λn1 n2 k G e=>by
  rcases G with rfl|G
  . exact n1 (by rw [<-e,h1])
  . exact n2 (by rw [<-e,Z.2 k G])
 refine ⟨by rw [U _ aa,h1],ab,⟨V,X,M,tb,cs++[vv,vc,.int .i64 f.locals],hb,h3.move x (λk G=>⟨N AQ AQ k G,N AQ AQ k G⟩) U (λ_ _=>rfl),⟨by simpa using ho,hc⟩,(FramesOk.snoc st.calls 1 f _).2 ⟨cs,vv,vc,rfl,nq x U _ _ _ h5 (λk G i _ _=>⟨N AQ AQ k G,N AQ AQ k G⟩) (λ_ _ _ _=>rfl),?_⟩,h6.move x (λk G=>⟨N AQ AQ k G,N AQ AQ k G,N AQ AQ k G⟩) U⟩,λc xs hx=>(h7 c xs hx).move x (λk G=>⟨N AQ AQ k G,N AQ AQ k G⟩) U rfl⟩;rw [lL];exact hf.move x (λk G=>⟨N AQ AQ k G,N AQ AQ k G⟩) U (λ_ _=>rfl)
def IY {ps:List VD} {G:List lB} {e:Int} (N:ps.length=G.length) (h:(DJ st.cur ps G).1=e) (M:e≠0):st.enters ps G=(e,st):=by
 unfold Stp.enters;rw [AC Ab,AT (by rw [h];exact M),h]
def Own.shape {b e sz:Nat} {v:Value} (h:Own w b e sz v n cs):∃a c,v = .slice a n c:=by
 rcases h.row with ⟨rfl,G,-⟩|⟨g,cap,rfl,-⟩
 . exact ⟨none,0,by rw [G]⟩
 . exact ⟨_,_,rfl⟩
def WE {e:TypeId} {v:Value} (h:Own w 0 e 1 v n cs) (G:∀k,v.ownBlock=some k->S k):∃a c,v = .slice a n c/\Rows S w cs a:=by
 rcases h.row with ⟨rfl,M,N⟩|⟨g,cap,rfl,-,O,U⟩
 . exact ⟨none,0,by rw [M],gA N⟩
 . exact ⟨_,cap,rfl,gB ⟨g,0,rfl,G g O,U⟩⟩
def Rows.at1 {a:oA} (h:Rows S w cs a) {u:Value} (G:cs[i]? = some u):∃b o,a=some ⟨b,o,none⟩/\S b/\Row w ⟨b,o+i*1,none⟩ [u]:=by
 obtain ⟨b,o,U,V,X⟩:=h.get (by rintro rfl;simp at G);refine ⟨b,o,U,V,?_⟩;have O:=X.sub i 1;rw [kI];have M:i<cs.length:=by
  rcases gQ i cs.length with N|N
  . exact N
  . rw [gM N] at G;cases G
 rw [gW M] at O;have:cs[i]=u:=by rw [fY M] at G;exact gJ G
 simpa [this] using O
def Zd (hw:st.WF K m) (hm:m<=100000) (ps:List VD) (qs:List (List UInt8)) (dm:ps.length<=100000) (b3:∀k,S k -> ¬Mg (ρ k)) (pa qa:Option Addr) (pc qc:Nat) (w:World) (h:StoreAt ρ κ w sb st) (hp:VDs S w ps pa) (hq:Rows S w (qs.map str) qa) :
 Calls prog 212 #[.pointer (some ⟨sb,0,none⟩),.slice pa ps.length pc,.slice qa qs.length qc] w (StR ρ sb (st.enters ps qs).2 (st.enters ps qs).1 w):=by
 have X:=Ne w
 by_cases ai:ps.length≠qs.length
 . have e:st.enters ps qs=(7,st):=by unfold Stp.enters;rw [AT ai]
   rw [e]
   generalize ps.length=n1 at *
   generalize qs.length=n2 at *
   clear hp hq;refine Ad func212 ntmps212 rfl rfl ?_
   refine eK ?_;refine C1 (A2 Ac rfl rfl) ?_;refine eK ?_;refine AW rfl rfl ?_
   exact mU Af X
 have ai:ps.length=qs.length:=Decidable.not_not.1 ai;have dn:=hw.nc;have dp:=hw.curm;have ck:=hw.cur;have bt:=h.role;obtain ⟨fb,fo,pre,post,T,vv,vc,bu,a2,N,hf,-⟩:=h.open;have HC:=fZ (λw1 h=>Eu fb fo st.calls.length sb Ab w1 h);obtain ⟨av,cv,rfl,O⟩:=GQ (S:=λk=>ρ k = .vars st.calls.length/\k<w.heap.size) hf.v.1 (λk M=>⟨hf.v.2 k M,(hf.v.1.blk M).2⟩);obtain ⟨ac,cc,rfl,U⟩:=WE (S:=λk=>ρ k = .cels st.calls.length/\k<w.heap.size) hf.c.1 (λk M=>⟨hf.c.2 k M,(hf.c.1.blk M).2⟩);have cl:fb<w.heap.size:=N.1.blk.lt;have G:=N.blk;replace hp:VDs (λk=> ¬Mg (ρ k)/\k<w.heap.size) w ps pa:=hp.lt2.wide (λk M=>⟨b3 k M.1,M.2⟩);replace hq:Rows (λk=> ¬Mg (ρ k)/\k<w.heap.size) w (qs.map str) qa:=hq.lt2.wide (λk M=>⟨b3 k M.1,M.2⟩);have HF:=fZ (λs w1 h1 h2=>Mm st.cur.vars Ab s (λk=>ρ k = .vars st.calls.length/\k<w.heap.size) av cv (.slice ac st.cur.cells.length cc) (.int .i64 st.cur.locals) fb fo w1 h1 h2);have HS:=fZ h;clear h hf N
 generalize hn:st.calls.length=n at *
 have F:=mx (λk=>ρ k = .vars (n+1)\/ρ k = .cels (n+1)) w;refine Ad func212 ntmps212 rfl rfl ?_
 refine eK ?_;refine C1 (A2 Ac rfl rfl) ?_;refine eK ?_;refine TJ Ca rfl rfl ?_;intro V dq a3 a4;have b4:=a3.ext;have dr:=a3.pos;have dt:=a3.size;clear a3;revert G hp hq bu O U F;refine eE b4 ?_;intro G hp hq bu O U F;clear b4;refine kC (HC.out _ Af) ?_;rintro _ c5 ⟨⟨⟩,bw⟩;have c6:=bw.size;revert a4 G hp hq O U F;refine eE bw ?_;intro a4 G hp hq O U F;clear bw;refine C1 Pa (cT (Aj (cS (C1 Mv (C1 Pz (C1 Mv (cT (As ?_))))))))
 have ad:∀(e:Int) (ρ1:Nat->Rl) (w':World),Ro ρ ρ1 w->Fresh ρ1 w'->Fr (λk=>ρ k = .vars (n+1)\/ρ k = .cels (n+1)) w w'->st.enters ps qs=(e,st)->StR ρ sb (st.enters ps qs).2 (st.enters ps qs).1 w (.returned (.int .i64 e)) w':=λe ρ1 w' ab a2 F h=>by
  rw [h]
  exact ⟨ρ1,κ,rfl,ab,HS.out.moveN F (λk M=>by rw [hn];exact gB M) ab a2,F.weaken (λk M=>by rcases M with h|h<;>rw [h]<;>trivial)⟩
 replace ad:=fZ ad;clear bu X;refine AF (ι:=Nat) (λj=>[(0,.pointer (some ⟨sb,0,none⟩)),(2,.slice qa qs.length qc),(7,.pointer (some ⟨V,0,none⟩)),(8,.pointer (some ⟨fb,fo,none⟩)),(21,.slice pa ps.length pc),(22,.int .i64 ps.length),(23,.int .i64 j)])
  (λj w'=> ∃(cs:List Nat) (ρj:Nat->Rl) (vv vc:Value),j<=ps.length/\Ro ρ ρj w/\Fresh ρj w'/\Win w' V 0 [vv,vc,.int .i64 0] [] [] 229/\FrameOk ρj κ w' (n+1) ⟨ps.take j,cs,0⟩ vv vc/\Row w' ⟨fb,fo,none⟩ [.slice av st.cur.vars.length cv,.slice ac st.cur.cells.length cc,.int .i64 st.cur.locals] /\
   VDs (λk=>ρ k = .vars n/\k<w.heap.size) w' st.cur.vars av/\Rows (λk=>ρ k = .cels n/\k<w.heap.size) w' (st.cur.cells.map (JP κ)) ac/\VDs (λk=> ¬Mg (ρ k)/\k<w.heap.size) w' ps pa/\Rows (λk=> ¬Mg (ρ k)/\k<w.heap.size) w' (qs.map str) qa /\
   Fr (λk=>ρ k = .vars (n+1)\/ρ k = .cels (n+1)) w w'/\V<w'.heap.size/\ρj V = .none/\DJ st.cur ps qs=((DJ st.cur (ps.drop j) (qs.drop j)).1,cs++(DJ st.cur (ps.drop j) (qs.drop j)).2)/\cs.length=j)
  (λj=>ps.length-j) 0 sB
  ⟨[],ρ,.slice none 0 0,.slice none 0 0,gI _,nC _ _,λb hb=>HS.out.fresh b Ab,⟨a4,rfl⟩,⟨⟨nm,λk M=>(kO _ M.symm).elim⟩,nm,λk M=>(kO _ M.symm).elim⟩,G,O,U,hp,hq,F,Ab,HS.out.fresh V Ab,AQ,rfl⟩ ?_
 clear a4 G O U hp hq F;rintro j w1 ⟨cs,ρj,cm,cn,hj,ab,bg,N,Y,G,O,U,hp,hq,F,du,bx,hb,cp⟩;have aj:=fZ bg;have cq:=F.size;clear bg
 by_cases aw:j<ps.length
 . obtain ⟨pb,po,rfl,dv,bh⟩:=hp.get (by intro e;rw [e] at aw;simp at aw);have r0:=bh j ps[j] (fY aw);obtain ⟨qb,qo,rfl,dw,r1⟩:=hq.at1 (i:=j) (u:=str qs[j]) (by rw [iD,fY Ab];rfl)
   have cr:ps.take (j+1)=ps.take j++[ps[j]]:=by rw [List.take_add_one,fY aw];rfl
   rw [gW aw,gW (by omega:j<qs.length),DJ] at hb
   have dx:(ps.take j).length=j:=by simp;omega
   clear bh
   generalize ps[j]=v at *
   generalize qs[j]=s at *
   obtain ⟨vn,vk,vl⟩:=v;replace r0:Row w1 ⟨pb,po+j*3,none⟩ [str vn,.int .u8 vk,.int .i64 vl]:=r0;have ak:=HF.out s
   cases hl:Cu s st.cur.vars with
   | none=>
    rw [hl] at hb;simp only at hb;rw [show CI st.cur.vars s = -1 by unfold CI;rw [hl]] at ak;replace ak:=fZ ak;have he:=IY (st:=st) (e:=6) ai (by rw [hb]) C2
    refine eK ?_;refine eA [_,_,_] ?_;intro dy dz b5 b6 d0 d5;revert G O F r1;refine eE b6 ?_;intro G O F r1;clear b6;refine C1 Pa (eS [_,_,_] b5 ?_);intro d6 _ bi c7;clear b5 Y;revert G O F r1;refine eF bi ?_;intro G O F r1;clear bi;refine kC (ak.out _ Af Af) ?_;rintro _ c8 ⟨⟨⟩,ax⟩;have c9:=ax.size;replace F:=F.ext ax;clear ax;refine eK ?_;refine AW rfl rfl ?_
    exact ad.out 6 ρj _ ab (λb hb=>aj.out b Ab) F he
   | some i=>
    obtain ⟨u,hu,-⟩:=Fy hl
    have ct:i<st.cur.cells.length:=by rw [<-ck.len];exact Gm hl
    have hc:=fY ct;rw [hl] at hb;simp only at hb;rw [show st.cur.vars.getD i ⟨[],0,0⟩=u by rw [gY,hu];rfl,show st.cur.cells.getD i 0=st.cur.cells[i] by rw [gY,hc];rfl] at hb;rw [show CI st.cur.vars s=(i:Int) by unfold CI;rw [hl]] at ak;replace ak:=fZ ak;obtain ⟨vb,vo,rfl,d7,b7⟩:=O.get (by intro e;rw [e] at hu;simp at hu);have r2:=b7 i u hu;obtain ⟨cb,co,rfl,d8,r3⟩:=U.at1 (i:=i) (u:=JP κ st.cur.cells[i]) (by rw [iD,hc];rfl);have d9:=Gm hl;obtain ⟨un,uk,ul⟩:=u;replace r2:Row w1 ⟨vb,vo+i*3,none⟩ [str un,.int .u8 uk,.int .i64 ul]:=r2
    generalize st.cur.cells[i]=c at *
    unfold JP at r3
    clear b7 hu hc;dsimp only at hb
    have a5:∀b,b<w.heap.size->ρ b≠.vars (n+1)->ρ b≠.cels (n+1) -> ¬Fc ρj (n+1) V b:=λb h1 h2 h3 M=>by
     rcases M with rfl|M|M
     . omega
     . rw [ab b h1] at M
       exact h2 M
     . rw [ab b h1] at M
       exact h3 M
    have s1:∀k,Fc ρj (n+1) V k->(ρ k = .vars (n+1)\/ρ k = .cels (n+1))\/w.heap.size<=k:=λk M=>by
     rcases gQ k w.heap.size with h|h
     . rcases M with rfl|M|M
       . omega
       . rw [ab k h] at M
         exact gA (gA M)
       . rw [ab k h] at M
         exact gA (gB M)
     . exact gB h
    have s2:¬Fc ρj (n+1) V fb:=a5 fb cl (by rcases a2 with h|h<;>rw [h]<;>simp) (by rcases a2 with h|h<;>rw [h]<;>simp)
    have s3:∀b,(ρ b = .vars n/\b<w.heap.size) -> ¬Fc ρj (n+1) V b:=λb h=>a5 b h.2 (by rw [h.1];simp) (by rw [h.1];simp)
    have s4:∀b,(ρ b = .cels n/\b<w.heap.size) -> ¬Fc ρj (n+1) V b:=λb h=>a5 b h.2 (by rw [h.1];simp) (by rw [h.1];simp)
    have s5:∀b,(¬Mg (ρ b)/\b<w.heap.size) -> ¬Fc ρj (n+1) V b:=λb h=>a5 b h.2 (λe=>h.1 (by rw [e];trivial)) (λe=>h.1 (by rw [e];trivial))
    have cu:ρj V≠.vars (n+1)/\ρj V≠.cels (n+1):=by rw [bx];exact ⟨AQ,AQ⟩
    have b8:=fZ (λw2 h1 h2 h3=>Tg (κ:=κ) (j:=n+1) ⟨ps.take j,cs,0⟩ ⟨vn,vk,vl⟩ c V 0 [] [] 229 cm cn (.int .i64 0) w2 h1 h2 cu h3 (by simp only;omega) (by simp only;omega))
    unfold JP VD.val at b8
    refine eK ?_;refine eA [_,_,_] ?_;intro ea eb b9 ca ec ed;revert N Y F hp hq r1 O U G r2 r3;refine eE ca ?_;intro N Y F hp hq r1 O U G r2 r3;clear ca;refine C1 Pa (eS [_,_,_] b9 ?_);intro ee ae ap da;clear b9;replace N:=N.fr ap Ab;replace Y:=FrameOk.fr Y ap (λk M=>by (rw [show k=_ from M,aj.out _ Ab];exact ⟨AQ,AQ⟩));revert F hp hq r1 O U G r2 r3;refine eF ap ?_;intro F hp hq r1 O U G r2 r3;clear ap;refine kC (ak.out _ Af Af) ?_;rintro _ aq ⟨⟨⟩,ay⟩;have db:=ay.size;revert ae N Y F hp hq O U G r2 r3;refine eE ay ?_;intro ae N Y F hp hq O U G r2 r3;clear ay;refine C1 Pa (cT (Aj (cS (C1 Mv (C1 V3 (cT (Dd (Am (Ai (Aj ?_))))))))))
    by_cases a6:uk=vk
    . have cw:¬uk≠vk:=λh=>h a6
      focus
       refine Aj (Ap (λwz=>Ext aq wz) 22 (.pure 0 (.pure 1 (.pure 2 (.pure 3 (.pure 4 (.pure 5 (.pure 6 (.pure 7 (.pure 8 (.pure 9 (.pure 10 (.pure 11 (.pure 12 (.pure 13 (.pure 14 (.pure 15 (.pure 16 (.pure 17 (.pure 18 (.pure 19 (.pure 20 (.pure 21 .tail)))))))))))))))))))))) mixed AR (Aa (Aa (Ae (Aa (Aa (Ae (Aa Ag))))))) ?_);intro bz a7 _;have bj:(λwz=>Ext aq wz) bz:=a7;simp only at bj;have ah:=ae;have Z:=G;have ar:=r2;have ef:=a7.size;revert ae N Y F hp hq O U G r3;refine eE a7 ?_;intro ae N Y F hp hq O U G r3;clear a7;refine ⟨bj,?_⟩;refine eT ?_;refine Tq rfl (Ar Ac rfl rfl rfl (λwz hz=>mE (mw Z hz) rfl)) ?_;refine eT ?_;refine Tq rfl (Dr ar) ?_;refine eT ?_;refine Ku rfl rfl rfl rfl (Cb Af) (Ar Ac rfl rfl rfl (λwz hz=>mE (mw Z hz) rfl)) rfl (Ku rfl rfl rfl rfl (Cb Af) (Aw rfl) rfl (Ku rfl rfl rfl rfl (Cb Af) (AK Ac rfl rfl rfl rfl Ab Ab) rfl (Ku rfl rfl rfl rfl (Cb Af) (A1 Ac rfl rfl rfl) rfl (Ku rfl rfl rfl rfl (Cb Af) (Ar Ac rfl rfl rfl (λwz hz=>Row.at (mw ar hz) rfl)) rfl (Ku rfl rfl rfl rfl (Cb Af) (A1 Ac rfl rfl rfl) rfl (Ku rfl rfl rfl rfl (Cb Af) (Ar Ac rfl rfl rfl (λwz hz=>mC (my ah hz) rfl)) rfl (Aq rfl ?_)))))))
       refine eK ?_;refine BP rfl (λcx=>?_) (λcx=>?_);refine eK ?_;refine AW rfl rfl ?_;rotate_left;refine eK ?_;refine Ap (λwz=>Ext bz wz) 8 (.pure 0 (.pure 1 (.pure 2 (.pure 3 (.pure 4 (.pure 5 (.pure 6 (.pure 7 .tail)))))))) mixed AR (Ae (Aa (Aa (Ae (Aa Ag))))) ?_;intro cy a8 _;have bk:(λwz=>Ext bz wz) cy:=a8;simp only at bk;have ah:=ae;have Z:=G;have cd:=r3;have eg:=a8.size;revert N Y F hp hq O U G;refine eE a8 ?_;intro N Y F hp hq O U G;clear a8;refine ⟨bk,?_⟩;refine Tq rfl (BR [_,_,_] Ac rfl rfl rfl (λwz hz=>(my ah hz)) rfl rfl) ?_;refine eT ?_;refine Tq rfl (Dr Z) (Tq rfl Mv (Tq rfl Pi (Tq rfl (Ar Ac rfl rfl rfl (λwz hz=>mE (mw cd hz) rfl)) (Aq rfl (eQ rfl (b8.out _ Af Af (λb hb=>aj.out b Ab)) ?_)))));rintro _ dc ⟨b0,b1,b2,⟨⟩,bl,dd,de,df,af⟩;have dg:=af.size;clear ae N Y;replace F:=mB F af (s1);replace hp:=m8 hp af (s5);replace hq:=mT hq af (s5);clear r1 r0;replace O:=m8 O af (s3);replace U:=mT U af (s4);replace G:=mN G af (s2);clear r2 r3 af;refine Al (Ah (Ai (Ak (C1 V7 (C1 Mv (Al ?_))))));rotate_left
      . exact ad.out 7 ρj _ ab (λb hb=>aj.out b Ab) F (IY (st:=st) (e:=7) ai (by rw [hb,AT (gB Af)]) C2)
      . refine Av (j+1) sB ⟨cs++[c],b2,b0,b1,Ab,ab.trans bl Ab,Af,Af,by rw [cr];assumption,Af,Af,Af,Af,Af,Af,Ab,?_,?_,by simp [cp]⟩ Ab
        . rw [bl V Ab,bx]
        . rw [hb,AC (λh=>by rcases h with h|h;exact h a6;exact absurd h (Decidable.not_not.2 Af))]
          simp
    . have cw:uk≠vk:=a6;have he:=IY (st:=st) (e:=7) ai (by rw [hb,AT (gA a6)]) C2
      refine Aj (Ap (λwz=>Ext aq wz) 22 (.pure 0 (.pure 1 (.pure 2 (.pure 3 (.pure 4 (.pure 5 (.pure 6 (.pure 7 (.pure 8 (.pure 9 (.pure 10 (.pure 11 (.pure 12 (.pure 13 (.pure 14 (.pure 15 (.pure 16 (.pure 17 (.pure 18 (.pure 19 (.pure 20 (.pure 21 .tail)))))))))))))))))))))) mixed AR (Aa (Aa (Ae (Aa (Aa (Ae (Aa Ag))))))) ?_);intro cz a9 _;have bm:(λwz=>Ext aq wz) cz:=a9;simp only at bm;have ah:=ae;have Z:=G;have ar:=r2;have eh:=a9.size;replace F:=F.ext a9;clear a9;refine ⟨bm,?_⟩;refine eT ?_;refine Tq rfl (Ar Ac rfl rfl rfl (λwz hz=>mE (mw Z hz) rfl)) ?_;refine eT ?_;refine Tq rfl (Dr ar) ?_;refine eT ?_;refine Aq rfl ?_;refine eK ?_;refine AW rfl rfl ?_
      exact ad.out 7 ρj _ ab (λb hb=>aj.out b Ab) F he
 . obtain rfl:j=ps.length:=by omega
   have hS:=HS.out.moveN F (λk M=>by rw [hn];exact gB M) ab aj.out
   have ce:DJ st.cur ps qs=(0,cs):=by
    rw [hb,lk]
    simp [DJ]
   have c0:ρj sb = .store:=hS.role;obtain ⟨bv,bc,ei,ej,tp,ds,aa,al,ba,cf⟩:=hS.push;rw [hn] at al;rw [gL] at Y;obtain ⟨an,ao,rfl⟩:=al.shape;obtain ⟨xa,xc,rfl⟩:=Y.v.1.shape;obtain ⟨ya,yc,rfl⟩:=Y.c.1.shape
   have he:st.enters ps qs=if 100<=n then (19,st) else (0,{ st with calls:=st.calls++[⟨ps,cs,0⟩] }):=by
    unfold Stp.enters
    rw [AC Ab,AC (by rw [ce];exact λh=>h rfl),hn,ce]
   by_cases bn:100<=n
   . rw [AT bn] at he
     refine eK ?_;refine AW rfl rfl ?_
     exact ad.out 19 ρj _ ab (λb hb=>aj.out b Ab) F he
   . rw [AC bn] at he;rw [he];have F2:=mx (λk=>k=sb\/(iA an n ao).ownBlock=some k) w1;have c1:=fZ cf;have F1:=fZ F;have ek:=aa.lt;have c2:=fZ Y
     have d1:∀k,(iA an n ao).ownBlock=some k -> ¬k=sb:=λk M e=>by subst e;have:=ba k M;rw [c0] at this;cases this
     have d2:¬(iA an n ao).ownBlock=some sb:=λh=>d1 sb h rfl
     have d3:¬(iA an n ao).ownBlock=some V:=λh=>by have:=ba V h;rw [bx] at this;cases this
     have d4:∀k,(iA an n ao).ownBlock=some k->k<w1.heap.size:=λk M=>(al.blk M).2
     clear hS Y O U hp hq G
     refine eK ?_;refine Ap (λwz=>Fr ((λk=>(iA an n ao).ownBlock=some k)) w1 wz) 8 (.pure 0 (.pure 1 (.pure 2 (.pure 3 (.pure 4 (.pure 5 (.fork 6 (.fork 7 .tail .none) .none))))))) mixed AR (Aa Ag) ?_;intro c3 bb _;have ag:(λwz=>Fr ((λk=>(iA an n ao).ownBlock=some k)) w1 wz) c3:=mt bb;simp only at ag;have bd:=aa;have be:=N;have el:=bb.size;revert aa al F2;refine eE bb ?_;intro aa al F2;clear bb;refine ⟨ag,?_⟩;refine eT ?_;refine Tq rfl (Ar Ac rfl rfl rfl (λwz hz=>mC (mu bd hz (by first|omega|(dsimp only;omega))) rfl)) (Tq rfl (Bt Ac rfl rfl rfl (λwz hz=>(mN (Win.blk be) hz (by first|omega|(dsimp only;omega)))) rfl) ?_);refine Ax rfl (C3 [_,_,_] Ac Ca rfl rfl rfl rfl rfl rfl rfl rfl rfl) rfl ?_ aFh Au;rintro _ bf ⟨em,rfl,az,c4⟩;clear c4;have bo:=az.blk;dsimp only at bo;have bp:=az.ext;have dh:=az.pos;have di:=az.size;clear az;revert ag aa al F2;refine eE bp ?_;intro ag aa al F2;clear bp;refine ⟨ag,?_⟩;refine Ax rfl (Fd Ac Ca rfl rfl rfl rfl AR rfl rfl rfl Af (mJ Af) rfl rfl Ab Ab (gI _)) rfl ?_ aFh Au;rintro _ au ⟨bq,cj,rfl,br,am,bs,cg⟩;have dk:=am.size
     clear bo;replace ag:=mB ag am (λk M=>gA M);replace aa:=mu aa am (d2);clear al;replace F2:=mB F2 am (λk M=>gA (gB M));clear am;refine ⟨ag,?_⟩;refine Aq rfl ?_;refine eK ?_;refine eV [_] [_,_,_,_,_] aa ?_;intro ch ci a0 dl;clear aa;replace br:=mO br a0 (λk M hS=>by (obtain rfl:=gJ (show some bq=some k from M);rcases bs with h|h;exact d1 _ h hS;omega));clear N;replace F2:=mB F2 a0 (λk M=>gA (gA M));clear a0;refine eK ?_;refine AW rfl rfl ?_
     have a1:Ro ρj (UQ ρj bf au .calls) w1:=λb hb=>WC ρj bf au .calls b Ab
     refine ⟨UQ ρj bf au .calls,κ,rfl,ab.trans a1 cq,c1.out _ ch ⟨ps,cs,0⟩ _ _ _ a1 (λb hb=>NK (w:=bf) (w':=au) (λb hb=>aj.out b Ab) Ab b Ab) F2 ci (by rw [hn];assumption) (λk M=>?_) (by rw [hn];exact c2.out),(F1.out.weaken (T:=λk=>Mg (ρ k)) (λk M=>by rcases M with h|h<;>rw [h]<;>trivial)).fr F2 (λk M=>?_)⟩
     . obtain rfl:=gJ (show some bq=some k from M)
       rcases bs with h|h
       . have:=d4 _ h;rw [a1 _ this]
         exact ba _ h
       . exact Tf ρj .calls h cg
     . rcases M with rfl|M
       . left;rw [bt];trivial
       . rcases gQ k w.heap.size with h|h
         . left;rw [<-ab k h,ba k M];trivial
         . exact gB h
end
def QN (xs:List Int) (zs:lV) (i:Nat) (u:Int) (h:i<xs.length):Ba (AX xs++zs) i [.int .i64 u]=AX (xs.set i u)++zs:=by
 simp only [Ba];rw [List.set_append_left _ _ (by simpa [AX] using h)];simp [AX,List.map_set]
def Cf {P:Program} {l:Sl} {tab:Tab} {ty:TypeId} {x y:Operand} {t cap:Nat} {s:Sk} (TT:TabOk P tab) (ht:AB tab t=some (s,1)) (hx:ev l x=some (.pointer (some ⟨g,0+i*1,none⟩))) (hy:ev l y=some (.int .i64 u))
 (ho:OwnI w 0 (.slice (some ⟨g,0,none⟩) n cap) xs) (hi:i<xs.length) :
 BG P m l (.store t x y) ty w (GE λw'=>OwnI w' 0 (.slice (some ⟨g,0,none⟩) n cap) (xs.set i u)/\Fr (· = g) w w'/\w'.heap.size=w.heap.size):=by
 unfold BG;intro a dst pos after g' next Q ha _ hn;rcases ho.open with ⟨h1,-⟩|⟨g0,b,zs,h1,h2,h3,h4,h5⟩
 . cases h1
 simp only [iF,gE,kL,and_true] at h1;obtain ⟨rfl,rfl,rfl⟩:=h1;rw [iR,kI] at hx;obtain ⟨w1,e1,e2,e3⟩:=ET (P:=P) [.int .i64 u] w g i 0 (AX xs++zs) h3 (by simp [AX];omega) (by rfl);have e:(execOp a.eval ⟨dst,.store t x y,ty,pos,after,g'⟩).run P w = .ok .skip w1:=by
  have hcs:(iV .i64 u).cells.toList=[.int .i64 u]:=rfl;have hsz:(iV .i64 u).cells.size=1:=rfl;simp only [execOp,ha.ev hx,ha.ev hy,Instr.storeAt,Instr.sureAddr,gO,hH,gF,storeVar,B0 (TT _ _ _ ht),hsz,hcs];simp only [ne_eq,not_true,if_false,e1]
 unfold km;rw [e];rw [kH,QN xs zs i u hi] at e3;have hl:(xs.set i u).length=xs.length:=kj;refine hn _ ⟨?_,e2.fr,e2.size⟩;have:=OwnI.mk (gI _) e3 (by rw [hl];omega);rw [hl,h4] at this;exact this
section
variable {ρ':Nat->Rl} {K:List (Int×Int)} {sb:Nat} {S:nP}
def StoreAt.setCell (h:StoreAt ρ κ w sb st) {ys:List Int} (x:Fr (λk=>ρ k = .cell c\/ρ k = .items c) w w') (O:Ro ρ ρ' w) (V:Fresh ρ' w') (hc:CellAt ρ' κ w' c ys):StoreAt ρ' κ w' sb (st.all c ys):=by
 obtain ⟨Y,-,⟨bv,bc,cv,tb,cs,Z,h3,h4,h5,h6⟩,h7⟩:=h;have X:=Z.lt;have M:∀ {r:Rl},r≠.cell c->r≠.items c -> ∀k,(ρ k = .cell c\/ρ k = .items c)->ρ k≠r:=λn1 n2 k G e=>by
  rcases G with h|h
  . exact n1 (by rw [<-e,h])
  . exact n2 (by rw [<-e,h])
 refine ⟨by rw [O _ X,Y],V,⟨bv,bc,cv,tb,cs,Z.fr x (λhS=>M (r:=.store) AQ AQ _ hS Y),h3.move x (λk G=>⟨M AQ AQ k G,M AQ AQ k G⟩) O (λ_ _=>rfl),h4.move x (M AQ AQ) O,nq x O _ _ _ h5 (λk G i _ _=>⟨M AQ AQ k G,M AQ AQ k G⟩) (λ_ _ _ _=>rfl),h6.move x (λk G=>⟨M AQ AQ k G,M AQ AQ k G,M AQ AQ k G⟩) O⟩,λd xs N=>?_⟩;by_cases U:d=c
 . subst U;unfold Stp.all at N;simp only [lZ] at N;cases hh:st.heap[d]? with
   | none=>rw [hh] at N;cases N
   | some q=>
    rw [hh] at N;simp only [mj,lr,Function.const,gE] at N;subst N;exact hc
 . unfold Stp.all at N;simp only at N;rw [iW (l3 U)] at N;exact (h7 d xs N).move x (λk G=>⟨M (by simp [U]) AQ k G,M AQ (by simp [U]) k G⟩) O rfl
def StoreAt.set2 (h:StoreAt ρ κ w sb st) {d:Nat} (ac:c≠d) {ys:List Int} (x:Fr (λk=>(ρ k = .cell c\/ρ k = .items c)\/ρ k = .cell d\/ρ k = .items d) w w') (O:Ro ρ ρ' w) (aa:Fresh ρ' w') (hc:CellAt ρ' κ w' c xs) (hd:CellAt ρ' κ w' d ys):StoreAt ρ' κ w' sb ((st.all c xs).all d ys):=by
 obtain ⟨U,-,⟨bv,bc,cv,tb,cs,V,h3,h4,h5,h6⟩,h7⟩:=h;have ab:=V.lt;have N:∀ {r:Rl},r≠.cell c->r≠.items c->r≠.cell d->r≠.items d -> ∀k,((ρ k = .cell c\/ρ k = .items c)\/ρ k = .cell d\/ρ k = .items d)->ρ k≠r:=λY Z n3 n4 k M e=>by
  rcases M with (h|h)|h|h
  . exact Y (by rw [<-e,h])
  . exact Z (by rw [<-e,h])
  . exact n3 (by rw [<-e,h])
  . exact n4 (by rw [<-e,h])
 have X:∀(e:Nat) (zs:List Int),((st.heap.set c xs).set d ys)[e]? = some zs->(e=d/\zs=ys)\/(e=c/\zs=xs)\/(e≠c/\e≠d/\st.heap[e]? = some zs):=λe zs G=>by
  rcases Decidable.em (e=d) with rfl|U
  . left;simp only [lZ] at G;cases hh:(st.heap.set c xs)[e]? with
    | none=>rw [hh] at G;cases G
    | some q=>
     rw [hh] at G;simp only [mj,lr,Function.const,gE] at G;exact ⟨rfl,G.symm⟩
  . rw [iW (l3 U)] at G;rcases Decidable.em (e=c) with rfl|V
    . right;left;simp only [lZ] at G;cases hh:st.heap[e]? with
      | none=>rw [hh] at G;cases G
      | some q=>
       rw [hh] at G;simp only [mj,lr,Function.const,gE] at G;exact ⟨rfl,G.symm⟩
    . rw [iW (l3 V)] at G;exact gB (gB ⟨V,U,G⟩)
 refine ⟨by rw [O _ ab,U],aa,⟨bv,bc,cv,tb,cs,V.fr x (λhS=>N (r:=.store) AQ AQ AQ AQ _ hS U),h3.move x (λk M=>⟨N AQ AQ AQ AQ k M,N AQ AQ AQ AQ k M⟩) O (λ_ _=>rfl),h4.move x (N AQ AQ AQ AQ) O,nq x O _ _ _ h5 (λk M i _ _=>⟨N AQ AQ AQ AQ k M,N AQ AQ AQ AQ k M⟩) (λ_ _ _ _=>rfl),h6.move x (λk M=>⟨N AQ AQ AQ AQ k M,N AQ AQ AQ AQ k M,N AQ AQ AQ AQ k M⟩) O⟩,λe zs hx=>?_⟩;rcases X e zs hx with ⟨rfl,rfl⟩|⟨rfl,rfl⟩|⟨Y,Z,G⟩
 . exact hd
 . exact hc
 . exact (h7 e zs G).move x (λk M=>⟨N (by simp [Y]) AQ (by simp [Z]) AQ k M,N AQ (by simp [Y]) AQ (by simp [Z]) k M⟩) O rfl
def StoreAt.putI (h:StoreAt ρ κ w sb st) {cap:Nat} {ys:List Int} (G:ρ (κ c) = .cell c) (M:ρ g = .items c) (O:Blk w (κ c) [.slice (some ⟨g,0,none⟩) n cap]) (x:Fr (· = g) w w') (U:OwnI w' 0 (.slice (some ⟨g,0,none⟩) n cap) ys):StoreAt ρ κ w' sb (st.all c ys):=
 h.setCell (x.weaken (λk N=>gB (by rw [show k=g from N];exact M))) (nC _ _) (h.fresh.mv x) ⟨G,_,O.fr x (λe=>by rw [show κ c=g from e,M] at G;cases G),U,λk N=>by obtain rfl:=gJ (show some g=some k from N);exact M⟩
def StoreAt.openT (h:StoreAt ρ κ w sb st):∃V X Z Y tb,Blk w sb [V,X,Z,Y,.pointer (some ⟨tb,0,none⟩)]/\TapeAt ρ w tb st.tin st.tout /\
 ∀(ρ':Nat->Rl) (w':wD) (ti to:List Int),Ro ρ ρ' w->Fr (BT ρ) w w'->TapeAt ρ' w' tb ti to -> ∃U,Ro ρ' U w'/\StoreAt U κ w' sb { st with tin:=ti,tout:=to }:=by
 obtain ⟨h1,hf,⟨V,X,Y,tb,cs,h2,h3,h4,h5,h6⟩,h7⟩:=h;have aa:=h2.lt;refine ⟨V,X,_,Y,tb,h2,h6,λρ' w' ti to hr x ht=>⟨λb=>if b<w'.heap.size then ρ' b else .none,λb O=>AT O,?_⟩⟩;have hs:=x.size;have G:Ro ρ (λb=>if b<w'.heap.size then ρ' b else .none) w:=λb O=>by
  simp only;rw [AT Ab];exact hr b O
 have N:∀ {r:Rl},r≠.tape->r≠.tin->r≠.tout -> ∀k,BT ρ k->ρ k≠r:=λn1 n2 n3 k M e=>by
  rcases M with h|h|h
  . exact n1 (by rw [<-e,h])
  . exact n2 (by rw [<-e,h])
  . exact n3 (by rw [<-e,h])
 exact ⟨(G _ aa).trans h1,λb O=>AC Ab,⟨V,X,Y,tb,cs,h2.fr x (λhS=>N (r:=.store) AQ AQ AQ _ hS h1),h3.move x (λk M=>⟨N AQ AQ AQ k M,N AQ AQ AQ k M⟩) G (λ_ _=>rfl),h4.move x (N AQ AQ AQ) G,nq x G _ _ _ h5 (λk M i _ _=>⟨N AQ AQ AQ k M,N AQ AQ AQ k M⟩) (λ_ _ _ _=>rfl),
  ht.ro (λb O=>AT O) (gP _)⟩,λc xs hx=>(h7 c xs hx).move x (λk M=>⟨N AQ AQ AQ k M,N AQ AQ AQ k M⟩) G rfl⟩
structure PlaceAt (ρ:Nat->Rl) (κ:Nat->Nat) (w:wD) (c g n cap:Nat) (xs:List Int):Prop where
 hrc:ρ (κ c) = .cell c
 hrg:ρ g = .items c
 hb:Blk w (κ c) [.slice (some ⟨g,0,none⟩) n cap]
 ho:OwnI w 0 (.slice (some ⟨g,0,none⟩) n cap) xs
def PlaceAt.ext {c g n cap:Nat} {xs:List Int} (h:PlaceAt ρ κ w c g n cap xs) (x:Ext w w'):PlaceAt ρ κ w' c g n cap xs:=⟨h.hrc,h.hrg,h.hb.ext x,h.ho.ext x⟩
instance {cap:Nat}:LfE w w' (PlaceAt ρ κ w c g n cap xs) (PlaceAt ρ κ w' c g n cap xs):=⟨λx h=>Bk.PlaceAt.ext h x⟩
def PlaceAt.fr {c g n cap:Nat} {xs:List Int} (h:PlaceAt ρ κ w c g n cap xs) (x:Fr S w w') (G:∀k,S k->ρ k≠.cell c/\ρ k≠.items c):PlaceAt ρ κ w' c g n cap xs:=
 ⟨h.hrc,h.hrg,h.hb.fr x (λe=>(G _ e).1 h.hrc),h.ho.fr x (λk M N=>by obtain rfl:=gJ (show some g=some k from M);exact (G _ N).2 h.hrg)⟩
instance {cap:Nat}:LfF S w w' (PlaceAt ρ κ w c g n cap xs) (∀k,S k->ρ k≠.cell c/\ρ k≠.items c) (PlaceAt ρ κ w' c g n cap xs):=⟨λx s h=>Bk.PlaceAt.fr h x s⟩
def PlaceAt.row {cap:Nat} (h:PlaceAt ρ κ w c g n cap xs) (M:i<xs.length):Row w ⟨g,0+i*1,none⟩ [.int .i64 (xs.getD i 0)]:=by
 rcases h.ho.at with G|⟨b,o,G,-,N⟩
 . have:xs=[]:=List.map_eq_nil_iff.1 G;subst this;simp at M
 . simp only [gE,kL,and_true] at G;obtain ⟨rfl,rfl⟩:=G;exact nF N M
def PlaceAt.lt {c g n cap:Nat} {xs:List Int} (h:PlaceAt ρ κ w c g n cap xs):g<w.heap.size:=(h.ho.lt (k:=g) rfl).2
def aS (hw:st.WF K m) {d cap:Nat} (hd:d<st.heap.length) (af:c≠d) (bl:(st.items d).length<=1000) (hi:i<(st.items c).length) (k:Int) (G:k=44\/k=45) (w:wD) (h:StoreAt ρ κ w sb st) (O:PlaceAt ρ κ w c g n cap (st.items c)) :
 Calls prog 227 #[.int .u8 k,.pointer (some ⟨g,0+i*1,none⟩),.pointer (some ⟨κ d,0,none⟩)] w (StR ρ sb (st.move k c i d).2 (st.move k c i d).1 w):=by
 have X:=Ne w;have ba:=O.row hi;obtain ⟨Y,vd,N,ac,U⟩:=h.cells _ _ (Ev hd);obtain ⟨ad,cd,rfl⟩:=ac.shape;have az:=O.lt;rcases G with rfl|rfl
 . by_cases hf:1000<=(st.items d).length
   . have e:st.move 44 c i d=(5,st):=by unfold Stp.move;rw [AT rfl,AT hf]
     rw [e];generalize (st.items d).length=dn at *;generalize κ d=db at *;clear O;refine Ad func227 ntmps227 rfl rfl ?_;refine kR ?_;exact mU Af X
   . have e:st.move 44 c i d=(0,(st.all d (st.items d++[(st.items c).getD i 0])).put c i 0):=by unfold Stp.move;rw [AT rfl,AC hf]
     rw [e];have M:Own w 0 3 1 (.slice ad (st.items d).length cd) (st.items d).length (AX (st.items d)):=ac;have F:=mx (λk=>ρ k = .cell d\/ρ k = .items d) w;have q1:∀k,(iA ad (st.items d).length cd).ownBlock=some k -> ¬k=κ d:=λk G e=>by have:=U k G;rw [e,Y] at this;cases this
     have q2:∀k,(iA ad (st.items d).length cd).ownBlock=some k -> ¬k=g:=λk G e=>by have:=U k G;rw [e,O.hrg] at this;simp at this;exact af this
     have q3:∀k,(iA ad (st.items d).length cd).ownBlock=some k->ρ k≠.cell c/\ρ k≠.items c:=λk G=>by rw [U k G];exact ⟨AQ,by simp;omega⟩
     have q4:∀k,k=κ d->ρ k≠.cell c/\ρ k≠.items c:=λk G=>by rw [G,Y];exact ⟨by simp;omega,AQ⟩
     have q5:∀k,(iA ad (st.items d).length cd).ownBlock=some k->k<w.heap.size:=λk G=>(M.blk G).2
     have a0:=N.lt;have HS:=fZ h;clear h ac;refine Ad func227 ntmps227 rfl rfl ?_;refine eK ?_;refine Ap (λwz=>Fr ((λk=>(iA ad (st.items d).length cd).ownBlock=some k)) w wz) 10 (.pure 0 (.pure 1 (.pure 2 (.pure 3 (.pure 4 (.pure 5 (.pure 6 (.pure 7 (.fork 8 (.fork 9 .tail .none) .none))))))))) mixed AR (Aa (Ae (Aa Ag))) ?_;intro bb a1 _;have V:(λwz=>Fr ((λk=>(iA ad (st.items d).length cd).ownBlock=some k)) w wz) bb:=mt a1;simp only at V;have ar:=ba;have au:=N;revert O N M F;refine eY a1 ?_;intro bm O N M F;refine ⟨V,?_⟩;refine eT ?_;refine Tq rfl (Ar Ac rfl rfl rfl (λwz hz=>mC (mu au hz (λh=>q1 _ h rfl)) rfl)) (Tq rfl Mv (Tq rfl Pn (Tq rfl (Ar Ac rfl rfl rfl (λwz hz=>mE (mN ar hz (λh=>q2 _ h rfl)) rfl)) ?_)));refine Ax rfl (xS [_]) rfl ?_ aFh Au;rintro _ ag ⟨bn,rfl,al,bo⟩;have bg:=al.blk;have a2:=al.ext;have bh:=al.pos;have bi:=al.size;revert V O N M F;refine eE a2 ?_;intro V O N M F;refine ⟨V,?_⟩;refine Ax rfl (Fd Ac Ca rfl rfl rfl rfl AR rfl rfl rfl Af (mJ Af) rfl rfl Ab Ab (gI _)) rfl ?_ aFh Au;rintro _ Z ⟨ah,am,rfl,ap,aa,aq,a3⟩;have bj:=aa.size;have V:=mB V aa (λk G=>gA G);have O:=PlaceAt.fr O aa (q3);have N:=mu N aa (λh=>q1 _ h rfl);clear M;have F:=mB F aa (λk G=>gA (gB (U k G)));refine ⟨V,?_⟩;refine Aq rfl ?_;refine eK ?_;refine eS [_] N ?_;intro ai a4 aj bk;clear N;have ap:=mO ap aj (λk G hS=>by (obtain rfl:=gJ (show some ah=some k from G);rcases aq with h|h;exact q1 _ h hS;omega));have O:=PlaceAt.fr O aj (q4);have F:=mB F aj (λk G=>gA (gA (by rw [show k=κ d from G];exact Y)));refine eK ?_
     have ab:Ro ρ (UQ ρ ag Z (.items d)) w:=λb hb=>WC ρ ag Z _ b Ab
     have a5:=HS.out.fresh;have h1:=HS.out.setCell (ρ':=UQ ρ ag Z (.items d)) (ys:=st.items d++[(st.items c).getD i 0]) F ab (λb hb=>NK (w:=ag) (w':=Z) (λb hb=>a5 b Ab) Ab b Ab) ⟨by rw [ab _ a0];exact Y,_,a4,(by
      have h9:Own ai 0 3 1 (.slice (some ⟨ah,0,none⟩) ((st.items d).length+1) am) ((st.items d).length+1) (AX (st.items d)++[.int .i64 ((st.items c).getD i 0)]):=by assumption
      unfold OwnI;rw [G6,gR];exact h9),λk G=>by
      obtain rfl:=gJ (show some ah=some k from G);rcases aq with h|h
      . rw [ab _ (q5 _ h)];exact U _ h
      . exact Tf ρ _ h a3⟩
     have bc:κ c<w.heap.size:=by
      rcases gQ (κ c) w.heap.size with h|h
      . exact h
      . have:=O.hrc;rw [a5 _ h] at this;cases this
     have an:PlaceAt (UQ ρ ag Z (.items d)) κ ai c g n cap (st.items c):=⟨by rw [ab _ bc];exact O.hrc,by rw [ab _ az];exact O.hrg,O.hb,O.ho⟩;have F2:=mx (· = g) ai;have ho:=O.ho;have HF:=fZ F;have Hp:=fZ an;have H1:=fZ h1;clear F O an h1;refine A9 (Cf Ac rfl rfl rfl Af hi) (BK ?_);rintro _ bp ⟨bd,a6,bq⟩;have F2:=F2.fr a6 Ab;clear ho a6;refine kR ?_;have a7:=Hp.out.hrg;rw [ab _ az] at a7;have h2:=H1.out.putI Hp.out.hrc Hp.out.hrg Hp.out.hb F2 bd;exact ⟨_,κ,rfl,ab,(by unfold Stp.put;rw [Gn,AC (λh=>af h.1)];exact h2),(HF.out.weaken (T:=λk=>Mg (ρ k)) (λk G=>by rcases G with h|h<;>rw [h]<;>trivial)).fr F2 (λk G=>gA (by rw [show k=g from G,a7];trivial))⟩
 . rcases jU (st.items d) with hy|⟨ys,v,hy⟩
   . have e:st.move 45 c i d=(13,st):=by unfold Stp.move;rw [AC C2,hy];rfl
     rw [e];have hn:(st.items d).length=0:=by rw [hy];rfl
     generalize (st.items d).length=dn at *;generalize κ d=db at *;clear O;refine Ad func227 ntmps227 rfl rfl ?_;refine kR ?_;exact mU Af X
   rw [kD] at hy;have hn:(st.items d).length=ys.length+1:=by rw [hy];simp
   have ak:(st.items d).getLast? = some v:=by rw [hy];simp
   have av:(st.items d).dropLast=ys:=by rw [hy];simp
   by_cases h0:(st.items c).getD i 0≠0
   . have e:st.move 45 c i d=(14,st):=by unfold Stp.move;rw [AC C2,ak];simp only;rw [AT h0]
     rw [e];generalize (st.items d).length=dn at *;generalize (st.items c).getD i 0=v0 at *;generalize κ d=db at *;clear O;refine Ad func227 ntmps227 rfl rfl ?_;refine kR ?_;exact mU Af X
   . have e:st.move 45 c i d=(0,(st.put c i v).all d ys):=by unfold Stp.move;rw [AC C2,ak];simp only;rw [AC h0,av]
     rw [e];have M:Own w 0 3 1 (.slice ad (st.items d).length cd) (st.items d).length (AX (st.items d)):=ac;have br:=M.le;obtain ⟨gd,go,rfl,a8⟩:=ac.at.get (by intro e;rw [e] at hn;simp at hn);have r2:=nF a8 (i:=(((st.items d).length:Int)-1).toNat) Ab;rw [show (st.items d).getD (((st.items d).length:Int)-1).toNat 0=v by rw [hn,show (((ys.length+1:Nat):Int)-1).toNat=ys.length by omega,hy];simp] at r2;have an:((st.items d).length:Int)-1=(ys.length:Int):=by omega
     have be:ys.length<=cd:=by omega
     rw [hn,hy,G6] at M;have M:=M.cut (m:=ys.length) (by simp [AX]) Ab;have q1:∀k,(iA (some ⟨gd,go,none⟩) ys.length cd).ownBlock=some k -> ¬k=κ d:=λk G e=>by have:=U k G;rw [e,Y] at this;cases this
     have q2:∀k,(iA (some ⟨gd,go,none⟩) ys.length cd).ownBlock=some k -> ¬k=g:=λk G e=>by have:=U k G;rw [e,O.hrg] at this;simp at this;exact af this
     have q3:¬ κ d=g:=λe=>by rw [e,O.hrg] at Y;cases Y
     have ho:=O.ho;have Hp:=fZ O;have HS:=fZ h;have F:=mx (λk=>k=g\/k=κ d) w;clear h ac O a8;refine Ad func227 ntmps227 rfl rfl ?_;refine eK ?_;refine C1 (AL rfl rfl (gG _ Ab)) ?_;refine eK ?_;refine A9 (Cf Ac rfl rfl rfl Af hi) (BK ?_);rintro _ bs ⟨aw,ax,bt⟩;have N:=mu N ax (q3);have M:=mO M ax (q2);clear ho;have F:=F.fr ax Ab;refine eK ?_;refine C1 (AL rfl rfl (gG _ Ab)) (C1 (Dn Ac rfl rfl rfl rfl an be) ?_);refine eK ?_;refine eS [_] N ?_;intro bu a9 ay _;clear N;have aw:=nn aw ay (λk G=>by simp only [Go.Value.ownBlock,gE] at G;omega);have M:=mO M ay (q1);have F:=mB F ay (λk G=>gA (gB G));refine kR ?_;have ao:=Hp.out.hrg;have ae:=Hp.out.hrc;have bf:=Hp.out.hb.fr F (λe=>by
      rcases e with e|e
      . rw [e,ao] at ae;cases ae
      . rw [e,Y] at ae;simp at ae;exact af ae.symm)
     exact ⟨ρ,κ,rfl,nC _ _,HS.out.set2 af (F.weaken (λk G=>by rcases G with rfl|rfl;exact gA (gB ao);exact gB (gA Y))) (nC _ _) (HS.out.fresh.mv F) ⟨ae,_,bf,aw,λk G=>by obtain rfl:=gJ (show some g=some k from G);exact ao⟩ ⟨Y,_,a9,M,U⟩,F.weaken (λk G=>by rcases G with rfl|rfl;rw [ao];trivial;rw [Y];trivial)⟩
def JF {cap:Nat} {v:Int} {ρ1:Nat->Rl} {w1 O:wD} {ti to:List Int} (M:PlaceAt ρ κ w c g n cap (st.items c)) (hr:Ro ρ ρ1 w) (h1:∃G,Ro ρ1 G w1/\StoreAt G κ w1 sb { st with tin:=ti,tout:=to }) (U:Fr (BT ρ) w w1) (x2:Fr (· = g) w1 O) (ho:OwnI O 0 (.slice (some ⟨g,0,none⟩) n cap) ((st.items c).set i v)) :
 StR ρ sb { st.put c i v with tin:=ti,tout:=to } 0 w (.returned (.int .i64 0)) O:=by
 obtain ⟨G,V,h2⟩:=h1;have hs:=U.size;have N:=hr.trans V hs;have X:=M.lt;have Y:=M.hb.lt;have Z:=M.hb.fr U (λh=>by rcases h with h|h|h<;>rw [M.hrc] at h<;>cases h);have h3:=h2.putI (c:=c) (g:=g) (n:=n) (cap:=cap) (by rw [N _ Y];exact M.hrc) (by rw [N _ X];exact M.hrg) Z x2 ho;refine ⟨G,κ,rfl,N,h3,(U.weaken (T:=λk=>Mg (ρ k)) (λk hk=>by rcases hk with h|h|h<;>rw [h]<;>trivial)).fr x2 (λk hk=>gA (by rw [show k=g from hk,M.hrg];trivial))⟩
def Gp {r:Int} {N:Nat->Rl} {w1:wD} (U:Ro ρ N w) (V:∃G,Ro N G w1/\StoreAt G κ w1 sb st) (O:Fr (BT ρ) w w1):StR ρ sb st r w (.returned (.int .i64 r)) w1:=by
 obtain ⟨G,M,X⟩:=V;exact ⟨G,κ,rfl,U.trans M O.size,X,O.weaken (λk Y=>by rcases Y with h|h|h<;>rw [h]<;>trivial)⟩
def WG {cap:Nat} (hi:i<(st.items c).length) (w:wD) (h:StoreAt ρ κ w sb st) (hp:PlaceAt ρ κ w c g n cap (st.items c)) :
 Calls prog 228 #[.pointer (some ⟨sb,0,none⟩),.int .u8 46,.pointer (some ⟨g,0+i*1,none⟩)] w (StR ρ sb (st.transfer 46 c i).2 (st.transfer 46 c i).1 w):=by
 obtain ⟨bv,bc,aj,cv,tb,hb,ht,aa⟩:=h.openT;have U:=hp.row hi;have V:=ht.li;have ab:=h.role;have O:=fZ aa;have Hp:=fZ hp;have F:=mx (BT ρ) w;have q1:¬BT ρ g:=λh=>by rcases h with h|h|h<;>rw [hp.hrg] at h<;>cases h
 have q2:¬BT ρ sb:=λh=>by rcases h with h|h|h<;>rw [ab] at h<;>cases h
 have ho:=hp.ho;have q3:∀k,(iA (some ⟨g,0,none⟩) n cap).ownBlock=some k -> ¬BT ρ k:=λk N=>by obtain rfl:=gJ (show some g=some k from N);exact q1
 cases hti:st.tin with
 | nil=>
  have e:st.transfer 46 c i=(17,st):=by unfold mR;rw [AT rfl,hti]
  rw [e];rw [hti] at ht;have hR:=fZ (λw1 h=>Wx ρ tb st.tout w1 h);refine Ad func228 ntmps228 rfl rfl (eK ?_);refine C1 (A2 Ac rfl rfl) (kQ (hR.out _ Af) ?_);rintro _ w5 ⟨ak,⟨⟩,h2,h3,f4⟩;have F:=mB F f4 (λk N=>gA N);refine kR ?_;exact Gp h2 (by
   have h9:=O.out _ _ _ _ h2 F h3;rwa [show ({ st with tin:=[],tout:=st.tout }:Stp)=st by rw [<-hti]] at h9) F
 | cons v r=>
  rw [hti] at ht V;simp only [gH] at V;have e:st.transfer 46 c i=if (st.items c).getD i 0≠0 then (14,st) else (0,{ st.put c i v with tin:=r }):=by unfold mR;rw [AT rfl,hti]
  rw [e];have hR:=fZ (λw1 h=>Y3 ρ tb v r st.tout w1 h);have hU:=fZ (λρ1 w1 h=>NG ρ1 tb v r st.tout w1 h Ab);generalize al:(st.items c).getD i 0=v0 at *;refine Ad func228 ntmps228 rfl rfl ?_
  focus
   refine eK ?_;refine C1 (A2 Ac rfl rfl) (kQ (hR.out _ Af) ?_);rintro _ ac ⟨ag,⟨⟩,G,ad,M⟩;have am:=M.size;have hb:=mu hb M (q2);have F:=mB F M (λk N=>gA N);have ho:=nn ho M (q3);have U:=mN U M (q1);refine eK ?_;refine BP rfl (λae=>?_) (λae=>?_);refine kQ (hU.out _ _ Af) ?_;rintro _ ah ⟨ai,⟨⟩,X,Y,Z⟩;have F:=mB F Z (λk N=>by (rcases gQ k w.heap.size with h|h;left;unfold BT at N ⊢;rw [G k h] at N;exact N;exact gB h));refine eK ?_;rotate_left;refine eK ?_;rotate_left
  . have h9:=O.out _ _ _ _ (G.trans X Ab) F Y;rw [show ({ st with tin:=v::r,tout:=st.tout }:Stp)=st by rw [<-hti]] at h9;have H9:=fZ h9;rw [AT Af];refine kR ?_;exact Gp (G.trans X Ab) H9.out F
  . have H9:=fZ (O.out _ _ _ _ G F ad);have F2:=mx (· = g) ac;have F1:=fZ F;rw [AC (λh=>h Af)];refine eK ?_;refine A9 (Cf Ac rfl rfl rfl Af hi) (BK ?_);rintro _ an ⟨ao,af,ap⟩;have F2:=F2.fr af Ab;refine kR ?_;exact JF Hp.out G H9.out F1.out F2 Af
def WH {cap:Nat} (hi:i<(st.items c).length) (w:wD) (h:StoreAt ρ κ w sb st) (hp:PlaceAt ρ κ w c g n cap (st.items c)) :
 Calls prog 228 #[.pointer (some ⟨sb,0,none⟩),.int .u8 49,.pointer (some ⟨g,0+i*1,none⟩)] w (StR ρ sb (st.transfer 49 c i).2 (st.transfer 49 c i).1 w):=by
 obtain ⟨bv,bc,ak,cv,tb,hb,ht,ab⟩:=h.openT;have V:=hp.row hi;have X:=ht.lo;have ac:=h.role;have U:=fZ ab;have Hp:=fZ hp;have F:=mx (BT ρ) w;have q1:¬BT ρ g:=λh=>by rcases h with h|h|h<;>rw [hp.hrg] at h<;>cases h
 have q2:¬BT ρ sb:=λh=>by rcases h with h|h|h<;>rw [ac] at h<;>cases h
 have ho:=hp.ho;have q3:∀k,(iA (some ⟨g,0,none⟩) n cap).ownBlock=some k -> ¬BT ρ k:=λk O=>by obtain rfl:=gJ (show some g=some k from O);exact q1
 rcases jU st.tout with G|⟨r,v,G⟩
 . have e:st.transfer 49 c i=(17,st):=by unfold mR;rw [AC C2,AC C2,AC C2,G];rfl
   rw [e];rw [G] at ht;have hR:=fZ (λw1 h=>QC ρ tb st.tin w1 h);refine Ad func228 ntmps228 rfl rfl (eK ?_);refine C1 (A2 Ac rfl rfl) (kQ (hR.out _ Af) ?_);rintro _ w5 ⟨al,⟨⟩,h2,h3,f4⟩;have F:=mB F f4 (λk O=>gA O);refine kR ?_;exact Gp h2 (by
    have h9:=U.out _ _ _ _ h2 F h3;rwa [show ({ st with tin:=st.tin,tout:=[] }:Stp)=st by rw [<-G]] at h9) F
 . rw [kD] at G;rw [G] at ht X;simp only [gR,kB] at X;have e:st.transfer 49 c i=if (st.items c).getD i 0≠0 then (14,st) else (0,{ st.put c i v with tout:=r }):=by unfold mR;rw [AC C2,AC C2,AC C2,show st.tout.getLast? = some v by rw [G];simp,show st.tout.dropLast=r by rw [G];simp]
   rw [e];have hR:=fZ (λw1 h=>R3 ρ tb v st.tin r w1 h);have hU:=fZ (λρ1 w1 h=>QD ρ1 tb v st.tin r w1 h Ab);generalize am:(st.items c).getD i 0=v0 at *;refine Ad func228 ntmps228 rfl rfl ?_
   focus
    refine eK ?_;refine C1 (A2 Ac rfl rfl) (kQ (hR.out _ Af) ?_);rintro _ ad ⟨ah,⟨⟩,M,ae,N⟩;have an:=N.size;have hb:=mu hb N (q2);have F:=mB F N (λk O=>gA O);have ho:=nn ho N (q3);have V:=mN V N (q1);refine eK ?_;refine BP rfl (λaf=>?_) (λaf=>?_);refine kQ (hU.out _ _ Af) ?_;rintro _ ai ⟨aj,⟨⟩,Y,Z,aa⟩;have F:=mB F aa (λk O=>by (rcases gQ k w.heap.size with h|h;left;unfold BT at O ⊢;rw [M k h] at O;exact O;exact gB h));refine eK ?_;rotate_left;refine eK ?_;rotate_left
   . have h9:=U.out _ _ _ _ (M.trans Y Ab) F Z;rw [show ({ st with tin:=st.tin,tout:=r++[v] }:Stp)=st by rw [<-G]] at h9;have H9:=fZ h9;rw [AT Af];refine kR ?_;exact Gp (M.trans Y Ab) H9.out F
   . have H9:=fZ (U.out _ _ _ _ M F ae);have F2:=mx (· = g) ad;have F1:=fZ F;rw [AC (λh=>h Af)];refine eK ?_;refine A9 (Cf Ac rfl rfl rfl Af hi) (BK ?_);rintro _ ao ⟨ap,ag,aq⟩;have F2:=F2.fr ag Ab;refine kR ?_;exact JF Hp.out M H9.out F1.out F2 Af
def WI {cap:Nat} (hi:i<(st.items c).length) (w:wD) (h:StoreAt ρ κ w sb st) (V:PlaceAt ρ κ w c g n cap (st.items c)) :
 Calls prog 228 #[.pointer (some ⟨sb,0,none⟩),.int .u8 47,.pointer (some ⟨g,0+i*1,none⟩)] w (StR ρ sb (st.transfer 47 c i).2 (st.transfer 47 c i).1 w):=by
 obtain ⟨bv,bc,al,cv,tb,hb,O,X⟩:=h.openT;have U:=V.row hi;have am:=O.li;have ag:=h.role;have Y:=fZ X;have Hp:=fZ V;have F:=mx (BT ρ) w;have q1:¬BT ρ g:=λh=>by rcases h with h|h|h<;>rw [V.hrg] at h<;>cases h
 have q2:¬BT ρ sb:=λh=>by rcases h with h|h|h<;>rw [ag] at h<;>cases h
 have Z:=V.ho;have q3:∀k,(iA (some ⟨g,0,none⟩) n cap).ownBlock=some k -> ¬BT ρ k:=λk hk=>by obtain rfl:=gJ (show some g=some k from hk);exact q1
 clear X V h;by_cases hf:4096<=st.tin.length
 . have e:st.transfer 47 c i=(5,st):=by unfold mR;rw [AC C2,AT rfl,AT hf]
   rw [e];have hR:=fZ (λw1 h=>R2 ρ tb ((st.items c).getD i 0) st.tin st.tout w1 h Ab);generalize (st.items c).getD i 0=v0 at *;refine Ad func228 ntmps228 rfl rfl ?_;refine eK ?_;refine C1 (A2 Ac rfl rfl) ?_;refine eK ?_;refine Ap (λM=>Ext w M) 7 (.pure 0 (.pure 1 (.pure 2 (.pure 3 (.pure 4 (.pure 5 (.pure 6 .tail))))))) mixed AR (Ae (Aa Ag)) ?_;intro w1 x2 _;have aa:(λM=>Ext w M) w1:=x2;simp only at aa;have ab:=hb;have G:=U;revert O F;refine eY x2 ?_;intro z4 O F;refine ⟨aa,?_⟩;refine eT ?_;refine Tq rfl (Ar Ac rfl rfl rfl (λM hz=>mE (mw G hz) rfl)) ?_;refine Aq rfl (eQ rfl (hR.out _ Af) ?_);rintro _ w9 ⟨an,⟨⟩,h6,h7,f8⟩;clear O;have F:=mB F f8 (λk hk=>gA hk);refine kR ?_;exact Gp (nt h6 Ab) (Y.out _ _ _ _ (nt h6 Ab) F h7) F
 . have e:st.transfer 47 c i=(0,{ st.put c i 0 with tin:=(st.items c).getD i 0::st.tin }):=by unfold mR;rw [AC C2,AT rfl,AC hf]
   rw [e];have hR:=fZ (λw1 h=>NG ρ tb ((st.items c).getD i 0) st.tin st.tout w1 h Ab);generalize (st.items c).getD i 0=v0 at *;refine Ad func228 ntmps228 rfl rfl ?_;refine eK ?_;refine C1 (A2 Ac rfl rfl) ?_;refine eK ?_;refine Ap (λM=>Ext w M) 7 (.pure 0 (.pure 1 (.pure 2 (.pure 3 (.pure 4 (.pure 5 (.pure 6 .tail))))))) mixed AR (Ae (Aa Ag)) ?_;intro ah ac _;have N:(λM=>Ext w M) ah:=ac;simp only at N;have ab:=hb;have G:=U;revert O F Z;refine eY ac ?_;intro ao O F Z;refine ⟨N,?_⟩;refine eT ?_;refine Tq rfl (Ar Ac rfl rfl rfl (λM hz=>mE (mw G hz) rfl)) ?_;refine Aq rfl (eQ rfl (hR.out _ Af) ?_);rintro _ ai ⟨ak,⟨⟩,ad,ae,af⟩;clear O;have F:=mB F af (λk hk=>gA hk);have Z:=nn Z af (q3);refine eK ?_;have H9:=fZ (Y.out _ _ _ _ (nt ad Ab) F ae);have F2:=mx (· = g) ai;have F1:=fZ F;clear F;refine eK ?_;refine A9 (Cf Ac rfl rfl rfl Af hi) (BK ?_);rintro _ ap ⟨aq,aj,ar⟩;clear ae hb Z U;have F2:=F2.fr aj Ab;refine kR ?_;exact JF Hp.out (nt ad Ab) H9.out F1.out F2 Af
def WJ {cap:Nat} (hi:i<(st.items c).length) (w:wD) (h:StoreAt ρ κ w sb st) (V:PlaceAt ρ κ w c g n cap (st.items c)) :
 Calls prog 228 #[.pointer (some ⟨sb,0,none⟩),.int .u8 48,.pointer (some ⟨g,0+i*1,none⟩)] w (StR ρ sb (st.transfer 48 c i).2 (st.transfer 48 c i).1 w):=by
 obtain ⟨bv,bc,al,cv,tb,hb,O,X⟩:=h.openT;have U:=V.row hi;have am:=O.lo;have ag:=h.role;have Y:=fZ X;have Hp:=fZ V;have F:=mx (BT ρ) w;have q1:¬BT ρ g:=λh=>by rcases h with h|h|h<;>rw [V.hrg] at h<;>cases h
 have q2:¬BT ρ sb:=λh=>by rcases h with h|h|h<;>rw [ag] at h<;>cases h
 have Z:=V.ho;have q3:∀k,(iA (some ⟨g,0,none⟩) n cap).ownBlock=some k -> ¬BT ρ k:=λk hk=>by obtain rfl:=gJ (show some g=some k from hk);exact q1
 clear X V h;by_cases hf:4096<=st.tout.length
 . have e:st.transfer 48 c i=(5,st):=by unfold mR;rw [AC C2,AC C2,AT rfl,AT hf]
   rw [e];have hR:=fZ (λw1 h=>UK ρ tb ((st.items c).getD i 0) st.tin st.tout w1 h Ab);generalize (st.items c).getD i 0=v0 at *;refine Ad func228 ntmps228 rfl rfl ?_;refine eK ?_;refine C1 (A2 Ac rfl rfl) ?_;refine eK ?_;refine Ap (λM=>Ext w M) 7 (.pure 0 (.pure 1 (.pure 2 (.pure 3 (.pure 4 (.pure 5 (.pure 6 .tail))))))) mixed AR (Ae (Aa Ag)) ?_;intro w1 x2 _;have aa:(λM=>Ext w M) w1:=x2;simp only at aa;have ab:=hb;have G:=U;revert O F;refine eY x2 ?_;intro z4 O F;refine ⟨aa,?_⟩;refine eT ?_;refine Tq rfl (Ar Ac rfl rfl rfl (λM hz=>mE (mw G hz) rfl)) ?_;refine Aq rfl (eQ rfl (hR.out _ Af) ?_);rintro _ w9 ⟨an,⟨⟩,h6,h7,f8⟩;clear O;have F:=mB F f8 (λk hk=>gA hk);refine kR ?_;exact Gp (nt h6 Ab) (Y.out _ _ _ _ (nt h6 Ab) F h7) F
 . have e:st.transfer 48 c i=(0,{ st.put c i 0 with tout:=st.tout++[(st.items c).getD i 0] }):=by unfold mR;rw [AC C2,AC C2,AT rfl,AC hf]
   rw [e];have hR:=fZ (λw1 h=>QD ρ tb ((st.items c).getD i 0) st.tin st.tout w1 h Ab);generalize (st.items c).getD i 0=v0 at *;refine Ad func228 ntmps228 rfl rfl ?_;refine eK ?_;refine C1 (A2 Ac rfl rfl) ?_;refine eK ?_;refine Ap (λM=>Ext w M) 7 (.pure 0 (.pure 1 (.pure 2 (.pure 3 (.pure 4 (.pure 5 (.pure 6 .tail))))))) mixed AR (Ae (Aa Ag)) ?_;intro ah ac _;have N:(λM=>Ext w M) ah:=ac;simp only at N;have ab:=hb;have G:=U;revert O F Z;refine eY ac ?_;intro ao O F Z;refine ⟨N,?_⟩;refine eT ?_;refine Tq rfl (Ar Ac rfl rfl rfl (λM hz=>mE (mw G hz) rfl)) ?_;refine Aq rfl (eQ rfl (hR.out _ Af) ?_);rintro _ ai ⟨ak,⟨⟩,ad,ae,af⟩;clear O;have F:=mB F af (λk hk=>gA hk);have Z:=nn Z af (q3);refine eK ?_;have H9:=fZ (Y.out _ _ _ _ (nt ad Ab) F ae);have F2:=mx (· = g) ai;have F1:=fZ F;clear F;refine eK ?_;refine A9 (Cf Ac rfl rfl rfl Af hi) (BK ?_);rintro _ ap ⟨aq,aj,ar⟩;clear ae hb Z U;have F2:=F2.fr aj Ab;refine kR ?_;exact JF Hp.out (nt ad Ab) H9.out F1.out F2 Af
end
def QO (ps:List PD) (d:Nat) (b:Bool) {n:Int} (hk:k<50\/55<k) (r:Rn):AI ps (d+1) b (.mk k n s l) r=(Bn r).bind (C4 (·.run1 (if b then Cm k else k) n s l)):=by
 conv=>lhs;unfold AI
 rw [AC Ab,AC Ab,AC Ab,AC Ab,AC Ab]
def Mr (ps:List PD) (d:Nat) (b:Bool) {n:Int} (hk:k=50\/k=51) (r:Rn):AI ps (d+1) b (.mk k n s l) r =
 (Bn r).bind λr=>(C4 (·.enters (ps.getD ((CD ps s).getD 0) ⟨[],[],.mk 0 0 [] []⟩).params (l.map mQ)) r).bind λr=>
  (A0 (AI ps d) (b != decide (k=51)) (ps.getD ((CD ps s).getD 0) ⟨[],[],.mk 0 0 [] []⟩).body r).bind λr=>(Bn r).bind (C4 (·.leaves)):=by
 conv=>lhs;unfold AI
 rw [AC Ab,AC Ab,AC Ab,AC Ab,AT hk]
def R7 {t:Nd} (h:t.isPlace=true):t.isExpr=true:=by
 simp only [mP,gD] at h;exact h.2
section
variable {at_:lB->Option (List Int)} {f:FuncId} {fi:lV} {I:wD->Prop}
def OT (Y:BU prog f=true) (Z:Kz at_ f fi I) (t:Nd) (hw:t.wf) (U:t.isExpr=true) (S:nP) (a:oA) (c:Nat) (w:wD) (h:t.sits S w a) (G:Keep I w) :
 Calls prog 221 #[t.val a c,.func (.func f) fi.toArray #[]] w (cH (A8 at_ t) w):=by
 have N:=Fm (· < w.heap.size) t hw;unfold DX at N;rw [U] at N;have HE:=fZ N;have M:=PK Y Z (t.size+1) t Ab U;unfold aF at M;have M:=fZ M;have h:=B6 _ _ h;have X:=Ne w;generalize A8 at_ t=r at *;refine Ad func221 ntmps221 rfl rfl (cS (eB [_,_,_,_] ?_));intro b1 w2 V x5 _ _;revert G h X;refine eE x5 ?_;intro G h X;refine eK ?_;refine C1 (Jc Ac rfl rfl) (kC (HE.out _ _ _ Af) ?_);rintro _ w9 ⟨⟨⟩,x8⟩;revert V G h X;refine eE x8 ?_;intro V G h X;refine kC (M.out _ _ _ _ Af Af) ?_;rintro _ aa ⟨⟨⟩,O⟩;have X:=X.ext O;refine kT ?_;exact ⟨rfl,X⟩
def Ze (M:BU prog f=true) (N:Kz at_ f fi I) (t:Nd) (O:t.wf) (U:t.isExpr=true) (S:nP) (a:oA) (c:Nat) (w:wD) (h:t.sits S w a) (G:Keep I w) :
 Calls prog 219 #[t.val a c,.func (.func f) fi.toArray #[]] w λe w'=>e = .returned (.tuple #[.bool (decide ((A8 at_ t).1≠0)),.int .i64 (A8 at_ t).2])/\Ext w w':=by
 have V:=fZ (OT M N t O U);have h:=B6 _ _ h;have X:=Ne w;generalize A8 at_ t=r at *;refine Ad func219 ntmps219 rfl rfl (cS (eB [_,_,_,_] ?_));intro b1 w2 h4 Y _ _;revert G h X;refine eE Y ?_;intro G h X;refine kC (V.out _ _ _ _ Af Af) ?_;rintro _ w9 ⟨⟨⟩,Z⟩;have X:=X.ext Z;refine kT ?_;exact ⟨rfl,X⟩
def JG (hf:BU prog f=true) (HL:Kz at_ f fi I) (t:Nd) (hw:t.wf) (U:t.isPlace=true) (S:Nat->Prop) (a:Option Addr) (c:Nat) (w:World) (M:t.sits S w a) (V:Keep I w) :
 Calls prog 223 #[t.val a c,.func (.func f) fi.toArray #[]] w (cH (Bp at_ t) w):=by
 have hE:=Gc (· < w.heap.size) t hw
 unfold DX at hE
 rw [U] at hE;have HE:=fZ hE;replace M:=B6 _ _ M;have X:=Ne w;have aa:=R7 U
 have Y:t.kind=2\/t.kind=3:=by
  simp only [mP,gD,jP,beq_iff_eq] at U
  exact U.1
 have ab:=LC aa
 cases ab with
 | ref h1 Z=>
  rename_i k s
  have ac:k=2:=by simp only [mY] at Y;omega
  subst ac;have e:Bp at_ (.mk 2 0 s [])=(0,0):=rfl;rw [e]
  change Calls prog 223 #[.agg #[.int .u8 2,.int .i64 0,str s,.slice a 0 c],.func (.func f) fi.toArray #[]] w _
  refine Ad func223 ntmps223 rfl rfl ?_
  refine cS (eB [_,_,_,_] ?_);intro b1 w2 h4 x5 _ _;revert X M;refine eE x5 ?_;intro X M;refine C1 Pa (C1 Pa (cT (Aj (cS (C1 Mv (C1 (Jc Ac rfl rfl) (cT (AO rfl (Am (Ai (Aj (cS (AH [_,_,_,_] Ac rfl rfl rfl h4 rfl rfl rfl (cC rfl (HE.out _ _ _ Af) ?_))))))))))))));rintro _ w9 ⟨⟨⟩,x8⟩;revert h4 X;refine eE x8 ?_;intro h4 X;refine C1 Pt (cT (AO rfl (Am (Ai (Aj (cS (C1 Pg (C1 (Pl h4) (C1 V1 (cT (Vj (cS (C1 Pa (C1 Pa (cT (AU (At (Bc rfl rfl rfl ?_))))))))))))))))))
  exact ⟨rfl,X⟩
 | item h1 Z=>
  rename_i s x
  have e:Bp at_ (.mk 3 0 s [x])=A8 at_ x:=rfl;rw [e];have HV:=PK hf HL (x.size+1) x Ab Z
  unfold aF at HV
  replace HV:=fZ HV;obtain ⟨kb,ko,xa,xc,rfl,-,N,h⟩:=VN M;replace h:=B6 _ _ h
  generalize A8 at_ x=r at *
  change Calls prog 223 #[.agg #[.int .u8 3,.int .i64 0,str s,.slice (some ⟨kb,ko,none⟩) 1 c],.func (.func f) fi.toArray #[]] w _
  refine Ad func223 ntmps223 rfl rfl ?_
  refine cS (eB [_,_,_,_] ?_);intro ag ah G ad _ _;revert V X M N h;refine eE ad ?_;intro V X M N h;refine C1 Pa (C1 Pa (cT (Aj (cS (C1 Mv (C1 (Jc Ac rfl rfl) (cT (AO rfl (Am (Ai (Aj (cS (AH [_,_,_,_] Ac rfl rfl rfl G rfl rfl rfl (cC rfl (HE.out _ _ _ Af) ?_))))))))))))));rintro _ ai ⟨⟨⟩,ae⟩;revert G V X N h;refine eE ae ?_;intro G V X N h;refine C1 Pt (cT (AO rfl (Am (Ai (Aj (cS (C1 Pg (C1 (Pl G) (C1 V1 (cT (MS (Am (Ai (cS (C1 Pf (C1 (Pl G) (C1 Pi (BQ [_,_,_,_] Ac rfl rfl rfl N rfl rfl rfl (C1 Mv (cC rfl (HV.out _ _ _ _ Af Af) ?_))))))))))))))))))));rintro _ af ⟨⟨⟩,O⟩;replace X:=X.ext O;refine C1 Px (C1 Px (C1 Pa (C1 Pa (cT (AU (Bc rfl rfl rfl ?_))))))
  exact ⟨rfl,X⟩
 | num=>simp only [mY] at Y;omega
 | un h1 Z=>simp only [mY] at Y;omega
 | bin h1 Z h3=>simp only [mY] at Y;omega
end
def WK (k x y:Int) (M:40<=k/\k<=42) (w:wD):Calls prog 226 #[.int .u8 k,.int .i64 x,.int .i64 y] w λe w'=>e = .returned (.tuple #[.int .i64 (VB k x y),.int .i64 0])/\w=w':=by
 refine Ad func226 ntmps226 rfl rfl ?_
 focus
  refine eK ?_;refine AA rfl (λh=>?_) (λh=>?_);refine eK ?_;refine C1 (Je rfl rfl) (kT ?_);rotate_left;refine eK ?_;refine AA rfl (λG=>?_) (λG=>?_);refine eK ?_;refine C1 (Pe rfl rfl) (kT ?_);rotate_left;refine eK ?_;refine C1 (SK rfl rfl) (kT ?_);rotate_left
 all_goals (refine ⟨?_,rfl⟩;unfold VB)
 . rw [AT Af]
 . rw [AC Ab,AT Af]
 . rw [AC Ab,AC Ab]
section
variable {ρ':Nat->Rl} {K:List (Int×Int)} {sb:Nat} {st':Stp} {w1:wD} {S:nP}
def EQ (G:st.WF K m) (M:m<=1000000):Kz st.look 224 [.pointer (some ⟨sb,0,none⟩)] (λw=>StoreAt ρ κ w sb st):=λs w N=>QL G M s w N.h
def Ew (h:StoreAt ρ κ w sb st):Keep (λw=>StoreAt ρ κ w sb st) w:=⟨h,λ_ _ h x=>h.ext x⟩
def Ih (G:st.WF K m) (h:x.isPlace=true) (M:x.bad st.cur.vars=0):∃i c,Cu x.name st.cur.vars=some i/\st.cur.cells[i]? = some c/\st.cellD x.name=c/\st.look x.name=some (st.items c)/\c<st.heap.length/\(∃y,K[c]? = some y/\(y.1=1\/y.1=2)):=by
 obtain ⟨k,n,s,l⟩:=x;have N:k=2\/k=3:=by
  simp only [mP,mY,gD,jP,beq_iff_eq] at h;exact h.1
 have O:=(OQ M).1;have e:CT k=1\/CT k=2:=by unfold CT;rcases N with rfl|rfl<;>decide
 obtain ⟨i,c,y,U,V,X,Y,Z,h7,h8,-⟩:=G.use (O Ab);exact ⟨i,c,U,V,X,Y,Z,y,h7,Ab⟩
def JH {M:oA} (N:ρ (κ c) = .cell c) (X:Blk w (κ c) [.slice M n i]) (O:OwnR ρ (.items c) w (.slice M n i) xs) (Y:0<n):∃g,M=some ⟨g,0,none⟩/\PlaceAt ρ κ w c g n i xs:=by
 rcases O.1.open with ⟨h,-⟩|⟨U,V,zs,h,-⟩
 . simp only [iF] at h;omega
 simp only [iF] at h;obtain ⟨rfl,-,-⟩:=h;exact ⟨U,rfl,N,O.2 U rfl,X,O.1⟩
def Zf (hw:st.WF K m) (hm:m<=1000000) (hk:40<=k/\k<=42) (ab:x.isPlace=true) (aj:y.isExpr=true) (ak:x.wf) (al:y.wf) (am:x.bad st.cur.vars=0) (a:Option Addr) (c0:Nat) (w:World) (hs:rowSits S w [x,y] a) (h:StoreAt ρ κ w sb st) :
 Calls prog 217 #[.pointer (some ⟨sb,0,none⟩),.agg #[.int .u8 k,.int .i64 0,str [],.slice a 2 c0]] w (StR ρ sb (st.exec k [] [x,y]).2 (st.exec k [] [x,y]).1 w):=by
 obtain ⟨i,c,hi,hc,Z,ac,an,-⟩:=Ih hw ab am
 have e:st.exec k [] [x,y]=if (Bp st.look x).2≠0 then ((Bp st.look x).2,st) else if (A8 st.look y).2≠0 then ((A8 st.look y).2,st) else if (Bp st.look x).1<0\/((st.items c).length:Int)<=(Bp st.look x).1 then (12,st) else (0,st.put c (Bp st.look x).1.toNat (VB k ((st.items c).getD (Bp st.look x).1.toNat 0) (A8 st.look y).1)):=by
  unfold Stp.exec
  simp only [l9,List.getD_cons_succ,AC (show ¬k=43 by omega),AT hk,Z]
 rw [e];have U:=Ew h;have HX:=fZ (λxa xc w1 h1 h2=>JG AR (EQ (sb:=sb) (ρ:=ρ) (κ:=κ) hw hm) x ak ab (· < w.heap.size) xa xc w1 h1 h2);have HY:=fZ (λya yc w1 h1 h2=>OT AR (EQ (sb:=sb) (ρ:=ρ) (κ:=κ) hw hm) y al aj (· < w.heap.size) ya yc w1 h1 h2);have HC:=fZ (λw1 h=>Mn (ρ:=ρ) (κ:=κ) (sb:=sb) hw hm x.name hi w1 h);rw [Z] at HC;obtain ⟨kb,ko,xa,xc,ya,yc,rfl,-,M,hx,N,hy⟩:=aE hs;replace hx:=B6 _ _ hx;replace hy:=B6 _ _ hy;obtain ⟨ao,vi,G,ad⟩:=h.cells _ _ (Ev an);obtain ⟨ai,ci,rfl⟩:=ad.1.shape;have a8:=hw.look_le ac
 have ap:=λhn=>JH ao G ad hn
 have X:=Ne w;obtain ⟨xk,xn,xs,xl⟩:=x;obtain ⟨yk,yn,ys,yl⟩:=y;simp only [mQ] at HC hi Z ac;replace M:Row w ⟨kb,ko+0*4,none⟩ [.int .u8 xk,.int .i64 xn,str xs,.slice xa xl.length xc]:=M;replace N:Row w ⟨kb,ko+1*4,none⟩ [.int .u8 yk,.int .i64 yn,str ys,.slice ya yl.length yc]:=N
 generalize hA:Bp st.look (.mk xk xn xs xl)=A at *
 generalize hB:A8 st.look (.mk yk yn ys yl)=B at *
 generalize hn:(st.items c).length=n at *
 refine Ad func217 ntmps217 rfl rfl ?_
 focus
  refine cS (eB [_,_,_,_] ?_);intro b1 w2 V x5 _ _;revert U X hx hy M N G;refine eE x5 ?_;intro U X hx hy M N G;refine C1 Pa (cN (C1 Pf (C1 (Pl V) (C1 Pi (BQ [_,_,_,_] Ac rfl rfl rfl M rfl rfl rfl (C1 Mv (C1 (Ek rfl rfl) (cC rfl (HX.out _ _ _ Af Af) ?_))))))));rintro _ w9 ⟨⟨⟩,x8⟩;have a9:=x8.size;revert V U X hx hy M N G;refine eE x8 ?_;intro V U X hx hy M N G;refine C1 Mv (C1 Px (C1 Px (C1 Pa (C1 Pa (cT (Aj (cS (C1 Mv (C1 V2 (cT (BP rfl (λaq=>?_) (λaq=>?_))))))))))));refine cS (C1 Mv (C1 Pa (cT (AU (At (AW rfl rfl ?_))))));rotate_left;refine Am (Ai (cS (C1 Pa (cT (Aj (cS (C1 Pg (C1 (Pl V) (cT (As (cS (C1 V1 (C1 Pa (cT (Dd (Aj ?_))))))))))))))));rotate_left
 . rw [AT Af]
   exact mU U.h X
 rw [AC (λh=>h Af)];refine Dv (ι:=Unit) (λ_=>[(0,.pointer (some ⟨sb,0,none⟩)),(3,.pointer (some ⟨b1,0,none⟩)),(5,.int .i64 A.1),(6,.int .i64 A.2),(7,.int .i64 0),(40,.bool true)]) (λ_ w'=>w'=w9) ?_ ?_
 . focus
    refine cS (C1 V1 (C1 Pa (cT (AA rfl (λar=>?_) (λar=>?_)))));refine Am ?_;rotate_left;refine cS (C1 V1 (C1 Pa (cT (AA rfl (λau=>?_) (λau=>?_)))));refine Am ?_;rotate_left;refine Ak (C1 V1 (C1 Pa (Al ?_)));rotate_left
   all_goals exact BC () (An rfl (An rfl (An rfl (An rfl (An rfl (BO rfl (congrArg Value.bool (decide_eq_true Ab)) BE)))))) rfl
 rintro-u1 hu;subst hu
 focus
  refine Bq rfl (Ak (C1 Pf (C1 (Pl V) (C1 Pi (C1 (Yd N) (C1 Mv (C1 (Ek rfl rfl) (cC rfl (HY.out _ _ _ Af Af) ?_))))))));rintro _ ba ⟨⟨⟩,av⟩;revert V U X M G;refine eE av ?_;intro V U X M G;refine C1 Mv (C1 Px (C1 Px (C1 Pa (C1 Pa (Al (Ah (Ai (Aj (cS (C1 Mv (C1 V2 (cT (BP rfl (λaw=>?_) (λaw=>?_))))))))))))));refine cS (C1 Mv (C1 Pa (cT (AU (At (AW rfl rfl ?_))))));rotate_left;refine Am (Ai (cS (C1 Mv (C1 Pf (C1 (Pl V) (C1 Pi (C1 Pf (C1 (Pw M) (cC rfl (HC.out _ (Keep.h Af)) ?_)))))))));rintro _ ae ⟨⟨⟩,af⟩;have bb:=af.size;revert V U X G;refine eE af ?_;intro V U X G;refine C1 Pn (C1 Pg (C1 (Pl G) (C1 Pa (cT (Aj ?_)))));rotate_left
 . rw [AT Af]
   exact mU U.h X
 rw [AC (λh=>h Af)]
 by_cases O:A.1<0\/(n:Int)<=A.1
 . rw [AT O]
   focus
    refine cS (C1 Mv (C1 V3 (C1 Mv (B4 rfl rfl rfl (λax=>?_) (λax=>?_)))));refine EJ (EJ (EJ (EJ (C1 Oc (cT (Bq rfl (cS (C1 Pa (cT (AU (At (AW rfl rfl ?_))))))))))));rotate_left;refine E2 (C1 Mv (E2 (C1 Mv (E2 (C1 Pz (E2 (C1 V6 (C1 MU (cT (Ll (cS (C1 Pa (cT (AU (At (AW rfl rfl ?_))))))))))))))));rotate_left
   . exact mU U.h X
   . exact mU U.h X
 rw [AC O];obtain ⟨g,rfl,hp⟩:=ap Ab;replace hp:=hp.ext X;have ay:=hp.row (i:=A.1.toNat) Ab;have ho:=hp.ho;have F:=mx (· = g) ae;have Hp:=fZ hp;have HI:=fZ U.h;have az:=fZ X
 generalize (st.items c).getD A.1.toNat 0=v0 at *
 refine cS (C1 Mv (C1 V3 (C1 Mv (Ej (C1 Mv (Ej (C1 Mv (Ej (C1 Pz (Ej (C1 V6 (C1 MV (cT (Dd (Am (Ai (cS (C1 Mv (C1 Mv (C1 Pi (C1 Pa (cT (Aj (cS (C1 Pg (C1 (Pl V) (cT (As (Aj ?_)))))))))))))))))))))))))))))
 refine Dv (ι:=Unit) (λ_=>[(3,.pointer (some ⟨b1,0,none⟩)),(7,.int .i64 B.1),(9,.pointer (some ⟨g,0+A.1.toNat*1,none⟩)),(80,.bool true)]) (λ_ w'=>w'=ae) ?_ ?_
 . focus
    refine cS (C1 V1 (C1 Pa (cT (AA rfl (λa0=>?_) (λa0=>?_)))));refine Am ?_;rotate_left;refine cS (C1 V1 (C1 Pa (cT (AA rfl (λa1=>?_) (λa1=>?_)))));refine Am ?_;rotate_left;refine Ak (C1 V1 (C1 Pa (Al ?_)));rotate_left
   all_goals exact BC () (An rfl (An rfl (An rfl (BO rfl (congrArg Value.bool (decide_eq_true Ab)) BE)))) rfl
 rintro-u2 hu;subst hu
 have a2:A.1.toNat<(st.items c).length:=by omega
 refine Bq rfl (Aj (Ap (λwz=>Ext u2 wz) 11 (.pure 0 (.pure 1 (.pure 2 (.pure 3 (.pure 4 (.pure 5 (.fork 6 (.pure 7 (.pure 8 (.pure 9 (.pure 10 .tail)))) .none))))))) mixed AR (Aa (Ae (Aa Ag))) ?_));intro a3 ag _;have Y:(λwz=>Ext u2 wz) a3:=ag;simp only at Y;have ah:=V;have a4:=G;have a6:=ho;have aa:=ay;revert ho F;refine eE ag ?_;intro ho F;refine ⟨Y,(Tq rfl Pg (Tq rfl (Db ah) (Tq rfl Mv (Tq rfl Pn (Tq rfl (Ar Ac rfl rfl rfl (λwz hz=>mE (mw aa hz) rfl)) (Tq rfl Mv (Ax rfl (AM AR rfl (WK _ _ _ hk _) (λ_ _ h=>⟨_,h.1⟩)) rfl ?_ aFh Au)))))))⟩;rintro _ bc ⟨⟨⟩,rfl⟩;refine ⟨Y,(Tq rfl Mv (Tq rfl Px (Tq rfl Px (Tq rfl Pa (Aq rfl (C1 Pa (cT (Aj (cS (C1 Mv (C1 V1 (cT (Vj (Ak (C1 Mv (C1 Mv (C1 Pn (A9 (Cf Ac rfl rfl rfl Af a2) (BK ?_)))))))))))))))))))⟩;rintro _ a7 ⟨bd,a5,be⟩;replace F:=F.fr a5 Ab;refine cN (C1 Mv (C1 Pa (cT (AU (AJ (At (AW rfl rfl ?_)))))))
 exact ⟨ρ,κ,rfl,nC _ _,HI.out.putI Hp.out.hrc Hp.out.hrg Hp.out.hb F Af,(mt az.out).fr F (λk hk=>gA (by rw [show k=g from hk,Hp.out.hrg];trivial))⟩
def Zg (hw:st.WF K m) (hm:m<=1000000) (a0:x.isPlace=true) (a1:y.isPlace=true) (bo:x.wf) (bp:y.wf) (bq:x.bad st.cur.vars=0) (br:y.bad st.cur.vars=0) (a:Option Addr) (c0:Nat) (w:World) (hs:rowSits S w [x,y] a) (h:StoreAt ρ κ w sb st) :
 Calls prog 217 #[.pointer (some ⟨sb,0,none⟩),.agg #[.int .u8 43,.int .i64 0,str [],.slice a 2 c0]] w (StR ρ sb (st.exec 43 [] [x,y]).2 (st.exec 43 [] [x,y]).1 w):=by
 obtain ⟨i,c,hi,hc,aq,a2,a3,-⟩:=Ih hw a0 bq;obtain ⟨i',U,a4,cf,ah,ao,a5,-⟩:=Ih hw a1 br
 have e:st.exec 43 [] [x,y]=if (Bp st.look x).2≠0 then ((Bp st.look x).2,st) else if (Bp st.look y).2≠0 then ((Bp st.look y).2,st) else if (Bp st.look x).1<0\/((st.items c).length:Int)<=(Bp st.look x).1 then (12,st) else if (Bp st.look y).1<0\/((st.items U).length:Int)<=(Bp st.look y).1 then (12,st)
  else (0,(st.put c (Bp st.look x).1.toNat ((st.items U).getD (Bp st.look y).1.toNat 0)).put U (Bp st.look y).1.toNat ((st.items c).getD (Bp st.look x).1.toNat 0)):=by
  unfold Stp.exec
  simp only [l9,List.getD_cons_succ,if_true,AC (show ¬(40<=(43:Int)/\(43:Int)<=42) by decide),aq,ah]
 rw [e];have hI:=Ew h;have HX:=fZ (λxa xc w1 h1 h2=>JG AR (EQ (sb:=sb) (ρ:=ρ) (κ:=κ) hw hm) x bo a0 (· < w.heap.size) xa xc w1 h1 h2);have HY:=fZ (λya yc w1 h1 h2=>JG AR (EQ (sb:=sb) (ρ:=ρ) (κ:=κ) hw hm) y bp a1 (· < w.heap.size) ya yc w1 h1 h2);have HC:=fZ (λw1 h=>Mn (ρ:=ρ) (κ:=κ) (sb:=sb) hw hm x.name hi w1 h);have HD:=fZ (λw1 h=>Mn (ρ:=ρ) (κ:=κ) (sb:=sb) hw hm y.name a4 w1 h);rw [aq] at HC;rw [ah] at HD;obtain ⟨kb,ko,xa,xc,ya,yc,rfl,-,V,hx,O,hy⟩:=aE hs;replace hx:=B6 _ _ hx;replace hy:=B6 _ _ hy;obtain ⟨ac,vi,G,a6⟩:=h.cells _ _ (Ev a3);obtain ⟨ai,ci,rfl⟩:=a6.1.shape;obtain ⟨bs,vj,M,a7⟩:=h.cells _ _ (Ev a5);obtain ⟨aj,cj,rfl⟩:=a7.1.shape;have cg:=hw.look_le a2;have b8:=hw.look_le ao
 have bt:=λhn=>JH ac G a6 hn
 have bu:=λhn=>JH bs M a7 hn
 have X:=Ne w;obtain ⟨xk,xn,xs,xl⟩:=x;obtain ⟨yk,yn,ys,yl⟩:=y;simp only [mQ] at HC HD hi aq a2 a4 ah ao;replace V:Row w ⟨kb,ko+0*4,none⟩ [.int .u8 xk,.int .i64 xn,str xs,.slice xa xl.length xc]:=V;replace O:Row w ⟨kb,ko+1*4,none⟩ [.int .u8 yk,.int .i64 yn,str ys,.slice ya yl.length yc]:=O
 generalize hA:Bp st.look (.mk xk xn xs xl)=A at *
 generalize hB:Bp st.look (.mk yk yn ys yl)=B at *
 generalize hn:(st.items c).length=n at *
 generalize ch:(st.items U).length=n' at *
 refine Ad func217 ntmps217 rfl rfl ?_
 focus
  refine cS (eB [_,_,_,_] ?_);intro b1 w2 h4 x5 _ _;revert hI X hx hy V O G M;refine eE x5 ?_;intro hI X hx hy V O G M;refine C1 Pa (cN (C1 Pf (C1 (Pl h4) (C1 Pi (BQ [_,_,_,_] Ac rfl rfl rfl V rfl rfl rfl (C1 Mv (C1 (Ek rfl rfl) (cC rfl (HX.out _ _ _ Af Af) ?_))))))));rintro _ w9 ⟨⟨⟩,x8⟩;revert h4 hI X hy V O G M;refine eE x8 ?_;intro h4 hI X hy V O G M;refine C1 Mv (C1 Px (C1 Px (C1 Pa (C1 Pa (cT (Aj (cS (C1 Mv (C1 V2 (cT (BP rfl (λbv=>?_) (λbv=>?_))))))))))));refine cS (C1 Mv (C1 Pa (cT (AU (At (AW rfl rfl ?_))))));rotate_left;refine Am (Ai (cS (C1 Pa (cT (Aj (cS (C1 Pg (C1 (Pl h4) (cT (As (cS (C1 V1 (C1 Pa (cT (Vj (Ak (C1 Pf (C1 (Pl h4) (C1 Pi (C1 (Yd O) (C1 Mv (C1 (Ek rfl rfl) (cC rfl (HY.out _ _ _ Af Af) ?_)))))))))))))))))))))));rintro _ ck ⟨⟨⟩,bw⟩;revert h4 hI X V O G M;refine eE bw ?_;intro h4 hI X V O G M;refine C1 Mv (C1 Px (C1 Px (C1 Pa (C1 Pa (Al (Ah (Ai (Aj (cS (C1 Mv (C1 V2 (cT (BP rfl (λbx=>?_) (λbx=>?_))))))))))))));refine cS (C1 Mv (C1 Pa (cT (AU (At (AW rfl rfl ?_))))));rotate_left;refine Am (Ai (cS (C1 Mv (C1 Pf (C1 (Pl h4) (C1 Pi (C1 Pf (C1 (Pw V) (cC rfl (HC.out _ (Keep.h Af)) ?_)))))))))
  rintro _ cl ⟨⟨⟩,bz⟩;revert h4 hI X O G M;refine eE bz ?_;intro h4 hI X O G M;refine C1 Pn (C1 Pg (C1 (Pl G) (C1 Pa (cT (Aj ?_)))));rotate_left
 . rw [AT Af]
   exact mU hI.h X
 . rw [AC (λh=>h Af),AT Af]
   exact mU hI.h X
 rw [AC (λh=>h Af),AC (λh=>h Af)]
 by_cases af:A.1<0\/(n:Int)<=A.1
 . rw [AT af]
   focus
    refine cS (C1 Mv (C1 V3 (C1 Mv (B4 rfl rfl rfl (λb0=>?_) (λb0=>?_)))));refine EJ (EJ (EJ (EJ (C1 Oc (cT (Bq rfl (cS (C1 Pa (cT (AU (At (AW rfl rfl ?_))))))))))));rotate_left;refine E2 (C1 Mv (E2 (C1 Mv (E2 (C1 Pz (E2 (C1 V6 (C1 MU (cT (Ll (cS (C1 Pa (cT (AU (At (AW rfl rfl ?_))))))))))))))));rotate_left
   . exact mU hI.h X
   . exact mU hI.h X
 rw [AC af];obtain ⟨g,rfl,hp⟩:=bt Ab
 refine cS (C1 Mv (C1 V3 (C1 Mv (Ej (C1 Mv (Ej (C1 Mv (Ej (C1 Pz (Ej (C1 V6 (C1 MV (cT (Dd (Am (Ai (cS (C1 Mv (C1 Mv (C1 Pi (C1 Pa (cT (Aj (cS (C1 Pg (C1 (Pl h4) (cT (As (Aj (cS (C1 V1 (C1 Pa (cT (MS (cS (C1 V1 (C1 Pa (cT (MS (Ak (C1 V1 (C1 Pa (cT (MS (cS (C1 V1 (C1 Pa (cT (Vj (cS (C1 Mv (C1 Pf (C1 (Pl h4) (C1 Pi (C1 Pf (C1 (Pw O) (cC rfl (HD.out _ (Keep.h Af)) ?_)))))))))))))))))))))))))))))))))))))))))))))))))))))))));rintro _ Y ⟨⟨⟩,b2⟩;revert hI X M G;refine eE b2 ?_;intro hI X M G;refine C1 Pn (C1 Pg (C1 (Pl M) (C1 Pa (cT (Aj ?_)))))
 by_cases aa:B.1<0\/(n':Int)<=B.1
 . rw [AT aa]
   focus
    refine cS (C1 Mv (C1 V3 (C1 Mv (B4 rfl rfl rfl (λb3=>?_) (λb3=>?_)))));refine EJ (EJ (EJ (EJ (C1 Oc (cT (Bq rfl (cS (C1 Pa (cT (AU (At (AJ (At (AW rfl rfl ?_))))))))))))));rotate_left;refine E2 (C1 Mv (E2 (C1 Mv (E2 (C1 Pz (E2 (C1 V6 (C1 MU (cT (Ll (cS (C1 Pa (cT (AU (At (AJ (At (AW rfl rfl ?_))))))))))))))))));rotate_left
   . exact mU hI.h X
   . exact mU hI.h X
 rw [AC aa];obtain ⟨g',rfl,hq⟩:=bu Ab
 have ar:A.1.toNat<(st.items c).length:=by omega
 have au:B.1.toNat<(st.items U).length:=by omega
 have a8:=(hp.ext X).row ar;have a9:=(hq.ext X).row au;have ba:=fZ X;have HI:=fZ hI.h
 by_cases an:U=c
 . subst an
   have b4:g'=g:=by
    have h1:=(hp.hb.row.at0 rfl).symm.trans (hq.hb.row.at0 rfl);simp only [gE,iF,kL,and_true] at h1
    exact h1.1.symm
   subst b4
   have e:(st.put U A.1.toNat ((st.items U).getD B.1.toNat 0)).put U B.1.toNat ((st.items U).getD A.1.toNat 0)=st.all U (((st.items U).set A.1.toNat ((st.items U).getD B.1.toNat 0)).set B.1.toNat ((st.items U).getD A.1.toNat 0)):=by
    unfold Stp.put
    rw [Gn,AT ⟨rfl,a3⟩]
    unfold Stp.all
    simp
   rw [e]
   have bb:∀v,B.1.toNat<((st.items U).set A.1.toNat v).length:=λv=>by rw [kj];exact au
   have ho:=(hp.ext X).ho;have Hp:=fZ (hp.ext X);have F:=mx (· = g') Y
   generalize (st.items U).getD A.1.toNat 0=v0 at *
   generalize (st.items U).getD B.1.toNat 0=v1 at *
   refine cS (C1 Mv (C1 V3 (C1 Mv (Ej (C1 Mv (Ej (C1 Mv (Ej (C1 Pz (Ej (C1 V6 (C1 MV (cT (Dd (Am (Ai (Aj (EK (λZ=>Ext Y Z) (λZ=>Fr (λx=>x=g') Y Z) [1,2,11,12,13] [1,2] 11 12 (.free 1 (.free 2 (.pure 0 (.pure 3 (.pure 4 (.pure 5 (.pure 6 (.pure 7 (.pure 8 (.pure 9 (.pure 10 (.put 11 (.tail 12))))))))))))) (λ_ h=>mt h) mixed AR (Aa (Ae (Aa Ag))) ?_))))))))))))))))));intro bc av _;have bd:(λZ=>Ext Y Z) bc:=av;simp only at bd;have ak:(λZ=>Fr (λx=>x=g') Y Z) bc:=mt av;simp only at ak;have be:=h4;have aw:=M;have ax:=G;have bf:=ho;have ad:=a8;have ae:=a9;revert ho F;refine eE av ?_;intro ho F;refine Bl Af rfl (Aw rfl) rfl (Bl Af rfl (Aw rfl) rfl (Ao Af rfl (Aw rfl) rfl (Ao Af rfl (Aw rfl) rfl (Ao Af rfl (Aw rfl) rfl (Ao Af rfl (AK Ac rfl rfl rfl rfl Ab Ab) rfl (Ao Af rfl (Ar Ac rfl rfl rfl (λZ hz=>mE (mw ae hz) rfl)) rfl (Ao Af rfl (Aw rfl) rfl (Ao Af rfl (BH rfl) rfl (Ao Af rfl (Ar Ac rfl rfl rfl (λZ hz=>mE (mw ad hz) rfl)) rfl ?_)))))))))
   refine Ao Af rfl (BH rfl) rfl (Du rfl (Cf Ac rfl rfl rfl Af ar) (BK ?_));rintro _ cm ⟨cn,bg,co⟩;replace ak:=ak.fr bg Ab;replace F:=F.fr bg Ab;refine ⟨Af,(Dt rfl (C1 Pi (A9 (Cf Ac rfl rfl rfl Af (bb _)) (BK ?_))))⟩;rintro _ b9 ⟨ca,bh,cb⟩;replace F:=F.fr bh Ab;refine cN (C1 Pa (cT (AU (AJ (At (AW rfl rfl ?_))))))
   exact ⟨ρ,κ,rfl,nC _ _,HI.out.putI Hp.out.hrc Hp.out.hrg Hp.out.hb F Af,(mt ba.out).fr F (λk hk=>gA (by rw [show k=g' from hk,Hp.out.hrg];trivial))⟩
 . have e:(st.put c A.1.toNat ((st.items U).getD B.1.toNat 0)).put U B.1.toNat ((st.items c).getD A.1.toNat 0)=(st.all c ((st.items c).set A.1.toNat ((st.items U).getD B.1.toNat 0))).all U ((st.items U).set B.1.toNat ((st.items c).getD A.1.toNat 0)):=by
    unfold Stp.put
    rw [Gn,AC (λh=>an h.1)]
   rw [e];have bi:=hp.ext X;have bj:=hq.ext X;have ag:=hp.hrg;have N:=hq.hrg
   have bk:g'≠g:=λe=>by rw [e,ag] at N;simp at N;exact an N.symm
   have ho:=bi.ho;have al:=bj.ho;have Hp:=fZ bi;have Hq:=fZ bj;have F:=mx (λk=>k=g\/k=g') Y
   generalize (st.items c).getD A.1.toNat 0=v0 at *
   generalize (st.items U).getD B.1.toNat 0=v1 at *
   refine cS (C1 Mv (C1 V3 (C1 Mv (Ej (C1 Mv (Ej (C1 Mv (Ej (C1 Pz (Ej (C1 V6 (C1 MV (cT (Dd (Am (Ai (Aj (EK (λZ=>Ext Y Z) (λZ=>Fr (λx=>x=g) Y Z) [1,2,11,12,13] [1,2] 11 12 (.free 1 (.free 2 (.pure 0 (.pure 3 (.pure 4 (.pure 5 (.pure 6 (.pure 7 (.pure 8 (.pure 9 (.pure 10 (.put 11 (.tail 12))))))))))))) (λ_ h=>mt h) mixed AR (Aa (Ae (Aa Ag))) ?_))))))))))))))))));intro bl ay _;have bm:(λZ=>Ext Y Z) bl:=ay;simp only at bm;have am:(λZ=>Fr (λx=>x=g) Y Z) bl:=mt ay;simp only at am;have be:=h4;have ax:=G;have aw:=M;have bf:=ho;have b5:=al;have ad:=a8;have ae:=a9;revert ho al F;refine eE ay ?_;intro ho al F;refine Bl Af rfl (Aw rfl) rfl (Bl Af rfl (Aw rfl) rfl (Ao Af rfl (Aw rfl) rfl (Ao Af rfl (Aw rfl) rfl (Ao Af rfl (Aw rfl) rfl (Ao Af rfl (AK Ac rfl rfl rfl rfl Ab Ab) rfl (Ao Af rfl (Ar Ac rfl rfl rfl (λZ hz=>mE (mw ae hz) rfl)) rfl (Ao Af rfl (Aw rfl) rfl (Ao Af rfl (BH rfl) rfl ?_))))))))
   refine Ao Af rfl (Ar Ac rfl rfl rfl (λZ hz=>mE (mw ad hz) rfl)) rfl (Ao Af rfl (BH rfl) rfl (Du rfl (Cf Ac rfl rfl rfl Af ar) (BK ?_)));rintro _ cp ⟨bn,az,cq⟩;replace am:=am.fr az Ab;replace al:=nn al az (λk hk hS=>by (obtain rfl:=gJ (show some g'=some k from hk);exact bk hS));replace F:=F.fr az Ab;refine ⟨Af,(Dt rfl (C1 Pi (A9 (Cf Ac rfl rfl rfl Af au) (BK ?_))))⟩;rintro _ cc ⟨cd,ap,ce⟩;replace bn:=nn bn ap (λk hk hS=>by (obtain rfl:=gJ (show some g=some k from hk);exact bk hS.symm));replace F:=mB F ap (λk hk=>gA (gB hk));refine cN (C1 Pa (cT (AU (AJ (At (AW rfl rfl ?_))))))
   have ac:=Hp.out.hrc;have ab:=Hq.out.hrc
   have b6:=Hp.out.hb.fr F (λe=>by
    rcases e with e|e
    . rw [e,ag] at ac
      cases ac
    . rw [e,N] at ac
      cases ac)
   have b7:=Hq.out.hb.fr F (λe=>by
    rcases e with e|e
    . rw [e,ag] at ab
      cases ab
    . rw [e,N] at ab
      cases ab)
   exact ⟨ρ,κ,rfl,nC _ _,HI.out.set2 (l3 an) (F.weaken (λk hk=>by rcases hk with rfl|rfl;exact gA (gB ag);exact gB (gB N))) (nC _ _) (HI.out.fresh.mv F) ⟨ac,_,b6,Af,λk hk=>by obtain rfl:=gJ (show some g=some k from hk);exact ag⟩ ⟨ab,_,b7,Af,λk hk=>by obtain rfl:=gJ (show some g'=some k from hk);exact N⟩,
    (mt ba.out).fr F (λk hk=>gA (by rcases hk with rfl|rfl;rw [ag];trivial;rw [N];trivial))⟩
def Th (hw:st.WF K m) (hm:m<=1000000) {s:List UInt8} (hk:(44<=k/\k<=49)) (aj:x.isPlace=true) (aw:x.wf) (ax:x.bad st.cur.vars=0) (ay:(k=44\/k=45)->FA st.cur.vars s 3=0) (a:Option Addr) (c0:Nat) (w:World) (hs:rowSits S w [x] a) (h:StoreAt ρ κ w sb st) :
 Calls prog 217 #[.pointer (some ⟨sb,0,none⟩),.agg #[.int .u8 k,.int .i64 0,str s,.slice a 1 c0]] w (StR ρ sb (st.exec k s [x]).2 (st.exec k s [x]).1 w):=by
 obtain ⟨i,c,hi,hc,af,ak,az,yk,a0,bd⟩:=Ih hw aj ax
 have e:st.exec k s [x]=if (Bp st.look x).2≠0 then ((Bp st.look x).2,st) else if (Bp st.look x).1<0\/((st.items c).length:Int)<=(Bp st.look x).1 then (12,st) else if k=44\/k=45 then st.move k c (Bp st.look x).1.toNat (st.cellD s) else st.transfer k c (Bp st.look x).1.toNat:=by
  unfold Stp.exec
  simp only [l9,AC (show ¬k=43 by omega),AC (show ¬(40<=k/\k<=42) by omega),af]
  simp
 rw [e];have N:=Ew h;have HX:=fZ (λxa xc w1 h1 h2=>JG AR (EQ (sb:=sb) (ρ:=ρ) (κ:=κ) hw hm) x aw aj (· < w.heap.size) xa xc w1 h1 h2);have HC:=fZ (λw1 h=>Mn (ρ:=ρ) (κ:=κ) (sb:=sb) hw hm x.name hi w1 h);rw [af] at HC;obtain ⟨kb,ko,xa,xc,rfl,-,U,hx⟩:=VN hs;replace hx:=B6 _ _ hx;obtain ⟨a1,vi,M,al⟩:=h.cells _ _ (Ev az);obtain ⟨ai,ci,rfl⟩:=al.1.shape;have bp:=hw.look_le ak
 have a2:=λhn=>JH a1 M al hn
 have X:=Ne w;obtain ⟨xk,xn,xs,xl⟩:=x;simp only [mQ] at HC hi af ak;replace U:Row w ⟨kb,ko+0*4,none⟩ [.int .u8 xk,.int .i64 xn,str xs,.slice xa xl.length xc]:=U
 generalize hA:Bp st.look (.mk xk xn xs xl)=A at *
 generalize hn:(st.items c).length=n at *
 refine Ad func217 ntmps217 rfl rfl ?_
 focus
  refine cS (eB [_,_,_,_] ?_);intro b1 w2 h4 x5 p6 z7;revert N X hx U M;refine eE x5 ?_;intro N X hx U M;refine C1 Pa (cN (C1 Pf (C1 (Pl h4) (C1 Pi (BQ [_,_,_,_] Ac rfl rfl rfl U rfl rfl rfl (C1 Mv (C1 (Ek rfl rfl) (cC rfl (HX.out _ _ _ Af Af) ?_))))))));rintro _ w9 ⟨⟨⟩,x8⟩;have bq:=x8.size;revert h4 N X U M;refine eE x8 ?_;intro h4 N X U M;refine C1 Mv (C1 Px (C1 Px (C1 Pa (C1 Pa (cT (Aj (cS (C1 Mv (C1 V2 (cT (BP rfl (λa3=>?_) (λa3=>?_))))))))))));refine cS (C1 Mv (C1 Pa (cT (AU (At (AW rfl rfl ?_))))));rotate_left;refine Am (Ai (cS (C1 Pa (cT (Aj (cS (C1 Pg (C1 (Pl h4) (cT (As (cS (C1 V1 (C1 Pa (cT (Dd (Aj (cS (C1 V1 (C1 Pa (cT (Dd (cS (C1 V1 (C1 Pa (cT (Dd (Ak (C1 V1 (C1 Pa (cT (Dd (Am (Ah (Ai (Aj (cS (C1 Mv (C1 V2 (cT (Dd (Am (Ai (cS (C1 Mv (C1 Pf (C1 (Pl h4) (C1 Pi (C1 Pf (C1 (Pw U) (cC rfl (HC.out _ (Keep.h Af)) ?_))))))))))))))))))))))))))))))))))))))))))))))))));rintro _ ac ⟨⟨⟩,am⟩;have br:=am.size;revert h4 N X M;refine eE am ?_;intro h4 N X M;refine C1 Pn (C1 Pg (C1 (Pl M) (C1 Pa (cT (Aj ?_)))));rotate_left
 . rw [AT Af]
   exact mU N.h X
 rw [AC (λh=>h Af)]
 by_cases Z:A.1<0\/(n:Int)<=A.1
 . rw [AT Z]
   focus
    refine cS (C1 Mv (C1 V3 (C1 Mv (B4 rfl rfl rfl (λa4=>?_) (λa4=>?_)))));refine EJ (EJ (EJ (EJ (C1 Oc (cT (Bq rfl (cS (C1 Pa (cT (AU (At (AW rfl rfl ?_))))))))))));rotate_left;refine E2 (C1 Mv (E2 (C1 Mv (E2 (C1 Pz (E2 (C1 V6 (C1 MU (cT (Ll (cS (C1 Pa (cT (AU (At (AW rfl rfl ?_))))))))))))))));rotate_left
   . exact mU N.h X
   . exact mU N.h X
 rw [AC Z];obtain ⟨g,rfl,O⟩:=a2 Ab;replace O:=O.ext X
 have aa:A.1.toNat<(st.items c).length:=by omega
 by_cases ad:k=44\/k=45
 . rw [AT ad];obtain ⟨i2,d,yd,e1,e2,e3,e4,e5,e6,e7,e8⟩:=hw.use (ay ad)
   have an:c≠d:=by
    rintro rfl;rw [a0] at e6;obtain rfl:=gJ e6
    omega
   have a5:(st.items d).length<=1000:=by rcases e8 with ⟨h,-⟩|⟨h,-⟩|⟨-,h⟩<;>omega
   have HD:=fZ (λw1 h=>Mn (ρ:=ρ) (κ:=κ) (sb:=sb) hw hm s e1 w1 h);rw [e3] at HD ⊢;have HM:=fZ (λw1 h O=>aS (ρ:=ρ) (κ:=κ) (sb:=sb) (g:=g) (n:=n) (cap:=ci) hw e5 an a5 aa k ad w1 h O);have F:Fr (λk=>Mg (ρ k)) w _:=mt X
   generalize st.move k c A.1.toNat d=r at *
   focus
    refine cS (C1 Mv (C1 V3 (C1 Mv (Ej (C1 Mv (Ej (C1 Mv (Ej (C1 Pz (Ej (C1 V6 (C1 MV (cT (Dd (Am (Ai (cS (C1 Mv (C1 Mv (C1 Pi (C1 Pa (cT (Aj (cS (C1 Pg (C1 (Pl h4) (cT (As (Aj (cS (C1 V1 (C1 Pa (cT (Dd (cS (C1 V1 (C1 Pa (cT (Dd (Ak (C1 V1 (C1 Pa (cT (Dd (cS (C1 V1 (C1 Pa (cT (Dd (Aj (cS (C1 V1 (C1 Pa (cT (AA rfl (λa6=>?_) (λa6=>?_))))))))))))))))))))))))))))))))))))))))))))))))))))))));refine Am (Ai (XU (Aj (Ap (λwz=>Ext ac wz) 7 (.pure 0 (.pure 1 (.pure 2 (.pure 3 (.pure 4 (.pure 5 (.fork 6 .tail .none))))))) mixed AR (Aa (Ae (Aa Ag))) ?_))));intro a7 ag _;have V:(λwz=>Ext ac wz) a7:=ag;simp only at V;have Y:=h4;have ao:=N;have ah:=M;have ap:=O;have bs:=ag.size;revert N O F;refine eE ag ?_;intro N O F;refine ⟨V,(Tq rfl Pg (Tq rfl (Db Y) (Tq rfl Mv (Tq rfl Mv (Tq rfl Pf (Tq rfl (Db Y) (Ax rfl (AM AR rfl (HD.out _ (Keep.h Af)) (λ_ _ h=>⟨_,h.1⟩)) rfl ?_ aFh Au)))))))⟩;rintro _ bt ⟨⟨⟩,aq⟩;have bu:=aq.size;revert V N O F;refine eE aq ?_;intro V N O F;refine ⟨V,(Aq rfl (eQ rfl (HM.out _ (Keep.h Af) Af) ?_))⟩;rintro _ be ⟨a8,a9,⟨⟩,bf,bg,ar⟩
    replace F:=mB F ar (λk hk=>gA hk);refine C1 Pa (cT (AU (AJ (At (AW rfl rfl ?_)))));rotate_left;refine Ak (C1 V1 (C1 Pa (cT (Ll (Aj (Ap (λwz=>Ext ac wz) 7 (.pure 0 (.pure 1 (.pure 2 (.pure 3 (.pure 4 (.pure 5 (.fork 6 .tail .none))))))) mixed AR (Aa (Ae (Aa Ag))) ?_))))));intro au ab _;have G:(λwz=>Ext ac wz) au:=ab;simp only at G;have Y:=h4;have ao:=N;have ah:=M;have ap:=O;have bh:=ab.size;revert N O F;refine eE ab ?_;intro N O F;refine ⟨G,(Tq rfl Pg (Tq rfl (Db Y) (Tq rfl Mv (Tq rfl Mv (Tq rfl Pf (Tq rfl (Db Y) (Ax rfl (AM AR rfl (HD.out _ (Keep.h Af)) (λ_ _ h=>⟨_,h.1⟩)) rfl ?_ aFh Au)))))))⟩;rintro _ bi ⟨⟨⟩,ae⟩;have bj:=ae.size;revert G N O F;refine eE ae ?_;intro G N O F;refine ⟨G,(Aq rfl (eQ rfl (HM.out _ (Keep.h Af) Af) ?_))⟩;rintro _ bk ⟨ba,bb,⟨⟩,bl,bm,av⟩;replace F:=mB F av (λk hk=>gA hk);refine C1 Pa (cT (AU (AJ (At (AW rfl rfl ?_)))));rotate_left
   . exact ⟨_,_,rfl,nt Af Ab,Af,F⟩
   . exact ⟨_,_,rfl,nt Af Ab,Af,F⟩
 . rw [AC ad]
   have HT:∀w1,StoreAt ρ κ w1 sb st->PlaceAt ρ κ w1 c g n ci (st.items c)->Calls prog 228 #[.pointer (some ⟨sb,0,none⟩),.int .u8 k,.pointer (some ⟨g,0+A.1.toNat*1,none⟩)] w1 (StR ρ sb (st.transfer k c A.1.toNat).2 (st.transfer k c A.1.toNat).1 w1):=λw1 h O=>by
    rcases (show k=46\/k=47\/k=48\/k=49 by omega) with rfl|rfl|rfl|rfl
    . exact WG aa w1 h O
    . exact WI aa w1 h O
    . exact WJ aa w1 h O
    . exact WH aa w1 h O
   replace HT:=fZ HT;have F:Fr (λk=>Mg (ρ k)) w _:=mt X
   generalize st.transfer k c A.1.toNat=r at *
   refine cS (C1 Mv (C1 V3 (C1 Mv (Ej (C1 Mv (Ej (C1 Mv (Ej (C1 Pz (Ej (C1 V6 (C1 MV (cT (Dd (Am (Ai (cS (C1 Mv (C1 Mv (C1 Pi (C1 Pa (cT (Aj (cS (C1 Pg (C1 (Pl h4) (cT (As (Aj (cS (C1 V1 (C1 Pa (cT (Dd (cS (C1 V1 (C1 Pa (cT (Dd (Ak (C1 V1 (C1 Pa (cT (Dd (cS (C1 V1 (C1 Pa (cT (Dd (Aj (cS (C1 V1 (C1 Pa (cT (Dd (Ak (C1 V1 (C1 Pa (cT (Dd (Am (Ah (Ai (cS (C1 Mv (C1 Pg (C1 (Pl h4) (C1 Mv (eQ rfl (HT.out _ (Keep.h Af) Af) ?_)))))))))))))))))))))))))))))))))))))))))))))))))))))))))))))))))))));rintro _ bv ⟨bn,bo,⟨⟩,bw,bx,bc⟩;replace F:=mB F bc (λk hk=>gA hk);refine C1 Pa (cT (AU (AW rfl rfl ?_)))
   exact ⟨_,_,rfl,nt Af Ab,Af,F⟩
end
section
variable {ρ':Nat->Rl} {K:List (Int×Int)} {sb:Nat} {st':Stp} {w1:wD} {S:nP}
def R8 (h:40<=k/\k<=49):40<=Cm k/\Cm k<=49:=by
 unfold Cm;rcases (show k=40\/k=41\/k=42\/k=43\/k=44\/k=45\/k=46\/k=47\/k=48\/k=49 by omega) with rfl|rfl|rfl|rfl|rfl|rfl|rfl|rfl|rfl|rfl<;>decide
def UR {n:Int} (G:40<=k/\k<=49) (h:(Nd.mk k n s l).isStmt=true):(Nd.mk (Cm k) n s l).isStmt=true:=by
 unfold Nd.isStmt at h ⊢;rcases (show k=40\/k=41\/k=42\/k=43\/k=44\/k=45\/k=46\/k=47\/k=48\/k=49 by omega) with rfl|rfl|rfl|rfl|rfl|rfl|rfl|rfl|rfl|rfl<;>simpa [Cm] using h
def aT (Y:st.WF K m) (Z:m<=1000000) {n:Int} (hk:40<=k/\k<=49) (aa:(Nd.mk k n s l).isStmt=true) (ab:(Nd.mk k n s l).wf) (hb:(Nd.mk k n s l).bad st.cur.vars=0) (a:oA) (V:Nat) (w:wD) (hs:rowSits S w l a) (h:StoreAt ρ κ w sb st) :
 Calls prog 217 #[.pointer (some ⟨sb,0,none⟩),.agg #[.int .u8 k,.int .i64 n,str s,.slice a l.length V]] w (StR ρ sb (st.exec k s l).2 (st.exec k s l).1 w):=by
 have U:=OQ hb;obtain ⟨-,-,-,-,-,-,M⟩:=ab;cases Cg aa with
 | upd X N hy=>
  obtain ⟨G,O,-⟩:=M;exact Zf Y Z Ab N hy G O (D2 U.2).1 a V w hs h
 | swap N hy=>
  obtain ⟨G,O,-⟩:=M;exact Zg Y Z N hy G O (D2 U.2).1 (D2 (D2 U.2).2).1 a V w hs h
 | stack X hn N=>
  obtain ⟨G,-⟩:=M;exact Th Y Z Ab N G (D2 U.2).1 (λ_=>by
   have:=U.1;have e:CT k=3:=by unfold CT;rcases X with rfl|rfl<;>decide
   rw [e] at this;exact this C2) a V w hs h
 | tape X N=>
  obtain ⟨G,-⟩:=M;exact Th Y Z Ab N G (D2 U.2).1 (λh=>by omega) a V w hs h
 | call X=>omega
 | branch X=>omega
 | local_=>omega
 | lstack=>omega
def dD (hw:st.WF K m) (hm:m<=1000000) {n:Int} (hk:(40<=k/\k<=49)\/k=56) (aa:(Nd.mk k n s l).isStmt=true) (ab:(Nd.mk k n s l).wf) (hz:(Nd.mk k n s l).size<=1000000) (a:oA) (c0:Nat) (w:wD) (hs:rowSits S w l a) (h:StoreAt ρ κ w sb st) :
 Calls prog 196 #[.pointer (some ⟨sb,0,none⟩),.agg #[.int .u8 k,.int .i64 n,str s,.slice a l.length c0]] w (StR ρ sb (st.run1 k n s l).2 (st.run1 k n s l).1 w):=by
 have Z:=VL (· < w.heap.size) (.mk k n s l) ab;unfold DX at Z;rw [aa] at Z;have Z:=fZ (λw1 hs=>Z a c0 w1 hs);simp only [Nd.val,Nd.sits] at Z;have M:=B7 _ _ hs;have X:=Ne w;have V:=Ew h;have ar:=hw.nc;have au:=hw.curm;rcases hk with hk|rfl
 . have e:st.run1 k n s l=if (Nd.mk k n s l).bad st.cur.vars≠0 then ((Nd.mk k n s l).bad st.cur.vars,st) else st.exec k s l:=by unfold Stp.run1;rw [AC Ab]
   rw [e];obtain ⟨fb,fo,pre,post,T,vv,vc,O,-,ac,hf,-⟩:=h.open;obtain ⟨av,cv,rfl,N⟩:=GQ (S:=λ_=>True) hf.v.1 (λ_ _=>trivial);have G:=ac.blk;have HC:=fZ (λw1 h=>Eu fb fo st.calls.length sb Ab w1 h);have HF:=fZ (λw1 h1 h2 h3=>Y8 st.cur.vars Ab av cv vc (.int .i64 st.cur.locals) fb fo _ (.mk k n s l) (· < w.heap.size) (λ_=>True) a c0 w1 (Nat.lt_succ_self _) Ab h1 h2 h3);simp only [Nd.val,Nd.sits] at HF;have HX:(Nd.mk k n s l).bad st.cur.vars=0 -> ∀w1,rowSits (· < w.heap.size) w1 l a->StoreAt ρ κ w1 sb st->Calls prog 217 #[.pointer (some ⟨sb,0,none⟩),.agg #[.int .u8 k,.int .i64 n,str s,.slice a l.length c0]] w1 (StR ρ sb (st.exec k s l).2 (st.exec k s l).1 w1):=λhb w1 h1 h2=>aT hw hm hk aa ab hb a c0 w1 h1 h2
   have HX:=fZ HX;have HB:=fZ (λw1=>Y9 k hk w1);have F:Fr (λk=>Mg (ρ k)) w w:=mx _ w;generalize (Nd.mk k n s l).bad st.cur.vars=bd at *;generalize st.exec k s l=r at *;generalize st.cur.vars=vs at *;refine Ad func196 ntmps196 rfl rfl ?_
   focus
    refine cS (eB [_,_,_,_] ?_);intro b1 w2 Y x5 p6 z7;revert M X V O F N G;refine eE x5 ?_;intro M X V O F N G;refine eK ?_;refine C1 (A2 Ac rfl rfl) (kC (Z.out _ Af) ?_);rintro _ w9 ⟨⟨⟩,x8⟩;revert Y M X V O F N G;refine eY x8 ?_;intro aw Y M X V O F N G;refine kC (HB.out _) ?_;rintro _ ad ⟨⟨⟩,ah⟩;revert Y M X V O F N G;refine eY ah ?_;intro ax Y M X V O F N G;refine eK ?_;refine Ap (λwz=>Ext ad wz) 3 (.pure 0 (.pure 2 (.fork 1 .tail .none))) mixed AR (Aa (Aa Ag)) ?_;intro ai ae _;have U:(λwz=>Ext ad wz) ai:=ae;simp only at U;have af:=Y;revert Y M X V O F N G;refine eY ae ?_;intro ay Y M X V O F N G;refine ⟨U,(Tq rfl Mv (Tq rfl (xL [_,_,_,_] (λwz hz=>(my af hz))) (tC rfl rfl (HC.out _ Af) ?_)))⟩;rintro _ az ⟨⟨⟩,aj⟩;revert U Y M X V F N G;refine eY aj ?_;intro a0 U Y M X V F N G;refine ⟨U,(Aq rfl (cC rfl (HF.out _ Af Af Af) ?_))⟩;rintro _ a1 ⟨⟨⟩,ak⟩;revert Y M X V F;refine eY ak ?_;intro a2 Y M X V F;refine eK ?_;refine BP rfl (λal=>?_) (λal=>?_);refine kR ?_;rotate_left;refine kQ (HX.out Af _ Af (Keep.h Af)) ?_;rintro _ a3 ⟨ap,aq,⟨⟩,a4,a5,am⟩;have F:=mB F am (λk hk=>gA hk);refine kR ?_;rotate_left
   . rw [AT Af];exact mU V.h X
   . rw [AC (λh=>h Af)];exact ⟨_,_,rfl,nt Af Ab,Af,F⟩
 . have e:st.run1 56 n s l=(9,st):=by unfold Stp.run1;rw [AT rfl]
   rw [e];refine Ad func196 ntmps196 rfl rfl (cS (eB [_,_,_,_] ?_));intro a6 a7 ag an _ _;revert h M X;refine eE an ?_;intro h M X;refine eK ?_;refine C1 (A2 Ac rfl rfl) (kC (Z.out _ Af) ?_);rintro _ a8 ⟨⟨⟩,ao⟩;revert ag h X;refine eE ao ?_;intro ag h X;refine kR ?_;exact mU Af X
def aU (hw:st.WF K m) (hm:m<=1000000) {n:Int} (M:(40<=k/\k<=49)\/k=56) (N:(Nd.mk k n s l).isStmt=true) (X:(Nd.mk k n s l).wf) (hz:(Nd.mk k n s l).size<=1000000) (a:oA) (c0:Nat) (w:wD) (hs:rowSits S w l a) (h:StoreAt ρ κ w sb st) :
 Calls prog 195 #[.pointer (some ⟨sb,0,none⟩),.agg #[.int .u8 k,.int .i64 n,str s,.slice a l.length c0]] w (StR ρ sb (st.run1 (Cm k) n s l).2 (st.run1 (Cm k) n s l).1 w):=by
 have G:=B7 _ _ hs;have HI:=fZ (UP k Ab);have Y:(40<=Cm k/\Cm k<=49)\/Cm k=56:=by
  rcases M with h|rfl
  . exact gA (R8 h)
  . exact gB rfl
 have O:(Nd.mk (Cm k) n s l).isStmt=true:=by
  rcases M with h|rfl
  . exact UR h N
  . exact N
 have U:(Nd.mk (Cm k) n s l).wf:=by
  obtain ⟨-,-,Z⟩:=X;exact ⟨Ab,Ab,Z⟩
 have HD:=fZ (λw1 Z h2=>dD (ρ:=ρ) (κ:=κ) (sb:=sb) hw hm Y O U hz a c0 w1 (S:=(· < w.heap.size)) Z h2);have aa:=h.fresh;have hn:∀k,w.heap.size<=k -> ¬Mg (ρ k):=λk M e=>by rw [aa k M] at e;exact e
 have F:Fr (λk=>Mg (ρ k)) w w:=mx _ w;generalize st.run1 (Cm k) n s l=r at *;generalize Cm k=k2 at *;refine Ad func195 ntmps195 rfl rfl (cS (eB [_,_,_,_] ?_));intro b1 w2 h4 x5 p6 z7;revert h G F;refine eE x5 ?_;intro h G F;refine kC (HI.out _) ?_;rintro _ w9 ⟨⟨⟩,x8⟩;revert h4 h G F;refine eY x8 ?_;intro ae h4 h G F;refine C1 Pg (eV [_] [_,_,_,_] h4 ?_);intro af ag V ah;have h:=StoreAt.fr h V (λk M=>hn k (by have:k=_:=M;omega));revert G F;refine eF V ?_;intro G F;refine kQ (HD.out _ Af Af) ?_;rintro _ ai ⟨ac,ad,⟨⟩,aj,ak,ab⟩;have F:=mB F ab (λk M=>gA M);refine kR ?_;exact ⟨_,_,rfl,nt Af Ab,Af,F⟩
end
section
variable {P:Program} {l:Sl} {ty:TypeId} {Q:Exit->Act->wD->Prop} {ops:Array Oper} {rest:List Oper} {pos:String} {after:Array Edge} {B:List PanicEntry->wD->Prop}
def Ms {f:FuncId} {xs:List Operand} {tys:Array TypeId} {vs:lV} {d:Option Nat} (U:BU P f=true) (G:evs l xs=some vs) (C:Calls P f vs.toArray w (TK (λ_ _=>False) B)) (M:∀c w1,B c w1->QW n Q (.panic c) l w1) :
 LW P n ops Q (⟨d,.call ⟨.value (.func f),xs.toArray,tys⟩,ty,pos,after,none⟩::rest) l w:=by
 unfold LW;unfold QW at M;intro a N;unfold wpList;rw [AT (Bd rfl)];left;have O:=AN (n:=n) (tys:=tys) (ty:=ty) U G C (λ_ _ h=>h.elim);unfold Nc at O;exact O a _ _ _ _ _ _ N (λv w1 h=>h.elim) (λc w1 h=>M c w1 h a N)
end
def Mt {P:Program} {l:Sl} {S:wD->Prop} {tab:Tab} {t ty sz:Nat} {x y:Operand} {p q:Bool} (T:TabOk P tab) (G:AB tab t=some (.bool,sz)) (M:ev l x=some (.bool p)) (N:ev l y=some (.bool q)):Bm P n l S (.binOp .neq t x y i) ty (.bool (decide (p≠q))):=by
 unfold Bm;intro _ w O pos after g h _;have U:(eqGuard .neq t x y (.bool p) (.bool q)).run P w = .ok () w:=by unfold eqGuard;simp
 have V:P.underlying t=some .bool:=(T _ _ _ G).under;have X:(Op.equal t (.bool p) (.bool q)).run P w = .ok (p==q) w:=by
  show (Op.equalIn (9999+1) t (.bool p) (.bool q)).run P w=_;unfold Op.equalIn;simp [AD V,gF]
 simp [execOp,h.ev M,h.ev N,U,X,binOp];cases p<;>cases q<;>rfl
def Mu (e:Int):List PanicEntry:=[{ v:=.iface 240 (.agg #[.int .i64 e]),recovered:=false }]
structure RC where
 rb:Nat
 sb:Nat
 eb:Nat
 ec:Nat
 g:PG
 va:oA
 vc:Nat
 pa:oA
 pc:Nat
 ma:oA
 mc:Nat
 fuel:Nat
 S:nP
def dE (r:Rl):Prop:=Mg r\/r = .other 0\/r = .other 1
structure RunAt (c:RC) (P:nP) (ρ:Nat->Rl) (κ:Nat->Nat) (w:wD) (r:Rn):Prop where
 role:ρ c.rb = .other 0
 rolE:ρ c.eb = .other 1
 rem:r.rem<=c.fuel
 blk:Blk w c.rb [.slice c.va c.g.vars.length c.vc,.slice c.pa c.g.procs.length c.pc,.int .u8 c.g.main.kind,.int .i64 c.g.main.num,str c.g.main.name,.slice c.ma c.g.main.kids.length c.mc,.pointer (some ⟨c.sb,0,none⟩),.int .i64 ((c.fuel:Int)-r.rem),.int .i64 c.fuel,.slice (some ⟨c.eb,0,none⟩) c.g.procs.length c.ec]
 ent:∃es:List Int,es.length=c.g.procs.length/\Blk w c.eb (AX es)
 st:StoreAt ρ κ w c.sb r.st
 wf:∃K,r.st.WF K (1000+(c.fuel-r.rem))
 procs:PDs c.S w c.g.procs c.pa
 sub:∀k,c.S k->P k
 off:∀k,P k -> ¬dE (ρ k)/\k<w.heap.size
section
variable {c:RC} {ρ':Nat->Rl} {κ':Nat->Nat} {T:nP}
def PDs.frS {S:nP} {l:List PD} {a:oA} (h:PDs S w l a) (x:Fr T w w') (G:∀b,S b -> ¬T b):PDs S w' l a:=
 h.mono aFh (λb _ _ _ M ⟨N,pc,ba,bc,h1,h2,h3⟩=>⟨N,pc,ba,bc,h1.fr x (G b M),h2.fr x G,mr h3 x G⟩)
def RunAt.ext (h:RunAt c P ρ κ w r) (x:Ext w w'):RunAt c P ρ κ w' r:=by
 obtain ⟨O,U,V,X,⟨es,Y,Z⟩,h7,h8,h9,M,G⟩:=h;have hs:=x.size;exact ⟨O,U,V,X.ext x,⟨es,Y,Z.ext x⟩,h7.ext x,h8,h9.ext x,M,λk N=>⟨(G k N).1,by have:=(G k N).2;omega⟩⟩
instance  : LfE w w' (RunAt c P ρ κ w r) (RunAt c P ρ κ w' r):=⟨λx h=>Bk.RunAt.ext h x⟩
def Run (c:RC) (P:nP) (w:wD) (r:Rn):Prop:= ∃ ρ κ,RunAt c P ρ κ w r
def Run.ext (h:Run c P w r) (x:Ext w w'):Run c P w' r:=h.imp λ_ ⟨κ,h⟩=>⟨κ,h.ext x⟩
instance  : LfE w w' (Run c P w r) (Run c P w' r):=⟨λx h=>Bk.Run.ext h x⟩
def Run.blk (h:Run c P w r):Blk w c.rb [.slice c.va c.g.vars.length c.vc,.slice c.pa c.g.procs.length c.pc,.int .u8 c.g.main.kind,.int .i64 c.g.main.num,str c.g.main.name,.slice c.ma c.g.main.kids.length c.mc,.pointer (some ⟨c.sb,0,none⟩),.int .i64 ((c.fuel:Int)-r.rem),.int .i64 c.fuel,.slice (some ⟨c.eb,0,none⟩) c.g.procs.length c.ec]:=by
 obtain ⟨_,_,h⟩:=h;exact h.blk
def Run.rem (h:Run c P w r):r.rem<=c.fuel:=by
 obtain ⟨_,_,h⟩:=h;exact h.rem
def Cc (P:nP) (w w':wD):nP:=λk=>P k\/(w.heap.size<=k/\k<w'.heap.size)
def Run.more (h:Run c P w r) (x:Ext w w'):Run c (Cc P w w') w' r:=by
 obtain ⟨ρ,κ,h⟩:=h;obtain ⟨O,U,V,X,Y,Z,h7,h8,h9,M⟩:=h.ext x;refine ⟨ρ,κ,O,U,V,X,Y,Z,h7,h8,λk G=>gA (h9 k G),λk G=>?_⟩;rcases G with G|⟨G,N⟩
 . exact M k G
 . refine ⟨λe=>?_,N⟩;rw [h.st.fresh k G] at e;rcases e with e|e|e
   . exact e
   . cases e
   . cases e
def Run.less (h:Run c P' w r) (M:∀k,c.S k->P k) (N:∀k,P k->P' k):Run c P w r:=by
 obtain ⟨ρ,κ,O,U,V,X,Y,Z,h7,h8,h9,G⟩:=h;exact ⟨ρ,κ,O,U,V,X,Y,Z,h7,h8,M,λk hk=>G k (N k hk)⟩
def Run.sub (h:Run c P w r):∀k,c.S k->P k:=by
 obtain ⟨_,_,h⟩:=h;exact h.sub
def RunA (c:RC) (P:nP) (X:Except Int Rn) (w:wD):Ending->wD->Prop:=λe w'=> ∃r,e = .returned (.tuple #[])/\X = .ok r/\Run c P w' r/\Fr (λk=> ¬P k) w w'
def RunA.ret (h:RunA c P Z w e w'):∃v,e = .returned v:=by
 obtain ⟨_,h,-⟩:=h;exact ⟨_,h⟩
def QP {α:Type} (P:nP) (X:Except Int α) (w:wD) (ch:List PanicEntry) (w':wD):Prop:= ∃er,X = .error er/\ch=Mu er/\Fr (λk=> ¬P k) w w'
def Dz (c:RC) (P:nP) (X:Except Int Rn) (w:wD):Ending->wD->Prop:=TK (RunA c P X w) (QP P X w)
def ValA (c:RC) (P:nP) (X:Except Int (Bool×Rn)) (w:wD):Ending->wD->Prop:=λe w'=> ∃u r,e = .returned (.bool u)/\X = .ok (u,r)/\Run c P w' r/\Fr (λk=> ¬P k) w w'
def ValA.ret {X:Except Int (Bool×Rn)} (h:ValA c P X w e w'):∃v,e = .returned v:=by
 obtain ⟨_,_,h,-⟩:=h;exact ⟨_,h⟩
def Zh (c:RC) (P:nP) (X:Except Int (Bool×Rn)) (w:wD):Ending->wD->Prop:=TK (ValA c P X w) (QP P X w)
def ExpA (X:Except Int Int) (w:wD):Ending->wD->Prop:=λe w'=> ∃v,e = .returned (.int .i64 v)/\X = .ok v/\Ext w w'
def ExpA.ret {X:Except Int Int} (h:ExpA X w e w'):∃v,e = .returned v:=by
 obtain ⟨_,h,-⟩:=h;exact ⟨_,h⟩
def dF (X:Except Int Int) (w:wD) (ch:List PanicEntry) (w':wD):Prop:= ∃er,X = .error er/\ch=Mu er/\Ext w w'
def R9 (e:Int) (G:e≠0) (w:wD):Calls prog 209 #[.int .i64 e] w (TK (λ_ _=>False) (λh w'=>h=Mu e/\Ext w w')):=by
 have X:=Ne w;refine Ad func209 ntmps209 rfl rfl (eK ?_);refine C1 (xB [_]) (C1 (TL AR rfl) (Vv rfl (AE ?_)));exact gB ⟨_,rfl,rfl,X⟩
def Stp.WF.mono {K:List (Int×Int)} {m':Nat} (h:st.WF K m) (G:m<=m'):st.WF K m':=⟨h.len,h.base,h.calls,h.cell,h.nc,λf M=>jR (h.vb f M) G⟩
def Run.tick (h:Run c P w r) (hr:0<r.rem) (x:Fr (· = c.rb) w w') (X:Blk w' c.rb [.slice c.va c.g.vars.length c.vc,.slice c.pa c.g.procs.length c.pc,.int .u8 c.g.main.kind,.int .i64 c.g.main.num,str c.g.main.name,.slice c.ma c.g.main.kids.length c.mc,.pointer (some ⟨c.sb,0,none⟩),.int .i64 ((c.fuel:Int)-r.rem+1),.int .i64 c.fuel,.slice (some ⟨c.eb,0,none⟩) c.g.procs.length c.ec]):Run c P w' ⟨r.st,r.rem-1⟩/\Fr (λk=> ¬P k) w w':=by
 obtain ⟨ρ,κ,O,U,h3,h4,⟨es,Y,Z⟩,h7,⟨K,h8⟩,h9,N,M⟩:=h;have hs:=x.size;have V:∀k,P k -> ¬k=c.rb:=λk G e=>(M k G).1 (by rw [e,O];exact gB (gA rfl))
 refine ⟨⟨ρ,κ,O,U,by simp only;omega,?_,⟨es,Y,Z.fr x (λe=>by rw [show c.eb=c.rb from e,O] at U;simp at U)⟩,h7.fr x (λk G e=>by rw [show k=c.rb from G,O] at e;exact e),⟨K,h8.mono (by simp only;omega)⟩,h9.frS x (λk G e=>V k (N k G) e),N,λk G=>⟨(M k G).1,by have:=(M k G).2;omega⟩⟩,x.weaken (λk G e=>V k e G)⟩;simp only;rw [show ((c.fuel:Int)-((r.rem-1:Nat):Int))=(c.fuel:Int)-r.rem+1 by omega];exact X
def Mw (hc:c.fuel<=10000) (w:wD) (h:Run c P w r):Calls prog 190 #[.pointer (some ⟨c.rb,0,none⟩)] w (Dz c P (Bn r) w):=by
 have X:=Ne w;have N:=h.blk;have ab:=h.rem;have HI:=fZ h;clear h;by_cases Y:r.rem=0
 . have e:Bn r = .error 18:=by unfold Bn;rw [AT Y]
   rw [e];rw [Y] at N;have HF:=fZ (λw1=>R9 18 C2 w1);refine Ad func190 ntmps190 rfl rfl ?_;refine eK ?_;refine Ap (λO=>Ext w O) 8 (.pure 0 (.pure 1 (.pure 2 (.pure 3 (.pure 4 (.pure 5 (.pure 6 (.pure 7 .tail)))))))) mixed AR (Aa (Aa Ag)) ?_;intro w1 x2 _;have U:(λO=>Ext w O) w1:=x2;simp only at U;have G:=N;have X:=X.ext x2;refine ⟨U,?_⟩;refine Tq rfl Mv (Tq rfl Pn (Tq rfl Pf (Tq rfl (Db G) (Tq rfl Mv (Tq rfl Pn (Tq rfl Pf (Tq rfl (Db G) ?_)))))));refine Aq rfl (C1 V6 (cT (Ll (Ak (Ms AR rfl (HF.out _) ?_)))));intro c5 w6 q7;refine AG (AE ?_);exact gB ⟨_,rfl,18,rfl,q7.1,mt (X.trans q7.2)⟩
 . have e:Bn r = .ok ⟨r.st,r.rem-1⟩:=by unfold Bn;rw [AC Y]
   rw [e];have F:=mx (· = c.rb) w;refine Ad func190 ntmps190 rfl rfl ?_;refine eK ?_;refine Ap (λO=>Ext w O) 8 (.pure 0 (.pure 1 (.pure 2 (.pure 3 (.pure 4 (.pure 5 (.pure 6 (.pure 7 .tail)))))))) mixed AR (Aa (Aa Ag)) ?_;intro Z V _;have M:(λO=>Ext w O) Z:=V;simp only at M;have G:=N;revert N F;refine eE V ?_;intro N F;refine ⟨M,?_⟩;refine Tq rfl Mv (Tq rfl Pn (Tq rfl Pf (Tq rfl (Db G) (Tq rfl Mv (Tq rfl Pn (Tq rfl Pf (Tq rfl (Db G) ?_)))))));refine Aq rfl ?_;refine eK ?_;refine eV [_] [_,_,_,_,_,_,_,_,_,_] N ?_;intro ac ad aa _;clear N;have F:=F.fr aa Ab;refine Al (Bi rfl ?_);have h9:=HI.out.tick Ab F Af;exact gA ⟨_,rfl,rfl,h9.1,h9.2⟩
def Sa (e:Int) (w:wD):Ending->wD->Prop:=TK (λen w'=>en = .returned (.tuple #[])/\e=0/\Ext w w') (λch w'=>e≠0/\ch=Mu e/\Ext w w')
def Ii (e:Int) (p:Value) (w:wD):Calls prog 191 #[p,.int .i64 e] w (Sa e w):=by
 have X:=Ne w;by_cases G:e=0
 . subst G;refine Ad func191 ntmps191 rfl rfl (cS (C1 Mv (C1 V2 (cT (MS (Am (Bi rfl ?_)))))));exact gA ⟨rfl,rfl,X⟩
 . have M:=fZ (λw1=>R9 e G w1);refine Ad func191 ntmps191 rfl rfl (cS (C1 Mv (C1 V2 (cT (XU (Ak (C1 Mv (Ms AR rfl (M.out _) ?_))))))));intro N O h;refine AE ?_;exact gB ⟨_,rfl,G,h.1,X.trans h.2⟩
def Mx {K:List (Int×Int)} {sb:Nat} (G:st.WF K m) (M:m<=1000000):Kz st.look 220 [.pointer (some ⟨sb,0,none⟩)] (λw=>StoreAt ρ κ w sb st):=λs w N=>aQ G M s w N.h
def aV (U:c.fuel<=10000) (t:Nd) (M:t.wf) (N:t.isExpr=true) (a:oA) (m:Nat) (S:nP) (w:wD) (O:t.sits S w a) (h:Run c P w r) :
 Calls prog 219 #[t.val a m,.func (.func 220) #[.pointer (some ⟨c.sb,0,none⟩)] #[]] w λe w'=>e = .returned (.tuple #[.bool (decide ((A8 r.st.look t).1≠0)),.int .i64 (A8 r.st.look t).2])/\Ext w w':=by
 obtain ⟨ρ,κ,h⟩:=h;obtain ⟨K,G⟩:=h.wf;exact Ze AR (Mx (ρ:=ρ) (κ:=κ) (sb:=c.sb) G Ab) t M N S a m w O (Ew h.st)
def aW (U:c.fuel<=10000) (t:Nd) (M:t.wf) (N:t.isExpr=true) (a:oA) (m:Nat) (S:nP) (w:wD) (O:t.sits S w a) (h:Run c P w r) :
 Calls prog 221 #[t.val a m,.func (.func 220) #[.pointer (some ⟨c.sb,0,none⟩)] #[]] w (cH (A8 r.st.look t) w):=by
 obtain ⟨ρ,κ,h⟩:=h;obtain ⟨K,G⟩:=h.wf;exact OT AR (Mx (ρ:=ρ) (κ:=κ) (sb:=c.sb) G Ab) t M N S a m w O (Ew h.st)
def Ti (hc:c.fuel<=10000) (t:Nd) (hw:t.wf) (hx:t.isExpr=true) (a:oA) (m:Nat) (S:nP) (w:wD) (hs:t.sits S w a) (h:Run c P w r) :
 Calls prog 208 #[.pointer (some ⟨c.rb,0,none⟩),t.val a m] w (TK (ExpA (B5 t r) w) (dF (B5 t r) w)):=by
 have X:=Ne w;have M:=B6 _ _ hs;have HE:=fZ (λw1 h1 h2=>aW (c:=c) (P:=P) (r:=r) hc t hw hx a m (· < w.heap.size) w1 h1 h2);have HC:=fZ (λe w1=>Ii e (.pointer (some ⟨c.rb,0,none⟩)) w1);unfold Sa at HC;have e1:B5 t r=if (A8 r.st.look t).2≠0 then .error (A8 r.st.look t).2 else .ok (A8 r.st.look t).1:=rfl
 rw [e1];clear hs e1;generalize A8 r.st.look t=v at *;obtain ⟨k,n,s,l⟩:=t;refine Ad func208 ntmps208 rfl rfl ?_
 focus
  refine cS (eB [_,_,_,_] ?_);intro b1 w2 h4 x5 _ _;revert h X M;refine eE x5 ?_;intro h X M;refine eK ?_;refine Ap (λO=>Ext w2 O) 11 (.pure 0 (.pure 1 (.pure 2 (.pure 3 (.pure 4 (.pure 5 (.fork 6 (.pure 7 (.pure 8 (.pure 9 (.pure 10 .tail)))) .none))))))) mixed AR (Aa Ag) ?_;intro w8 x9 _;have G:(λO=>Ext w2 O) w8:=x9;simp only at G;have U:=h4;have V:=h;revert h X M;refine eE x9 ?_;intro h X M;refine ⟨G,?_⟩;refine Tq rfl (xL [_,_,_,_] (λO Y=>(my U Y))) ?_;refine eT ?_;refine Tq rfl (Ar Ac rfl rfl rfl (λO Y=>mC (my (Run.blk V) Y) rfl)) (Tq rfl (Ek rfl rfl) ?_);refine tC rfl rfl (HE.out _ Af Af) ?_;rintro _ ab ⟨⟨⟩,Z⟩;revert G X;refine eE Z ?_;intro G X;refine ⟨G,?_⟩;refine Tq rfl Mv (Tq rfl Px (Tq rfl Px (Tq rfl Pa ?_)));refine Aq rfl ?_;refine eK ?_;refine A4 (AN AR rfl (HC.out _ _) (λ_ _ h=>⟨_,h.1⟩)) rfl ?_ ?_;rotate_left;intro ac ad N
  rotate_right 1
  rintro _ ae ⟨⟨⟩,af,aa⟩;have X:=X.ext aa;refine kR ?_;rotate_left;refine AG (AE ?_);rotate_left
 . exact gA ⟨_,rfl,by rw [AC Ab],X⟩
 . exact gB ⟨_,rfl,v.2,by rw [AT N.1],N.2.1,X.trans N.2.2⟩
def OU (hc:c.fuel<=10000) (t:Nd) (hw:t.wf) (hx:t.isExpr=true) (a:oA) (m:Nat) (w:wD) (hs:t.sits P w a) (h:Run c P w r) :
 Calls prog 206 #[.pointer (some ⟨c.rb,0,none⟩),t.val a m] w (Zh c P (BY t r) w):=by
 have X:=Ne w;have HR:=fZ h;clear h;have e1:∀N,Bn r = .ok N->BY t r=if (A8 N.st.look t).2≠0 then .error (A8 N.st.look t).2 else .ok (decide ((A8 N.st.look t).1≠0),N):=λN h1=>by
  unfold BY;rw [h1];by_cases hv:(A8 N.st.look t).2≠0
  . simp only [gZ,B5,AT hv]
  . simp only [gZ,B5,AC hv]
 have e2:∀er,Bn r = .error er->BY t r = .error er:=λer h1=>by unfold BY;rw [h1];rfl
 have HC:=fZ (λe w1=>Ii e (.pointer (some ⟨c.rb,0,none⟩)) w1);unfold Sa at HC;have HT:=λPP N w1 h1 h2=>aV (c:=c) (P:=PP) (r:=N) hc t hw hx a m P w1 h1 h2
 obtain ⟨k,n,s,l⟩:=t;change Calls prog _ #[_,.agg #[.int .u8 k,.int .i64 n,str s,.slice a l.length m]] w _;refine Ad func206 ntmps206 rfl rfl ?_;refine cS (eB [_,_,_,_] ?_);intro b1 w2 h4 x5 p6 z7;revert X hs;refine eE x5 ?_;intro X hs;refine C1 Pa (cT ?_);have h1:=HR.out.more X;have HS:=fZ (λN w1 h=>Mw (c:=c) (P:=Cc P w w2) (r:=N) hc w1 h);unfold Dz at HS;have HT:=fZ (HT (Cc P w w2));have F:Fr (λk=> ¬P k) w w2:=mt X;clear X
 focus
  refine eK ?_;refine A4 (AN AR rfl (HS.out _ _ Af) (λ_ _ h=>h.ret)) rfl ?_ ?_;rotate_left;intro am an ag
  rotate_right 1
  rintro _ V ⟨aa,⟨⟩,Y,G,ab⟩;revert h4 hs F;refine eF ab ?_;intro h4 hs F;refine eK ?_;refine Ap (λwz=>Ext V wz) 11 (.pure 0 (.pure 1 (.pure 2 (.pure 3 (.pure 4 (.pure 5 (.fork 6 (.pure 7 (.pure 8 (.pure 9 (.pure 10 .tail)))) .none))))))) mixed AR (Aa Ag) ?_;intro ac Z _;have M:(λwz=>Ext V wz) ac:=Z;simp only at M;have U:=G;have ad:=h4;revert G hs F;refine eE Z ?_;intro G hs F;refine ⟨M,?_⟩;refine Tq rfl (xL [_,_,_,_] (λwz hz=>(my ad hz))) ?_;refine eT ?_;refine Tq rfl (Ar Ac rfl rfl rfl (λwz hz=>mC (my (Run.blk U) hz) rfl)) (Tq rfl (Ek rfl rfl) ?_);refine tC rfl rfl (HT.out _ _ Af Af) ?_;rintro _ ah ⟨⟨⟩,ae⟩;revert M G F;refine eE ae ?_;intro M G F;refine ⟨M,?_⟩;refine Tq rfl Mv (Tq rfl Px (Tq rfl Px (Tq rfl Pa ?_)));refine Aq rfl ?_;refine eK ?_;refine A4 (AN AR rfl (HC.out _ _) (λ_ _ h=>⟨_,h.1⟩)) rfl ?_ ?_;rotate_left;intro ai aj O
  rotate_right 1
  rintro _ ak ⟨⟨⟩,al,af⟩;revert G F;refine eE af ?_;intro G F;refine kR ?_;rotate_left;refine AG (AE ?_);rotate_left;refine AG (AE ?_);rotate_left
 . exact gA ⟨_,aa,rfl,by rw [e1 _ Y,AC Ab],G.less HR.out.sub (λk=>gA),F⟩
 . exact gB ⟨_,rfl,_,by rw [e1 _ Y,AT O.1],O.2.1,F.ext O.2.2⟩
 . obtain ⟨er,g1,g2,g3⟩:=ag;exact gB ⟨_,rfl,er,e2 _ g1,g2,F.fr g3 (λk hk=>gA (λh=>hk (gA h)))⟩
def QQ (hc:c.fuel<=10000) (G:Bool) (t:Nd) (hw:t.wf) (hx:t.isExpr=true) (a:oA) (m:Nat) (w:wD) (hs:t.sits P w a) (h:Run c P w r) :
 Calls prog 207 #[.pointer (some ⟨c.rb,0,none⟩),t.val a m,.bool G] w (Dz c P (BI t G r) w):=by
 have X:=Ne w;have HR:=fZ h;have e1:∀q r1,BY t r = .ok (q,r1)->BI t G r=if q≠G then .error 15 else .ok r1:=λq r1 O=>by
  unfold BI;rw [O];rfl
 have e2:∀U,BY t r = .error U->BI t G r = .error U:=λU O=>by unfold BI;rw [O];rfl
 have HF:=fZ (λw1=>R9 15 C2 w1);have HH:=λPP w1 O h2=>OU (c:=c) (P:=PP) (r:=r) hc t hw hx a m w1 O h2
 obtain ⟨k,n,s,l⟩:=t;change Calls prog _ #[_,.agg #[.int .u8 k,.int .i64 n,str s,.slice a l.length m],_] w _;refine Ad func207 ntmps207 rfl rfl (cS (eB [_,_,_,_] ?_));intro b1 w2 h4 x5 _ _;revert X hs;refine eE x5 ?_;intro X hs;refine cT ?_;have O:=HR.out.more X;have HH:=fZ (HH (Cc P w w2));unfold Zh at HH;have F:Fr (λk=> ¬P k) w w2:=mt X
 focus
  refine eK ?_;refine A4 (AN AR rfl (HH.out _ (mD Af (λb h=>gA h)) Af) (λ_ _ h=>h.ret)) rfl ?_ ?_;rotate_left;intro ag ah ab
  rotate_right 1
  rintro _ ac ⟨ad,V,⟨⟩,M,Y,Z⟩;have F:=mB F Z (λk hk=>gA (λh=>hk (gA h)));refine C1 Mv (C1 (Mt Ac rfl rfl rfl) (cT (BP rfl (λaa=>?_) (λaa=>?_))));refine Ak (Ms AR rfl (HF.out _) ?_);intro ae af N;refine AE ?_;rotate_left;refine Am (Bi rfl ?_);rotate_left;refine AG (AE ?_);rotate_left
 . exact gB ⟨_,rfl,15,by rw [e1 _ _ M,AT Af],N.1,F.ext N.2⟩
 . exact gA ⟨V,rfl,by rw [e1 _ _ M,AC (λh=>h Af)],Y.less HR.out.sub (λk=>gA),F⟩
 . obtain ⟨U,g1,g2,g3⟩:=ab;exact gB ⟨_,rfl,U,e2 _ g1,g2,F.fr g3 (λk hk=>gA (λh=>hk (gA h)))⟩
end
def JI {P:Program} {l:Sl} {tab:Tab} {sz:Nat} {fn:Func} {R:Ending->wD->Prop} {N b b':Nat} {sk V:Sk} {vs:lV} (h:fn.results = #[.cell m N,.cell c g]) (T:TabOk P tab) (ht:AB tab N=some (sk,sz)) (X:AB tab g=some (V,i)) (hs:sk.agg=true) (aa:V.agg=true)
 (hv:look l m=some (.pointer (some ⟨b,0,none⟩))) (ab:look l c=some (.pointer (some ⟨b',0,none⟩))) (hb:Blk w b vs) (ac:Blk w b' cs) (hl:vs.length=sz) (ad:cs.length=i) (hR:R (.returned (.tuple #[.agg vs.toArray,.agg cs.toArray])) w):QW n (bodyPost P fn R) .ret l w:=by
 unfold QW;intro a ha;refine ⟨ha.defers,.tuple #[.agg vs.toArray,.agg cs.toArray],?_,hR⟩;have e:(loadVar N ⟨b,0,none⟩).run P w = .ok (.agg vs.toArray) w:=by
  simp only [gO,hH,gF,loadVar,Cq (T _ _ _ ht),hs,if_true,B0 (T _ _ _ ht)];rw [<-hl,Ct hb.row]
 have e':(loadVar g ⟨b',0,none⟩).run P w = .ok (.agg cs.toArray) w:=by
  simp only [gO,hH,gF,loadVar,Cq (T _ _ _ X),aa,if_true,B0 (T _ _ _ X)];rw [<-ad,Ct ac.row]
 have Y:=ha.has m _ hv;have Z:=ha.has c _ ab;simp only [jC] at Y Z;simp [results,h,Y,Z,e,e',asAddr]
section
variable {c:RC} {T:nP}
def QR (c:RC) (P:nP) (rem:Nat) (x:Int×Stp) (w:wD):Ending->wD->Prop:=λe w'=>e = .returned (.int .i64 x.1)/\Run c P w' ⟨x.2,rem⟩/\Fr (λk=> ¬(P k\/k=c.rb)) w w'
def RunAt.store (h:RunAt c P ρ κ w r) {x:Int} (U:∃K,st.WF K (1000+(c.fuel-r.rem))) (hs:StR ρ c.sb st x w e w'):QR c P r.rem (x,st) w e w':=by
 obtain ⟨ρ',κ',h1,V,h3,N⟩:=hs;obtain ⟨X,Y,k3,Z,⟨es,k5,k6⟩,k7,k8,k9,O,M⟩:=h;have hz:=N.size;have hP:∀k,P k -> ¬Mg (ρ k):=λk G e=>(M k G).1 (gA e)
 refine ⟨h1,⟨ρ',κ',by rw [V _ Z.lt,X],by rw [V _ k6.lt,Y],k3,Z.fr N (λe=>by rw [X] at e;exact e),⟨es,k5,k6.fr N (λe=>by rw [Y] at e;exact e)⟩,h3,U,k9.frS N (λk G e=>hP k (O k G) e),O,λk G=>⟨?_,by have:=(M k G).2;omega⟩⟩,N.weaken (λk G e=>by rcases e with e|e;exact hP k e G;rw [e,X] at G;exact G)⟩;rw [V _ (M k G).2];exact (M k G).1
def aX (Z:c.fuel<=10000) (v:VD) (M:v.kind=1\/v.kind=3) (O:v.len=0) (x:Int) (w:wD) (h:Run c P w r) (hr:r.rem<c.fuel) (U:∃K,r.st.WF K (1000+m)) (V:m<c.fuel-r.rem) :
 Calls prog 192 #[.pointer (some ⟨c.sb,0,none⟩),v.val,.int .i64 x] w (QR c P r.rem (r.st.opens v x) w):=by
 obtain ⟨ρ,κ,h⟩:=h;obtain ⟨K,N⟩:=U;refine iY (aR N Ab v M O x w h.st) λe w' X=>h.store ?_ X
 obtain ⟨Y,G⟩:=N.opens M x;exact ⟨Y,G.mono Ab⟩
def Tj (N:c.fuel<=10000) (s:lB) (x:Int) (w:wD) (h:Run c P w r):Calls prog 193 #[.pointer (some ⟨c.sb,0,none⟩),str s,.int .i64 x] w (QR c P r.rem (r.st.closes s x) w):=by
 obtain ⟨ρ,κ,h⟩:=h;obtain ⟨K,G⟩:=h.wf;exact iY (Zc G Ab s x w h.st) λe w' M=>h.store ⟨K,G.closes s x⟩ M
def Zi (N:c.fuel<=10000) (w:wD) (h:Run c P w r):Calls prog 213 #[.pointer (some ⟨c.sb,0,none⟩)] w (QR c P r.rem (r.st.leaves) w):=by
 obtain ⟨ρ,κ,h⟩:=h;obtain ⟨K,G⟩:=h.wf;exact iY (Zb G w h.st) λe w' M=>h.store ⟨K,G.leaves⟩ M
def Zj (hc:c.fuel<=10000) (ps:List VD) (G:List lB) (X:ps.length<=1000) (M N:oA) (O U:Nat) (w:wD) (h:Run c P w r) (Y:VDs P w ps M) (Z:Rows P w (G.map str) N) :
 Calls prog 212 #[.pointer (some ⟨c.sb,0,none⟩),.slice M ps.length O,.slice N G.length U] w (QR c P r.rem (r.st.enters ps G) w):=by
 obtain ⟨ρ,κ,h⟩:=h;obtain ⟨K,V⟩:=h.wf;exact iY (Zd (S:=P) V Ab ps G Ab (λk hk e=>(h.off k hk).1 (gA e)) M N O U w h.st Y Z) λe w' hs=>h.store ⟨K,V.enters Ab G⟩ hs
def eU (Y:c.fuel<=10000) {n:Int} (V:(40<=k/\k<=49)\/k=56) (G:(Nd.mk k n s l).isStmt=true) (M:(Nd.mk k n s l).wf) (X:(Nd.mk k n s l).size<=1000000) (a:oA) (O:Nat) (w:wD) (N:rowSits P w l a) (h:Run c P w r) :
 Calls prog 196 #[.pointer (some ⟨c.sb,0,none⟩),.agg #[.int .u8 k,.int .i64 n,str s,.slice a l.length O]] w (QR c P r.rem (r.st.run1 k n s l) w):=by
 obtain ⟨ρ,κ,h⟩:=h;obtain ⟨K,U⟩:=h.wf;exact iY (dD U Ab V G M X a O w N h.st) λe w' N=>h.store ⟨K,U.run1 k n s l⟩ N
def aY (Y:c.fuel<=10000) {n:Int} (V:(40<=k/\k<=49)\/k=56) (G:(Nd.mk k n s l).isStmt=true) (M:(Nd.mk k n s l).wf) (X:(Nd.mk k n s l).size<=1000000) (a:oA) (O:Nat) (w:wD) (N:rowSits P w l a) (h:Run c P w r) :
 Calls prog 195 #[.pointer (some ⟨c.sb,0,none⟩),.agg #[.int .u8 k,.int .i64 n,str s,.slice a l.length O]] w (QR c P r.rem (r.st.run1 (Cm k) n s l) w):=by
 obtain ⟨ρ,κ,h⟩:=h;obtain ⟨K,U⟩:=h.wf;exact iY (aU U Ab V G M X a O w N h.st) λe w' N=>h.store ⟨K,U.run1 (Cm k) n s l⟩ N
def Ex {G:Rn} (h:Run c P' w' G) (F:Fr (λk=> ¬P k) w w') (M:∀k,c.S k->P k) (N:∀k,P k->P' k) (e:Z = .ok G):Dz c P Z w (.returned (.tuple #[])) w':=gA ⟨G,rfl,e,h.less M N,F⟩
def BA {α:Type} {X:Except Int α} {w1:wD} {M:List PanicEntry} (q:QP P' X w1 M w') (F:Fr (λk=> ¬P k) w w1) (N:∀k,P k->P' k) (e:∀G,X = .error G->Z = .error G):Dz c P Z w (.panicked M) w':=by
 obtain ⟨G,O,U,V⟩:=q;exact gB ⟨_,rfl,G,e _ O,U,F.fr V (λk Y=>gA (λh=>Y (N k h)))⟩
def QS (h:i<l.length):l[i]? = some (BZ l i):=by
 unfold BZ;rw [gY,fY h];rfl
def EndsA (P:nP) (f l:Nd) (w:wD):Ending->wD->Prop:=λe w'=> ∃a m a' m',e = .returned (.tuple #[f.val a m,l.val a' m'])/\f.sits P w' a/\l.sits P w' a'/\Ext w w'
def EndsA.ret {f l:Nd} (h:EndsA P f l w e w'):∃v,e = .returned v:=by
 obtain ⟨_,_,_,_,h,-⟩:=h;exact ⟨_,h⟩
def Sb {n:Int} (hl:2<=l.length) (ch:l.length<=1000000) (aa:Bool) (a:oA) (c0:Nat) (w:wD) (hs:rowSits P w l a) (Z:∀k,P k->k<w.heap.size) :
 Calls prog 205 #[.agg #[.int .u8 k,.int .i64 n,str s,.slice a l.length c0],.bool aa] w (EndsA P (if aa then BZ l (l.length-1) else BZ l 0) (if aa then BZ l 0 else BZ l (l.length-1)) w):=by
 have X:=Ne w;obtain ⟨kb,ko,rfl,ci,ak⟩:=BJ hs (by intro e;subst e;simp at hl);obtain ⟨xa,xc,rx,O⟩:=ak 0 _ (QS Ab);obtain ⟨ya,yc,ry,U⟩:=ak (l.length-1) _ (QS Ab);clear ak hs;generalize BZ l 0=x at *;generalize BZ l (l.length-1)=y at *;obtain ⟨xk,xn,xs,xl⟩:=x;obtain ⟨yk,yn,ys,yl⟩:=y;replace rx:Row w ⟨kb,ko+0*4,none⟩ [.int .u8 xk,.int .i64 xn,str xs,.slice xa xl.length xc]:=rx;have hi:((l.length:Int)-1).toNat=l.length-1:=by omega
 replace ry:Row w ⟨kb,ko+((l.length:Int)-1).toNat*4,none⟩ [.int .u8 yk,.int .i64 yn,str ys,.slice ya yl.length yc]:=by rw [hi];exact ry
 refine Ad func205 ntmps205 rfl rfl ?_
 focus
  refine cS (eB [_,_,_,_] ?_);intro b1 w2 h4 x5 p6 z7;revert X O U rx ry;refine eE x5 ?_;intro X O U rx ry;refine eA [_,_,_,_] ?_;intro b8 w9 M bu cj ck;revert h4 X O U rx ry;refine eE bu ?_;intro h4 X O U rx ry;refine eA [_,_,_,_] ?_;intro cl bf G bv cm cn;revert M h4 X O U rx ry;refine eE bv ?_;intro M h4 X O U rx ry;refine eK ?_;refine Ap (λY=>Ext bf Y) 15 (.pure 0 (.pure 1 (.pure 2 (.pure 3 (.pure 4 (.pure 5 (.pure 6 (.pure 7 (.pure 8 (.pure 9 (.pure 10 (.pure 11 (.fork 12 (.fork 13 (.fork 14 .tail .none) .none) (.fork 13 (.fork 12 (.fork 14 .tail .none) .none) .none)))))))))))))) mixed AR (Aa Ag) ?_;intro bw bg _;have N:(λY=>Ext bf Y) bw:=bg;simp only at N;have b7:=h4;have bh:=rx;have bi:=ry;revert G M X O U;refine eY bg ?_;intro co G M X O U;refine ⟨N,?_⟩;refine eT ?_;refine Tq rfl (Dq [_,_,_,_] Ac rfl rfl rfl (λY hz=>(mw bh hz)) rfl rfl) ?_;refine eT ?_;refine Tq rfl (AL rfl rfl (gG _ Ab)) (Tq rfl Pi (Tq rfl (Bt Ac rfl rfl rfl (λY hz=>(mw bi hz)) rfl) ?_));refine Ax rfl (A3 Ca rfl) rfl ?_ aFh ?kr28;rintro _ cp ⟨cq,rfl,ap⟩;have aq:=ap.blk;dsimp only at aq;have bx:=ap.ext;have cr:=ap.pos;have ct:=ap.size;revert N G M X O U;refine eE bx ?_;intro N G M X O U;refine ⟨N,?_⟩;refine Ax rfl (A3 Ca rfl) rfl ?_ aFh Au;rintro _ cu ⟨cv,rfl,ar⟩;have au:=ar.blk;dsimp only at au;have bz:=ar.ext;have cw:=ar.pos;have cx:=ar.size;revert aq N G M X O U;refine eE bz ?_;intro aq N G M X O U;refine ⟨N,?_⟩;refine Ch [_,_,_,_] [_,_,_,_] rfl Ac rfl rfl rfl rfl rfl rfl aq rfl rfl ?_ Au;intro cy a5;have av:=a5.blk;have a6:=a5.fr;have cz:=a5.size;revert au N G M X;refine eF a6 ?_;intro au N G M X;have O:=mr O a6 (λb V h=>by (have h1:=Z b V;have e:b=_:=h;omega));have U:=mr U a6 (λb V h=>by (have h1:=Z b V;have e:b=_:=h;omega));refine ⟨N,?_⟩;refine Aq rfl (eS [_,_,_,_] au ?_);intro aw bj a7 z53;revert av G M X;refine eF a7 ?_;intro av G M X;have O:=mr O a7 (λb V h=>by (have h1:=Z b V;have e:b=_:=h;omega));have U:=mr U a7 (λb V h=>by (have h1:=Z b V;have e:b=_:=h;omega));refine cT (Aj ?_);rotate_left;refine Ax rfl (A3 Ca rfl) rfl ?_ aFh Au;rintro _ c1 ⟨c2,rfl,ax⟩;have aj:=ax.blk;dsimp only at aj;have b0:=ax.ext
  have c3:=ax.pos;have c4:=ax.size;revert N G M X O U;refine eE b0 ?_;intro N G M X O U;refine ⟨N,?_⟩;refine Ax rfl (A3 Ca rfl) rfl ?_ aFh Au;rintro _ c5 ⟨c6,rfl,ay⟩;have bk:=ay.blk;dsimp only at bk;have b2:=ay.ext;have c7:=ay.pos;have c8:=ay.size;revert aj N G M X O U;refine eE b2 ?_;intro aj N G M X O U;refine ⟨N,?_⟩;refine Ch [_,_,_,_] [_,_,_,_] rfl Ac rfl rfl rfl rfl rfl rfl bk rfl rfl ?_ Au;intro c9 a8;have az:=a8.blk;have a9:=a8.fr;have da:=a8.size;revert aj N G M X;refine eF a9 ?_;intro aj N G M X;have O:=mr O a9 (λb V h=>by (have h1:=Z b V;have e:b=_:=h;omega));have U:=mr U a9 (λb V h=>by (have h1:=Z b V;have e:b=_:=h;omega));refine ⟨N,?_⟩;refine Aq rfl (eS [_,_,_,_] aj ?_);intro a0 bl ba db;revert az G M X;refine eF ba ?_;intro az G M X;have O:=mr O ba (λb V h=>by (have h1:=Z b V;have e:b=_:=h;omega));have U:=mr U ba (λb V h=>by (have h1:=Z b V;have e:b=_:=h;omega));refine cT (Aj ?_);rotate_left
 . cases aa
   . refine eK ?_;refine Ap (λY=>Fr (λx=>x=b8) aw Y) 3 (.pure 0 (.pure 1 (.fork 2 .tail .none))) mixed AR (Aa Ag) ?_;intro b3 bm _;have ab:(λY=>Fr (λx=>x=b8) aw Y) b3:=mt bm;simp only at ab;have af:=bj;have ag:=av;revert G M X O U;refine eE bm ?_;intro G M X O U;refine ⟨ab,?_⟩;refine Tq rfl (xL [_,_,_,_] (λY hz=>(mu ag hz (by first|omega|(dsimp only;omega))))) (Tq rfl (xL [_,_,_,_] (λY hz=>(mu af hz (by first|omega|(dsimp only;omega))))) ?_);refine Ch [_,_,_,_] [_,_,_,_] rfl Ac rfl rfl rfl rfl rfl rfl M rfl rfl ?_ Au;intro dc bn;have a1:=bn.blk;have bb:=bn.fr;revert ab G X;refine eF bb ?_;intro ab G X;have O:=mr O bb (λb V h=>by (have h1:=Z b V;have e:b=_:=h;omega));have U:=mr U bb (λb V h=>by (have h1:=Z b V;have e:b=_:=h;omega));refine ⟨ab,?_⟩;refine Aq rfl (eS [_,_,_,_] G ?_);intro b9 ca al _;revert a1 X;refine eF al ?_;intro a1 X;have O:=mr O al (λb V h=>by (have h1:=Z b V;have e:b=_:=h;omega));have U:=mr U al (λb V h=>by (have h1:=Z b V;have e:b=_:=h;omega));refine cT (AU ?_);refine JI rfl Ac rfl rfl rfl rfl rfl rfl Af Af rfl rfl ?_;exact ⟨_,_,_,_,rfl,O,U,X⟩
   . refine eK ?_;refine Ap (λY=>Fr (λx=>x=b8) aw Y) 3 (.pure 0 (.pure 1 (.fork 2 .tail .none))) mixed AR (Aa (Aa Ag)) ?_;intro b4 bo _;have ac:(λY=>Fr (λx=>x=b8) aw Y) b4:=mt bo;simp only at ac;have af:=bj;have ag:=av;revert G M X O U;refine eE bo ?_;intro G M X O U;refine ⟨ac,?_⟩;refine Tq rfl (xL [_,_,_,_] (λY hz=>(mu af hz (by first|omega|(dsimp only;omega))))) (Tq rfl (xL [_,_,_,_] (λY hz=>(mu ag hz (by first|omega|(dsimp only;omega))))) ?_);refine Ch [_,_,_,_] [_,_,_,_] rfl Ac rfl rfl rfl rfl rfl rfl M rfl rfl ?_ Au;intro dd bp;have a2:=bp.blk;have bc:=bp.fr;revert ac G X;refine eF bc ?_;intro ac G X;have O:=mr O bc (λb V h=>by (have h1:=Z b V;have e:b=_:=h;omega));have U:=mr U bc (λb V h=>by (have h1:=Z b V;have e:b=_:=h;omega));refine ⟨ac,?_⟩;refine Aq rfl (eS [_,_,_,_] G ?_);intro cb cc am _;revert a2 X;refine eF am ?_;intro a2 X;have O:=mr O am (λb V h=>by (have h1:=Z b V;have e:b=_:=h;omega));have U:=mr U am (λb V h=>by (have h1:=Z b V;have e:b=_:=h;omega));refine eK ?_;refine JI rfl Ac rfl rfl rfl rfl rfl rfl Af Af rfl rfl ?_;exact ⟨_,_,_,_,rfl,U,O,X⟩
 . cases aa
   . refine eK ?_;refine Ap (λY=>Fr (λx=>x=b8) a0 Y) 3 (.pure 0 (.pure 1 (.fork 2 .tail .none))) mixed AR (Aa Ag) ?_;intro b5 bq _;have ad:(λY=>Fr (λx=>x=b8) a0 Y) b5:=mt bq;simp only at ad;have ah:=bl;have ai:=az;revert G M X O U;refine eE bq ?_;intro G M X O U;refine ⟨ad,?_⟩;refine Tq rfl (xL [_,_,_,_] (λY hz=>(mu ai hz (by first|omega|(dsimp only;omega))))) (Tq rfl (xL [_,_,_,_] (λY hz=>(mu ah hz (by first|omega|(dsimp only;omega))))) ?_);refine Ch [_,_,_,_] [_,_,_,_] rfl Ac rfl rfl rfl rfl rfl rfl M rfl rfl ?_ Au;intro de br;have a3:=br.blk;have bd:=br.fr;revert ad G X;refine eF bd ?_;intro ad G X;have O:=mr O bd (λb V h=>by (have h1:=Z b V;have e:b=_:=h;omega));have U:=mr U bd (λb V h=>by (have h1:=Z b V;have e:b=_:=h;omega));refine ⟨ad,?_⟩;refine Aq rfl (eS [_,_,_,_] G ?_);intro cd ce an _;revert a3 X;refine eF an ?_;intro a3 X;have O:=mr O an (λb V h=>by (have h1:=Z b V;have e:b=_:=h;omega));have U:=mr U an (λb V h=>by (have h1:=Z b V;have e:b=_:=h;omega));refine cT (AU ?_);refine JI rfl Ac rfl rfl rfl rfl rfl rfl Af Af rfl rfl ?_;exact ⟨_,_,_,_,rfl,O,U,X⟩
   . refine eK ?_;refine Ap (λY=>Fr (λx=>x=b8) a0 Y) 3 (.pure 0 (.pure 1 (.fork 2 .tail .none))) mixed AR (Aa (Aa Ag)) ?_;intro b6 bs _;have ae:(λY=>Fr (λx=>x=b8) a0 Y) b6:=mt bs;simp only at ae;have ah:=bl;have ai:=az;revert G M X O U;refine eE bs ?_;intro G M X O U;refine ⟨ae,?_⟩;refine Tq rfl (xL [_,_,_,_] (λY hz=>(mu ah hz (by first|omega|(dsimp only;omega))))) (Tq rfl (xL [_,_,_,_] (λY hz=>(mu ai hz (by first|omega|(dsimp only;omega))))) ?_);refine Ch [_,_,_,_] [_,_,_,_] rfl Ac rfl rfl rfl rfl rfl rfl M rfl rfl ?_ Au;intro df bt;have a4:=bt.blk;have be:=bt.fr;revert ae G X;refine eF be ?_;intro ae G X;have O:=mr O be (λb V h=>by (have h1:=Z b V;have e:b=_:=h;omega));have U:=mr U be (λb V h=>by (have h1:=Z b V;have e:b=_:=h;omega));refine ⟨ae,?_⟩;refine Aq rfl (eS [_,_,_,_] G ?_);intro cf cg ao _;revert a4 X;refine eF ao ?_;intro a4 X;have O:=mr O ao (λb V h=>by (have h1:=Z b V;have e:b=_:=h;omega));have U:=mr U ao (λb V h=>by (have h1:=Z b V;have e:b=_:=h;omega));refine eK ?_;refine JI rfl Ac rfl rfl rfl rfl rfl rfl Af Af rfl rfl ?_;exact ⟨_,_,_,_,rfl,U,O,X⟩
end
mutual
def aZ (ps:List PD):Nd->Prop
 | .mk k _ s l=>((k=50\/k=51)->(CD ps s).isSome=true)/\WL ps l
def WL (ps:List PD):List Nd->Prop
 | []=>True
 | t::r=>aZ ps t/\WL ps r
end
def JJ {ps:List PD}:∀ {l:List Nd} {i:Nat} {t:Nd},WL ps l->l[i]? = some t->aZ ps t
 | x::r,0,t,h,e=>by simp only [gX,gE] at e;subst e;exact h.1
 | x::r,i+1,t,h,e=>JJ h.2 (by simpa using e)
 | [],_,_,_,e=>by simp at e
def Hn:∀ {l:List Nd} {i:Nat} {t:Nd},DP l=true->l[i]? = some t->t.isStmt=true
 | x::r,0,t,h,e=>by simp only [gX,gE] at e;subst e;simp only [DP,gD] at h;exact h.1
 | x::r,i+1,t,h,e=>by simp only [DP,gD] at h;exact Hn h.2 (by simpa using e)
 | [],_,_,_,e=>by simp at e
structure StOk (ps:List PD) (t:Nd):Prop where
 wf:t.wf
 size:t.size<=1000000
 calls:aZ ps t
def WM (c:RC) (d:Nat):Prop:= ∀(P:nP) (b:Bool) (t:Nd) (r:Rn) (a:oA) (m:Nat) (w:wD),t.isStmt=true->StOk c.g.procs t->AI c.g.procs d b t r≠.error (-1)->t.sits P w a->Run c P w r ->
 Calls prog 162 #[.pointer (some ⟨c.rb,0,none⟩),t.val a m,.bool b] w (Dz c P (AI c.g.procs d b t r) w)
def Ey (c:RC) (d:Nat):Prop:= ∀(P:nP) (b:Bool) (t:Nd) (r:Rn) (a:oA) (m:Nat) (w:wD),t.isBlock=true->StOk c.g.procs t->A0 (AI c.g.procs d) b t r≠.error (-1)->t.sits P w a->Run c P w r ->
 Calls prog 121 #[.pointer (some ⟨c.rb,0,none⟩),t.val a m,.bool b] w (Dz c P (A0 (AI c.g.procs d) b t r) w)
section
variable {c:RC} {T:nP}
def Tk {d:Nat} (IH:WM c d):Ey c d:=by
 intro P b t r a m w hb ar ad N h;have X:=Ne w;have HR:=fZ h;obtain ⟨k,n,s,l⟩:=t;have Y:DP l=true:=by
  unfold Nd.isBlock at hb;simp only [gD] at hb;exact hb.2
 obtain ⟨au,hz,av⟩:=ar;obtain ⟨-,-,-,-,-,-,ae⟩:=au;have af:WL c.g.procs l:=av.2;have a3:=Co l;simp only [Nd.size] at hz;have hX:A0 (AI c.g.procs d) b (.mk k n s l) r=Ga (AI c.g.procs d b) (if b then l.reverse else l) r:=rfl;rw [hX] at ad ⊢;have N:rowSits P w l a:=N;change Calls prog _ #[_,.agg #[.int .u8 k,.int .i64 n,str s,.slice a l.length m],_] w _;generalize hL:(if b then l.reverse else l)=L at *;have a4:L.length=l.length:=by rw [<-hL];split<;>simp
 have ag:∀j,j<l.length->l[if b then l.length-1-j else j]? = L[j]? := λj hj=>by
  rw [<-hL];cases b
  . rfl
  . simp only [if_true];rw [List.getElem?_reverse hj]
 refine Ad func121 ntmps121 rfl rfl ?_;refine cS (eB [_,_,_,_] ?_);intro b1 w2 h4 x5 p6 z7;have X:=X.ext x5;have N:=mS N x5;refine cT ?_;have h1:=HR.out.more X;have F:Fr (λk=> ¬P k) w w2:=mt X;refine eK ?_;refine C1 (AL rfl rfl (gG _ Ab)) (C1 Pa (cN (C1 Pf (C1 (Pl h4) (C1 Pz (C1 Mv (cT ?_)))))));refine As ?_;refine AF (ι:=Nat) (λj=>[(0,.pointer (some ⟨c.rb,0,none⟩)),(2,.bool b),(4,.pointer (some ⟨b1,0,none⟩)),(6,.int .i64 ((l.length:Int)-1)),(14,.int .i64 l.length),(15,.int .i64 j)])
  (λj w'=> ∃V,j<=l.length/\Run c (Cc P w w2) w' V/\Blk w' b1 [.int .u8 k,.int .i64 n,str s,.slice a l.length m]/\rowSits P w' l a/\Fr (λk=> ¬P k) w w'/\Ga (AI c.g.procs d b) L r=Ga (AI c.g.procs d b) (L.drop j) V)
  (λj=>l.length-j) 0 sB ⟨r,gI _,h1,h4,N,F,rfl⟩ ?_
 rintro j w1 ⟨V,hj,h1,h4,N,F,M⟩;by_cases ah:j<l.length
 . obtain ⟨kb,ko,rfl,a5,Z⟩:=BJ N (by intro e;subst e;simp at ah);have G:=ag j ah;rw [fY (by omega:j<L.length)] at G;rw [gW (by omega:j<L.length),Ga] at M;have ai:AI c.g.procs d b L[j] V≠.error (-1):=λe=>ad (by rw [M,e];rfl)
   have O:∀er,AI c.g.procs d b L[j] V = .error er->Ga (AI c.g.procs d b) L r = .error er:=λer e=>by rw [M,e];rfl
   have U:∀r2,AI c.g.procs d b L[j] V = .ok r2->Ga (AI c.g.procs d b) L r=Ga (AI c.g.procs d b) (L.drop (j+1)) r2:=λr2 e=>by rw [M,e];rfl
   cases b with
   | false=>
    simp only [iS,if_true,if_false] at G;obtain ⟨xa,xc,rx,sx⟩:=Z _ _ G;have aa:=Hn Y G;have ab:=JJ af G;have ac:=BN ae _ (iI G);have aw:=D4 (iI G);generalize L[j]=x at *;have HS:=fZ (λw1 h1 h2=>IH (Cc P w w2) false x V xa xc w1 aa ⟨ac,Ab,ab⟩ ai h1 h2);unfold Dz at HS;obtain ⟨xk,xn,xs,xl⟩:=x;replace rx:Row w1 ⟨kb,ko+j*4,none⟩ [.int .u8 xk,.int .i64 xn,str xs,.slice xa xl.length xc]:=rx
    focus
     refine eK ?_;refine A4 (AN AR rfl (HS.out _ (mD Af (λb h=>gA h)) Af) (λ_ _ h=>h.ret)) rfl ?_ ?_;rotate_left;intro a6 a7 ax
     rotate_right 1
     rintro _ az ⟨aj,⟨⟩,ak,al,am⟩;revert F h4 N sx;refine eZ am ?_;intro a0 F h4 N sx;refine Al (Ah (Ai (Ak (C1 V7 (C1 Mv (Al ?_))))));rotate_left;refine AV (AG (AG (AV (AE ?_))));rotate_left
    . exact Av (j+1) sB ⟨aj,Ab,al,Af,Af,F,U _ ak⟩ Ab
    . obtain ⟨er,g1,g2,g3⟩:=ax;exact gB ⟨_,rfl,er,O _ g1,g2,F.fr g3 (λk hk=>gA (λh=>hk (gA h)))⟩
   | true=>
    simp only [if_true,if_false] at G;obtain ⟨xa,xc,rx,sx⟩:=Z _ _ G;have aa:=Hn Y G;have ab:=JJ af G;have ac:=BN ae _ (iI G);have aw:=D4 (iI G);generalize L[j]=x at *;have HS:=fZ (λw1 h1 h2=>IH (Cc P w w2) true x V xa xc w1 aa ⟨ac,Ab,ab⟩ ai h1 h2);unfold Dz at HS;obtain ⟨xk,xn,xs,xl⟩:=x;replace rx:Row w1 ⟨kb,ko+((l.length:Int)-1-(j:Int)).toNat*4,none⟩ [.int .u8 xk,.int .i64 xn,str xs,.slice xa xl.length xc]:=by rw [show ((l.length:Int)-1-(j:Int)).toNat=l.length-1-j by omega];exact rx
    focus
     refine eK ?_;refine C1 (AL rfl rfl (gG _ Ab)) ?_;refine eK ?_;refine A4 (AN AR rfl (HS.out _ (mD Af (λb h=>gA h)) Af) (λ_ _ h=>h.ret)) rfl ?_ ?_;rotate_left;intro a8 a9 ay
     rotate_right 1
     rintro _ a1 ⟨an,⟨⟩,ao,ap,aq⟩;revert F h4 N sx;refine eZ aq ?_;intro a2 F h4 N sx;refine Al (Ah (Ai (Ak (C1 V7 (C1 Mv (Al ?_))))));rotate_left;refine AV (AG (AG (AV (AE ?_))));rotate_left
    . exact Av (j+1) sB ⟨an,Ab,ap,Af,Af,F,U _ ao⟩ Ab
    . obtain ⟨er,g1,g2,g3⟩:=ay;exact gB ⟨_,rfl,er,O _ g1,g2,F.fr g3 (λk hk=>gA (λh=>hk (gA h)))⟩
 . obtain rfl:j=l.length:=by omega
   rw [List.drop_of_length_le Ab] at M;rw [M];refine cS (C1 V3 (cT (Aj (Dd (BF (Ay (Ay (AS (Bi rfl ?_)))))))));exact gA ⟨V,rfl,rfl,h1.less HR.out.sub (λk=>gA),F⟩
end
section
variable {c:RC} {T:nP}
def Run.lt (h:Run c P w r):∀k,P k->k<w.heap.size:=λk G=>by
 obtain ⟨_,_,h⟩:=h;exact (h.off k G).2
def StOk.kid {ps:List PD} {n:Int} (h:StOk ps (.mk k n s l)) {t:Nd} (G:l[i]? = some t):StOk ps t:=by
 obtain ⟨M,N,O⟩:=h;obtain ⟨-,-,-,-,-,-,U⟩:=M;have:=D4 (iI G);simp only [Nd.size] at N;exact ⟨BN U _ (iI G),Ab,JJ O.2 G⟩
def WN (hc:c.fuel<=10000) {d:Nat} (IH:Ey c d) (b:Bool) {n:Int} {z u:Nd} (hx:x.isExpr=true) (hy:y.isBlock=true) (hz:z.isBlock=true) (hu:u.isExpr=true) (ae:StOk c.g.procs (.mk 52 n s [x,y,z,u])) (a:oA) (m:Nat) (w:wD)
 (ai:((BY (if b then u else x) r).bind λp=>(A0 (AI c.g.procs d) b (if p.1 then y else z) p.2).bind (BI (if b then x else u) p.1))≠.error (-1)) (hs:(Nd.mk 52 n s [x,y,z,u]).sits P w a) (h:Run c P w r) :
 Calls prog 187 #[.pointer (some ⟨c.rb,0,none⟩),(Nd.mk 52 n s [x,y,z,u]).val a m,.bool b] w (Dz c P ((BY (if b then u else x) r).bind λp=>(A0 (AI c.g.procs d) b (if p.1 then y else z) p.2).bind (BI (if b then x else u) p.1)) w):=by
 have X:=Ne w;have HR:=fZ h;have N:=h.lt;have hs:rowSits P w [x,y,z,u] a:=hs;obtain ⟨kb,ko,rfl,aj,af⟩:=BJ hs AQ;obtain ⟨ya,yc,Y,sy⟩:=af 1 y rfl;obtain ⟨za,zc,rz,sz⟩:=af 2 z rfl;have bz:=ae.kid (i:=0) rfl;have a1:=ae.kid (i:=1) rfl;have a2:=ae.kid (i:=2) rfl;have b0:=ae.kid (i:=3) rfl;have HE:=fZ (λw1 U h2=>Sb (k:=52) (n:=n) (s:=s) (l:=[x,y,z,u]) (P:=P) AQ AQ b (some ⟨kb,ko,none⟩) m w1 U h2);have hf:(if b then u else x).isExpr=true:=by cases b <;> assumption
 have hg:(if b then x else u).isExpr=true:=by cases b<;>assumption
 have a3:StOk c.g.procs (if b then u else x):=by cases b<;>assumption
 have a4:StOk c.g.procs (if b then x else u):=by cases b<;>assumption
 simp only [show BZ [x,y,z,u] ([x,y,z,u].length-1)=u from rfl,show BZ [x,y,z,u] 0=x from rfl] at HE;generalize (if b then u else x)=f at *;generalize (if b then x else u)=g at *;obtain ⟨fk,fn,fs,fl⟩:=f;obtain ⟨gk,gn,gs,gl⟩:=g;obtain ⟨yk,yn,ys,yl⟩:=y;obtain ⟨zk,zn,zs,zl⟩:=z;replace Y:Row w ⟨kb,ko+1*4,none⟩ [.int .u8 yk,.int .i64 yn,str ys,.slice ya yl.length yc]:=Y;replace rz:Row w ⟨kb,ko+2*4,none⟩ [.int .u8 zk,.int .i64 zn,str zs,.slice za zl.length zc]:=rz;change Calls prog _ #[_,.agg #[.int .u8 52,.int .i64 n,str s,.slice (some ⟨kb,ko,none⟩) 4 m],_] w _;have b2:=N kb aj;obtain ⟨Z,hZ⟩:∃Z,Z=((BY (.mk fk fn fs fl) r).bind λp=>(A0 (AI c.g.procs d) b (if p.1 then .mk yk yn ys yl else .mk zk zn zs zl) p.2).bind (BI (.mk gk gn gs gl) p.1)):=⟨_,rfl⟩
 rw [<-hZ] at ai ⊢;have x1:∀er,BY (.mk fk fn fs fl) r = .error er->Z = .error er:=λer e=>by rw [hZ,e];rfl
 have x2:∀q r1,BY (.mk fk fn fs fl) r = .ok (q,r1)->Z=(A0 (AI c.g.procs d) b (if q then .mk yk yn ys yl else .mk zk zn zs zl) r1).bind (BI (.mk gk gn gs gl) q):=λq r1 e=>by rw [hZ,e];rfl
 refine Ad func187 ntmps187 rfl rfl (cS (eB [_,_,_,_] ?_));intro b1 w2 h4 x5 p6 z7;revert X sy sz;refine eE x5 ?_;intro X sy sz;revert hs Y rz;refine eE x5 ?_;intro hs Y rz;refine kQ (HE.out _ Af (λk hk=>by have:=N k hk;omega)) ?_;rintro _ b3 ⟨a8,m9,am,an,⟨⟩,V,G,a5⟩;revert h4 X sy sz Y rz;refine eY a5 ?_;intro b4 h4 X sy sz Y rz;refine eK ?_;refine eA [_,_,_,_] ?_;intro b5 b6 ak a6 b7 b8;revert V G h4 X sy sz Y rz;refine eE a6 ?_;intro V G h4 X sy sz Y rz;refine eA [_,_,_,_] ?_;intro b9 ca al a7 cb cc;revert ak V G h4 X sy sz Y rz;refine eE a7 ?_;intro ak V G h4 X sy sz Y rz;refine eS [_,_,_,_] ak ?_;intro cd ao f35 ce;have al:=al.fr f35 Ab;have V:=mr V f35 (λb hb h=>by (have U:=N b hb;omega));have G:=mr G f35 (λb hb h=>by (have U:=N b hb;omega));revert h4 X;refine eF f35 ?_;intro h4 X;have sy:=mr sy f35 (λb hb h=>by (have U:=N b hb;omega));have sz:=mr sz f35 (λb hb h=>by (have U:=N b hb;omega));revert Y rz;refine eF f35 ?_;intro Y rz;refine eS [_,_,_,_] al ?_;intro ad ac aa cf;have ao:=ao.fr aa Ab;have V:=mr V aa (λb hb h=>by (have U:=N b hb;omega));have G:=mr G aa (λb hb h=>by (have U:=N b hb;omega))
 revert h4 X;refine eF aa ?_;intro h4 X;have sy:=mr sy aa (λb hb h=>by (have U:=N b hb;omega));have sz:=mr sz aa (λb hb h=>by (have U:=N b hb;omega));revert Y rz;refine eF aa ?_;intro Y rz;refine cT ?_;have U:=HR.out.more X;have F:Fr (λk=> ¬P k) w ad:=mt X;have HH:=fZ (λw1 U h2=>OU (c:=c) (P:=Cc P w ad) (r:=r) hc _ a3.wf hf a8 m9 w1 U h2);unfold Zh at HH;have HY:=fZ (λq r1 (e:BY (.mk fk fn fs fl) r = .ok (q,r1)) (hq:q=true) w1 U h2=>IH (Cc P w ad) b _ r1 ya yc w1 hy a1 (λe2=>ai (by rw [x2 _ _ e,hq];simp only [if_true];rw [e2];rfl)) U h2);have HZ:=fZ (λq r1 (e:BY (.mk fk fn fs fl) r = .ok (q,r1)) (hq:q=false) w1 U h2=>IH (Cc P w ad) b _ r1 za zc w1 hz a2 (λe2=>ai (by rw [x2 _ _ e,hq];simp only [iS,if_false];rw [e2];rfl)) U h2);have HA:=fZ (λq r2 w1 U h2=>QQ (c:=c) (P:=Cc P w ad) (r:=r2) hc q _ a4.wf hg am an w1 U h2);unfold Dz at HY HZ HA
 focus
  refine eK ?_;refine A4 (AN AR rfl (HH.out _ (mD Af (λb h=>gA h)) Af) (λ_ _ h=>h.ret)) rfl ?_ ?_;rotate_left;intro cg ch a9
  rotate_right 1
  rintro _ bb ⟨bc,bd,⟨⟩,O,be,ab⟩;revert ac G h4 sy sz;refine eF ab ?_;intro ac G h4 sy sz;have Y:=mN Y ab (λh=>h (gA aj));have rz:=mN rz ab (λh=>h (gA aj));have F:=mB F ab (λk hk=>gA (λh=>hk (gA h)));refine C1 Pa (cT (Aj (cS (C1 Mv (cT (FD rfl (λM=>?_) (λM=>?_)))))));refine eK ?_;refine A4 (AN AR rfl (HY.out _ _ Af Af _ (mD Af (λb h=>gA h)) Af) (λ_ _ h=>h.ret)) rfl ?_ ?_;rotate_left;intro bf bg ap
  rotate_right 1
  rintro _ bh ⟨bi,⟨⟩,ag,bj,aq⟩;revert ac G F;refine eF aq ?_;intro ac G F;refine eK ?_;refine A4 (AN AR rfl (HA.out _ _ _ (mD Af (λb h=>gA h)) Af) (λ_ _ h=>h.ret)) rfl ?_ ?_;rotate_left;intro bk bl ar
  rotate_right 1
  rintro _ bm ⟨bn,⟨⟩,bo,au,av⟩;have F:=mB F av (λk hk=>gA (λh=>hk (gA h)));refine Al (Bi rfl ?_);rotate_left;refine AE ?_;rotate_left;refine AG (AE ?_);rotate_left;refine eK ?_;refine A4 (AN AR rfl (HZ.out _ _ Af Af _ (mD Af (λb h=>gA h)) Af) (λ_ _ h=>h.ret)) rfl ?_ ?_;rotate_left;intro bp bq aw
  rotate_right 1
  rintro _ br ⟨bs,⟨⟩,ah,bt,ax⟩;revert ac G F;refine eF ax ?_;intro ac G F;refine eK ?_;refine A4 (AN AR rfl (HA.out _ _ _ (mD Af (λb h=>gA h)) Af) (λ_ _ h=>h.ret)) rfl ?_ ?_;rotate_left;intro bu bv ay
  rotate_right 1
  rintro _ ba ⟨bw,⟨⟩,bx,az,a0⟩;have F:=mB F a0 (λk hk=>gA (λh=>hk (gA h)));refine Al (Bi rfl ?_);rotate_left;refine AE ?_;rotate_left;refine AG (AE ?_);rotate_left;refine AG (AE ?_);rotate_left
 . subst M;exact Ex au F HR.out.sub (λk=>gA) (by rw [x2 _ _ O];simp only [if_true,iS,if_false,ag,gZ];assumption)
 . subst M;exact BA ar F (λk=>gA) (λer e=>by rw [x2 _ _ O];simp only [if_true,iS,if_false,ag,gZ];exact e)
 . subst M;exact BA ap F (λk=>gA) (λer e=>by rw [x2 _ _ O];simp only [if_true,iS,if_false,e,gZ])
 . subst M;exact Ex az F HR.out.sub (λk=>gA) (by rw [x2 _ _ O];simp only [if_true,iS,if_false,ah,gZ];assumption)
 . subst M;exact BA ay F (λk=>gA) (λer e=>by rw [x2 _ _ O];simp only [if_true,iS,if_false,ah,gZ];exact e)
 . subst M;exact BA aw F (λk=>gA) (λer e=>by rw [x2 _ _ O];simp only [if_true,iS,if_false,e,gZ])
 . exact BA a9 F (λk=>gA) x1
def bA (hc:c.fuel<=10000) {d:Nat} (IH:Ey c d) (b:Bool) {n:Int} {z u:Nd} (hx:x.isExpr=true) (hy:y.isBlock=true) (bb:z.isBlock=true) (hu:u.isExpr=true) (ao:StOk c.g.procs (.mk 53 n s [x,y,z,u])) (a:oA) (m:Nat) (w:wD)
 (am:((BI (if b then u else x) true r).bind (Cz (A0 (AI c.g.procs d) b y) (A0 (AI c.g.procs d) b z) (if b then x else u) (if b then u else x) d))≠.error (-1)) (hs:(Nd.mk 53 n s [x,y,z,u]).sits P w a) (h:Run c P w r) :
 Calls prog 188 #[.pointer (some ⟨c.rb,0,none⟩),(Nd.mk 53 n s [x,y,z,u]).val a m,.bool b] w (Dz c P ((BI (if b then u else x) true r).bind (Cz (A0 (AI c.g.procs d) b y) (A0 (AI c.g.procs d) b z) (if b then x else u) (if b then u else x) d)) w):=by
 have X:=Ne w;have HR:=fZ h;have ab:=h.lt;have hs:rowSits P w [x,y,z,u] a:=hs;obtain ⟨kb,ko,rfl,aa,ap⟩:=BJ hs AQ;obtain ⟨ya,yc,O,Y⟩:=ap 1 y rfl;obtain ⟨za,zc,U,sz⟩:=ap 2 z rfl;have b5:=ao.kid (i:=0) rfl;have bc:=ao.kid (i:=1) rfl;have bd:=ao.kid (i:=2) rfl;have b6:=ao.kid (i:=3) rfl;have HE:=fZ (λw1 h1 h2=>Sb (k:=53) (n:=n) (s:=s) (l:=[x,y,z,u]) (P:=P) AQ AQ b (some ⟨kb,ko,none⟩) m w1 h1 h2);have hf:(if b then u else x).isExpr=true:=by cases b <;> assumption
 have hg:(if b then x else u).isExpr=true:=by cases b<;>assumption
 have be:StOk c.g.procs (if b then u else x):=by cases b<;>assumption
 have bf:StOk c.g.procs (if b then x else u):=by cases b<;>assumption
 simp only [show BZ [x,y,z,u] ([x,y,z,u].length-1)=u from rfl,show BZ [x,y,z,u] 0=x from rfl] at HE;generalize (if b then u else x)=f at *;generalize (if b then x else u)=g at *;obtain ⟨fk,fn,fs,fl⟩:=f;obtain ⟨gk,gn,gs,gl⟩:=g;obtain ⟨yk,yn,ys,yl⟩:=y;obtain ⟨zk,zn,zs,zl⟩:=z;replace O:Row w ⟨kb,ko+1*4,none⟩ [.int .u8 yk,.int .i64 yn,str ys,.slice ya yl.length yc]:=O;replace U:Row w ⟨kb,ko+2*4,none⟩ [.int .u8 zk,.int .i64 zn,str zs,.slice za zl.length zc]:=U;change Calls prog _ #[_,.agg #[.int .u8 53,.int .i64 n,str s,.slice (some ⟨kb,ko,none⟩) 4 m],_] w _;have b7:=ab kb aa;obtain ⟨B1,av⟩:∃B1,B1=A0 (AI c.g.procs d) b (.mk yk yn ys yl):=⟨_,rfl⟩;obtain ⟨B2,aw⟩:∃B2,B2=A0 (AI c.g.procs d) b (.mk zk zn zs zl):=⟨_,rfl⟩
 rw [<-av,<-aw] at am ⊢;obtain ⟨Z,hZ⟩:∃Z,Z=((BI (.mk fk fn fs fl) true r).bind (Cz B1 B2 (.mk gk gn gs gl) (.mk fk fn fs fl) d)):=⟨_,rfl⟩
 rw [<-hZ] at am ⊢;have x1:∀er,BI (.mk fk fn fs fl) true r = .error er->Z = .error er:=λer e=>by rw [hZ,e];rfl
 have x2:∀r1,BI (.mk fk fn fs fl) true r = .ok r1->Z=Cz B1 B2 (.mk gk gn gs gl) (.mk fk fn fs fl) d r1:=λr1 e=>by rw [hZ,e];rfl
 refine Ad func188 ntmps188 rfl rfl (cS (eB [_,_,_,_] ?_));intro b1 w2 h4 x5 p6 z7;revert X Y sz;refine eE x5 ?_;intro X Y sz;revert hs O U;refine eE x5 ?_;intro hs O U;refine kQ (HE.out _ Af (λk hk=>by have:=ab k hk;omega)) ?_;rintro _ b8 ⟨a8,m9,an,aq,⟨⟩,G,M,bg⟩;revert h4 X Y sz O U;refine eY bg ?_;intro b9 h4 X Y sz O U;refine eK ?_;refine eA [_,_,_,_] ?_;intro az ca ax bh cb cc;revert G M h4 X Y sz O U;refine eE bh ?_;intro G M h4 X Y sz O U;refine eA [_,_,_,_] ?_;intro a0 cd ay bi ce cf;revert ax G M h4 X Y sz O U;refine eE bi ?_;intro ax G M h4 X Y sz O U;refine eS [_,_,_,_] ax ?_;intro cg N f35 ch;have ay:=ay.fr f35 Ab;have G:=mr G f35 (λb hb h=>by (have h1:=ab b hb;omega));have M:=mr M f35 (λb hb h=>by (have h1:=ab b hb;omega));revert h4 X;refine eF f35 ?_;intro h4 X;have Y:=mr Y f35 (λb hb h=>by (have h1:=ab b hb;omega));have sz:=mr sz f35 (λb hb h=>by (have h1:=ab b hb;omega));revert O U;refine eF f35 ?_;intro O U;refine eS [_,_,_,_] ay ?_;intro al V ae ci;have N:=N.fr ae Ab;have G:=mr G ae (λb hb h=>by (have h1:=ab b hb;omega));have M:=mr M ae (λb hb h=>by (have h1:=ab b hb;omega))
 revert h4 X;refine eF ae ?_;intro h4 X;have Y:=mr Y ae (λb hb h=>by (have h1:=ab b hb;omega));have sz:=mr sz ae (λb hb h=>by (have h1:=ab b hb;omega));revert O U;refine eF ae ?_;intro O U;refine cT ?_;have h1:=HR.out.more X;have F:Fr (λk=> ¬P k) w al:=mt X;have HH:=fZ (λr1 w1 h1 h2=>OU (c:=c) (P:=Cc P w al) (r:=r1) hc _ bf.wf hg an aq w1 h1 h2);unfold Zh at HH;have HA:=fZ (λq r2 w1 h1 h2=>QQ (c:=c) (P:=Cc P w al) (r:=r2) hc q _ be.wf hf a8 m9 w1 h1 h2);unfold Dz at HA
 focus
  refine eK ?_;refine A4 (AN AR rfl (HA.out _ _ _ (mD Af (λb h=>gA h)) Af) (λ_ _ h=>h.ret)) rfl ?_ ?_;rotate_left;intro cj ck bj
  rotate_right 1
  rintro _ bm ⟨a1,⟨⟩,a2,ar,af⟩;revert V N G M h4 Y sz;refine eF af ?_;intro V N G M h4 Y sz;have O:=mN O af (λh=>h (gA aa));have U:=mN U af (λh=>h (gA aa));have F:=mB F af (λk hk=>gA (λh=>hk (gA h)));refine cT ?_;rotate_left;refine AG (AE ?_);rotate_left
 . refine As ?_;have bk:=x2 _ a2;refine AF (ι:=Nat) (λ_=>[(0,.pointer (some ⟨c.rb,0,none⟩)),(2,.bool b),(4,.pointer (some ⟨b1,0,none⟩)),(6,.pointer (some ⟨az,0,none⟩)),(7,.pointer (some ⟨a0,0,none⟩))])
    (λj w'=> ∃rj,Run c (Cc P w al) w' rj/\Blk w' b1 [.int .u8 53,.int .i64 n,str s,.slice (some ⟨kb,ko,none⟩) 4 m]/\Blk w' az [.int .u8 fk,.int .i64 fn,str fs,.slice a8 fl.length m9]/\Blk w' a0 [.int .u8 gk,.int .i64 gn,str gs,.slice an gl.length aq]/\Row w' ⟨kb,ko+1*4,none⟩ [.int .u8 yk,.int .i64 yn,str ys,.slice ya yl.length yc]/\Row w' ⟨kb,ko+2*4,none⟩ [.int .u8 zk,.int .i64 zn,str zs,.slice za zl.length zc] /\
     (Nd.mk fk fn fs fl).sits P w' a8/\(Nd.mk gk gn gs gl).sits P w' an/\(Nd.mk yk yn ys yl).sits P w' ya/\(Nd.mk zk zn zs zl).sits P w' za/\Fr (λk=> ¬P k) w w'/\Z=Cz B1 B2 (.mk gk gn gs gl) (.mk fk fn fs fl) j rj)
    (λj=>j) d sB ⟨a1,ar,h4,N,V,O,U,G,M,Y,sz,F,bk⟩ ?_
   rintro j w1 ⟨rj,ar,h4,N,V,O,U,G,M,Y,sz,F,hz⟩;cases j with
   | zero=>exact absurd hz (λe=>am e)
   | succ j=>
    have y1:∀er,B1 rj = .error er->Z = .error er:=λer e=>by rw [hz];simp only [Cz,e,gZ]
    have y2:∀r1 er,B1 rj = .ok r1->BY (.mk gk gn gs gl) r1 = .error er->Z = .error er:=λr1 er e e2=>by rw [hz];simp only [Cz,e,e2,gZ]
    have y3:∀r1 r2,B1 rj = .ok r1->BY (.mk gk gn gs gl) r1 = .ok (true,r2)->Z = .ok r2:=λr1 r2 e e2=>by rw [hz];simp only [Cz,e,e2,gZ,if_true]
    have y4:∀r1 r2,B1 rj = .ok r1->BY (.mk gk gn gs gl) r1 = .ok (false,r2)->Z=(B2 r2).bind λr=>(BI (.mk fk fn fs fl) false r).bind (Cz B1 B2 (.mk gk gn gs gl) (.mk fk fn fs fl) j):=λr1 r2 e e2=>by rw [hz];simp only [Cz,e,e2,gZ,iS,if_false]
    have HY:=fZ (λw1 h1 h2=>IH (Cc P w al) b _ rj ya yc w1 hy bc (λe2=>am (y1 _ (by rw [av];exact e2))) h1 h2);have HZ:=fZ (λr1 q r2 (e:B1 rj = .ok r1) (e2:BY (.mk gk gn gs gl) r1 = .ok (q,r2)) (hq:q=false) w1 h1 h2=>IH (Cc P w al) b _ r2 za zc w1 bb bd (λe3=>am (by subst hq;rw [y4 _ _ e e2,aw,e3];rfl)) h1 h2);rw [<-av] at HY;rw [<-aw] at HZ;unfold Dz at HY HZ
    focus
     refine eK ?_;refine A4 (AN AR rfl (HY.out _ (mD Af (λb h=>gA h)) Af) (λ_ _ h=>h.ret)) rfl ?_ ?_;rotate_left;intro cl cm bl
     rotate_right 1
     rintro _ bn ⟨bo,⟨⟩,ac,bp,ag⟩;revert h4 N V;refine eF ag ?_;intro h4 N V;have O:=mN O ag (λh=>h (gA aa));have U:=mN U ag (λh=>h (gA aa));revert G M Y sz F;refine eF ag ?_;intro G M Y sz F;refine eK ?_;refine A4 (AN AR rfl (HH.out _ _ (mD Af (λb h=>gA h)) Af) (λ_ _ h=>h.ret)) rfl ?_ ?_;rotate_left;intro bq br a3
     rotate_right 1
     rintro _ bs ⟨bt,bu,⟨⟩,ah,a4,ai⟩;revert h4 N V;refine eF ai ?_;intro h4 N V;have O:=mN O ai (λh=>h (gA aa));have U:=mN U ai (λh=>h (gA aa));revert G M Y sz F;refine eF ai ?_;intro G M Y sz F;refine cT (FD rfl (λad=>?_) (λad=>?_));refine eK ?_;refine EA rfl ?_;rotate_left;refine eK ?_;refine A4 (AN AR rfl (HZ.out _ _ _ Af Af Af _ (mD Af (λb h=>gA h)) Af) (λ_ _ h=>h.ret)) rfl ?_ ?_;rotate_left;intro bv bw a5
     rotate_right 1
     rintro _ bx ⟨bz,⟨⟩,au,b0,aj⟩;revert h4 N V;refine eF aj ?_;intro h4 N V;have O:=mN O aj (λh=>h (gA aa));have U:=mN U aj (λh=>h (gA aa));revert G M Y sz F;refine eF aj ?_;intro G M Y sz F;refine eK ?_;refine A4 (AN AR rfl (HA.out _ _ _ (mD Af (λb h=>gA h)) Af) (λ_ _ h=>h.ret)) rfl ?_ ?_;rotate_left;intro b2 b3 a6
     rotate_right 1
     rintro _ b4 ⟨a7,⟨⟩,a9,ba,ak⟩;revert h4 N V;refine eF ak ?_;intro h4 N V;have O:=mN O ak (λh=>h (gA aa));have U:=mN U ak (λh=>h (gA aa));revert G M Y sz F;refine eF ak ?_;intro G M Y sz F;refine Al (Ah ?_);rotate_left;refine AV (AG (AV (AE ?_)));rotate_left;refine AG (AV (AG (AV (AE ?_))));rotate_left;refine AG (AG (AV (AG (AV (AE ?_)))));rotate_left;refine AG (AV (AG (AV (AE ?_))));rotate_left
    . subst ad;exact Ex a4 F HR.out.sub (λk=>gA) (y3 _ _ ac ah)
    . subst ad;exact Av j sB ⟨a7,ba,Af,Af,Af,Af,Af,Af,Af,Af,Af,F,by rw [y4 _ _ ac ah,au];simp only [gZ];rw [a9]⟩ Ab
    . subst ad;exact BA a6 F (λk=>gA) (λer e=>by rw [y4 _ _ ac ah,au];simp only [gZ];rw [e])
    . subst ad;exact BA a5 F (λk=>gA) (λer e=>by rw [y4 _ _ ac ah,e];rfl)
    . exact BA a3 F (λk=>gA) (λer e=>y2 _ _ ac e)
    . exact BA bl F (λk=>gA) y1
 . exact BA bj F (λk=>gA) x1
end
section
variable {c:RC} {T:nP}
def D3 {w1:wD} {h:List PanicEntry} {e:Int} (q:e≠0/\h=Mu e/\Ext w1 w') (F:Fr (λk=> ¬P k) w w1) (G:e≠0->Z = .error e):Dz c P Z w (.panicked h) w':=
 gB ⟨_,rfl,e,G q.1,q.2.1,F.ext q.2.2⟩
def NL {X:Except Int Int} {w1:wD} {G:List PanicEntry} (q:dF X w1 G w') (F:Fr (λk=> ¬P k) w w1) (e:∀h,X = .error h->Z = .error h):Dz c P Z w (.panicked G) w':=by
 obtain ⟨h,M,N,O⟩:=q;exact gB ⟨_,rfl,h,e _ M,N,F.ext O⟩
def Run.wf (h:Run c P w r):∃K,r.st.WF K (1000+(c.fuel-r.rem)):=by
 obtain ⟨_,_,h⟩:=h;exact h.wf
def Tl (N:c.fuel<=10000) (M:Run c P w r) (P':nP) (v:VD) (O:v.kind=1\/v.kind=3) (U:v.len=0) (x:Int) (G:Rn) (e:Bn r = .ok G) (w1:wD) (h:Run c P' w1 G) :
 Calls prog 192 #[.pointer (some ⟨c.sb,0,none⟩),v.val,.int .i64 x] w1 (QR c P' G.rem (G.st.opens v x) w1):=by
 obtain ⟨V,rfl⟩:=CG e;have X:=M.rem;exact aX N v O U x w1 h (by simp only;omega) (m:=c.fuel-r.rem) M.wf (by simp only;omega)
def Zk (hc:c.fuel<=10000) {d:Nat} (IH:Ey c d) (b:Bool) {n:Int} {z:Nd} (hx:x.isExpr=true) (hy:y.isBlock=true) (cp:z.isExpr=true) (ar:StOk c.g.procs (.mk 54 n s [x,y,z])) (a:oA) (m:Nat) (w:wD)
 (a2:((Bn r).bind λr=>(B5 (if b then z else x) r).bind λv=>(C4 (·.opens ⟨s,1,0⟩ v) r).bind λr=>(A0 (AI c.g.procs d) b y r).bind λr=>(Bn r).bind λr=>(B5 (if b then x else z) r).bind λv=>C4 (·.closes s v) r)≠.error (-1)) (hs:(Nd.mk 54 n s [x,y,z]).sits P w a) (h:Run c P w r) :
 Calls prog 189 #[.pointer (some ⟨c.rb,0,none⟩),(Nd.mk 54 n s [x,y,z]).val a m,.bool b] w (Dz c P ((Bn r).bind λr=>(B5 (if b then z else x) r).bind λv=>(C4 (·.opens ⟨s,1,0⟩ v) r).bind λr=>(A0 (AI c.g.procs d) b y r).bind λr=>(Bn r).bind λr=>(B5 (if b then x else z) r).bind λv=>C4 (·.closes s v) r) w):=by
 have X:=Ne w;have HR:=fZ h;have ae:=h.lt;clear h;have hs:rowSits P w [x,y,z] a:=hs;obtain ⟨kb,ko,rfl,a3,aw⟩:=BJ hs AQ;obtain ⟨ya,yc,Y,sy⟩:=aw 1 y rfl;have cq:=ar.kid (i:=0) rfl;have br:=ar.kid (i:=1) rfl;have cr:=ar.kid (i:=2) rfl;have HE:=fZ (λw1 h1 h2=>Sb (k:=54) (n:=n) (s:=s) (l:=[x,y,z]) (P:=P) AQ AQ b (some ⟨kb,ko,none⟩) m w1 h1 h2);have hf:(if b then z else x).isExpr=true:=by cases b<;>assumption
 have hg:(if b then x else z).isExpr=true:=by cases b<;>assumption
 have bs:StOk c.g.procs (if b then z else x):=by cases b<;>assumption
 have bt:StOk c.g.procs (if b then x else z):=by cases b<;>assumption
 simp only [show BZ [x,y,z] ([x,y,z].length-1)=z from rfl,show BZ [x,y,z] 0=x from rfl] at HE;generalize (if b then z else x)=f at *;generalize (if b then x else z)=g at *;clear aw ar;obtain ⟨fk,fn,fs,fl⟩:=f;obtain ⟨gk,gn,gs,gl⟩:=g;obtain ⟨yk,yn,ys,yl⟩:=y;replace Y:Row w ⟨kb,ko+1*4,none⟩ [.int .u8 yk,.int .i64 yn,str ys,.slice ya yl.length yc]:=Y;change Calls prog _ #[_,.agg #[.int .u8 54,.int .i64 n,str s,.slice (some ⟨kb,ko,none⟩) 3 m],_] w _;have ct:=ae kb a3;obtain ⟨B1,a4⟩:∃B1,B1=A0 (AI c.g.procs d) b (.mk yk yn ys yl):=⟨_,rfl⟩
 rw [<-a4] at a2 ⊢;obtain ⟨Z,hZ⟩:∃Z,Z=((Bn r).bind λr=>(B5 (.mk fk fn fs fl) r).bind λv=>(C4 (·.opens ⟨s,1,0⟩ v) r).bind λr=>(B1 r).bind λr=>(Bn r).bind λr=>(B5 (.mk gk gn gs gl) r).bind λv=>C4 (·.closes s v) r):=⟨_,rfl⟩
 rw [<-hZ] at a2 ⊢;refine Ad func189 ntmps189 rfl rfl ?_;refine cS (eB [_,_,_,_] ?_);intro b1 w2 U x5 p6 z7;have X:=X.ext x5;clear hs;revert hs sy Y;refine eE x5 ?_;intro hs sy Y;refine kQ (HE.out _ Af (λk hk=>by have:=ae k hk;omega)) ?_;rintro _ cu ⟨a8,m9,bf,bg,⟨⟩,V,G,bu⟩;revert U X sy Y;refine eY bu ?_;intro cv U X sy Y;refine eK ?_;refine eA [_,_,_,_] ?_;intro cw cx a5 bv cy cz;revert V G U X sy Y;refine eE bv ?_;intro V G U X sy Y;refine eA [_,_,_,_] ?_;intro c0 c1 a6 bw c2 c3;revert a5 V G U X sy Y;refine eE bw ?_;intro a5 V G U X sy Y;refine eS [_,_,_,_] a5 ?_;intro c4 al f35 c5;have a6:=a6.fr f35 Ab;have V:=mr V f35 (λb hb h=>by (have h1:=ae b hb;omega));have G:=mr G f35 (λb hb h=>by (have h1:=ae b hb;omega));revert U X;refine eF f35 ?_;intro U X;have sy:=mr sy f35 (λb hb h=>by (have h1:=ae b hb;omega));have Y:=mN Y f35 (by simp only;omega);refine eS [_,_,_,_] a6 ?_;intro aa O ak c6;have al:=al.fr ak Ab;have V:=mr V ak (λb hb h=>by (have h1:=ae b hb;omega));have G:=mr G ak (λb hb h=>by (have h1:=ae b hb;omega));revert U X;refine eF ak ?_;intro U X;have sy:=mr sy ak (λb hb h=>by (have h1:=ae b hb;omega));have Y:=mN Y ak (by simp only;omega);refine cT ?_
 have h1:=HR.out.more X;have F:Fr (λk=> ¬P k) w aa:=mt X;clear X hs;have HS:=fZ (λr1 w1 h=>Mw (c:=c) (P:=Cc P w aa) (r:=r1) hc w1 h);unfold Dz at HS;have HV:=fZ (λr1 w1 h1 h2=>Ti (c:=c) (P:=Cc P w aa) (r:=r1) hc _ bs.wf hf a8 m9 P w1 h1 h2);have HU:=fZ (λr1 w1 h1 h2=>Ti (c:=c) (P:=Cc P w aa) (r:=r1) hc _ bt.wf hg bf bg P w1 h1 h2);have HO:=fZ (λr1 e v w1 h=>Tl hc HR.out (Cc P w aa) ⟨s,1,0⟩ (gA rfl) rfl v r1 e w1 h);unfold VD.val at HO;have HL:=fZ (λr1 v w1 h=>Tj (c:=c) (P:=Cc P w aa) (r:=r1) hc s v w1 h);have HC:=fZ (λe w1=>Ii e (.pointer (some ⟨c.rb,0,none⟩)) w1);unfold Sa at HC;have HY:=fZ (λr1 v (e:Bn r = .ok r1) (e2:B5 (.mk fk fn fs fl) r1 = .ok v) (e3:(r1.st.opens ⟨s,1,0⟩ v).1=0) w1 h1 h2=>IH (Cc P w aa) b _ ⟨(r1.st.opens ⟨s,1,0⟩ v).2,r1.rem⟩ ya yc w1 hy br (λe4=>a2 (by rw [hZ];simp only [e,e2,gZ,C4,e3,ne_eq,not_true,if_false];rw [a4,e4])) h1 h2);rw [<-a4] at HY;unfold Dz at HY
 focus
  refine eK ?_;refine A4 (AN AR rfl (HS.out _ _ Af) (λ_ _ h=>h.ret)) rfl ?_ ?_;rotate_left;intro c7 c8 bx
  rotate_right 1
  rintro _ ax ⟨b8,⟨⟩,ab,af,am⟩;revert O al V G U sy;refine eF am ?_;intro O al V G U sy;have Y:=mN Y am (λh=>h (gA a3));have F:=mB F am (λk hk=>gA (λh=>hk (gA h)));refine eK ?_;refine Ap (λwz=>Fr ((λk=> ¬(Cc P w aa k\/k=c.rb))) ax wz) 12 (.pure 0 (.pure 1 (.pure 2 (.pure 3 (.pure 4 (.pure 5 (.pure 6 (.pure 7 (.pure 8 (.pure 9 (.fork 10 (.fork 11 .tail .none) .none))))))))))) mixed AR (Aa Ag) ?_;intro bh ay _;have M:(λwz=>Fr ((λk=> ¬(Cc P w aa k\/k=c.rb))) ax wz) bh:=mt ay;simp only at M;have au:=af;have a7:=al;have an:=U;revert af O V G U sy Y F;refine eE ay ?_;intro af O V G U sy Y F;refine ⟨M,?_⟩;refine eT ?_;refine Tq rfl (Ar Ac rfl rfl rfl (λwz hz=>mC (mu (Run.blk au) hz (by first|omega|(dsimp only;omega))) rfl)) (Tq rfl Pf (Tq rfl (Ar Ac rfl rfl rfl (λwz hz=>mC (mu an hz (λh=>h (gA (gB ⟨Ab,Ab⟩)))) rfl)) (Tq rfl (xB [_,_,_]) (Tq rfl Mv (Tq rfl (xL [_,_,_,_] (λwz hz=>(mu a7 hz (λh=>h (gA (gB ⟨Ab,Ab⟩)))))) ?_)))));refine Pd rfl (AN AR rfl (HV.out _ _ Af Af) (λ_ _ h=>h.ret)) rfl ?_ ?_ Au;rotate_left;intro b9 ca bi
  rotate_right 1
  rintro _ cb ⟨cc,⟨⟩,ac,bj⟩;revert M af O G U sy Y F;refine eE bj ?_;intro M af O G U sy Y F;refine ⟨M,?_⟩;refine tC rfl rfl (HO.out _ Af _ _ Af) ?_;rintro _ cd ⟨⟨⟩,az,ad⟩;revert M O;refine eF ad ?_;intro M O;have G:=mr G ad (λb hb h=>h (gA (gA hb)));have U:=mu U ad (λh=>h (gA (gB ⟨Ab,Ab⟩)));have sy:=mr sy ad (λb hb h=>h (gA (gA hb)));have Y:=mN Y ad (λh=>h (gA (gA a3)));have F:=mB F ad (λk hk=>gA (λh=>hk (gA (gA h))));refine ⟨M,?_⟩;refine Aq rfl ?_;refine A4 (AN AR rfl (HC.out _ _) (λ_ _ h=>⟨_,h.1⟩)) rfl ?_ ?_;rotate_left;intro ce cf bk
  rotate_right 1
  rintro _ cg ⟨⟨⟩,ag,bl⟩;revert az O G U sy Y F;refine eE bl ?_;intro az O G U sy Y F;refine eK ?_;refine A4 (AN AR rfl (HY.out _ _ Af Af Af _ (mD Af (λb h=>gA h)) Af) (λ_ _ h=>h.ret)) rfl ?_ ?_;rotate_left;intro ch ci bm
  rotate_right 1
  rintro _ cj ⟨ck,⟨⟩,aj,cl,bn⟩;revert O G U F;refine eF bn ?_;intro O G U F;refine eK ?_;refine A4 (AN AR rfl (HS.out _ _ Af) (λ_ _ h=>h.ret)) rfl ?_ ?_;rotate_left;intro cm cn bo
  rotate_right 1
  rintro _ a0 ⟨co,⟨⟩,ao,ah,bp⟩;revert O G U F;refine eF bp ?_;intro O G U F;refine cT (Ap (λwz=>Fr ((λk=> ¬(Cc P w aa k\/k=c.rb))) a0 wz) 11 (.pure 0 (.pure 1 (.pure 2 (.pure 3 (.pure 4 (.pure 5 (.pure 6 (.pure 7 (.pure 8 (.fork 9 (.fork 10 .tail .none) .none)))))))))) mixed AR Ag ?_);intro bq a1 _;have N:(λwz=>Fr ((λk=> ¬(Cc P w aa k\/k=c.rb))) a0 wz) bq:=mt a1;simp only at N;have av:=ah;have a9:=O;have an:=U;revert ah G F;refine eE a1 ?_;intro ah G F;refine ⟨N,?_⟩;refine eT ?_;refine Tq rfl (Ar Ac rfl rfl rfl (λwz hz=>mC (mu (Run.blk av) hz (by first|omega|(dsimp only;omega))) rfl)) (Tq rfl Pf (Tq rfl (Ar Ac rfl rfl rfl (λwz hz=>mC (mu an hz (λh=>h (gA (gB ⟨Ab,Ab⟩)))) rfl)) (Tq rfl Mv (Tq rfl (xL [_,_,_,_] (λwz hz=>(mu a9 hz (λh=>h (gA (gB ⟨Ab,Ab⟩)))))) ?_))));refine Pd rfl (AN AR rfl (HU.out _ _ Af Af) (λ_ _ h=>h.ret)) rfl ?_ ?_ Au;rotate_left;intro bz b0 ba
  rotate_right 1
  rintro _ b2 ⟨b3,⟨⟩,ap,bb⟩;revert N ah F;refine eE bb ?_;intro N ah F;refine ⟨N,?_⟩;refine tC rfl rfl (HL.out _ _ _ Af) ?_;rintro _ b4 ⟨⟨⟩,ai,aq⟩;have N:=mB N aq (λk hk=>gA hk);have F:=mB F aq (λk hk=>gA (λh=>hk (gA (gA h))));refine ⟨N,?_⟩;refine Aq rfl ?_;refine A4 (AN AR rfl (HC.out _ _) (λ_ _ h=>⟨_,h.1⟩)) rfl ?_ ?_;rotate_left;intro b5 b6 bc
  rotate_right 1
  rintro _ b7 ⟨⟨⟩,bd,be⟩;revert ai F;refine eE be ?_;intro ai F;refine Al (Bi rfl ?_);rotate_left;refine AE ?_;rotate_left;refine AE ?_;rotate_left;refine AG (AE ?_);rotate_left;refine AG (AE ?_);rotate_left;refine AG (AE ?_);rotate_left;refine AG (AE ?_);rotate_left;refine AG (AE ?_);rotate_left
 . exact Ex ai F HR.out.sub (λk=>gA) (by rw [hZ];simp only [ab,ac,ag,aj,ao,ap,bd,gZ,C4,ne_eq,not_true,not_false_iff,if_false,if_true])
 . exact D3 bc F (λe=>by rw [hZ];simp only [ab,ac,ag,aj,ao,ap,gZ,C4,ne_eq,not_true,not_false_iff,if_false,if_true];rw [AT e])
 . exact NL ba F (λer e=>by rw [hZ];simp only [ab,ac,ag,aj,ao,e,gZ,C4,ne_eq,not_true,not_false_iff,if_false,if_true])
 . exact BA bo F (λk=>gA) (λer e=>by rw [hZ];simp only [ab,ac,ag,aj,e,gZ,C4,ne_eq,not_true,not_false_iff,if_false,if_true])
 . exact BA bm F (λk=>gA) (λer e=>by rw [hZ];simp only [ab,ac,ag,e,gZ,C4,ne_eq,not_true,not_false_iff,if_false,if_true])
 . exact D3 bk F (λe=>by rw [hZ];simp only [ab,ac,gZ,C4,ne_eq,not_true,not_false_iff,if_false,if_true];rw [AT e])
 . exact NL bi F (λer e=>by rw [hZ];simp only [ab,e,gZ,C4,ne_eq,not_true,not_false_iff,if_false,if_true])
 . exact BA bx F (λk=>gA) (λer e=>by rw [hZ];simp only [e,gZ,C4,ne_eq,not_true,not_false_iff,if_false,if_true])
end
section
variable {c:RC} {T:nP}
def WO (hc:c.fuel<=10000) {d:Nat} (IH:Ey c d) (b:Bool) {n:Int} {s:List UInt8} (hy:y.isBlock=true) (a7:StOk c.g.procs (.mk 55 n s [y])) (a:Option Addr) (m:Nat) (w:World)
 (aq:AI c.g.procs (d+1) b (.mk 55 n s [y]) r≠.error (-1)) (hs:(Nd.mk 55 n s [y]).sits P w a) (h:Run c P w r) :
 Calls prog 162 #[.pointer (some ⟨c.rb,0,none⟩),(Nd.mk 55 n s [y]).val a m,.bool b] w (Dz c P (AI c.g.procs (d+1) b (.mk 55 n s [y]) r) w):=by
 have X:=Ne w;have HR:=fZ h;have hs:rowSits P w [y] a:=hs;obtain ⟨kb,ko,ya,yc,rfl,ar,U,sy⟩:=VN hs;have a8:=a7.kid (i:=0) rfl;obtain ⟨B1,ap⟩:∃B1,B1=A0 (AI c.g.procs d) b y:=⟨_,rfl⟩;obtain ⟨Z,hZ⟩:∃Z,Z=AI c.g.procs (d+1) b (.mk 55 n s [y]) r:=⟨_,rfl⟩
 rw [<-hZ] at aq ⊢
 replace hZ:Z=(Bn r).bind λr=>(C4 (·.opens ⟨s,3,0⟩ 0) r).bind λr=>(B1 r).bind λr=>(Bn r).bind (C4 (·.closes s 0)):=by
  rw [hZ,ap];simp only [AI,show ¬((55:Int)=52) by decide,show ¬((55:Int)=53) by decide,show ¬((55:Int)=54) by decide,if_true,if_false]
  rfl
 obtain ⟨yk,yn,ys,yl⟩:=y;replace U:Row w ⟨kb,ko+0*4,none⟩ [.int .u8 yk,.int .i64 yn,str ys,.slice ya yl.length yc]:=U
 change Calls prog _ #[_,.agg #[.int .u8 55,.int .i64 n,str s,.slice (some ⟨kb,ko,none⟩) 1 m],_] w _
 refine Ad func162 ntmps162 rfl rfl ?_
 refine cS (eB [_,_,_,_] ?_);intro b1 w2 O x5 p6 z7;replace X:=X.ext x5;revert hs sy U;refine eE x5 ?_;intro hs sy U;refine cT ?_
 have h1:=HR.out.more X;have F:Fr (λk=> ¬P k) w w2:=mt X;have HS:=fZ (λr1 w1 h=>Mw (c:=c) (P:=Cc P w w2) (r:=r1) hc w1 h)
 unfold Dz at HS
 have HO:=fZ (λr1 e w1 h=>Tl hc HR.out (Cc P w w2) ⟨s,3,0⟩ (gB rfl) rfl 0 r1 e w1 h)
 unfold VD.val at HO
 have HL:=fZ (λr1 w1 h=>Tj (c:=c) (P:=Cc P w w2) (r:=r1) hc s 0 w1 h);have HC:=fZ (λe w1=>Ii e (.pointer (some ⟨c.rb,0,none⟩)) w1)
 unfold Sa at HC
 have HY:=fZ (λr1 (e:Bn r = .ok r1) (e3:(r1.st.opens ⟨s,3,0⟩ 0).1=0) w1 h1 h2=>IH (Cc P w w2) b _ ⟨(r1.st.opens ⟨s,3,0⟩ 0).2,r1.rem⟩ ya yc w1 hy a8 (λe4=>aq (by rw [hZ];simp only [e,gZ,C4,e3,ne_eq,not_true,if_false];rw [ap,e4])) h1 h2)
 rw [<-ap] at HY
 unfold Dz at HY
 focus
  refine cS (C1 Pg (C1 (Pl O) (cT (As (cS (C1 V1 (C1 Pa (cT (MS (cS (C1 V1 (C1 Pa (cT (MS (cS (C1 V1 (C1 Pa (cT (MS (cS (C1 V1 (C1 Pa (cT (Vj (cS (C1 Mv (A4 (AN AR rfl (HS.out _ _ Af) (λ_ _ h=>h.ret)) rfl ?_ ?_)))))))))))))))))))))))))));rotate_left;intro br bs a9
  rotate_right 1
  rintro _ ai ⟨ba,⟨⟩,N,aa,ab⟩;revert O sy;refine eF ab ?_;intro O sy;replace U:=mN U ab (λh=>h (gA ar));replace F:=mB F ab (λk hk=>gA (λh=>hk (gA h)));refine cT (Aj (Ap (λwz=>Fr ((λk=> ¬(Cc P w w2 k\/k=c.rb))) ai wz) 9 (.pure 0 (.pure 1 (.pure 2 (.pure 3 (.pure 4 (.pure 5 (.pure 6 (.pure 7 (.fork 8 .tail .none))))))))) mixed AR (Aa (Ae Ag)) ?_));intro au aj _;have G:(λwz=>Fr ((λk=> ¬(Cc P w w2 k\/k=c.rb))) ai wz) au:=mt aj;simp only at G;have ag:=aa;have ac:=O;have av:=sy;have aw:=U;revert aa O sy U F;refine eE aj ?_;intro aa O sy U F;refine ⟨G,(Tq rfl Mv (Tq rfl Mv (Tq rfl Pn (Tq rfl Pf (Tq rfl (Ar Ac rfl rfl rfl (λwz hz=>mC (mu (Run.blk ag) hz (by first|omega|(dsimp only;omega))) rfl)) ?_)))))⟩;refine Tq rfl Pf (Tq rfl (Ar Ac rfl rfl rfl (λwz hz=>mC (mu ac hz (λh=>h (gA (gB ⟨Ab,Ab⟩)))) rfl)) (Tq rfl (DS [_,_,_] Ac Ca rfl rfl rfl rfl) (Ax rfl (AM AR rfl (HO.out _ Af _ Af) (λ_ _ h=>⟨_,h.1⟩)) rfl ?_ aFh Au)));rintro _ bb ⟨⟨⟩,ak,V⟩;revert G O;refine eF V ?_;intro G O;replace sy:=mr sy V (λb hb h=>h (gA (gA hb)))
  replace U:=mN U V (λh=>h (gA (gA ar)));replace F:=mB F V (λk hk=>gA (λh=>hk (gA (gA h))));refine ⟨G,(Aq rfl (A4 (AN AR rfl (HC.out _ _) (λ_ _ h=>⟨_,h.1⟩)) rfl ?_ ?_))⟩;rotate_left;intro bc bd ax
  rotate_right 1
  rintro _ be ⟨⟨⟩,Y,ay⟩;revert ak O sy U F;refine eE ay ?_;intro ak O sy U F;refine cN (C1 Mv (C1 Pf (C1 (Pl O) (C1 Pi (BQ [_,_,_,_] Ac rfl rfl rfl U rfl rfl rfl (C1 Mv (A4 (AN AR rfl (HY.out _ Af Af _ (mD Af (λb h=>gA h)) Af) (λ_ _ h=>h.ret)) rfl ?_ ?_)))))));rotate_left;intro bf bg az
  rotate_right 1
  rintro _ bh ⟨bi,⟨⟩,ad,bj,a0⟩;revert O F;refine eF a0 ?_;intro O F;refine cN (C1 Mv (A4 (AN AR rfl (HS.out _ _ Af) (λ_ _ h=>h.ret)) rfl ?_ ?_));rotate_left;intro bk bl a1
  rotate_right 1
  rintro _ al ⟨bm,⟨⟩,am,ae,a2⟩;revert O F;refine eF a2 ?_;intro O F;refine cT (Ap (λwz=>Fr ((λk=> ¬(Cc P w w2 k\/k=c.rb))) al wz) 8 (.pure 0 (.pure 1 (.pure 2 (.pure 3 (.pure 4 (.pure 5 (.pure 6 (.fork 7 .tail .none)))))))) mixed AR (Ae Ag) ?_);intro a3 an _;have M:(λwz=>Fr ((λk=> ¬(Cc P w w2 k\/k=c.rb))) al wz) a3:=mt an;simp only at M;have ah:=ae;have ac:=O;have av:=sy;have aw:=U;revert ae F;refine eE an ?_;intro ae F;refine ⟨M,(Tq rfl Mv (Tq rfl Mv (Tq rfl Pn (Tq rfl Pf (Tq rfl (Ar Ac rfl rfl rfl (λwz hz=>mC (mu (Run.blk ah) hz (by first|omega|(dsimp only;omega))) rfl)) ?_)))))⟩;refine Tq rfl Pf (Tq rfl (Ar Ac rfl rfl rfl (λwz hz=>mC (mu ac hz (λh=>h (gA (gB ⟨Ab,Ab⟩)))) rfl)) (Ax rfl (AM AR rfl (HL.out _ _ Af) (λ_ _ h=>⟨_,h.1⟩)) rfl ?_ aFh Au));rintro _ bn ⟨⟨⟩,af,ao⟩;replace M:=mB M ao (λk hk=>gA hk);replace F:=mB F ao (λk hk=>gA (λh=>hk (gA (gA h))));refine ⟨M,(Aq rfl (A4 (AN AR rfl (HC.out _ _) (λ_ _ h=>⟨_,h.1⟩)) rfl ?_ ?_))⟩
  rotate_left;intro bo bp a4
  rotate_right 1
  rintro _ bq ⟨⟨⟩,a5,a6⟩;revert af F;refine eE a6 ?_;intro af F;refine Al (Ah (Bi rfl ?_));rotate_left;refine AV (AE ?_);rotate_left;refine AG (AV (AE ?_));rotate_left;refine AG (AV (AE ?_));rotate_left;refine AG (AV (AE ?_));rotate_left;refine AG (AV (AE ?_));rotate_left
 . exact Ex af F HR.out.sub (λk=>gA) (by rw [hZ];simp only [N,Y,ad,am,a5,gZ,C4,ne_eq,not_true,not_false_iff,if_false,if_true])
 . exact D3 a4 F (λe=>by rw [hZ];simp only [N,Y,ad,am,gZ,C4,ne_eq,not_true,not_false_iff,if_false,if_true];rw [AT e])
 . exact BA a1 F (λk=>gA) (λer e=>by rw [hZ];simp only [N,Y,ad,e,gZ,C4,ne_eq,not_true,not_false_iff,if_false,if_true])
 . exact BA az F (λk=>gA) (λer e=>by rw [hZ];simp only [N,Y,e,gZ,C4,ne_eq,not_true,not_false_iff,if_false,if_true])
 . exact D3 ax F (λe=>by rw [hZ];simp only [N,gZ,C4,ne_eq,not_true,not_false_iff,if_false,if_true];rw [AT e])
 . exact BA a9 F (λk=>gA) (λer e=>by rw [hZ];simp only [e,gZ,C4,ne_eq,not_true,not_false_iff,if_false,if_true])
def Dc {S S':nP} {a:oA} (h:rowSits S w l a) (G:∀b,S b->S' b):rowSits S' w l a:=by
 have:=mD (t:=.mk 0 0 [] l) h G;exact this
def Le (hc:c.fuel<=10000) (d:Nat) (b:Bool) {n:Int} {s:List UInt8} (O:(40<=k/\k<=49)\/k=56) (ar:(Nd.mk k n s l).isStmt=true) (ak:StOk c.g.procs (.mk k n s l)) (a:Option Addr) (m:Nat) (w:World) (N:(Nd.mk k n s l).sits P w a) (h:Run c P w r) :
 Calls prog 162 #[.pointer (some ⟨c.rb,0,none⟩),(Nd.mk k n s l).val a m,.bool b] w (Dz c P (AI c.g.procs (d+1) b (.mk k n s l) r) w):=by
 have X:=Ne w;have HR:=fZ h;have N:rowSits P w l a:=N;obtain ⟨Z,hZ⟩:∃Z,Z=AI c.g.procs (d+1) b (.mk k n s l) r:=⟨_,rfl⟩
 rw [<-hZ]
 rw [QO _ _ _ Ab] at hZ
 change Calls prog _ #[_,.agg #[.int .u8 k,.int .i64 n,str s,.slice a l.length m],_] w _
 refine Ad func162 ntmps162 rfl rfl ?_
 refine cS (Dl [_,_,_,_] rfl rfl rfl ?_);intro b1 w2 n3;have h4:=n3.blk;have x5:=n3.ext;have p6:=n3.pos;have z7:=n3.size;replace X:=X.ext x5;replace N:=mS N x5;refine cT ?_
 have h1:=HR.out.more X;have F:Fr (λk=> ¬P k) w w2:=mt X;have HS:=fZ (λr1 w1 h=>Mw (c:=c) (P:=Cc P w w2) (r:=r1) hc w1 h)
 unfold Dz at HS
 have HD:=fZ (λr1 w1 h1 h2=>eU (c:=c) (P:=Cc P w w2) (r:=r1) hc O ar ak.wf ak.size a m w1 h1 h2);have HU:=fZ (λr1 w1 h1 h2=>aY (c:=c) (P:=Cc P w w2) (r:=r1) hc O ar ak.wf ak.size a m w1 h1 h2);have HC:=fZ (λe w1=>Ii e (.pointer (some ⟨c.rb,0,none⟩)) w1)
 unfold Sa at HC
 cases b
 . simp only [iS,if_false] at hZ
   focus
    refine cS (C1 Pg (C1 (Pl h4) (cT (As (cS (C1 V1 (C1 Pa (cT (Dd (cS (C1 V1 (C1 Pa (cT (Dd (cS (C1 V1 (C1 Pa (cT (Dd (cS (C1 V1 (C1 Pa (cT (Dd (Aj (cS (C1 V1 (C1 Pa (cT (Dd (Ak (C1 V1 (C1 Pa (cT (Dd (cS (C1 Mv (A4 (AN AR rfl (HS.out _ _ Af) (λ_ _ h=>h.ret)) rfl ?_ ?_))))))))))))))))))))))))))))))))))))));rotate_left;intro bd be a1
    rotate_right 1
    rintro _ an ⟨a3,⟨⟩,ao,Y,aa⟩;replace h4:=mu h4 aa (λh=>h (gB ⟨Ab,Ab⟩));replace N:=mW N aa (λb hb h=>h (gA hb));replace F:=mB F aa (λk O=>gA (λh=>O (gA h)));refine cN (C1 Mv (cT (AO rfl (Ap (λwz=>Fr ((λk=> ¬(Cc P w w2 k\/k=c.rb))) an wz) 7 (.pure 0 (.pure 1 (.pure 2 (.pure 3 (.pure 4 (.pure 5 (.fork 6 .tail .none))))))) mixed AR (Ae Ag) ?_))));intro au U _;have G:(λwz=>Fr ((λk=> ¬(Cc P w w2 k\/k=c.rb))) an wz) au:=mt U;simp only at G;have al:=Y;have ab:=h4;have av:=N;replace Y:=Y.ext U;replace N:=mS N U;replace F:=F.ext U;refine ⟨G,(Tq rfl Mv (Tq rfl Mv (Tq rfl Pn (Tq rfl Pf (Tq rfl (Ar Ac rfl rfl rfl (λwz hz=>mC (mu (Run.blk al) hz (by first|omega|(dsimp only;omega))) rfl)) ?_)))))⟩;refine Tq rfl (BR [_,_,_,_] Ac rfl rfl rfl (λwz hz=>(mu ab hz (λh=>h (gA (gB ⟨Ab,Ab⟩))))) rfl rfl) (Ax rfl (AM AR rfl (HD.out _ _ (Dc Af (λb h=>gA h)) Af) (λ_ _ h=>⟨_,h.1⟩)) rfl ?_ aFh Au);rintro _ a4 ⟨⟨⟩,ac,ad⟩;replace G:=mB G ad (λk O=>gA O);replace N:=mW N ad (λb hb h=>h (gA (gA hb)))
    replace F:=mB F ad (λk O=>gA (λh=>O (gA (gA h))));refine ⟨G,(Aq rfl (A4 (AN AR rfl (HC.out _ _) (λ_ _ h=>⟨_,h.1⟩)) rfl ?_ ?_))⟩;rotate_left;intro a5 a6 aw
    rotate_right 1
    rintro _ a7 ⟨⟨⟩,ax,ae⟩;replace ac:=ac.ext ae;replace N:=mS N ae;replace F:=F.ext ae;refine Al (Ah (Bi rfl ?_));rotate_left;refine AV (AE ?_);rotate_left;refine AG (AV (AE ?_));rotate_left
   . exact Ex ac F HR.out.sub (λk=>gA) (by rw [hZ];simp only [ao,ax,gZ,C4,ne_eq,not_true,not_false_iff,if_false,if_true])
   . exact D3 aw F (λe=>by rw [hZ];simp only [ao,gZ,C4,ne_eq,not_true,not_false_iff,if_false,if_true];rw [AT e])
   . exact BA a1 F (λk=>gA) (λer e=>by rw [hZ];simp only [e,gZ,C4,ne_eq,not_true,not_false_iff,if_false,if_true])
 . simp only [if_true] at hZ
   focus
    refine cS (C1 Pg (C1 (Pl h4) (cT (As (cS (C1 V1 (C1 Pa (cT (Dd (cS (C1 V1 (C1 Pa (cT (Dd (cS (C1 V1 (C1 Pa (cT (Dd (cS (C1 V1 (C1 Pa (cT (Dd (Aj (cS (C1 V1 (C1 Pa (cT (Dd (Ak (C1 V1 (C1 Pa (cT (Dd (cS (C1 Mv (A4 (AN AR rfl (HS.out _ _ Af) (λ_ _ h=>h.ret)) rfl ?_ ?_))))))))))))))))))))))))))))))))))))));rotate_left;intro bf bg a2
    rotate_right 1
    rintro _ ap ⟨a8,⟨⟩,aq,af,ag⟩;replace h4:=mu h4 ag (λh=>h (gB ⟨Ab,Ab⟩));replace N:=mW N ag (λb hb h=>h (gA hb));replace F:=mB F ag (λk O=>gA (λh=>O (gA h)));refine cN (C1 Mv (cT (Bq rfl (Ap (λwz=>Fr ((λk=> ¬(Cc P w w2 k\/k=c.rb))) ap wz) 7 (.pure 0 (.pure 1 (.pure 2 (.pure 3 (.pure 4 (.pure 5 (.fork 6 .tail .none))))))) mixed AR (Ae Ag) ?_))));intro ay V _;have M:(λwz=>Fr ((λk=> ¬(Cc P w w2 k\/k=c.rb))) ap wz) ay:=mt V;simp only at M;have am:=af;have ab:=h4;have av:=N;replace af:=af.ext V;replace N:=mS N V;replace F:=F.ext V;refine ⟨M,(Tq rfl Mv (Tq rfl Mv (Tq rfl Pn (Tq rfl Pf (Tq rfl (Ar Ac rfl rfl rfl (λwz hz=>mC (mu (Run.blk am) hz (by first|omega|(dsimp only;omega))) rfl)) ?_)))))⟩;refine Tq rfl (BR [_,_,_,_] Ac rfl rfl rfl (λwz hz=>(mu ab hz (λh=>h (gA (gB ⟨Ab,Ab⟩))))) rfl rfl) (Ax rfl (AM AR rfl (HU.out _ _ (Dc Af (λb h=>gA h)) Af) (λ_ _ h=>⟨_,h.1⟩)) rfl ?_ aFh Au);rintro _ a9 ⟨⟨⟩,ah,ai⟩;replace M:=mB M ai (λk O=>gA O);replace N:=mW N ai (λb hb h=>h (gA (gA hb)))
    replace F:=mB F ai (λk O=>gA (λh=>O (gA (gA h))));refine ⟨M,(Aq rfl (A4 (AN AR rfl (HC.out _ _) (λ_ _ h=>⟨_,h.1⟩)) rfl ?_ ?_))⟩;rotate_left;intro ba bb az
    rotate_right 1
    rintro _ bc ⟨⟨⟩,a0,aj⟩;replace ah:=ah.ext aj;replace N:=mS N aj;replace F:=F.ext aj;refine Al (Ah (Bi rfl ?_));rotate_left;refine AV (AE ?_);rotate_left;refine AG (AV (AE ?_));rotate_left
   . exact Ex ah F HR.out.sub (λk=>gA) (by rw [hZ];simp only [aq,a0,gZ,C4,ne_eq,not_true,not_false_iff,if_false,if_true])
   . exact D3 az F (λe=>by rw [hZ];simp only [aq,gZ,C4,ne_eq,not_true,not_false_iff,if_false,if_true];rw [AT e])
   . exact BA a2 F (λk=>gA) (λer e=>by rw [hZ];simp only [e,gZ,C4,ne_eq,not_true,not_false_iff,if_false,if_true])
end
def EG (l:List Nd) (j:Nat):List lB:=(l.take j).map mQ++iK (l.length-j) []
def QT (l:List Nd) (j:Nat) (h:j<=l.length):(EG l j).length=l.length:=by simp [EG];omega
def QU (l:List Nd) (j:Nat) (h:j<l.length):(EG l j).set j (l[j]).name=EG l (j+1):=by
 unfold EG;have G:((l.take j).map mQ).length=j:=by simp;omega
 have M:(iK (l.length-j) ([]:lB))=[]::iK (l.length-(j+1)) []:=by
  rw [show l.length-j=(l.length-(j+1))+1 by omega,l8]
 rw [kW _ _ Ab,G,kp,M,lQ,gC h,jE,iG];rfl
def QV (l:List Nd):EG l l.length=l.map mQ:=by simp [EG]
def ArrS.rowsStr {C D:Nat} {xs:List lB} (h:ArrS strShape C D w g xs) {S:nP} (M:S g):Rows S w (xs.map str) (some ⟨g,0,none⟩):=by
 refine gB ⟨g,0,rfl,M,λi v G=>?_⟩;rw [iD] at G;cases hx:xs[i]? with
 | none=>rw [hx] at G;cases G
 | some x=>
  rw [hx] at G;obtain rfl:=gJ G;obtain ⟨cs,N,rfl⟩:=h.row hx;have:=N.at0 rfl;rw [show strShape.sz=1 from rfl,kI,iR] at this;have e:(⟨g,0,none⟩:Addr).add i=⟨g,i,none⟩:=by unfold jY;by_cases O:i=0<;>simp [O]
  rw [e];exact this
section
variable {c:RC} {T:nP}
def Run.ent (h:Run c P w r):∃es:List Int,es.length=c.g.procs.length/\Blk w c.eb (AX es):=by
 obtain ⟨_,_,h⟩:=h;exact h.ent
def Run.offE (h:Run c P w r):∀k,P k -> ¬k=c.eb:=by
 obtain ⟨_,_,h⟩:=h;exact λk G e=>(h.off k G).1 (by rw [e,h.rolE];exact gB (gB rfl))
def Run.neER (h:Run c P w r):c.rb≠c.eb:=by
 obtain ⟨_,_,h⟩:=h;intro e;have G:=h.role;rw [e,h.rolE] at G;simp at G
def Run.procs (h:Run c P w r):PDs c.S w c.g.procs c.pa:=by
 obtain ⟨_,_,h⟩:=h;exact h.procs
def Run.bump (h:Run c P w r) (x:Fr (· = c.eb) w w') {es:List Int} (V:es.length=c.g.procs.length) (X:Blk w' c.eb (AX es)):Run c P w' r:=by
 obtain ⟨ρ,κ,U,O,Y,Z,-,h7,h8,h9,N,M⟩:=h;have hs:=x.size;have hP:∀k,P k -> ¬k=c.eb:=λk G e=>(M k G).1 (by rw [e,O];exact gB (gB rfl))
 refine ⟨ρ,κ,U,O,Y,Z.fr x (λe=>by rw [show c.rb=c.eb from e,O] at U;simp at U),⟨es,V,X⟩,h7.fr x (λk G e=>by rw [show k=c.eb from G,O] at e;exact e),h8,h9.frS x (λk G e=>hP k (N k G) e),N,λk G=>⟨(M k G).1,by have:=(M k G).2;omega⟩⟩
def QX {P:Program} {l:Sl} {tab:Tab} {ty:TypeId} {w:wD} {x y:Operand} {t:Nat} {s:Sk} (TT:TabOk P tab) (ht:AB tab t=some (s,1)) (hx:ev l x=some (.pointer (some ⟨g,0+i*1,none⟩))) (hy:ev l y=some (.int .i64 u))
 (hb:Blk w g (AX xs)) (hi:i<xs.length) :
 BG P m l (.store t x y) ty w (GE λw'=>Blk w' g (AX (xs.set i u))/\Fr (· = g) w w'/\w'.heap.size=w.heap.size):=by
 have hd:=DR (P:=P) (n:=m) (l:=l) (ty:=ty) (us:=[.int .i64 u]) TT ht hx hy rfl rfl rfl hb (by rw [md];simp [AX];omega);unfold BG at hd ⊢;intro a dst pos after gd next Q ha hn b;refine hd a dst pos after gd next Q ha (λv' w' h=>h.elim) (λw' hP=>b w' ⟨?_,hP.fr,hP.size⟩);have h1:=hP.blk;rw [iR,kI] at h1;simpa [Ba,AX,List.map_set] using h1
structure ProcsOk (g:PG):Prop where
 few:g.procs.length<=1000000
 blk:∀p∈g.procs,p.body.isBlock=true/\StOk g.procs p.body/\p.params.length<=1000
def WP (hc:c.fuel<=10000) (hg:ProcsOk c.g) {d:Nat} (IH:Ey c d) (b:Bool) {n:Int} {s:List UInt8} (hp:CD c.g.procs s=some i) (hl:l.length<=8) (a:Option Addr) (m:Nat) (w:World)
 (av:((Bn r).bind λr=>(C4 (·.enters (c.g.procs.getD i ⟨[],[],.mk 0 0 [] []⟩).params (l.map mQ)) r).bind λr=>
  (A0 (AI c.g.procs d) b (c.g.procs.getD i ⟨[],[],.mk 0 0 [] []⟩).body r).bind λr=>(Bn r).bind (C4 (·.leaves)))≠.error (-1)) (V:(Nd.mk k n s l).sits P w a) (h:Run c P w r) :
 Calls prog 194 #[.pointer (some ⟨c.rb,0,none⟩),(Nd.mk k n s l).val a m,.bool b] w (Dz c P ((Bn r).bind λr=>(C4 (·.enters (c.g.procs.getD i ⟨[],[],.mk 0 0 [] []⟩).params (l.map mQ)) r).bind λr=>
  (A0 (AI c.g.procs d) b (c.g.procs.getD i ⟨[],[],.mk 0 0 [] []⟩).body r).bind λr=>(Bn r).bind (C4 (·.leaves))) w):=by
 have X:=Ne w;have HR:=fZ h;have bd:=h.lt
 have hi:i<c.g.procs.length:=by
  unfold CD at hp
  exact (List.findIdx?_eq_some_iff_getElem.1 hp).1
 obtain ⟨p,be⟩:∃p,p=c.g.procs.getD i ⟨[],[],.mk 0 0 [] []⟩:=⟨_,rfl⟩
 rw [<-be] at av ⊢
 have bf:c.g.procs[i]? = some p:=by rw [be,gY,fY hi];rfl
 obtain ⟨bz,b0,b2⟩:=hg.blk p (iI bf);have HP:=fZ (λw1 h1=>OG c.g hg.few s c.S c.va c.vc c.pa c.pc c.ma c.mc w1 h1);rw [show Gi c.g.procs s=(i:Int) by unfold Gi;rw [hp]] at HP;have V:rowSits P w l a:=V;obtain ⟨B1,a6⟩:∃B1,B1=A0 (AI c.g.procs d) b p.body:=⟨_,rfl⟩
 rw [<-a6] at av ⊢
 obtain ⟨Z,hZ⟩:∃Z,Z=((Bn r).bind λr=>(C4 (·.enters p.params (l.map mQ)) r).bind λr=>(B1 r).bind λr=>(Bn r).bind (C4 (·.leaves))):=⟨_,rfl⟩
 rw [<-hZ] at av ⊢
 change Calls prog _ #[_,.agg #[.int .u8 k,.int .i64 n,str s,.slice a l.length m],_] w _
 refine Ad func194 ntmps194 rfl rfl ?_
 refine cS (Dl [_,_,_,_] rfl rfl rfl ?_);intro b1 w2 n3;have h4:=n3.blk;have x5:=n3.ext;have p6:=n3.pos;have z7:=n3.size;replace X:=X.ext x5;replace V:=mS V x5;refine cN (C1 Pf (C1 (Pl h4) (C1 Pz (Az (Dj (sh:=strShape) (C:=0) (D:=0) (N:=l.length) (z:=[]) Ac Ca rfl rfl rfl rfl AR rfl rfl Ab (λ_ _=>rfl)) rfl ?_ aFh))));rintro _ b3 ⟨g8,rfl,h9,c0,c1,a7⟩;replace h4:=h4.ext a7;replace X:=X.ext a7;replace V:=mS V a7;refine C1 Pa (cT (Aj (cS (C1 Pf (C1 (Pl h4) (C1 Pz (C1 Mv (cT ?_))))))))
 have hA:ArrS strShape 0 0 b3 g8 (EG l 0):=by simpa [EG] using h9
 refine As ?_;refine AF (ι:=Nat) (λj=>[(0,.pointer (some ⟨c.rb,0,none⟩)),(2,.bool b),(4,.pointer (some ⟨b1,0,none⟩)),(6,.slice (some ⟨g8,0,none⟩) l.length l.length),(16,.slice a l.length m),(17,.int .i64 l.length),(18,.int .i64 j)])
  (λj w'=>j<=l.length/\ArrS strShape 0 0 w' g8 (EG l j)/\Blk w' b1 [.int .u8 k,.int .i64 n,str s,.slice a l.length m]/\rowSits P w' l a/\Ext w w'/\b1+2<=w'.heap.size)
  (λj=>l.length-j) 0 sB ⟨gI _,hA,h4,V,X,Ab⟩ ?_
 rintro j w1 ⟨hj,hA,h4,V,X,hz⟩
 by_cases an:j<l.length
 . obtain ⟨kb,ko,rfl,c2,bg⟩:=BJ V (by intro e;subst e;simp at an);obtain ⟨xa,xc,rx,sx⟩:=bg j l[j] (fY an);have a8:=QU l j an;have c3:=QT l j hj
   generalize l[j]=x at *
   obtain ⟨xk,xn,xs,xl⟩:=x;replace rx:Row w1 ⟨kb,ko+j*4,none⟩ [.int .u8 xk,.int .i64 xn,str xs,.slice xa xl.length xc]:=rx
   refine cS (C1 V3 (cT (Aj (Ll (Am (Ai (Aj (As (cS (C1 Mv (C1 Pi (C1 (Yd rx) (eA [_,_,_,_] ?_)))))))))))));intro c4 c5 b4 aw c6 c7;replace hA:=hA.ext aw;replace X:=X.ext aw;replace h4:=h4.ext aw;replace V:=mS V aw;refine C1 Pa (eS [_,_,_,_] b4 ?_);intro c8 bh aj cd;replace hA:=hA.fr aj Ab;replace X:=X.fr aj Ab;replace h4:=h4.fr aj Ab;replace V:=mW V aj (λb hb h=>by (have h1:=bd b hb;omega));refine cT (Ak (C1 Mv (C1 Mv (C1 Pf (C1 (Pl bh) (C1 Pi (A9 (B8 (sh:=strShape) (j:=j) (z:=xs) (us:=[_]) Ac rfl rfl rfl rfl rfl rfl Af Ab Ab rfl) (BK ?_))))))));rintro _ ce ⟨cf,ao,cg⟩;replace X:=X.fr ao Ab;replace h4:=h4.fr ao Ab;replace V:=mW V ao (λb hb h=>by (have h1:=bd b hb;omega));refine Al (Ah (Ai (Ak (C1 V7 (C1 Mv (Al ?_))))))
   exact Av (j+1) sB ⟨Ab,by rw [<-a8];assumption,Af,Af,X,Ab⟩ Ab
 . obtain rfl:j=l.length:=by omega
   rw [QV] at hA
   refine cS (C1 V3 (cT (Aj (Dd (BF (Ay (Ay (AS (Ai ?_)))))))))
   have ae:=(HR.out.ext X).blk;have ax:=(HR.out.ext X).procs;obtain ⟨pb,po,b5,c9,bi⟩:=ax.get (by intro e;rw [e] at hi;simp at hi);obtain ⟨qa,qc,ba,bc,rp,rv,sb⟩:=bi i p bf;have aa:=HR.out.sub;rw [b5] at ae ax HP;obtain ⟨pn,bj,b6⟩:=p;obtain ⟨bk,bn,bs,bl⟩:=b6;dsimp only at *
   refine Aj (Ap (λwz=>Ext w1 wz) 6 (.pure 0 (.pure 1 (.pure 2 (.pure 3 (.pure 4 (.pure 5 .tail)))))) mixed AR (Aa Ag) ?_);intro b7 Y _;have a0:(λwz=>Ext w1 wz) b7:=Y;simp only at a0;have bm:=h4;have ch:=V;have ci:=hA;have a9:=ae;have da:=Y.size;replace V:=mS V Y;replace X:=X.ext Y;replace hA:=hA.ext Y;replace ax:=ax.ext Y;replace ae:=ae.ext Y;replace rp:=rp.ext Y;replace rv:=rv.ext Y;replace sb:=nr sb Y;refine ⟨a0,(Tq rfl Mv (Tq rfl Pn (Tq rfl Pg (Tq rfl (BR [_,_,_,_,_,_] Ac rfl rfl rfl (λwz hz=>(my a9 hz)) rfl rfl) (Tq rfl Pf (Tq rfl (Db bm) (Aq rfl (cC rfl (HP.out _ Af) ?_))))))))⟩;rintro _ db ⟨⟨⟩,af⟩;have dc:=af.size;replace V:=mS V af;replace X:=X.ext af;replace hA:=hA.ext af;replace ae:=ae.ext af;replace rp:=rp.ext af;replace rv:=rv.ext af;replace sb:=nr sb af;refine C1 Pa (cN (C1 Mv (C1 Pn (C1 Pg (C1 Pf (C1 (Pl ae) (C1 Mv (C1 Pi (C1 (Yd rp) (Ei [_,_,_,_,_,_] Ca rfl rfl ?_))))))))));intro dd de ab;refine De [_,_,_,_,_,_] Ac rfl rfl rfl rfl rfl rfl ab rfl ?_;intro M ab;have G:=ab.blk;dsimp only at G
   have ag:=ab.ext;have cj:=ab.pos;have ck:=ab.size;replace V:=mS V ag;replace X:=X.ext ag;replace hA:=hA.ext ag;replace rv:=rv.ext ag;replace sb:=nr sb ag;refine cT ?_
   have h1:=HR.out.more X;have ak:Rows (Cc P w M) M ((l.map mQ).map str) (some ⟨g8,0,none⟩):=hA.rowsStr (gB ⟨Ab,Ab⟩);have F:Fr (λk=> ¬P k) w M:=mt X;have HS:=fZ (λr1 w1 h=>Mw (c:=c) (P:=Cc P w M) (r:=r1) hc w1 h)
   unfold Dz at HS
   have HE:=fZ (λr1 w1 h1 h2 h3=>Zj (c:=c) (P:=Cc P w M) (r:=r1) hc bj (l.map mQ) b2 qa (some ⟨g8,0,none⟩) qc l.length w1 h1 h2 h3);simp only [jJ] at HE;have HC:=fZ (λe w1=>Ii e (.pointer (some ⟨c.rb,0,none⟩)) w1)
   unfold Sa at HC
   focus
    refine cS (C1 Mv (A4 (AN AR rfl (HS.out _ _ Af) (λ_ _ h=>h.ret)) rfl ?_ ?_));rotate_left;intro df dg b8
    rotate_right 1
    rintro _ a1 ⟨a2,⟨⟩,ac,ap,ah⟩;replace G:=mu G ah (λh=>h (gB ⟨Ab,Ab⟩));replace rv:=m8 rv ah (λb hb h=>h (gA (aa _ hb)));replace sb:=mr sb ah (λb hb h=>h (gA (aa _ hb)));replace ak:=mT ak ah (λb hb h=>h hb);replace F:=mB F ah (λk hk=>gA (λh=>hk (gA h)));refine cT (Aj (Ap (λwz=>Fr ((λk=> ¬(Cc P w M k\/k=c.rb))) a1 wz) 9 (.pure 0 (.pure 1 (.pure 2 (.pure 3 (.pure 4 (.pure 5 (.pure 6 (.pure 7 (.fork 8 .tail .none))))))))) mixed AR (Aa Ag) ?_));intro bo O _;have U:(λwz=>Fr ((λk=> ¬(Cc P w M k\/k=c.rb))) a1 wz) bo:=mt O;simp only at U;have ay:=ap;have az:=G;replace ap:=ap.ext O;replace G:=G.ext O;replace rv:=rv.ext O;replace sb:=nr sb O;replace ak:=ak.ext O;replace F:=F.ext O;refine ⟨U,(Tq rfl Mv (Tq rfl Mv (Tq rfl Pn (Tq rfl Pf (Tq rfl (Ar Ac rfl rfl rfl (λwz hz=>mC (mu (Run.blk ay) hz (by first|omega|(dsimp only;omega))) rfl)) ?_)))))⟩;refine Tq rfl Pf (Tq rfl (Ar Ac rfl rfl rfl (λwz hz=>mC (mu az hz (λh=>h (gA (gB ⟨Ab,Ab⟩)))) rfl)) (Tq rfl Mv (Ax rfl (AM AR rfl (HE.out _ _ Af (nA Af (λb h=>gA (aa _ h))) Af) (λ_ _ h=>⟨_,h.1⟩)) rfl ?_ aFh Au)))
    rintro _ cl ⟨⟨⟩,ad,al⟩;replace U:=mB U al (λk hk=>gA hk);replace G:=mu G al (λh=>h (gA (gB ⟨Ab,Ab⟩)));replace sb:=mr sb al (λb hb h=>h (gA (gA (aa _ hb))));replace F:=mB F al (λk hk=>gA (λh=>hk (gA (gA h))));refine ⟨U,(Aq rfl (A4 (AN AR rfl (HC.out _ _) (λ_ _ h=>⟨_,h.1⟩)) rfl ?_ ?_))⟩;rotate_left;intro cm cn bp
    rotate_right 1
    rintro _ a3 ⟨⟨⟩,ai,am⟩;replace ad:=ad.ext am;replace G:=G.ext am;replace sb:=nr sb am;replace F:=F.ext am;refine cT ?_;rotate_left;refine AG (AE ?_);rotate_left;refine AG (AE ?_);rotate_left
   . obtain ⟨es,dh,b9⟩:=ad.ent;have aq:=ad.offE
     have ca:Row a3 ⟨c.eb,0+i*1,none⟩ [.int .i64 (es.getD i 0)]:=λj v hj=>by
      cases j with
      | zero=>
       simp only [gX,gE] at hj;subst hj;rw [iR,kI]
       exact b9.cell (by simp [AX,fY (show i<es.length by omega),gY])
      | succ j=>simp at hj
     have ae:=ad.blk;have H1:=fZ ad;have F2:=mx (· = c.eb) a3;have HF:=fZ F
     refine cS (C1 Mv (C1 Pn (C1 Pf (C1 (Pl ae) (C1 Mv (C1 Pi (C1 (MR ca) (C1 (Je rfl rfl) (C1 Pi (A9 (QX Ac rfl rfl rfl Af Ab) (BK ?_)))))))))));rintro _ di ⟨cb,bb,dk⟩;replace G:=mu G bb (λe=>aq _ (gB ⟨Ab,Ab⟩) e);replace sb:=mr sb bb (λb hb e=>aq b (gA (aa _ hb)) e);replace F2:=F2.fr bb Ab;refine cT ?_
     have h2:=H1.out.bump F2 (by rw [kj];omega) cb;have F:=HF.out.fr F2 (λk hk=>gA (λh=>aq k (gA h) hk));have HL:=fZ (λr1 w1 h=>Zi (c:=c) (P:=Cc P w M) (r:=r1) hc w1 h);have HY:=fZ (λw1 h1 h2=>IH (Cc P w M) b (.mk bk bn bs bl) ⟨(a2.st.enters bj (l.map mQ)).2,a2.rem⟩ ba bc w1 bz b0 (λe4=>av (by rw [hZ];simp only [ac,gZ,C4,ai,ne_eq,not_true,if_false];rw [a6,e4])) h1 h2)
     rw [<-a6] at HY
     unfold Dz at HY
     focus
      refine cS (C1 Mv (C1 Pf (AH [_,_,_,_] Ac rfl rfl rfl G rfl rfl rfl (C1 Mv (A4 (AN AR rfl (HY.out _ (mD Af (λb h=>gA (aa _ h))) Af) (λ_ _ h=>h.ret)) rfl ?_ ?_)))));rotate_left;intro dl dm cc
      rotate_right 1
      rintro _ co ⟨cp,⟨⟩,ar,cq,bq⟩;replace F:=mB F bq (λk hk=>gA (λh=>hk (gA h)));refine cN (C1 Mv (A4 (AN AR rfl (HS.out _ _ Af) (λ_ _ h=>h.ret)) rfl ?_ ?_));rotate_left;intro cr ct br
      rotate_right 1
      rintro _ cu ⟨cv,⟨⟩,a4,bt,bu⟩;replace F:=mB F bu (λk hk=>gA (λh=>hk (gA h)));refine cT (Ak (C1 Mv (C1 Mv (C1 Pn (C1 Pf (C1 (Pl (Run.blk bt)) (cC rfl (HL.out _ _ Af) ?_)))))));rintro _ cw ⟨⟨⟩,au,bv⟩;replace F:=mB F bv (λk hk=>gA (λh=>hk (gA (gA h))));refine A4 (AN AR rfl (HC.out _ _) (λ_ _ h=>⟨_,h.1⟩)) rfl ?_ ?_;rotate_left;intro cx cy bw
      rotate_right 1
      rintro _ cz ⟨⟨⟩,bx,a5⟩;replace au:=au.ext a5;replace F:=F.ext a5;refine Al (Bi rfl ?_);rotate_left;refine AE ?_;rotate_left;refine AG (AE ?_);rotate_left;refine AG (AE ?_);rotate_left
     . exact Ex au F HR.out.sub (λk=>gA) (by rw [hZ];simp only [ac,ai,ar,a4,bx,gZ,C4,ne_eq,not_true,not_false_iff,if_false,if_true])
     . exact D3 bw F (λe=>by rw [hZ];simp only [ac,ai,ar,a4,gZ,C4,ne_eq,not_true,not_false_iff,if_false,if_true];rw [AT e])
     . exact BA br F (λk=>gA) (λer e=>by rw [hZ];simp only [ac,ai,ar,e,gZ,C4,ne_eq,not_true,not_false_iff,if_false,if_true])
     . exact BA cc F (λk=>gA) (λer e=>by rw [hZ];simp only [ac,ai,e,gZ,C4,ne_eq,not_true,not_false_iff,if_false,if_true])
   . exact D3 bp F (λe=>by rw [hZ];simp only [ac,gZ,C4,ne_eq,not_true,not_false_iff,if_false,if_true];rw [AT e])
   . exact BA b8 F (λk=>gA) (λer e=>by rw [hZ];simp only [e,gZ,C4,ne_eq,not_true,not_false_iff,if_false,if_true])
end
section
variable {c:RC} {T:nP}
def Zl (hc:c.fuel<=10000) {d:Nat} (IH:Ey c d) (b:Bool) {n:Int} {z u:Nd} (hx:x.isExpr=true) (hy:y.isBlock=true) (hz:z.isBlock=true) (hu:u.isExpr=true) (O:StOk c.g.procs (.mk 52 n s [x,y,z,u])) (a:oA) (m:Nat) (w:wD)
 (M:AI c.g.procs (d+1) b (.mk 52 n s [x,y,z,u]) r≠.error (-1)) (V:rowSits P w [x,y,z,u] a) (h:Run c P w r) :
 Calls prog 162 #[.pointer (some ⟨c.rb,0,none⟩),.agg #[.int .u8 52,.int .i64 n,str s,.slice a 4 m],.bool b] w (Dz c P (AI c.g.procs (d+1) b (.mk 52 n s [x,y,z,u]) r) w):=by
 have X:=Ne w;have Y:=fZ h;have F:=mx (λk=> ¬P k) w;obtain ⟨Z,N⟩:∃Z,Z=AI c.g.procs (d+1) b (.mk 52 n s [x,y,z,u]) r:=⟨_,rfl⟩
 rw [<-N] at M ⊢;replace N:Z=((BY (if b then u else x) r).bind λp=>(A0 (AI c.g.procs d) b (if p.1 then y else z) p.2).bind (BI (if b then x else u) p.1)):=by rw [N];unfold AI;cases b<;>rfl
 have HB:Hid (∀(G:nP) (w1:wD),rowSits G w1 [x,y,z,u] a->Run c G w1 r->Calls prog 187 #[.pointer (some ⟨c.rb,0,none⟩),.agg #[.int .u8 52,.int .i64 n,str s,.slice a 4 m],.bool b] w1 (TK (RunA c G Z w1) (QP G Z w1))):=
  fZ (λG w1 h1 h2=>by have h3:=WN (c:=c) (P:=G) (r:=r) hc IH b hx hy hz hu O a m w1 (by rw [<-N];exact M) h1 h2;rw [<-N] at h3;exact h3)
 refine Ad func162 ntmps162 rfl rfl ?_
 focus
  refine cS (eB [_,_,_,_] ?_);intro b1 w2 h4 x5 _ _;revert V X F;refine eE x5 ?_;intro V X F;refine eK ?_;refine A4 (AN AR rfl (HB.out (Cc P w w2) _ (Dc Af (λb h=>gA h)) (Y.out.more X)) (λ_ _ h=>h.ret)) rfl ?_ ?_;rotate_left;intro aa ab ac
  rotate_right 1
  rintro _ ad ⟨ae,⟨⟩,rfl,af,U⟩;have F:=mB F U (λk hk=>gA (λh=>hk (gA h)));refine Al (Ah (Bi rfl ?_));rotate_left;refine AV (AE ?_);rotate_left
 . exact Ex Af F Y.out.sub (λk=>gA) rfl
 . exact BA Af F (λk=>gA) aFh
def dG (hc:c.fuel<=10000) {d:Nat} (IH:Ey c d) (b:Bool) {n:Int} {z u:Nd} (hx:x.isExpr=true) (hy:y.isBlock=true) (hz:z.isBlock=true) (hu:u.isExpr=true) (O:StOk c.g.procs (.mk 53 n s [x,y,z,u])) (a:oA) (m:Nat) (w:wD)
 (M:AI c.g.procs (d+1) b (.mk 53 n s [x,y,z,u]) r≠.error (-1)) (V:rowSits P w [x,y,z,u] a) (h:Run c P w r) :
 Calls prog 162 #[.pointer (some ⟨c.rb,0,none⟩),.agg #[.int .u8 53,.int .i64 n,str s,.slice a 4 m],.bool b] w (Dz c P (AI c.g.procs (d+1) b (.mk 53 n s [x,y,z,u]) r) w):=by
 have X:=Ne w;have Y:=fZ h;have F:=mx (λk=> ¬P k) w;obtain ⟨Z,N⟩:∃Z,Z=AI c.g.procs (d+1) b (.mk 53 n s [x,y,z,u]) r:=⟨_,rfl⟩
 rw [<-N] at M ⊢;replace N:Z=((BI (if b then u else x) true r).bind (Cz (A0 (AI c.g.procs d) b y) (A0 (AI c.g.procs d) b z) (if b then x else u) (if b then u else x) d)):=by rw [N];unfold AI;cases b<;>rfl
 have HB:Hid (∀(G:nP) (w1:wD),rowSits G w1 [x,y,z,u] a->Run c G w1 r->Calls prog 188 #[.pointer (some ⟨c.rb,0,none⟩),.agg #[.int .u8 53,.int .i64 n,str s,.slice a 4 m],.bool b] w1 (TK (RunA c G Z w1) (QP G Z w1))):=
  fZ (λG w1 h1 h2=>by have h3:=bA (c:=c) (P:=G) (r:=r) hc IH b hx hy hz hu O a m w1 (by rw [<-N];exact M) h1 h2;rw [<-N] at h3;exact h3)
 refine Ad func162 ntmps162 rfl rfl ?_
 focus
  refine cS (eB [_,_,_,_] ?_);intro b1 w2 h4 x5 _ _;revert V X F;refine eE x5 ?_;intro V X F;refine eK ?_;refine A4 (AN AR rfl (HB.out (Cc P w w2) _ (Dc Af (λb h=>gA h)) (Y.out.more X)) (λ_ _ h=>h.ret)) rfl ?_ ?_;rotate_left;intro aa ab ac
  rotate_right 1
  rintro _ ad ⟨ae,⟨⟩,rfl,af,U⟩;have F:=mB F U (λk hk=>gA (λh=>hk (gA h)));refine Al (Ah (Bi rfl ?_));rotate_left;refine AV (AE ?_);rotate_left
 . exact Ex Af F Y.out.sub (λk=>gA) rfl
 . exact BA Af F (λk=>gA) aFh
def bB (hc:c.fuel<=10000) {d:Nat} (IH:Ey c d) (b:Bool) {n:Int} {z:Nd} (hx:x.isExpr=true) (hy:y.isBlock=true) (hz:z.isExpr=true) (O:StOk c.g.procs (.mk 54 n s [x,y,z])) (a:oA) (m:Nat) (w:wD)
 (M:AI c.g.procs (d+1) b (.mk 54 n s [x,y,z]) r≠.error (-1)) (V:rowSits P w [x,y,z] a) (h:Run c P w r) :
 Calls prog 162 #[.pointer (some ⟨c.rb,0,none⟩),.agg #[.int .u8 54,.int .i64 n,str s,.slice a 3 m],.bool b] w (Dz c P (AI c.g.procs (d+1) b (.mk 54 n s [x,y,z]) r) w):=by
 have X:=Ne w;have Y:=fZ h;have F:=mx (λk=> ¬P k) w;obtain ⟨Z,N⟩:∃Z,Z=AI c.g.procs (d+1) b (.mk 54 n s [x,y,z]) r:=⟨_,rfl⟩
 rw [<-N] at M ⊢;replace N:Z=((Bn r).bind λr=>(B5 (if b then z else x) r).bind λv=>(C4 (·.opens ⟨s,1,0⟩ v) r).bind λr=>(A0 (AI c.g.procs d) b y r).bind λr=>(Bn r).bind λr=>(B5 (if b then x else z) r).bind λv=>C4 (·.closes s v) r):=by rw [N];unfold AI;cases b<;>rfl
 have HB:Hid (∀(G:nP) (w1:wD),rowSits G w1 [x,y,z] a->Run c G w1 r->Calls prog 189 #[.pointer (some ⟨c.rb,0,none⟩),.agg #[.int .u8 54,.int .i64 n,str s,.slice a 3 m],.bool b] w1 (TK (RunA c G Z w1) (QP G Z w1))):=
  fZ (λG w1 h1 h2=>by have h3:=Zk (c:=c) (P:=G) (r:=r) hc IH b hx hy hz O a m w1 (by rw [<-N];exact M) h1 h2;rw [<-N] at h3;exact h3)
 refine Ad func162 ntmps162 rfl rfl ?_
 focus
  refine cS (eB [_,_,_,_] ?_);intro b1 w2 h4 x5 _ _;revert V X F;refine eE x5 ?_;intro V X F;refine eK ?_;refine A4 (AN AR rfl (HB.out (Cc P w w2) _ (Dc Af (λb h=>gA h)) (Y.out.more X)) (λ_ _ h=>h.ret)) rfl ?_ ?_;rotate_left;intro aa ab ac
  rotate_right 1
  rintro _ ad ⟨ae,⟨⟩,rfl,af,U⟩;have F:=mB F U (λk hk=>gA (λh=>hk (gA h)));refine Al (Ah (Bi rfl ?_));rotate_left;refine AV (AE ?_);rotate_left
 . exact Ex Af F Y.out.sub (λk=>gA) rfl
 . exact BA Af F (λk=>gA) aFh
def Zm (hc:c.fuel<=10000) {d:Nat} (IH:Ey c d) (b:Bool) (hg:ProcsOk c.g) {n:Int} (U:CD c.g.procs s=some i) (hl:l.length<=8) (aa:StOk c.g.procs (.mk 50 n s l)) (a:oA) (m:Nat) (w:wD)
 (M:AI c.g.procs (d+1) b (.mk 50 n s l) r≠.error (-1)) (V:rowSits P w l a) (h:Run c P w r) :
 Calls prog 162 #[.pointer (some ⟨c.rb,0,none⟩),.agg #[.int .u8 50,.int .i64 n,str s,.slice a l.length m],.bool b] w (Dz c P (AI c.g.procs (d+1) b (.mk 50 n s l) r) w):=by
 have X:=Ne w;have Y:=fZ h;have F:=mx (λk=> ¬P k) w;obtain ⟨Z,N⟩:∃Z,Z=AI c.g.procs (d+1) b (.mk 50 n s l) r:=⟨_,rfl⟩
 rw [<-N] at M ⊢;replace N:Z=((Bn r).bind λr=>(C4 (·.enters (c.g.procs.getD i ⟨[],[],.mk 0 0 [] []⟩).params (l.map mQ)) r).bind λr=>(A0 (AI c.g.procs d) (b != decide ((50:Int)=51)) (c.g.procs.getD i ⟨[],[],.mk 0 0 [] []⟩).body r).bind λr=>(Bn r).bind (C4 (·.leaves))):=by rw [N];rw [Mr _ _ _ Ab,U];rfl
 have HB:Hid (∀(G:nP) (w1:wD) (q:Bool) (hq:q=(b != decide ((50:Int)=51))),rowSits G w1 l a->Run c G w1 r->Calls prog 194 #[.pointer (some ⟨c.rb,0,none⟩),.agg #[.int .u8 50,.int .i64 n,str s,.slice a l.length m],.bool q] w1 (TK (RunA c G Z w1) (QP G Z w1))):=
  fZ (λG w1 q hq h1 h2=>by subst hq;have h3:=WP (k:=50) (n:=n) (c:=c) (P:=G) (r:=r) hc hg IH (b != decide ((50:Int)=51)) U hl a m w1 (by rw [<-N];exact M) h1 h2;rw [<-N] at h3;exact h3)
 refine Ad func162 ntmps162 rfl rfl ?_
 focus
  refine cS (eB [_,_,_,_] ?_);intro b1 w2 h4 x5 _ _;revert V X F;refine eE x5 ?_;intro V X F;refine eK ?_;refine C1 (Mt Ac rfl rfl rfl) ?_;refine A4 (AN AR rfl (HB.out (Cc P w w2) _ _ (by cases b<;>rfl) (Dc Af (λb h=>gA h)) (Y.out.more X)) (λ_ _ h=>h.ret)) rfl ?_ ?_;rotate_left;intro ab ac ad
  rotate_right 1
  rintro _ ae ⟨af,⟨⟩,rfl,ag,O⟩;have F:=mB F O (λk hk=>gA (λh=>hk (gA h)));refine Al (Ah (Bi rfl ?_));rotate_left;refine AV (AE ?_);rotate_left
 . exact Ex Af F Y.out.sub (λk=>gA) rfl
 . exact BA Af F (λk=>gA) aFh
def Zn (hc:c.fuel<=10000) {d:Nat} (IH:Ey c d) (b:Bool) (hg:ProcsOk c.g) {n:Int} (U:CD c.g.procs s=some i) (hl:l.length<=8) (aa:StOk c.g.procs (.mk 51 n s l)) (a:oA) (m:Nat) (w:wD)
 (M:AI c.g.procs (d+1) b (.mk 51 n s l) r≠.error (-1)) (V:rowSits P w l a) (h:Run c P w r) :
 Calls prog 162 #[.pointer (some ⟨c.rb,0,none⟩),.agg #[.int .u8 51,.int .i64 n,str s,.slice a l.length m],.bool b] w (Dz c P (AI c.g.procs (d+1) b (.mk 51 n s l) r) w):=by
 have X:=Ne w;have Y:=fZ h;have F:=mx (λk=> ¬P k) w;obtain ⟨Z,N⟩:∃Z,Z=AI c.g.procs (d+1) b (.mk 51 n s l) r:=⟨_,rfl⟩
 rw [<-N] at M ⊢;replace N:Z=((Bn r).bind λr=>(C4 (·.enters (c.g.procs.getD i ⟨[],[],.mk 0 0 [] []⟩).params (l.map mQ)) r).bind λr=>(A0 (AI c.g.procs d) (b != decide ((51:Int)=51)) (c.g.procs.getD i ⟨[],[],.mk 0 0 [] []⟩).body r).bind λr=>(Bn r).bind (C4 (·.leaves))):=by rw [N];rw [Mr _ _ _ Ab,U];rfl
 have HB:Hid (∀(G:nP) (w1:wD) (q:Bool) (hq:q=(b != decide ((51:Int)=51))),rowSits G w1 l a->Run c G w1 r->Calls prog 194 #[.pointer (some ⟨c.rb,0,none⟩),.agg #[.int .u8 51,.int .i64 n,str s,.slice a l.length m],.bool q] w1 (TK (RunA c G Z w1) (QP G Z w1))):=
  fZ (λG w1 q hq h1 h2=>by subst hq;have h3:=WP (k:=51) (n:=n) (c:=c) (P:=G) (r:=r) hc hg IH (b != decide ((51:Int)=51)) U hl a m w1 (by rw [<-N];exact M) h1 h2;rw [<-N] at h3;exact h3)
 refine Ad func162 ntmps162 rfl rfl ?_
 focus
  refine cS (eB [_,_,_,_] ?_);intro b1 w2 h4 x5 _ _;revert V X F;refine eE x5 ?_;intro V X F;refine eK ?_;refine C1 (Mt Ac rfl rfl rfl) ?_;refine A4 (AN AR rfl (HB.out (Cc P w w2) _ _ (by cases b<;>rfl) (Dc Af (λb h=>gA h)) (Y.out.more X)) (λ_ _ h=>h.ret)) rfl ?_ ?_;rotate_left;intro ab ac ad
  rotate_right 1
  rintro _ ae ⟨af,⟨⟩,rfl,ag,O⟩;have F:=mB F O (λk hk=>gA (λh=>hk (gA h)));refine Al (Ah (Bi rfl ?_));rotate_left;refine AV (AE ?_);rotate_left
 . exact Ex Af F Y.out.sub (λk=>gA) rfl
 . exact BA Af F (λk=>gA) aFh
def bC (O:c.fuel<=10000) (hg:ProcsOk c.g) {d:Nat} (Y:Ey c d):WM c (d+1):=by
 intro P b t r a m w N G M U h;cases Cg N with
 | upd X V Z=>exact Le O d b Ab N G a m w U h
 | swap V Z=>exact Le O d b Ab N G a m w U h
 | stack X hn V=>exact Le O d b Ab N G a m w U h
 | tape X V=>exact Le O d b Ab N G a m w U h
 | call X hn hl hv=>
  rename_i k s l;obtain ⟨i,hi⟩:=Option.isSome_iff_exists.1 (G.calls.1 X);rcases X with rfl|rfl
  . exact Zm O Y b hg hi hl G a m w M U h
  . exact Zn O Y b hg hi hl G a m w M U h
 | branch X V Z hz hu=>
  rcases X with rfl|rfl
  . exact Zl O Y b V Z hz hu G a m w M U h
  . exact dG O Y b V Z hz hu G a m w M U h
 | local_ hn V Z hz=>exact bB O Y b V Z hz G a m w M U h
 | lstack hn V=>exact WO O Y b V G a m w M U h
def Tm (G:c.fuel<=10000) (M:ProcsOk c.g):∀d,WM c d
 | 0=>λP b t r a m w _ _ h _ _=>absurd (by unfold AI;rfl) h
 | d+1=>bC G M (Tk (Tm G M d))
def WQ (h:c.fuel<=10000) (G:ProcsOk c.g) (d:Nat):Ey c d:=Tk (Tm h G d)
end
end Bk
