/- Texts that the proofs of GradebookAll need. No condition. (Part 5 of 6.) -/
import Derived.Test.YteiiipaobncfgaaGreatPGam4
set_option linter.unusedSimpArgs false
set_option linter.unusedVariables false
set_option linter.defProp false
set_option maxRecDepth 100000
set_option maxHeartbeats 4000000
open Go.Proofs.Tryz
open Or renaming inl->iG,inr->iH
open Go.Result renaming andThen->iP
open Except renaming bind->i6
open Go renaming Calls->i9
open Go.Value renaming slice->jf,int->jz,ownBlock->km
open Nat renaming blt->jg,ble->jW,beq->ke
open Go.Region renaming ready->jj,binds->jN
open List renaming replicate->jn,range->jQ
open Go.Builtin renaming zeroCells->jG
open Go.IntKind renaming wrap->jP
open Array renaming replicate->jZ
open Go.Oper renaming wp->kh
open Go.Addr renaming add->ki
open Go.Sem renaming run->kG
namespace Bk
abbrev nH:=@Run.blk
end Bk
open Bk.Stp renaming transfer->mP,setCur->mV,items->m6,move->nh,leaves->nj,enters->nr
open Bk.Nd renaming size->mR,name->mZ,kind->m7
namespace Bk
open Go Go.RowKit Go.Proofs
attribute [local irreducible] Go.Calls
variable {n:Int} {d:Nat} {l:List Nd} {w:wD} {s:lB} {y:Nd} {P:nP} {c:RC} {r:Rn}
mutual
def dJ (ps:List PD):Nd->Prop
 | .mk k _ s l=>((k=50\/k=51)->(Cf ps s).isSome=true)/\XI ps l
def XI (ps:List PD):List Nd->Prop
 | []=>True
 | t::r=>dJ ps t/\XI ps r
end
def Kv {ps:List PD}:∀ {l:List Nd} {i:Nat} {t:Nd},XI ps l->l[i]? = some t->dJ ps t
 | x::r,0,t,h,e=>by simp only [ja,iL] at e;subst e;exact h.1
 | x::r,i+1,t,h,e=>Kv h.2 (by simpa using e)
 | [],_,_,_,e=>by simp at e
def Ii:∀ {l:List Nd} {i:Nat} {t:Nd},D0 l=true->l[i]? = some t->t.isStmt=true
 | x::r,0,t,h,e=>by simp only [ja,iL] at e;subst e;simp only [D0,iJ] at h;exact h.1
 | x::r,i+1,t,h,e=>by simp only [D0,iJ] at h;exact Ii h.2 (by simpa using e)
 | [],_,_,_,e=>by simp at e
structure StOk (ps:List PD) (t:Nd):Prop where
 wf:t.wf
 size:t.size<=1000000
 calls:dJ ps t
def XJ (c:RC) (d:Nat):Prop:= ∀(P:nP) (b:Bool) (t:Nd) (r:Rn) (a:oA) (m:Nat) (w:wD),t.isStmt=true->StOk c.g.procs t->Ax c.g.procs d b t r≠.error (-1)->t.sits P w a->Run c P w r ->
 Calls prog 162 #[.pointer (some ⟨c.rb,0,none⟩),t.val a m,.bool b] w (DG c P (Ax c.g.procs d b t r) w)
def EY (c:RC) (d:Nat):Prop:= ∀(P:nP) (b:Bool) (t:Nd) (r:Rn) (a:oA) (m:Nat) (w:wD),t.isBlock=true->StOk c.g.procs t->AH (Ax c.g.procs d) b t r≠.error (-1)->t.sits P w a->Run c P w r ->
 Calls prog 121 #[.pointer (some ⟨c.rb,0,none⟩),t.val a m,.bool b] w (DG c P (AH (Ax c.g.procs d) b t r) w)
section
variable {P':nP} {w':wD} {T:nP}
def Uq {d:Nat} (IH:XJ c d):EY c d:=by
 intro P b t r a m w hb ar af N h;have X:=Ne w;have HR:=iF h;clear h;obtain ⟨k,n,s,l⟩:=t;have Z:D0 l=true:=by
  unfold Nd.isBlock at hb;simp only [iJ] at hb;exact hb.2
 obtain ⟨au,hz,av⟩:=ar;obtain ⟨-,-,-,-,-,-,ag⟩:=au;have ah:XI c.g.procs l:=av.2;have a3:=Cz l;simp only [mR] at hz;have hX:AH (Ax c.g.procs d) b (.mk k n s l) r=Ei (Ax c.g.procs d b) (if b then l.reverse else l) r:=rfl;rw [hX] at af ⊢;have N:rowSits P w l a:=N;change Calls prog _ #[_,.agg #[.int .u8 k,.int .i64 n,str s,.slice a l.length m],_] w _;generalize hL:(if b then l.reverse else l)=L at *;have a4:L.length=l.length:=by rw [<-hL];split<;>simp
 have ai:∀j,j<l.length->l[if b then l.length-1-j else j]? = L[j]? := λj hj=>by
  rw [<-hL];cases b
  . rfl
  . simp only [if_true];rw [List.getElem?_reverse hj]
 refine Ad func121 ntmps121 rfl rfl ?_;refine cS (eB [_,_,_,_] ?_);intro b1 w2 h4 x5 p6 z7;have X:=X.ext x5;clear N;have N:=nn N x5;refine cT ?_;have h1:=HR.out.more X;have F:Fr (λk=> ¬P k) w w2:=mG X;clear X;refine eK ?_;refine C1 (AL rfl rfl (iO _ Ab)) (C1 Pa (cN (C1 Pf (C1 (Pl h4) (C1 Pz (C1 Mv (cT ?_)))))));refine Au ?_;refine AP (ι:=Nat) (λj=>[(0,pt c.rb),(2,.bool b),(4,pt b1),(6,.int .i64 ((l.length:Int)-1)),(14,.int .i64 l.length),(15,.int .i64 j)])
  (λj w'=> ∃Y,j<=l.length/\Run c (Cl P w w2) w' Y/\Blk w' b1 [.int .u8 k,.int .i64 n,str s,.slice a l.length m]/\rowSits P w' l a/\Fr (λk=> ¬P k) w w'/\Ei (Ax c.g.procs d b) L r=Ei (Ax c.g.procs d b) (L.drop j) Y)
  (λj=>l.length-j) 0 sB ⟨r,iT _,h1,h4,N,F,rfl⟩ ?_
 clear h1 h4 N F;rintro j w1 ⟨Y,hj,h1,h4,N,F,O⟩;by_cases aj:j<l.length
 . obtain ⟨kb,ko,rfl,a5,M⟩:=BI N (by intro e;subst e;simp at aj);have G:=ai j aj;rw [iE (by omega:j<L.length)] at G;rw [jd (by omega:j<L.length),Ei] at O;have ak:Ax c.g.procs d b L[j] Y≠.error (-1):=λe=>af (by rw [O,e];rfl)
   have U:∀er,Ax c.g.procs d b L[j] Y = .error er->Ei (Ax c.g.procs d b) L r = .error er:=λer e=>by rw [O,e];rfl
   have V:∀r2,Ax c.g.procs d b L[j] Y = .ok r2->Ei (Ax c.g.procs d b) L r=Ei (Ax c.g.procs d b) (L.drop (j+1)) r2:=λr2 e=>by rw [O,e];rfl
   cases b with
   | false=>
    simp only [jv,if_true,if_false] at G;obtain ⟨xa,xc,rx,sx⟩:=M _ _ G;have ac:=Ii Z G;have ad:=Kv ah G;have ae:=BD ag _ (jh G);have aw:=Ej (jh G);clear M G;generalize L[j]=x at *;have HS:=iF (λw1 h1 h2=>IH (Cl P w w2) false x Y xa xc w1 ac ⟨ae,Ab,ad⟩ ak h1 h2);unfold DG at HS;obtain ⟨xk,xn,xs,xl⟩:=x;replace rx:Row w1 ⟨kb,ko+j*4,none⟩ [.int .u8 xk,.int .i64 xn,str xs,.slice xa xl.length xc]:=rx
    focus
     refine eK ?_;refine A4 (AQ AU rfl (HS.out _ (mK Ae (λb h=>iG h)) Ae) (λ_ _ h=>h.ret)) rfl ?_ ?_;rotate_left;intro a6 a7 ax
     rotate_right 1
     rintro _ az ⟨al,⟨⟩,am,an,aa⟩;revert F h4 N sx;refine eZ aa ?_;intro a0 F h4 N sx;clear rx aa;refine Ak (Ah (Ai (Al (C1 V7 (C1 Mv (Ak ?_))))));rotate_left;refine AS (AI (AI (AS (AF ?_))));rotate_left
    . exact AA (j+1) sB ⟨al,Ab,an,Ae,Ae,F,V _ am⟩ Ab
    . obtain ⟨er,g1,g2,g3⟩:=ax;exact iH ⟨_,rfl,er,U _ g1,g2,F.fr g3 (λk hk=>iG (λh=>hk (iG h)))⟩
   | true=>
    simp only [if_true,if_false] at G;obtain ⟨xa,xc,rx,sx⟩:=M _ _ G;have ac:=Ii Z G;have ad:=Kv ah G;have ae:=BD ag _ (jh G);have aw:=Ej (jh G);clear M G;generalize L[j]=x at *;have HS:=iF (λw1 h1 h2=>IH (Cl P w w2) true x Y xa xc w1 ac ⟨ae,Ab,ad⟩ ak h1 h2);unfold DG at HS;obtain ⟨xk,xn,xs,xl⟩:=x;replace rx:Row w1 ⟨kb,ko+((l.length:Int)-1-(j:Int)).toNat*4,none⟩ [.int .u8 xk,.int .i64 xn,str xs,.slice xa xl.length xc]:=by rw [show ((l.length:Int)-1-(j:Int)).toNat=l.length-1-j by omega];exact rx
    focus
     refine eK ?_;refine C1 (AL rfl rfl (iO _ Ab)) ?_;refine eK ?_;refine A4 (AQ AU rfl (HS.out _ (mK Ae (λb h=>iG h)) Ae) (λ_ _ h=>h.ret)) rfl ?_ ?_;rotate_left;intro a8 a9 ay
     rotate_right 1
     rintro _ a1 ⟨ao,⟨⟩,ap,aq,ab⟩;revert F h4 N sx;refine eZ ab ?_;intro a2 F h4 N sx;clear rx ab;refine Ak (Ah (Ai (Al (C1 V7 (C1 Mv (Ak ?_))))));rotate_left;refine AS (AI (AI (AS (AF ?_))));rotate_left
    . exact AA (j+1) sB ⟨ao,Ab,aq,Ae,Ae,F,V _ ap⟩ Ab
    . obtain ⟨er,g1,g2,g3⟩:=ay;exact iH ⟨_,rfl,er,U _ g1,g2,F.fr g3 (λk hk=>iG (λh=>hk (iG h)))⟩
 . obtain rfl:j=l.length:=by omega
   rw [List.drop_of_length_le Ab] at O;rw [O];refine cS (C1 V3 (cT (Aj (DA (Ca (AB (AB (A0 (Bm rfl ?_)))))))));exact iG ⟨Y,rfl,rfl,h1.less HR.out.sub (λk=>iG),F⟩
end
section
variable {P':nP} {w':wD} {T:nP}
def Run.lt (h:Run c P w r):∀k,P k->k<w.heap.size:=λk G=>by
 obtain ⟨_,_,h⟩:=h;exact (h.off k G).2
def StOk.kid {ps:List PD} {k:Int} (h:StOk ps (.mk k n s l)) {i:Nat} {t:Nd} (G:l[i]? = some t):StOk ps t:=by
 obtain ⟨M,N,O⟩:=h;obtain ⟨-,-,-,-,-,-,U⟩:=M;have:=Ej (jh G);simp only [mR] at N;exact ⟨BD U _ (jh G),Ab,Kv O.2 G⟩
def XK (hc:c.fuel<=10000) (IH:EY c d) (b:Bool) {x z u:Nd} (hx:x.isExpr=true) (hy:y.isBlock=true) (hz:z.isBlock=true) (hu:u.isExpr=true) (ae:StOk c.g.procs (.mk 52 n s [x,y,z,u])) (a:oA) (m:Nat) (w:wD)
 (ai:((BK (if b then u else x) r).bind λp=>(AH (Ax c.g.procs d) b (if p.1 then y else z) p.2).bind (Bj (if b then x else u) p.1))≠.error (-1)) (hs:(Nd.mk 52 n s [x,y,z,u]).sits P w a) (h:Run c P w r) :
 Calls prog 187 #[pt c.rb,(Nd.mk 52 n s [x,y,z,u]).val a m,.bool b] w (DG c P ((BK (if b then u else x) r).bind λp=>(AH (Ax c.g.procs d) b (if p.1 then y else z) p.2).bind (Bj (if b then x else u) p.1)) w):=by
 have X:=Ne w;have HR:=iF h;have N:=h.lt;have hs:rowSits P w [x,y,z,u] a:=hs;obtain ⟨kb,ko,rfl,aj,af⟩:=BI hs AN;obtain ⟨ya,yc,Y,sy⟩:=af 1 y rfl;obtain ⟨za,zc,rz,sz⟩:=af 2 z rfl;have bz:=ae.kid (i:=0) rfl;have a1:=ae.kid (i:=1) rfl;have a2:=ae.kid (i:=2) rfl;have b0:=ae.kid (i:=3) rfl;have HE:=iF (λw1 U h2=>Tm (k:=52) (n:=n) (s:=s) (l:=[x,y,z,u]) (P:=P) AN AN b (some ⟨kb,ko,none⟩) m w1 U h2);have hf:(if b then u else x).isExpr=true:=by cases b <;> assumption
 have hg:(if b then x else u).isExpr=true:=by cases b<;>assumption
 have a3:StOk c.g.procs (if b then u else x):=by cases b<;>assumption
 have a4:StOk c.g.procs (if b then x else u):=by cases b<;>assumption
 simp only [show Bu [x,y,z,u] ([x,y,z,u].length-1)=u from rfl,show Bu [x,y,z,u] 0=x from rfl] at HE;generalize (if b then u else x)=f at *;generalize (if b then x else u)=g at *;obtain ⟨fk,fn,fs,fl⟩:=f;obtain ⟨gk,gn,gs,gl⟩:=g;obtain ⟨yk,yn,ys,yl⟩:=y;obtain ⟨zk,zn,zs,zl⟩:=z;replace Y:Row w ⟨kb,ko+1*4,none⟩ [.int .u8 yk,.int .i64 yn,str ys,.slice ya yl.length yc]:=Y;replace rz:Row w ⟨kb,ko+2*4,none⟩ [.int .u8 zk,.int .i64 zn,str zs,.slice za zl.length zc]:=rz;change Calls prog _ #[_,.agg #[.int .u8 52,.int .i64 n,str s,.slice (some ⟨kb,ko,none⟩) 4 m],_] w _;have b2:=N kb aj;obtain ⟨Z,hZ⟩:∃Z,Z=((BK (.mk fk fn fs fl) r).bind λp=>(AH (Ax c.g.procs d) b (if p.1 then .mk yk yn ys yl else .mk zk zn zs zl) p.2).bind (Bj (.mk gk gn gs gl) p.1)):=⟨_,rfl⟩
 rw [<-hZ] at ai ⊢;have x1:∀er,BK (.mk fk fn fs fl) r = .error er->Z = .error er:=λer e=>by rw [hZ,e];rfl
 have x2:∀q r1,BK (.mk fk fn fs fl) r = .ok (q,r1)->Z=(AH (Ax c.g.procs d) b (if q then .mk yk yn ys yl else .mk zk zn zs zl) r1).bind (Bj (.mk gk gn gs gl) q):=λq r1 e=>by rw [hZ,e];rfl
 refine Ad func187 ntmps187 rfl rfl (cS (eB [_,_,_,_] ?_));intro b1 w2 h4 x5 p6 z7;revert X sy sz;refine eE x5 ?_;intro X sy sz;revert hs Y rz;refine eE x5 ?_;intro hs Y rz;refine kQ (HE.out _ Ae (λk hk=>by have:=N k hk;omega)) ?_;rintro _ b3 ⟨a8,m9,am,an,⟨⟩,V,G,a5⟩;revert h4 X sy sz Y rz;refine eY a5 ?_;intro b4 h4 X sy sz Y rz;refine eK ?_;refine eA [_,_,_,_] ?_;intro b5 b6 ak a6 b7 b8;revert V G h4 X sy sz Y rz;refine eE a6 ?_;intro V G h4 X sy sz Y rz;refine eA [_,_,_,_] ?_;intro b9 ca al a7 cb cc;revert ak V G h4 X sy sz Y rz;refine eE a7 ?_;intro ak V G h4 X sy sz Y rz;refine eS [_,_,_,_] ak ?_;intro cd ao f35 ce;have al:=al.fr f35 Ab;have V:=mF V f35 (λb hb h=>by (have U:=N b hb;omega));have G:=mF G f35 (λb hb h=>by (have U:=N b hb;omega));revert h4 X;refine eF f35 ?_;intro h4 X;have sy:=mF sy f35 (λb hb h=>by (have U:=N b hb;omega));have sz:=mF sz f35 (λb hb h=>by (have U:=N b hb;omega));revert Y rz;refine eF f35 ?_;intro Y rz;refine eS [_,_,_,_] al ?_;intro ad ac aa cf;have ao:=ao.fr aa Ab;have V:=mF V aa (λb hb h=>by (have U:=N b hb;omega));have G:=mF G aa (λb hb h=>by (have U:=N b hb;omega))
 revert h4 X;refine eF aa ?_;intro h4 X;have sy:=mF sy aa (λb hb h=>by (have U:=N b hb;omega));have sz:=mF sz aa (λb hb h=>by (have U:=N b hb;omega));revert Y rz;refine eF aa ?_;intro Y rz;refine cT ?_;have U:=HR.out.more X;have F:Fr (λk=> ¬P k) w ad:=mG X;have HH:=iF (λw1 U h2=>PW (c:=c) (P:=Cl P w ad) (r:=r) hc _ a3.wf hf a8 m9 w1 U h2);unfold ZY at HH;have HY:=iF (λq r1 (e:BK (.mk fk fn fs fl) r = .ok (q,r1)) (hq:q=true) w1 U h2=>IH (Cl P w ad) b _ r1 ya yc w1 hy a1 (λe2=>ai (by rw [x2 _ _ e,hq];simp only [if_true];rw [e2];rfl)) U h2);have HZ:=iF (λq r1 (e:BK (.mk fk fn fs fl) r = .ok (q,r1)) (hq:q=false) w1 U h2=>IH (Cl P w ad) b _ r1 za zc w1 hz a2 (λe2=>ai (by rw [x2 _ _ e,hq];simp only [jv,if_false];rw [e2];rfl)) U h2);have HA:=iF (λq r2 w1 U h2=>RK (c:=c) (P:=Cl P w ad) (r:=r2) hc q _ a4.wf hg am an w1 U h2);unfold DG at HY HZ HA
 focus
  refine eK ?_;refine A4 (AQ AU rfl (HH.out _ (mK Ae (λb h=>iG h)) Ae) (λ_ _ h=>h.ret)) rfl ?_ ?_;rotate_left;intro cg ch a9
  rotate_right 1
  rintro _ bb ⟨bc,bd,⟨⟩,O,be,ab⟩;revert ac G h4 sy sz;refine eF ab ?_;intro ac G h4 sy sz;have Y:=mT Y ab (λh=>h (iG aj));have rz:=mT rz ab (λh=>h (iG aj));have F:=mL F ab (λk hk=>iG (λh=>hk (iG h)));refine C1 Pa (cT (Aj (cS (C1 Mv (cT (FV rfl (λM=>?_) (λM=>?_)))))));refine eK ?_;refine A4 (AQ AU rfl (HY.out _ _ Ae Ae _ (mK Ae (λb h=>iG h)) Ae) (λ_ _ h=>h.ret)) rfl ?_ ?_;rotate_left;intro bf bg ap
  rotate_right 1
  rintro _ bh ⟨bi,⟨⟩,ag,bj,aq⟩;revert ac G F;refine eF aq ?_;intro ac G F;refine eK ?_;refine A4 (AQ AU rfl (HA.out _ _ _ (mK Ae (λb h=>iG h)) Ae) (λ_ _ h=>h.ret)) rfl ?_ ?_;rotate_left;intro bk bl ar
  rotate_right 1
  rintro _ bm ⟨bn,⟨⟩,bo,au,av⟩;have F:=mL F av (λk hk=>iG (λh=>hk (iG h)));refine Ak (Bm rfl ?_);rotate_left;refine AF ?_;rotate_left;refine AI (AF ?_);rotate_left;refine eK ?_;refine A4 (AQ AU rfl (HZ.out _ _ Ae Ae _ (mK Ae (λb h=>iG h)) Ae) (λ_ _ h=>h.ret)) rfl ?_ ?_;rotate_left;intro bp bq aw
  rotate_right 1
  rintro _ br ⟨bs,⟨⟩,ah,bt,ax⟩;revert ac G F;refine eF ax ?_;intro ac G F;refine eK ?_;refine A4 (AQ AU rfl (HA.out _ _ _ (mK Ae (λb h=>iG h)) Ae) (λ_ _ h=>h.ret)) rfl ?_ ?_;rotate_left;intro bu bv ay
  rotate_right 1
  rintro _ ba ⟨bw,⟨⟩,bx,az,a0⟩;have F:=mL F a0 (λk hk=>iG (λh=>hk (iG h)));refine Ak (Bm rfl ?_);rotate_left;refine AF ?_;rotate_left;refine AI (AF ?_);rotate_left;refine AI (AF ?_);rotate_left
 . subst M;exact EW au F HR.out.sub (λk=>iG) (by rw [x2 _ _ O];simp only [if_true,jv,if_false,ag,i6];assumption)
 . subst M;exact Bz ar F (λk=>iG) (λer e=>by rw [x2 _ _ O];simp only [if_true,jv,if_false,ag,i6];exact e)
 . subst M;exact Bz ap F (λk=>iG) (λer e=>by rw [x2 _ _ O];simp only [if_true,jv,if_false,e,i6])
 . subst M;exact EW az F HR.out.sub (λk=>iG) (by rw [x2 _ _ O];simp only [if_true,jv,if_false,ah,i6];assumption)
 . subst M;exact Bz ay F (λk=>iG) (λer e=>by rw [x2 _ _ O];simp only [if_true,jv,if_false,ah,i6];exact e)
 . subst M;exact Bz aw F (λk=>iG) (λer e=>by rw [x2 _ _ O];simp only [if_true,jv,if_false,e,i6])
 . exact Bz a9 F (λk=>iG) x1
def dK (hc:c.fuel<=10000) (IH:EY c d) (b:Bool) {x z u:Nd} (hx:x.isExpr=true) (hy:y.isBlock=true) (bb:z.isBlock=true) (hu:u.isExpr=true) (ao:StOk c.g.procs (.mk 53 n s [x,y,z,u])) (a:oA) (m:Nat) (w:wD)
 (am:((Bj (if b then u else x) true r).bind (Cg (AH (Ax c.g.procs d) b y) (AH (Ax c.g.procs d) b z) (if b then x else u) (if b then u else x) d))≠.error (-1)) (hs:(Nd.mk 53 n s [x,y,z,u]).sits P w a) (h:Run c P w r) :
 Calls prog 188 #[pt c.rb,(Nd.mk 53 n s [x,y,z,u]).val a m,.bool b] w (DG c P ((Bj (if b then u else x) true r).bind (Cg (AH (Ax c.g.procs d) b y) (AH (Ax c.g.procs d) b z) (if b then x else u) (if b then u else x) d)) w):=by
 have X:=Ne w;have HR:=iF h;have ab:=h.lt;have hs:rowSits P w [x,y,z,u] a:=hs;obtain ⟨kb,ko,rfl,aa,ap⟩:=BI hs AN;obtain ⟨ya,yc,O,Y⟩:=ap 1 y rfl;obtain ⟨za,zc,U,sz⟩:=ap 2 z rfl;have b5:=ao.kid (i:=0) rfl;have bc:=ao.kid (i:=1) rfl;have bd:=ao.kid (i:=2) rfl;have b6:=ao.kid (i:=3) rfl;have HE:=iF (λw1 h1 h2=>Tm (k:=53) (n:=n) (s:=s) (l:=[x,y,z,u]) (P:=P) AN AN b (some ⟨kb,ko,none⟩) m w1 h1 h2);have hf:(if b then u else x).isExpr=true:=by cases b <;> assumption
 have hg:(if b then x else u).isExpr=true:=by cases b<;>assumption
 have be:StOk c.g.procs (if b then u else x):=by cases b<;>assumption
 have bf:StOk c.g.procs (if b then x else u):=by cases b<;>assumption
 simp only [show Bu [x,y,z,u] ([x,y,z,u].length-1)=u from rfl,show Bu [x,y,z,u] 0=x from rfl] at HE;generalize (if b then u else x)=f at *;generalize (if b then x else u)=g at *;obtain ⟨fk,fn,fs,fl⟩:=f;obtain ⟨gk,gn,gs,gl⟩:=g;obtain ⟨yk,yn,ys,yl⟩:=y;obtain ⟨zk,zn,zs,zl⟩:=z;replace O:Row w ⟨kb,ko+1*4,none⟩ [.int .u8 yk,.int .i64 yn,str ys,.slice ya yl.length yc]:=O;replace U:Row w ⟨kb,ko+2*4,none⟩ [.int .u8 zk,.int .i64 zn,str zs,.slice za zl.length zc]:=U;change Calls prog _ #[_,.agg #[.int .u8 53,.int .i64 n,str s,.slice (some ⟨kb,ko,none⟩) 4 m],_] w _;have b7:=ab kb aa;obtain ⟨B1,av⟩:∃B1,B1=AH (Ax c.g.procs d) b (.mk yk yn ys yl):=⟨_,rfl⟩;obtain ⟨B2,aw⟩:∃B2,B2=AH (Ax c.g.procs d) b (.mk zk zn zs zl):=⟨_,rfl⟩
 rw [<-av,<-aw] at am ⊢;obtain ⟨Z,hZ⟩:∃Z,Z=((Bj (.mk fk fn fs fl) true r).bind (Cg B1 B2 (.mk gk gn gs gl) (.mk fk fn fs fl) d)):=⟨_,rfl⟩
 rw [<-hZ] at am ⊢;have x1:∀er,Bj (.mk fk fn fs fl) true r = .error er->Z = .error er:=λer e=>by rw [hZ,e];rfl
 have x2:∀r1,Bj (.mk fk fn fs fl) true r = .ok r1->Z=Cg B1 B2 (.mk gk gn gs gl) (.mk fk fn fs fl) d r1:=λr1 e=>by rw [hZ,e];rfl
 refine Ad func188 ntmps188 rfl rfl (cS (eB [_,_,_,_] ?_));intro b1 w2 h4 x5 p6 z7;revert X Y sz;refine eE x5 ?_;intro X Y sz;revert hs O U;refine eE x5 ?_;intro hs O U;refine kQ (HE.out _ Ae (λk hk=>by have:=ab k hk;omega)) ?_;rintro _ b8 ⟨a8,m9,an,aq,⟨⟩,G,M,bg⟩;revert h4 X Y sz O U;refine eY bg ?_;intro b9 h4 X Y sz O U;refine eK ?_;refine eA [_,_,_,_] ?_;intro az ca ax bh cb cc;revert G M h4 X Y sz O U;refine eE bh ?_;intro G M h4 X Y sz O U;refine eA [_,_,_,_] ?_;intro a0 cd ay bi ce cf;revert ax G M h4 X Y sz O U;refine eE bi ?_;intro ax G M h4 X Y sz O U;refine eS [_,_,_,_] ax ?_;intro cg N f35 ch;have ay:=ay.fr f35 Ab;have G:=mF G f35 (λb hb h=>by (have h1:=ab b hb;omega));have M:=mF M f35 (λb hb h=>by (have h1:=ab b hb;omega));revert h4 X;refine eF f35 ?_;intro h4 X;have Y:=mF Y f35 (λb hb h=>by (have h1:=ab b hb;omega));have sz:=mF sz f35 (λb hb h=>by (have h1:=ab b hb;omega));revert O U;refine eF f35 ?_;intro O U;refine eS [_,_,_,_] ay ?_;intro al V ae ci;have N:=N.fr ae Ab;have G:=mF G ae (λb hb h=>by (have h1:=ab b hb;omega));have M:=mF M ae (λb hb h=>by (have h1:=ab b hb;omega))
 revert h4 X;refine eF ae ?_;intro h4 X;have Y:=mF Y ae (λb hb h=>by (have h1:=ab b hb;omega));have sz:=mF sz ae (λb hb h=>by (have h1:=ab b hb;omega));revert O U;refine eF ae ?_;intro O U;refine cT ?_;have h1:=HR.out.more X;have F:Fr (λk=> ¬P k) w al:=mG X;have HH:=iF (λr1 w1 h1 h2=>PW (c:=c) (P:=Cl P w al) (r:=r1) hc _ bf.wf hg an aq w1 h1 h2);unfold ZY at HH;have HA:=iF (λq r2 w1 h1 h2=>RK (c:=c) (P:=Cl P w al) (r:=r2) hc q _ be.wf hf a8 m9 w1 h1 h2);unfold DG at HA
 focus
  refine eK ?_;refine A4 (AQ AU rfl (HA.out _ _ _ (mK Ae (λb h=>iG h)) Ae) (λ_ _ h=>h.ret)) rfl ?_ ?_;rotate_left;intro cj ck bj
  rotate_right 1
  rintro _ bm ⟨a1,⟨⟩,a2,ar,af⟩;revert V N G M h4 Y sz;refine eF af ?_;intro V N G M h4 Y sz;have O:=mT O af (λh=>h (iG aa));have U:=mT U af (λh=>h (iG aa));have F:=mL F af (λk hk=>iG (λh=>hk (iG h)));refine cT ?_;rotate_left;refine AI (AF ?_);rotate_left
 . refine Au ?_;have bk:=x2 _ a2;refine AP (ι:=Nat) (λ_=>[(0,pt c.rb),(2,.bool b),(4,pt b1),(6,pt az),(7,pt a0)])
    (λj w'=> ∃rj,Run c (Cl P w al) w' rj/\Blk w' b1 [.int .u8 53,.int .i64 n,str s,.slice (some ⟨kb,ko,none⟩) 4 m]/\Blk w' az [.int .u8 fk,.int .i64 fn,str fs,.slice a8 fl.length m9]/\Blk w' a0 [.int .u8 gk,.int .i64 gn,str gs,.slice an gl.length aq]/\Row w' ⟨kb,ko+1*4,none⟩ [.int .u8 yk,.int .i64 yn,str ys,.slice ya yl.length yc]/\Row w' ⟨kb,ko+2*4,none⟩ [.int .u8 zk,.int .i64 zn,str zs,.slice za zl.length zc] /\
     (Nd.mk fk fn fs fl).sits P w' a8/\(Nd.mk gk gn gs gl).sits P w' an/\(Nd.mk yk yn ys yl).sits P w' ya/\(Nd.mk zk zn zs zl).sits P w' za/\Fr (λk=> ¬P k) w w'/\Z=Cg B1 B2 (.mk gk gn gs gl) (.mk fk fn fs fl) j rj)
    (λj=>j) d sB ⟨a1,ar,h4,N,V,O,U,G,M,Y,sz,F,bk⟩ ?_
   rintro j w1 ⟨rj,ar,h4,N,V,O,U,G,M,Y,sz,F,hz⟩;cases j with
   | zero=>exact absurd hz (λe=>am e)
   | succ j=>
    have y1:∀er,B1 rj = .error er->Z = .error er:=λer e=>by rw [hz];simp only [Cg,e,i6]
    have y2:∀r1 er,B1 rj = .ok r1->BK (.mk gk gn gs gl) r1 = .error er->Z = .error er:=λr1 er e e2=>by rw [hz];simp only [Cg,e,e2,i6]
    have y3:∀r1 r2,B1 rj = .ok r1->BK (.mk gk gn gs gl) r1 = .ok (true,r2)->Z = .ok r2:=λr1 r2 e e2=>by rw [hz];simp only [Cg,e,e2,i6,if_true]
    have y4:∀r1 r2,B1 rj = .ok r1->BK (.mk gk gn gs gl) r1 = .ok (false,r2)->Z=(B2 r2).bind λr=>(Bj (.mk fk fn fs fl) false r).bind (Cg B1 B2 (.mk gk gn gs gl) (.mk fk fn fs fl) j):=λr1 r2 e e2=>by rw [hz];simp only [Cg,e,e2,i6,jv,if_false]
    have HY:=iF (λw1 h1 h2=>IH (Cl P w al) b _ rj ya yc w1 hy bc (λe2=>am (y1 _ (by rw [av];exact e2))) h1 h2);have HZ:=iF (λr1 q r2 (e:B1 rj = .ok r1) (e2:BK (.mk gk gn gs gl) r1 = .ok (q,r2)) (hq:q=false) w1 h1 h2=>IH (Cl P w al) b _ r2 za zc w1 bb bd (λe3=>am (by subst hq;rw [y4 _ _ e e2,aw,e3];rfl)) h1 h2);rw [<-av] at HY;rw [<-aw] at HZ;unfold DG at HY HZ
    focus
     refine eK ?_;refine A4 (AQ AU rfl (HY.out _ (mK Ae (λb h=>iG h)) Ae) (λ_ _ h=>h.ret)) rfl ?_ ?_;rotate_left;intro cl cm bl
     rotate_right 1
     rintro _ bn ⟨bo,⟨⟩,ac,bp,ag⟩;revert h4 N V;refine eF ag ?_;intro h4 N V;have O:=mT O ag (λh=>h (iG aa));have U:=mT U ag (λh=>h (iG aa));revert G M Y sz F;refine eF ag ?_;intro G M Y sz F;refine eK ?_;refine A4 (AQ AU rfl (HH.out _ _ (mK Ae (λb h=>iG h)) Ae) (λ_ _ h=>h.ret)) rfl ?_ ?_;rotate_left;intro bq br a3
     rotate_right 1
     rintro _ bs ⟨bt,bu,⟨⟩,ah,a4,ai⟩;revert h4 N V;refine eF ai ?_;intro h4 N V;have O:=mT O ai (λh=>h (iG aa));have U:=mT U ai (λh=>h (iG aa));revert G M Y sz F;refine eF ai ?_;intro G M Y sz F;refine cT (FV rfl (λad=>?_) (λad=>?_));refine eK ?_;refine EZ rfl ?_;rotate_left;refine eK ?_;refine A4 (AQ AU rfl (HZ.out _ _ _ Ae Ae Ae _ (mK Ae (λb h=>iG h)) Ae) (λ_ _ h=>h.ret)) rfl ?_ ?_;rotate_left;intro bv bw a5
     rotate_right 1
     rintro _ bx ⟨bz,⟨⟩,au,b0,aj⟩;revert h4 N V;refine eF aj ?_;intro h4 N V;have O:=mT O aj (λh=>h (iG aa));have U:=mT U aj (λh=>h (iG aa));revert G M Y sz F;refine eF aj ?_;intro G M Y sz F;refine eK ?_;refine A4 (AQ AU rfl (HA.out _ _ _ (mK Ae (λb h=>iG h)) Ae) (λ_ _ h=>h.ret)) rfl ?_ ?_;rotate_left;intro b2 b3 a6
     rotate_right 1
     rintro _ b4 ⟨a7,⟨⟩,a9,ba,ak⟩;revert h4 N V;refine eF ak ?_;intro h4 N V;have O:=mT O ak (λh=>h (iG aa));have U:=mT U ak (λh=>h (iG aa));revert G M Y sz F;refine eF ak ?_;intro G M Y sz F;refine Ak (Ah ?_);rotate_left;refine AS (AI (AS (AF ?_)));rotate_left;refine AI (AS (AI (AS (AF ?_))));rotate_left;refine AI (AI (AS (AI (AS (AF ?_)))));rotate_left;refine AI (AS (AI (AS (AF ?_))));rotate_left
    . subst ad;exact EW a4 F HR.out.sub (λk=>iG) (y3 _ _ ac ah)
    . subst ad;exact AA j sB ⟨a7,ba,Ae,Ae,Ae,Ae,Ae,Ae,Ae,Ae,Ae,F,by rw [y4 _ _ ac ah,au];simp only [i6];rw [a9]⟩ Ab
    . subst ad;exact Bz a6 F (λk=>iG) (λer e=>by rw [y4 _ _ ac ah,au];simp only [i6];rw [e])
    . subst ad;exact Bz a5 F (λk=>iG) (λer e=>by rw [y4 _ _ ac ah,e];rfl)
    . exact Bz a3 F (λk=>iG) (λer e=>y2 _ _ ac e)
    . exact Bz bl F (λk=>iG) y1
 . exact Bz bj F (λk=>iG) x1
end
section
variable {P':nP} {w':wD} {T:nP}
def Eh {Z:Except Int Rn} {w1:wD} {h:List PanicEntry} {e:Int} (q:e≠0/\h=Nj e/\Ext w1 w') (F:Fr (λk=> ¬P k) w w1) (G:e≠0->Z = .error e):DG c P Z w (.panicked h) w':=
 iH ⟨_,rfl,e,G q.1,q.2.1,F.ext q.2.2⟩
def OF {Z:Except Int Rn} {X:Except Int Int} {w1:wD} {G:List PanicEntry} (q:fL X w1 G w') (F:Fr (λk=> ¬P k) w w1) (e:∀h,X = .error h->Z = .error h):DG c P Z w (.panicked G) w':=by
 obtain ⟨h,M,N,O⟩:=q;exact iH ⟨_,rfl,h,e _ M,N,F.ext O⟩
def Run.wf (h:Run c P w r):∃K,r.st.WF K (1000+(c.fuel-r.rem)):=by
 obtain ⟨_,_,h⟩:=h;exact h.wf
def Ur (N:c.fuel<=10000) (M:Run c P w r) (P':nP) (v:VD) (O:v.kind=1\/v.kind=3) (U:v.len=0) (x:Int) (G:Rn) (e:A6 r = .ok G) (w1:wD) (h:Run c P' w1 G) :
 Calls prog 192 #[pt c.sb,v.val,.int .i64 x] w1 (RL c P' G.rem (G.st.opens v x) w1):=by
 obtain ⟨V,rfl⟩:=B7 e;have X:=M.rem;exact dH N v O U x w1 h (by simp only;omega) (m:=c.fuel-r.rem) M.wf (by simp only;omega)
def Z3 (hc:c.fuel<=10000) (IH:EY c d) (b:Bool) {x z:Nd} (hx:x.isExpr=true) (hy:y.isBlock=true) (cp:z.isExpr=true) (ar:StOk c.g.procs (.mk 54 n s [x,y,z])) (a:oA) (m:Nat) (w:wD)
 (a2:((A6 r).bind λr=>(BF (if b then z else x) r).bind λv=>(Cy (·.opens ⟨s,1,0⟩ v) r).bind λr=>(AH (Ax c.g.procs d) b y r).bind λr=>(A6 r).bind λr=>(BF (if b then x else z) r).bind λv=>Cy (·.closes s v) r)≠.error (-1)) (hs:(Nd.mk 54 n s [x,y,z]).sits P w a) (h:Run c P w r) :
 Calls prog 189 #[pt c.rb,(Nd.mk 54 n s [x,y,z]).val a m,.bool b] w (DG c P ((A6 r).bind λr=>(BF (if b then z else x) r).bind λv=>(Cy (·.opens ⟨s,1,0⟩ v) r).bind λr=>(AH (Ax c.g.procs d) b y r).bind λr=>(A6 r).bind λr=>(BF (if b then x else z) r).bind λv=>Cy (·.closes s v) r) w):=by
 have X:=Ne w;have HR:=iF h;have ae:=h.lt;clear h;have hs:rowSits P w [x,y,z] a:=hs;obtain ⟨kb,ko,rfl,a3,aw⟩:=BI hs AN;obtain ⟨ya,yc,Y,sy⟩:=aw 1 y rfl;have cq:=ar.kid (i:=0) rfl;have br:=ar.kid (i:=1) rfl;have cr:=ar.kid (i:=2) rfl;have HE:=iF (λw1 h1 h2=>Tm (k:=54) (n:=n) (s:=s) (l:=[x,y,z]) (P:=P) AN AN b (some ⟨kb,ko,none⟩) m w1 h1 h2);have hf:(if b then z else x).isExpr=true:=by cases b<;>assumption
 have hg:(if b then x else z).isExpr=true:=by cases b<;>assumption
 have bs:StOk c.g.procs (if b then z else x):=by cases b<;>assumption
 have bt:StOk c.g.procs (if b then x else z):=by cases b<;>assumption
 simp only [show Bu [x,y,z] ([x,y,z].length-1)=z from rfl,show Bu [x,y,z] 0=x from rfl] at HE;generalize (if b then z else x)=f at *;generalize (if b then x else z)=g at *;clear aw ar;obtain ⟨fk,fn,fs,fl⟩:=f;obtain ⟨gk,gn,gs,gl⟩:=g;obtain ⟨yk,yn,ys,yl⟩:=y;replace Y:Row w ⟨kb,ko+1*4,none⟩ [.int .u8 yk,.int .i64 yn,str ys,.slice ya yl.length yc]:=Y;change Calls prog _ #[_,.agg #[.int .u8 54,.int .i64 n,str s,.slice (some ⟨kb,ko,none⟩) 3 m],_] w _;have ct:=ae kb a3;obtain ⟨B1,a4⟩:∃B1,B1=AH (Ax c.g.procs d) b (.mk yk yn ys yl):=⟨_,rfl⟩
 rw [<-a4] at a2 ⊢;obtain ⟨Z,hZ⟩:∃Z,Z=((A6 r).bind λr=>(BF (.mk fk fn fs fl) r).bind λv=>(Cy (·.opens ⟨s,1,0⟩ v) r).bind λr=>(B1 r).bind λr=>(A6 r).bind λr=>(BF (.mk gk gn gs gl) r).bind λv=>Cy (·.closes s v) r):=⟨_,rfl⟩
 rw [<-hZ] at a2 ⊢;refine Ad func189 ntmps189 rfl rfl ?_;refine cS (eB [_,_,_,_] ?_);intro b1 w2 U x5 p6 z7;have X:=X.ext x5;clear hs;revert hs sy Y;refine eE x5 ?_;intro hs sy Y;refine kQ (HE.out _ Ae (λk hk=>by have:=ae k hk;omega)) ?_;rintro _ cu ⟨a8,m9,bf,bg,⟨⟩,V,G,bu⟩;revert U X sy Y;refine eY bu ?_;intro cv U X sy Y;refine eK ?_;refine eA [_,_,_,_] ?_;intro cw cx a5 bv cy cz;revert V G U X sy Y;refine eE bv ?_;intro V G U X sy Y;refine eA [_,_,_,_] ?_;intro c0 c1 a6 bw c2 c3;revert a5 V G U X sy Y;refine eE bw ?_;intro a5 V G U X sy Y;refine eS [_,_,_,_] a5 ?_;intro c4 al f35 c5;have a6:=a6.fr f35 Ab;have V:=mF V f35 (λb hb h=>by (have h1:=ae b hb;omega));have G:=mF G f35 (λb hb h=>by (have h1:=ae b hb;omega));revert U X;refine eF f35 ?_;intro U X;have sy:=mF sy f35 (λb hb h=>by (have h1:=ae b hb;omega));have Y:=mT Y f35 (by simp only;omega);refine eS [_,_,_,_] a6 ?_;intro aa O ak c6;have al:=al.fr ak Ab;have V:=mF V ak (λb hb h=>by (have h1:=ae b hb;omega));have G:=mF G ak (λb hb h=>by (have h1:=ae b hb;omega));revert U X;refine eF ak ?_;intro U X;have sy:=mF sy ak (λb hb h=>by (have h1:=ae b hb;omega));have Y:=mT Y ak (by simp only;omega);refine cT ?_
 have h1:=HR.out.more X;have F:Fr (λk=> ¬P k) w aa:=mG X;clear X hs;have HS:=iF (λr1 w1 h=>Nk (c:=c) (P:=Cl P w aa) (r:=r1) hc w1 h);unfold DG at HS;have HV:=iF (λr1 w1 h1 h2=>Uo (c:=c) (P:=Cl P w aa) (r:=r1) hc _ bs.wf hf a8 m9 P w1 h1 h2);have HU:=iF (λr1 w1 h1 h2=>Uo (c:=c) (P:=Cl P w aa) (r:=r1) hc _ bt.wf hg bf bg P w1 h1 h2);have HO:=iF (λr1 e v w1 h=>Ur hc HR.out (Cl P w aa) ⟨s,1,0⟩ (iG rfl) rfl v r1 e w1 h);unfold VD.val at HO;have HL:=iF (λr1 v w1 h=>Up (c:=c) (P:=Cl P w aa) (r:=r1) hc s v w1 h);have HC:=iF (λe w1=>ID e (pt c.rb) w1);unfold Tl at HC;have HY:=iF (λr1 v (e:A6 r = .ok r1) (e2:BF (.mk fk fn fs fl) r1 = .ok v) (e3:(r1.st.opens ⟨s,1,0⟩ v).1=0) w1 h1 h2=>IH (Cl P w aa) b _ ⟨(r1.st.opens ⟨s,1,0⟩ v).2,r1.rem⟩ ya yc w1 hy br (λe4=>a2 (by rw [hZ];simp only [e,e2,i6,Cy,e3,ne_eq,not_true,if_false];rw [a4,e4])) h1 h2);rw [<-a4] at HY;unfold DG at HY
 focus
  refine eK ?_;refine A4 (AQ AU rfl (HS.out _ _ Ae) (λ_ _ h=>h.ret)) rfl ?_ ?_;rotate_left;intro c7 c8 bx
  rotate_right 1
  rintro _ ax ⟨b8,⟨⟩,ab,af,am⟩;revert O al V G U sy;refine eF am ?_;intro O al V G U sy;have Y:=mT Y am (λh=>h (iG a3));have F:=mL F am (λk hk=>iG (λh=>hk (iG h)));refine eK ?_;refine Aq (λwz=>Fr ((λk=> ¬(Cl P w aa k\/k=c.rb))) ax wz) 12 (.pure 0 (.pure 1 (.pure 2 (.pure 3 (.pure 4 (.pure 5 (.pure 6 (.pure 7 (.pure 8 (.pure 9 (.fork 10 (.fork 11 .tail .none) .none))))))))))) mixed AU (Aa Ag) ?_;intro bh ay _;have M:(λwz=>Fr ((λk=> ¬(Cl P w aa k\/k=c.rb))) ax wz) bh:=mG ay;simp only at M;have au:=af;have a7:=al;have an:=U;revert af O V G U sy Y F;refine eE ay ?_;intro af O V G U sy Y F;refine ⟨M,?_⟩;refine eT ?_;refine Tq rfl (Ap Ac rfl rfl rfl (λwz hz=>mM (mH (nH au) hz (by first|omega|(dsimp only;omega))) rfl)) (Tq rfl Pf (Tq rfl (Ap Ac rfl rfl rfl (λwz hz=>mM (mH an hz (λh=>h (iG (iH ⟨Ab,Ab⟩)))) rfl)) (Tq rfl (xB [_,_,_]) (Tq rfl Mv (Tq rfl (xL [_,_,_,_] (λwz hz=>(mH a7 hz (λh=>h (iG (iH ⟨Ab,Ab⟩)))))) ?_)))));refine Qk rfl (AQ AU rfl (HV.out _ _ Ae Ae) (λ_ _ h=>h.ret)) rfl ?_ ?_ Ay;rotate_left;intro b9 ca bi
  rotate_right 1
  rintro _ cb ⟨cc,⟨⟩,ac,bj⟩;revert M af O G U sy Y F;refine eE bj ?_;intro M af O G U sy Y F;refine ⟨M,?_⟩;refine tC rfl rfl (HO.out _ Ae _ _ Ae) ?_;rintro _ cd ⟨⟨⟩,az,ad⟩;revert M O;refine eF ad ?_;intro M O;have G:=mF G ad (λb hb h=>h (iG (iG hb)));have U:=mH U ad (λh=>h (iG (iH ⟨Ab,Ab⟩)));have sy:=mF sy ad (λb hb h=>h (iG (iG hb)));have Y:=mT Y ad (λh=>h (iG (iG a3)));have F:=mL F ad (λk hk=>iG (λh=>hk (iG (iG h))));refine ⟨M,?_⟩;refine Ar rfl ?_;refine A4 (AQ AU rfl (HC.out _ _) (λ_ _ h=>⟨_,h.1⟩)) rfl ?_ ?_;rotate_left;intro ce cf bk
  rotate_right 1
  rintro _ cg ⟨⟨⟩,ag,bl⟩;revert az O G U sy Y F;refine eE bl ?_;intro az O G U sy Y F;refine eK ?_;refine A4 (AQ AU rfl (HY.out _ _ Ae Ae Ae _ (mK Ae (λb h=>iG h)) Ae) (λ_ _ h=>h.ret)) rfl ?_ ?_;rotate_left;intro ch ci bm
  rotate_right 1
  rintro _ cj ⟨ck,⟨⟩,aj,cl,bn⟩;revert O G U F;refine eF bn ?_;intro O G U F;refine eK ?_;refine A4 (AQ AU rfl (HS.out _ _ Ae) (λ_ _ h=>h.ret)) rfl ?_ ?_;rotate_left;intro cm cn bo
  rotate_right 1
  rintro _ a0 ⟨co,⟨⟩,ao,ah,bp⟩;revert O G U F;refine eF bp ?_;intro O G U F;refine cT (Aq (λwz=>Fr ((λk=> ¬(Cl P w aa k\/k=c.rb))) a0 wz) 11 (.pure 0 (.pure 1 (.pure 2 (.pure 3 (.pure 4 (.pure 5 (.pure 6 (.pure 7 (.pure 8 (.fork 9 (.fork 10 .tail .none) .none)))))))))) mixed AU Ag ?_);intro bq a1 _;have N:(λwz=>Fr ((λk=> ¬(Cl P w aa k\/k=c.rb))) a0 wz) bq:=mG a1;simp only at N;have av:=ah;have a9:=O;have an:=U;revert ah G F;refine eE a1 ?_;intro ah G F;refine ⟨N,?_⟩;refine eT ?_;refine Tq rfl (Ap Ac rfl rfl rfl (λwz hz=>mM (mH (nH av) hz (by first|omega|(dsimp only;omega))) rfl)) (Tq rfl Pf (Tq rfl (Ap Ac rfl rfl rfl (λwz hz=>mM (mH an hz (λh=>h (iG (iH ⟨Ab,Ab⟩)))) rfl)) (Tq rfl Mv (Tq rfl (xL [_,_,_,_] (λwz hz=>(mH a9 hz (λh=>h (iG (iH ⟨Ab,Ab⟩)))))) ?_))));refine Qk rfl (AQ AU rfl (HU.out _ _ Ae Ae) (λ_ _ h=>h.ret)) rfl ?_ ?_ Ay;rotate_left;intro bz b0 ba
  rotate_right 1
  rintro _ b2 ⟨b3,⟨⟩,ap,bb⟩;revert N ah F;refine eE bb ?_;intro N ah F;refine ⟨N,?_⟩;refine tC rfl rfl (HL.out _ _ _ Ae) ?_;rintro _ b4 ⟨⟨⟩,ai,aq⟩;have N:=mL N aq (λk hk=>iG hk);have F:=mL F aq (λk hk=>iG (λh=>hk (iG (iG h))));refine ⟨N,?_⟩;refine Ar rfl ?_;refine A4 (AQ AU rfl (HC.out _ _) (λ_ _ h=>⟨_,h.1⟩)) rfl ?_ ?_;rotate_left;intro b5 b6 bc
  rotate_right 1
  rintro _ b7 ⟨⟨⟩,bd,be⟩;revert ai F;refine eE be ?_;intro ai F;refine Ak (Bm rfl ?_);rotate_left;refine AF ?_;rotate_left;refine AF ?_;rotate_left;refine AI (AF ?_);rotate_left;refine AI (AF ?_);rotate_left;refine AI (AF ?_);rotate_left;refine AI (AF ?_);rotate_left;refine AI (AF ?_);rotate_left
 . exact EW ai F HR.out.sub (λk=>iG) (by rw [hZ];simp only [ab,ac,ag,aj,ao,ap,bd,i6,Cy,ne_eq,not_true,not_false_iff,if_false,if_true])
 . exact Eh bc F (λe=>by rw [hZ];simp only [ab,ac,ag,aj,ao,ap,i6,Cy,ne_eq,not_true,not_false_iff,if_false,if_true];rw [AG e])
 . exact OF ba F (λer e=>by rw [hZ];simp only [ab,ac,ag,aj,ao,e,i6,Cy,ne_eq,not_true,not_false_iff,if_false,if_true])
 . exact Bz bo F (λk=>iG) (λer e=>by rw [hZ];simp only [ab,ac,ag,aj,e,i6,Cy,ne_eq,not_true,not_false_iff,if_false,if_true])
 . exact Bz bm F (λk=>iG) (λer e=>by rw [hZ];simp only [ab,ac,ag,e,i6,Cy,ne_eq,not_true,not_false_iff,if_false,if_true])
 . exact Eh bk F (λe=>by rw [hZ];simp only [ab,ac,i6,Cy,ne_eq,not_true,not_false_iff,if_false,if_true];rw [AG e])
 . exact OF bi F (λer e=>by rw [hZ];simp only [ab,e,i6,Cy,ne_eq,not_true,not_false_iff,if_false,if_true])
 . exact Bz bx F (λk=>iG) (λer e=>by rw [hZ];simp only [e,i6,Cy,ne_eq,not_true,not_false_iff,if_false,if_true])
end
section
variable {P':nP} {w':wD} {T:nP}
def XL (hc:c.fuel<=10000) (IH:EY c d) (b:Bool) {s:List UInt8} (hy:y.isBlock=true) (a5:StOk c.g.procs (.mk 55 n s [y])) (a:Option Addr) (m:Nat) (w:World)
 (aq:Ax c.g.procs (d+1) b (.mk 55 n s [y]) r≠.error (-1)) (hs:(Nd.mk 55 n s [y]).sits P w a) (h:Run c P w r) :
 Calls prog 162 #[pt c.rb,(Nd.mk 55 n s [y]).val a m,.bool b] w (DG c P (Ax c.g.procs (d+1) b (.mk 55 n s [y]) r) w):=by
 have X:=Ne w;have HR:=iF h;have hs:rowSits P w [y] a:=hs;obtain ⟨kb,ko,ya,yc,rfl,ar,Y,sy⟩:=WU hs;have a6:=a5.kid (i:=0) rfl;obtain ⟨B1,ap⟩:∃B1,B1=AH (Ax c.g.procs d) b y:=⟨_,rfl⟩;obtain ⟨Z,hZ⟩:∃Z,Z=Ax c.g.procs (d+1) b (.mk 55 n s [y]) r:=⟨_,rfl⟩
 rw [<-hZ] at aq ⊢
 replace hZ:Z=(A6 r).bind λr=>(Cy (·.opens ⟨s,3,0⟩ 0) r).bind λr=>(B1 r).bind λr=>(A6 r).bind (Cy (·.closes s 0)):=by
  rw [hZ,ap];simp only [Ax,show ¬((55:Int)=52) by decide,show ¬((55:Int)=53) by decide,show ¬((55:Int)=54) by decide,if_true,if_false]
  rfl
 obtain ⟨yk,yn,ys,yl⟩:=y;replace Y:Row w ⟨kb,ko+0*4,none⟩ [.int .u8 yk,.int .i64 yn,str ys,.slice ya yl.length yc]:=Y
 change Calls prog _ #[_,.agg #[.int .u8 55,.int .i64 n,str s,.slice (some ⟨kb,ko,none⟩) 1 m],_] w _
 refine Ad func162 ntmps162 rfl rfl ?_
 refine cS (eB [_,_,_,_] ?_);intro b1 w2 O x5 p6 z7;replace X:=X.ext x5;revert sy Y;refine eE x5 ?_;intro sy Y;refine cT ?_
 have h1:=HR.out.more X;have F:Fr (λk=> ¬P k) w w2:=mG X;have HS:=iF (λr1 w1 h=>Nk (c:=c) (P:=Cl P w w2) (r:=r1) hc w1 h)
 unfold DG at HS
 have HO:=iF (λr1 e w1 h=>Ur hc HR.out (Cl P w w2) ⟨s,3,0⟩ (iH rfl) rfl 0 r1 e w1 h)
 unfold VD.val at HO
 have HL:=iF (λr1 w1 h=>Up (c:=c) (P:=Cl P w w2) (r:=r1) hc s 0 w1 h);have HC:=iF (λe w1=>ID e (pt c.rb) w1)
 unfold Tl at HC
 have HY:=iF (λr1 (e:A6 r = .ok r1) (e3:(r1.st.opens ⟨s,3,0⟩ 0).1=0) w1 h1 h2=>IH (Cl P w w2) b _ ⟨(r1.st.opens ⟨s,3,0⟩ 0).2,r1.rem⟩ ya yc w1 hy a6 (λe4=>aq (by rw [hZ];simp only [e,i6,Cy,e3,ne_eq,not_true,if_false];rw [ap,e4])) h1 h2)
 rw [<-ap] at HY
 unfold DG at HY
 focus
  refine cS (C1 Pg (C1 (Pl O) (cT (Au (cS (C1 V1 (C1 Pa (cT (LT (cS (C1 V1 (C1 Pa (cT (LT (cS (C1 V1 (C1 Pa (cT (LT (cS (C1 V1 (C1 Pa (cT (WB (cS (C1 Mv (A4 (AQ AU rfl (HS.out _ _ Ae) (λ_ _ h=>h.ret)) rfl ?_ ?_)))))))))))))))))))))))))));rotate_left;intro bp bq a7
  rotate_right 1
  rintro _ ai ⟨a8,⟨⟩,N,aa,ab⟩;revert O sy;refine eF ab ?_;intro O sy;replace Y:=mT Y ab (λh=>h (iG ar));replace F:=mL F ab (λk hk=>iG (λh=>hk (iG h)));refine cT (Aj (Aq (λwz=>Fr ((λk=> ¬(Cl P w w2 k\/k=c.rb))) ai wz) 9 (.pure 0 (.pure 1 (.pure 2 (.pure 3 (.pure 4 (.pure 5 (.pure 6 (.pure 7 (.fork 8 .tail .none))))))))) mixed AU (Aa (Af Ag)) ?_));intro au aj _;have G:(λwz=>Fr ((λk=> ¬(Cl P w w2 k\/k=c.rb))) ai wz) au:=mG aj;simp only at G;have ag:=aa;have ac:=O;revert aa O sy Y F;refine eE aj ?_;intro aa O sy Y F;refine ⟨G,(Tq rfl Mv (Tq rfl Mv (Tq rfl Pn (Tq rfl Pf (Tq rfl (Ap Ac rfl rfl rfl (λwz hz=>mM (mH (nH ag) hz (by first|omega|(dsimp only;omega))) rfl)) ?_)))))⟩;refine Tq rfl Pf (Tq rfl (Ap Ac rfl rfl rfl (λwz hz=>mM (mH ac hz (λh=>h (iG (iH ⟨Ab,Ab⟩)))) rfl)) (Tq rfl (D3 [_,_,_] Ac CC rfl rfl rfl rfl) (AC rfl (AM AU rfl (HO.out _ Ae _ Ae) (λ_ _ h=>⟨_,h.1⟩)) rfl ?_ aFh Ay)));rintro _ a9 ⟨⟨⟩,ak,U⟩;revert G O;refine eF U ?_;intro G O;replace sy:=mF sy U (λb hb h=>h (iG (iG hb)))
  replace Y:=mT Y U (λh=>h (iG (iG ar)));replace F:=mL F U (λk hk=>iG (λh=>hk (iG (iG h))));refine ⟨G,(Ar rfl (A4 (AQ AU rfl (HC.out _ _) (λ_ _ h=>⟨_,h.1⟩)) rfl ?_ ?_))⟩;rotate_left;intro ba bb av
  rotate_right 1
  rintro _ bc ⟨⟨⟩,V,aw⟩;revert ak O sy Y F;refine eE aw ?_;intro ak O sy Y F;refine cN (C1 Mv (C1 Pf (C1 (Pl O) (C1 Pi (BU [_,_,_,_] Ac rfl rfl rfl Y rfl rfl rfl (C1 Mv (A4 (AQ AU rfl (HY.out _ Ae Ae _ (mK Ae (λb h=>iG h)) Ae) (λ_ _ h=>h.ret)) rfl ?_ ?_)))))));rotate_left;intro bd be ax
  rotate_right 1
  rintro _ bf ⟨bg,⟨⟩,ad,bh,ay⟩;revert O F;refine eF ay ?_;intro O F;refine cN (C1 Mv (A4 (AQ AU rfl (HS.out _ _ Ae) (λ_ _ h=>h.ret)) rfl ?_ ?_));rotate_left;intro bi bj az
  rotate_right 1
  rintro _ al ⟨bk,⟨⟩,am,ae,a0⟩;revert O F;refine eF a0 ?_;intro O F;refine cT (Aq (λwz=>Fr ((λk=> ¬(Cl P w w2 k\/k=c.rb))) al wz) 8 (.pure 0 (.pure 1 (.pure 2 (.pure 3 (.pure 4 (.pure 5 (.pure 6 (.fork 7 .tail .none)))))))) mixed AU (Af Ag) ?_);intro a1 an _;have M:(λwz=>Fr ((λk=> ¬(Cl P w w2 k\/k=c.rb))) al wz) a1:=mG an;simp only at M;have ah:=ae;have ac:=O;revert ae F;refine eE an ?_;intro ae F;refine ⟨M,(Tq rfl Mv (Tq rfl Mv (Tq rfl Pn (Tq rfl Pf (Tq rfl (Ap Ac rfl rfl rfl (λwz hz=>mM (mH (nH ah) hz (by first|omega|(dsimp only;omega))) rfl)) ?_)))))⟩;refine Tq rfl Pf (Tq rfl (Ap Ac rfl rfl rfl (λwz hz=>mM (mH ac hz (λh=>h (iG (iH ⟨Ab,Ab⟩)))) rfl)) (AC rfl (AM AU rfl (HL.out _ _ Ae) (λ_ _ h=>⟨_,h.1⟩)) rfl ?_ aFh Ay));rintro _ bl ⟨⟨⟩,af,ao⟩;replace M:=mL M ao (λk hk=>iG hk);replace F:=mL F ao (λk hk=>iG (λh=>hk (iG (iG h))));refine ⟨M,(Ar rfl (A4 (AQ AU rfl (HC.out _ _) (λ_ _ h=>⟨_,h.1⟩)) rfl ?_ ?_))⟩;rotate_left;intro bm bn a2
  rotate_right 1
  rintro _ bo ⟨⟨⟩,a3,a4⟩;revert af F;refine eE a4 ?_;intro af F;refine Ak (Ah (Bm rfl ?_));rotate_left;refine AS (AF ?_);rotate_left;refine AI (AS (AF ?_));rotate_left;refine AI (AS (AF ?_));rotate_left;refine AI (AS (AF ?_));rotate_left;refine AI (AS (AF ?_));rotate_left
 . exact EW af F HR.out.sub (λk=>iG) (by rw [hZ];simp only [N,V,ad,am,a3,i6,Cy,ne_eq,not_true,not_false_iff,if_false,if_true])
 . exact Eh a2 F (λe=>by rw [hZ];simp only [N,V,ad,am,i6,Cy,ne_eq,not_true,not_false_iff,if_false,if_true];rw [AG e])
 . exact Bz az F (λk=>iG) (λer e=>by rw [hZ];simp only [N,V,ad,e,i6,Cy,ne_eq,not_true,not_false_iff,if_false,if_true])
 . exact Bz ax F (λk=>iG) (λer e=>by rw [hZ];simp only [N,V,e,i6,Cy,ne_eq,not_true,not_false_iff,if_false,if_true])
 . exact Eh av F (λe=>by rw [hZ];simp only [N,i6,Cy,ne_eq,not_true,not_false_iff,if_false,if_true];rw [AG e])
 . exact Bz a7 F (λk=>iG) (λer e=>by rw [hZ];simp only [e,i6,Cy,ne_eq,not_true,not_false_iff,if_false,if_true])
def Dm {S S':nP} {a:oA} (h:rowSits S w l a) (G:∀b,S b->S' b):rowSits S' w l a:=by
 have:=mK (t:=.mk 0 0 [] l) h G;exact this
def L0 (hc:c.fuel<=10000) (d:Nat) (b:Bool) {k:Int} {s:List UInt8} (N:(40<=k/\k<=49)\/k=56) (aq:(Nd.mk k n s l).isStmt=true) (af:StOk c.g.procs (.mk k n s l)) (a:Option Addr) (m:Nat) (w:World) (hs:(Nd.mk k n s l).sits P w a) (h:Run c P w r) :
 Calls prog 162 #[pt c.rb,(Nd.mk k n s l).val a m,.bool b] w (DG c P (Ax c.g.procs (d+1) b (.mk k n s l) r) w):=by
 have X:=Ne w;have HR:=iF h;obtain ⟨Z,hZ⟩:∃Z,Z=Ax c.g.procs (d+1) b (.mk k n s l) r:=⟨_,rfl⟩
 rw [<-hZ]
 rw [Cp _ _ _ Ab] at hZ
 change Calls prog _ #[_,.agg #[.int .u8 k,.int .i64 n,str s,.slice a l.length m],_] w _
 refine Ad func162 ntmps162 rfl rfl ?_
 refine cS (Du [_,_,_,_] rfl rfl rfl ?_);intro b1 w2 n3;have h4:=n3.blk;have x5:=n3.ext;have p6:=n3.pos;have z7:=n3.size;replace X:=X.ext x5;replace hs:=nn hs x5;refine cT ?_
 have h1:=HR.out.more X;have F:Fr (λk=> ¬P k) w w2:=mG X;have HS:=iF (λr1 w1 h=>Nk (c:=c) (P:=Cl P w w2) (r:=r1) hc w1 h)
 unfold DG at HS
 have HD:=iF (λr1 w1 h1 h2=>gO (c:=c) (P:=Cl P w w2) (r:=r1) hc N aq af.wf af.size a m w1 h1 h2);have HU:=iF (λr1 w1 h1 h2=>dI (c:=c) (P:=Cl P w w2) (r:=r1) hc N aq af.wf af.size a m w1 h1 h2);have HC:=iF (λe w1=>ID e (pt c.rb) w1)
 unfold Tl at HC
 cases b
 . simp only [jv,if_false] at hZ
   focus
    refine cS (C1 Pg (C1 (Pl h4) (cT (Au (cS (C1 V1 (C1 Pa (cT (DA (cS (C1 V1 (C1 Pa (cT (DA (cS (C1 V1 (C1 Pa (cT (DA (cS (C1 V1 (C1 Pa (cT (DA (Aj (cS (C1 V1 (C1 Pa (cT (DA (Al (C1 V1 (C1 Pa (cT (DA (cS (C1 Mv (A4 (AQ AU rfl (HS.out _ _ Ae) (λ_ _ h=>h.ret)) rfl ?_ ?_))))))))))))))))))))))))))))))))))))));rotate_left;intro bb bc az
    rotate_right 1
    rintro _ ai ⟨a1,⟨⟩,aj,V,Y⟩;replace h4:=mH h4 Y (λh=>h (iH ⟨Ab,Ab⟩));replace hs:=nb hs Y (λb hb h=>h (iG hb));replace F:=mL F Y (λk N=>iG (λh=>N (iG h)));refine cN (C1 Mv (cT (Ba rfl (Aq (λwz=>Fr ((λk=> ¬(Cl P w w2 k\/k=c.rb))) ai wz) 7 (.pure 0 (.pure 1 (.pure 2 (.pure 3 (.pure 4 (.pure 5 (.fork 6 .tail .none))))))) mixed AU (Af Ag) ?_))));intro ar O _;have G:(λwz=>Fr ((λk=> ¬(Cl P w w2 k\/k=c.rb))) ai wz) ar:=mG O;simp only at G;have ag:=V;have aa:=h4;replace V:=V.ext O;replace hs:=nn hs O;replace F:=F.ext O;refine ⟨G,(Tq rfl Mv (Tq rfl Mv (Tq rfl Pn (Tq rfl Pf (Tq rfl (Ap Ac rfl rfl rfl (λwz hz=>mM (mH (nH ag) hz (by first|omega|(dsimp only;omega))) rfl)) ?_)))))⟩;refine Tq rfl (BW [_,_,_,_] Ac rfl rfl rfl (λwz hz=>(mH aa hz (λh=>h (iG (iH ⟨Ab,Ab⟩))))) rfl rfl) (AC rfl (AM AU rfl (HD.out _ _ (Dm Ae (λb h=>iG h)) Ae) (λ_ _ h=>⟨_,h.1⟩)) rfl ?_ aFh Ay);rintro _ a2 ⟨⟨⟩,ab,ak⟩;replace G:=mL G ak (λk N=>iG N);replace F:=mL F ak (λk N=>iG (λh=>N (iG (iG h))))
    refine ⟨G,(Ar rfl (A4 (AQ AU rfl (HC.out _ _) (λ_ _ h=>⟨_,h.1⟩)) rfl ?_ ?_))⟩;rotate_left;intro a3 a4 au
    rotate_right 1
    rintro _ a5 ⟨⟨⟩,av,al⟩;replace ab:=ab.ext al;replace F:=F.ext al;refine Ak (Ah (Bm rfl ?_));rotate_left;refine AS (AF ?_);rotate_left;refine AI (AS (AF ?_));rotate_left
   . exact EW ab F HR.out.sub (λk=>iG) (by rw [hZ];simp only [aj,av,i6,Cy,ne_eq,not_true,not_false_iff,if_false,if_true])
   . exact Eh au F (λe=>by rw [hZ];simp only [aj,i6,Cy,ne_eq,not_true,not_false_iff,if_false,if_true];rw [AG e])
   . exact Bz az F (λk=>iG) (λer e=>by rw [hZ];simp only [e,i6,Cy,ne_eq,not_true,not_false_iff,if_false,if_true])
 . simp only [if_true] at hZ
   focus
    refine cS (C1 Pg (C1 (Pl h4) (cT (Au (cS (C1 V1 (C1 Pa (cT (DA (cS (C1 V1 (C1 Pa (cT (DA (cS (C1 V1 (C1 Pa (cT (DA (cS (C1 V1 (C1 Pa (cT (DA (Aj (cS (C1 V1 (C1 Pa (cT (DA (Al (C1 V1 (C1 Pa (cT (DA (cS (C1 Mv (A4 (AQ AU rfl (HS.out _ _ Ae) (λ_ _ h=>h.ret)) rfl ?_ ?_))))))))))))))))))))))))))))))))))))));rotate_left;intro bd be a0
    rotate_right 1
    rintro _ am ⟨a6,⟨⟩,an,ac,ad⟩;replace h4:=mH h4 ad (λh=>h (iH ⟨Ab,Ab⟩));replace hs:=nb hs ad (λb hb h=>h (iG hb));replace F:=mL F ad (λk N=>iG (λh=>N (iG h)));refine cN (C1 Mv (cT (BP rfl (Aq (λwz=>Fr ((λk=> ¬(Cl P w w2 k\/k=c.rb))) am wz) 7 (.pure 0 (.pure 1 (.pure 2 (.pure 3 (.pure 4 (.pure 5 (.fork 6 .tail .none))))))) mixed AU (Af Ag) ?_))));intro aw U _;have M:(λwz=>Fr ((λk=> ¬(Cl P w w2 k\/k=c.rb))) am wz) aw:=mG U;simp only at M;have ah:=ac;have aa:=h4;replace ac:=ac.ext U;replace hs:=nn hs U;replace F:=F.ext U;refine ⟨M,(Tq rfl Mv (Tq rfl Mv (Tq rfl Pn (Tq rfl Pf (Tq rfl (Ap Ac rfl rfl rfl (λwz hz=>mM (mH (nH ah) hz (by first|omega|(dsimp only;omega))) rfl)) ?_)))))⟩;refine Tq rfl (BW [_,_,_,_] Ac rfl rfl rfl (λwz hz=>(mH aa hz (λh=>h (iG (iH ⟨Ab,Ab⟩))))) rfl rfl) (AC rfl (AM AU rfl (HU.out _ _ (Dm Ae (λb h=>iG h)) Ae) (λ_ _ h=>⟨_,h.1⟩)) rfl ?_ aFh Ay);rintro _ a7 ⟨⟨⟩,ae,ao⟩;replace M:=mL M ao (λk N=>iG N);replace F:=mL F ao (λk N=>iG (λh=>N (iG (iG h))))
    refine ⟨M,(Ar rfl (A4 (AQ AU rfl (HC.out _ _) (λ_ _ h=>⟨_,h.1⟩)) rfl ?_ ?_))⟩;rotate_left;intro a8 a9 ax
    rotate_right 1
    rintro _ ba ⟨⟨⟩,ay,ap⟩;replace ae:=ae.ext ap;replace F:=F.ext ap;refine Ak (Ah (Bm rfl ?_));rotate_left;refine AS (AF ?_);rotate_left;refine AI (AS (AF ?_));rotate_left
   . exact EW ae F HR.out.sub (λk=>iG) (by rw [hZ];simp only [an,ay,i6,Cy,ne_eq,not_true,not_false_iff,if_false,if_true])
   . exact Eh ax F (λe=>by rw [hZ];simp only [an,i6,Cy,ne_eq,not_true,not_false_iff,if_false,if_true];rw [AG e])
   . exact Bz a0 F (λk=>iG) (λer e=>by rw [hZ];simp only [e,i6,Cy,ne_eq,not_true,not_false_iff,if_false,if_true])
end
def E6 (l:List Nd) (j:Nat):List lB:=(l.take j).map mZ++jn (l.length-j) []
def RN (l:List Nd) (j:Nat) (h:j<=l.length):(E6 l j).length=l.length:=by simp [E6];omega
def RO (l:List Nd) (j:Nat) (h:j<l.length):(E6 l j).set j (l[j]).name=E6 l (j+1):=by
 unfold E6;have G:((l.take j).map mZ).length=j:=by simp;omega
 have M:(jn (l.length-j) ([]:lB))=[]::jn (l.length-(j+1)) []:=by
  rw [show l.length-j=(l.length-(j+1))+1 by omega,mi]
 rw [lj _ _ Ab,G,kf,M,lT,iI h,jJ,jk];rfl
def RP (l:List Nd):E6 l l.length=l.map mZ:=by simp [E6]
def ArrS.rowsStr {C D g:Nat} {xs:List lB} (h:ArrS strShape C D w g xs) {S:nP} (M:S g):Rows S w (xs.map str) (some ⟨g,0,none⟩):=by
 refine iH ⟨g,0,rfl,M,λi v G=>?_⟩;rw [jl] at G;cases hx:xs[i]? with
 | none=>rw [hx] at G;cases G
 | some x=>
  rw [hx] at G;obtain rfl:=iQ G;obtain ⟨cs,N,rfl⟩:=h.row hx;have:=N.at0 rfl;rw [show strShape.sz=1 from rfl,lf,jC] at this;have e:(⟨g,0,none⟩:Addr).add i=⟨g,i,none⟩:=by unfold ki;by_cases O:i=0<;>simp [O]
  rw [e];exact this
section
variable {P':nP} {w':wD} {T:nP}
def Run.ent (h:Run c P w r):∃es:List Int,es.length=c.g.procs.length/\Blk w c.eb (AZ es):=by
 obtain ⟨_,_,h⟩:=h;exact h.ent
def Run.offE (h:Run c P w r):∀k,P k -> ¬k=c.eb:=by
 obtain ⟨_,_,h⟩:=h;exact λk G e=>(h.off k G).1 (by rw [e,h.rolE];exact iH (iH rfl))
def Run.neER (h:Run c P w r):c.rb≠c.eb:=by
 obtain ⟨_,_,h⟩:=h;intro e;have G:=h.role;rw [e,h.rolE] at G;simp at G
def Run.procs (h:Run c P w r):PDs c.S w c.g.procs c.pa:=by
 obtain ⟨_,_,h⟩:=h;exact h.procs
def Run.bump (h:Run c P w r) (x:Fr (· = c.eb) w w') {es:List Int} (V:es.length=c.g.procs.length) (X:Blk w' c.eb (AZ es)):Run c P w' r:=by
 obtain ⟨ρ,κ,U,O,Y,Z,-,h7,h8,h9,N,M⟩:=h;have hs:=x.size;have hP:∀k,P k -> ¬k=c.eb:=λk G e=>(M k G).1 (by rw [e,O];exact iH (iH rfl))
 refine ⟨ρ,κ,U,O,Y,Z.fr x (λe=>by rw [show c.rb=c.eb from e,O] at U;simp at U),⟨es,V,X⟩,h7.fr x (λk G e=>by rw [show k=c.eb from G,O] at e;exact e),h8,h9.frS x (λk G e=>hP k (N k G) e),N,λk G=>⟨(M k G).1,by have:=(M k G).2;omega⟩⟩
def RQ {P:Program} {m:Nat} {l:Sl} {tab:Tab} {ty:TypeId} {w:wD} {x y:Operand} {t g i:Nat} {s:Sk} {xs:List Int} {u:Int} (TT:TabOk P tab) (ht:AD tab t=some (s,1)) (hx:ev l x=some (.pointer (some ⟨g,0+i*1,none⟩))) (hy:ev l y=some (.int .i64 u))
 (hb:Blk w g (AZ xs)) (hi:i<xs.length) :
 BG P m l (.store t x y) ty w (GV λw'=>Blk w' g (AZ (xs.set i u))/\Fr (· = g) w w'/\w'.heap.size=w.heap.size):=by
 have hd:=D2 (P:=P) (n:=m) (l:=l) (ty:=ty) (us:=[.int .i64 u]) TT ht hx hy rfl rfl rfl hb (by rw [mq];simp [AZ];omega);unfold BG at hd ⊢;intro a dst pos after gd next Q ha hn b;refine hd a dst pos after gd next Q ha (λv' w' h=>h.elim) (λw' hP=>b w' ⟨?_,hP.fr,hP.size⟩);have h1:=hP.blk;rw [jC,lf] at h1;simpa [A8,AZ,List.map_set] using h1
structure ProcsOk (g:PG):Prop where
 few:g.procs.length<=1000000
 blk:∀p∈g.procs,p.body.isBlock=true/\StOk g.procs p.body/\p.params.length<=1000
def XM (hc:c.fuel<=10000) (hg:ProcsOk c.g) (IH:EY c d) (b:Bool) {k:Int} {s:List UInt8} {i:Nat} (hp:Cf c.g.procs s=some i) (hl:l.length<=8) (a:Option Addr) (m:Nat) (w:World)
 (au:((A6 r).bind λr=>(Cy (·.enters (c.g.procs.getD i ⟨[],[],.mk 0 0 [] []⟩).params (l.map mZ)) r).bind λr=>
  (AH (Ax c.g.procs d) b (c.g.procs.getD i ⟨[],[],.mk 0 0 [] []⟩).body r).bind λr=>(A6 r).bind (Cy (·.leaves)))≠.error (-1)) (hs:(Nd.mk k n s l).sits P w a) (h:Run c P w r) :
 Calls prog 194 #[pt c.rb,(Nd.mk k n s l).val a m,.bool b] w (DG c P ((A6 r).bind λr=>(Cy (·.enters (c.g.procs.getD i ⟨[],[],.mk 0 0 [] []⟩).params (l.map mZ)) r).bind λr=>
  (AH (Ax c.g.procs d) b (c.g.procs.getD i ⟨[],[],.mk 0 0 [] []⟩).body r).bind λr=>(A6 r).bind (Cy (·.leaves))) w):=by
 have X:=Ne w;have HR:=iF h;have bb:=h.lt
 have hi:i<c.g.procs.length:=by
  unfold Cf at hp
  exact (List.findIdx?_eq_some_iff_getElem.1 hp).1
 obtain ⟨p,bd⟩:∃p,p=c.g.procs.getD i ⟨[],[],.mk 0 0 [] []⟩:=⟨_,rfl⟩
 rw [<-bd] at au ⊢
 have be:c.g.procs[i]? = some p:=by rw [bd,iK,iE hi];rfl
 obtain ⟨bx,bz,b0⟩:=hg.blk p (jh be);have HP:=iF (λw1 h1=>PL c.g hg.few s c.S c.va c.vc c.pa c.pc c.ma c.mc w1 h1);rw [show Gz c.g.procs s=(i:Int) by unfold Gz;rw [hp]] at HP;obtain ⟨B1,a5⟩:∃B1,B1=AH (Ax c.g.procs d) b p.body:=⟨_,rfl⟩
 rw [<-a5] at au ⊢
 obtain ⟨Z,hZ⟩:∃Z,Z=((A6 r).bind λr=>(Cy (·.enters p.params (l.map mZ)) r).bind λr=>(B1 r).bind λr=>(A6 r).bind (Cy (·.leaves))):=⟨_,rfl⟩
 rw [<-hZ] at au ⊢
 change Calls prog _ #[_,.agg #[.int .u8 k,.int .i64 n,str s,.slice a l.length m],_] w _
 refine Ad func194 ntmps194 rfl rfl ?_
 refine cS (Du [_,_,_,_] rfl rfl rfl ?_);intro b1 w2 n3;have h4:=n3.blk;have x5:=n3.ext;have p6:=n3.pos;have z7:=n3.size;replace X:=X.ext x5;replace hs:=nn hs x5;refine cN (C1 Pf (C1 (Pl h4) (C1 Pz (Aw (Dq (sh:=strShape) (C:=0) (D:=0) (N:=l.length) (z:=[]) Ac CC rfl rfl rfl rfl AU rfl rfl Ab (λ_ _=>rfl)) rfl ?_ aFh))));rintro _ b2 ⟨g8,rfl,h9,cx,cy,a6⟩;replace h4:=h4.ext a6;replace X:=X.ext a6;replace hs:=nn hs a6;refine C1 Pa (cT (Aj (cS (C1 Pf (C1 (Pl h4) (C1 Pz (C1 Mv (cT ?_))))))))
 have hA:ArrS strShape 0 0 b2 g8 (E6 l 0):=by simpa [E6] using h9
 refine Au ?_;refine AP (ι:=Nat) (λj=>[(0,pt c.rb),(2,.bool b),(4,pt b1),(6,.slice (some ⟨g8,0,none⟩) l.length l.length),(16,.slice a l.length m),(17,.int .i64 l.length),(18,.int .i64 j)])
  (λj w'=>j<=l.length/\ArrS strShape 0 0 w' g8 (E6 l j)/\Blk w' b1 [.int .u8 k,.int .i64 n,str s,.slice a l.length m]/\rowSits P w' l a/\Ext w w'/\b1+2<=w'.heap.size)
  (λj=>l.length-j) 0 sB ⟨iT _,hA,h4,hs,X,Ab⟩ ?_
 rintro j w1 ⟨hj,hA,h4,hs,X,hz⟩
 by_cases am:j<l.length
 . obtain ⟨kb,ko,rfl,cz,bf⟩:=BI hs (by intro e;subst e;simp at am);obtain ⟨xa,xc,rx,sx⟩:=bf j l[j] (iE am);have a7:=RO l j am;have c0:=RN l j hj
   generalize l[j]=x at *
   obtain ⟨xk,xn,xs,xl⟩:=x;replace rx:Row w1 ⟨kb,ko+j*4,none⟩ [.int .u8 xk,.int .i64 xn,str xs,.slice xa xl.length xc]:=rx
   refine cS (C1 V3 (cT (Aj (TS (Ao (Ai (Aj (Au (cS (C1 Mv (C1 Pi (C1 (YZ rx) (eA [_,_,_,_] ?_)))))))))))));intro c1 c2 b3 av c3 c4;replace hA:=hA.ext av;replace X:=X.ext av;replace h4:=h4.ext av;replace hs:=nn hs av;refine C1 Pa (eS [_,_,_,_] b3 ?_);intro c5 bg ah cc;replace hA:=hA.fr ah Ab;replace X:=X.fr ah Ab;replace h4:=h4.fr ah Ab;replace hs:=nb hs ah (λb hb h=>by (have h1:=bb b hb;omega));refine cT (Al (C1 Mv (C1 Mv (C1 Pf (C1 (Pl bg) (C1 Pi (A7 (Ci (sh:=strShape) (j:=j) (z:=xs) (us:=[_]) Ac rfl rfl rfl rfl rfl rfl Ae Ab Ab rfl) (BJ ?_))))))));rintro _ cd ⟨ce,an,cf⟩;replace X:=X.fr an Ab;replace h4:=h4.fr an Ab;replace hs:=nb hs an (λb hb h=>by (have h1:=bb b hb;omega));refine Ak (Ah (Ai (Al (C1 V7 (C1 Mv (Ak ?_))))))
   exact AA (j+1) sB ⟨Ab,by rw [<-a7];assumption,Ae,Ae,X,Ab⟩ Ab
 . obtain rfl:j=l.length:=by omega
   rw [RP] at hA
   refine cS (C1 V3 (cT (Aj (DA (Ca (AB (AB (A0 (Ai ?_)))))))))
   have ac:=(HR.out.ext X).blk;have aw:=(HR.out.ext X).procs;obtain ⟨pb,po,b4,c6,bh⟩:=aw.get (by intro e;rw [e] at hi;simp at hi);obtain ⟨qa,qc,ba,bc,rp,rv,sb⟩:=bh i p be;have V:=HR.out.sub;rw [b4] at ac aw HP;obtain ⟨pn,bi,b5⟩:=p;obtain ⟨bk,bn,bs,bl⟩:=b5;dsimp only at *
   refine Aj (Aq (λwz=>Ext w1 wz) 6 (.pure 0 (.pure 1 (.pure 2 (.pure 3 (.pure 4 (.pure 5 .tail)))))) mixed AU (Aa Ag) ?_);intro b6 ad _;have az:(λwz=>Ext w1 wz) b6:=ad;simp only at az;have bj:=h4;have a8:=ac;have c7:=ad.size;replace X:=X.ext ad;replace hA:=hA.ext ad;replace aw:=aw.ext ad;replace ac:=ac.ext ad;replace rp:=rp.ext ad;replace rv:=rv.ext ad;replace sb:=nz sb ad;refine ⟨az,(Tq rfl Mv (Tq rfl Pn (Tq rfl Pg (Tq rfl (BW [_,_,_,_,_,_] Ac rfl rfl rfl (λwz hz=>(mN a8 hz)) rfl rfl) (Tq rfl Pf (Tq rfl (Db bj) (Ar rfl (cC rfl (HP.out _ Ae) ?_))))))))⟩;rintro _ c8 ⟨⟨⟩,ag⟩;have c9:=ag.size;replace X:=X.ext ag;replace hA:=hA.ext ag;replace ac:=ac.ext ag;replace rp:=rp.ext ag;replace rv:=rv.ext ag;replace sb:=nz sb ag;refine C1 Pa (cN (C1 Mv (C1 Pn (C1 Pg (C1 Pf (C1 (Pl ac) (C1 Mv (C1 Pi (C1 (YZ rp) (EF [_,_,_,_,_,_] CC rfl rfl ?_))))))))));intro da db Y;refine Dz [_,_,_,_,_,_] Ac rfl rfl rfl rfl rfl rfl Y rfl ?_;intro M Y;have G:=Y.blk;dsimp only at G;have ai:=Y.ext;have cg:=Y.pos;have ch:=Y.size;replace X:=X.ext ai;replace hA:=hA.ext ai;replace rv:=rv.ext ai
   replace sb:=nz sb ai;refine cT ?_
   have h1:=HR.out.more X;have aj:Rows (Cl P w M) M ((l.map mZ).map str) (some ⟨g8,0,none⟩):=hA.rowsStr (iH ⟨Ab,Ab⟩);have F:Fr (λk=> ¬P k) w M:=mG X;have HS:=iF (λr1 w1 h=>Nk (c:=c) (P:=Cl P w M) (r:=r1) hc w1 h)
   unfold DG at HS
   have HE:=iF (λr1 w1 h1 h2 h3=>Z0 (c:=c) (P:=Cl P w M) (r:=r1) hc bi (l.map mZ) b0 qa (some ⟨g8,0,none⟩) qc l.length w1 h1 h2 h3);simp only [kz] at HE;have HC:=iF (λe w1=>ID e (pt c.rb) w1)
   unfold Tl at HC
   focus
    refine cS (C1 Mv (A4 (AQ AU rfl (HS.out _ _ Ae) (λ_ _ h=>h.ret)) rfl ?_ ?_));rotate_left;intro dc dd b7
    rotate_right 1
    rintro _ a0 ⟨a1,⟨⟩,aa,ao,ae⟩;replace G:=mH G ae (λh=>h (iH ⟨Ab,Ab⟩));replace rv:=nd rv ae (λb hb h=>h (iG (V _ hb)));replace sb:=mF sb ae (λb hb h=>h (iG (V _ hb)));replace aj:=Rows.fr aj ae (λb hb h=>h hb);replace F:=mL F ae (λk hk=>iG (λh=>hk (iG h)));refine cT (Aj (Aq (λwz=>Fr ((λk=> ¬(Cl P w M k\/k=c.rb))) a0 wz) 9 (.pure 0 (.pure 1 (.pure 2 (.pure 3 (.pure 4 (.pure 5 (.pure 6 (.pure 7 (.fork 8 .tail .none))))))))) mixed AU (Aa Ag) ?_));intro bm O _;have U:(λwz=>Fr ((λk=> ¬(Cl P w M k\/k=c.rb))) a0 wz) bm:=mG O;simp only at U;have ax:=ao;have ay:=G;replace ao:=ao.ext O;replace G:=G.ext O;replace rv:=rv.ext O;replace sb:=nz sb O;replace aj:=aj.ext O;replace F:=F.ext O;refine ⟨U,(Tq rfl Mv (Tq rfl Mv (Tq rfl Pn (Tq rfl Pf (Tq rfl (Ap Ac rfl rfl rfl (λwz hz=>mM (mH (nH ax) hz (by first|omega|(dsimp only;omega))) rfl)) ?_)))))⟩;refine Tq rfl Pf (Tq rfl (Ap Ac rfl rfl rfl (λwz hz=>mM (mH ay hz (λh=>h (iG (iH ⟨Ab,Ab⟩)))) rfl)) (Tq rfl Mv (AC rfl (AM AU rfl (HE.out _ _ Ae (nG Ae (λb h=>iG (V _ h))) Ae) (λ_ _ h=>⟨_,h.1⟩)) rfl ?_ aFh Ay)))
    rintro _ ci ⟨⟨⟩,ab,ak⟩;replace U:=mL U ak (λk hk=>iG hk);replace G:=mH G ak (λh=>h (iG (iH ⟨Ab,Ab⟩)));replace sb:=mF sb ak (λb hb h=>h (iG (iG (V _ hb))));replace F:=mL F ak (λk hk=>iG (λh=>hk (iG (iG h))));refine ⟨U,(Ar rfl (A4 (AQ AU rfl (HC.out _ _) (λ_ _ h=>⟨_,h.1⟩)) rfl ?_ ?_))⟩;rotate_left;intro cj ck bo
    rotate_right 1
    rintro _ a2 ⟨⟨⟩,af,al⟩;replace ab:=ab.ext al;replace G:=G.ext al;replace sb:=nz sb al;replace F:=F.ext al;refine cT ?_;rotate_left;refine AI (AF ?_);rotate_left;refine AI (AF ?_);rotate_left
   . obtain ⟨es,de,b8⟩:=ab.ent;have ap:=ab.offE
     have b9:Row a2 ⟨c.eb,0+i*1,none⟩ [.int .i64 (es.getD i 0)]:=λj v hj=>by
      cases j with
      | zero=>
       simp only [ja,iL] at hj;subst hj;rw [jC,lf]
       exact b8.cell (by simp [AZ,iE (show i<es.length by omega),iK])
      | succ j=>simp at hj
     have ac:=ab.blk;have H1:=iF ab;have F2:=mI (· = c.eb) a2;have HF:=iF F
     refine cS (C1 Mv (C1 Pn (C1 Pf (C1 (Pl ac) (C1 Mv (C1 Pi (C1 (UK b9) (C1 (JP rfl rfl) (C1 Pi (A7 (RQ Ac rfl rfl rfl Ae Ab) (BJ ?_)))))))))));rintro _ df ⟨ca,a9,dg⟩;replace G:=mH G a9 (λe=>ap _ (iH ⟨Ab,Ab⟩) e);replace sb:=mF sb a9 (λb hb e=>ap b (iG (V _ hb)) e);replace F2:=F2.fr a9 Ab;refine cT ?_
     have h2:=H1.out.bump F2 (by rw [kg];omega) ca;have F:=HF.out.fr F2 (λk hk=>iG (λh=>ap k (iG h) hk));have HL:=iF (λr1 w1 h=>ZZ (c:=c) (P:=Cl P w M) (r:=r1) hc w1 h);have HY:=iF (λw1 h1 h2=>IH (Cl P w M) b (.mk bk bn bs bl) ⟨(a1.st.enters bi (l.map mZ)).2,a1.rem⟩ ba bc w1 bx bz (λe4=>au (by rw [hZ];simp only [aa,i6,Cy,af,ne_eq,not_true,if_false];rw [a5,e4])) h1 h2)
     rw [<-a5] at HY
     unfold DG at HY
     focus
      refine cS (C1 Mv (C1 Pf (A3 [_,_,_,_] Ac rfl rfl rfl G rfl rfl rfl (C1 Mv (A4 (AQ AU rfl (HY.out _ (mK Ae (λb h=>iG (V _ h))) Ae) (λ_ _ h=>h.ret)) rfl ?_ ?_)))));rotate_left;intro dh di cb
      rotate_right 1
      rintro _ cl ⟨cm,⟨⟩,aq,cn,bp⟩;replace F:=mL F bp (λk hk=>iG (λh=>hk (iG h)));refine cN (C1 Mv (A4 (AQ AU rfl (HS.out _ _ Ae) (λ_ _ h=>h.ret)) rfl ?_ ?_));rotate_left;intro co cp bq
      rotate_right 1
      rintro _ cq ⟨cr,⟨⟩,a3,br,bt⟩;replace F:=mL F bt (λk hk=>iG (λh=>hk (iG h)));refine cT (Al (C1 Mv (C1 Mv (C1 Pn (C1 Pf (C1 (Pl (nH br)) (cC rfl (HL.out _ _ Ae) ?_)))))));rintro _ ct ⟨⟨⟩,ar,bu⟩;replace F:=mL F bu (λk hk=>iG (λh=>hk (iG (iG h))));refine A4 (AQ AU rfl (HC.out _ _) (λ_ _ h=>⟨_,h.1⟩)) rfl ?_ ?_;rotate_left;intro cu cv bv
      rotate_right 1
      rintro _ cw ⟨⟨⟩,bw,a4⟩;replace ar:=ar.ext a4;replace F:=F.ext a4;refine Ak (Bm rfl ?_);rotate_left;refine AF ?_;rotate_left;refine AI (AF ?_);rotate_left;refine AI (AF ?_);rotate_left
     . exact EW ar F HR.out.sub (λk=>iG) (by rw [hZ];simp only [aa,af,aq,a3,bw,i6,Cy,ne_eq,not_true,not_false_iff,if_false,if_true])
     . exact Eh bv F (λe=>by rw [hZ];simp only [aa,af,aq,a3,i6,Cy,ne_eq,not_true,not_false_iff,if_false,if_true];rw [AG e])
     . exact Bz bq F (λk=>iG) (λer e=>by rw [hZ];simp only [aa,af,aq,e,i6,Cy,ne_eq,not_true,not_false_iff,if_false,if_true])
     . exact Bz cb F (λk=>iG) (λer e=>by rw [hZ];simp only [aa,af,e,i6,Cy,ne_eq,not_true,not_false_iff,if_false,if_true])
   . exact Eh bo F (λe=>by rw [hZ];simp only [aa,i6,Cy,ne_eq,not_true,not_false_iff,if_false,if_true];rw [AG e])
   . exact Bz b7 F (λk=>iG) (λer e=>by rw [hZ];simp only [e,i6,Cy,ne_eq,not_true,not_false_iff,if_false,if_true])
end
section
variable {P':nP} {w':wD} {T:nP}
def Z4 (hc:c.fuel<=10000) (IH:EY c d) (b:Bool) {x z u:Nd} (hx:x.isExpr=true) (hy:y.isBlock=true) (hz:z.isBlock=true) (hu:u.isExpr=true) (O:StOk c.g.procs (.mk 52 n s [x,y,z,u])) (a:oA) (m:Nat) (w:wD)
 (M:Ax c.g.procs (d+1) b (.mk 52 n s [x,y,z,u]) r≠.error (-1)) (V:rowSits P w [x,y,z,u] a) (h:Run c P w r) :
 Calls prog 162 #[pt c.rb,.agg #[.int .u8 52,.int .i64 n,str s,.slice a 4 m],.bool b] w (DG c P (Ax c.g.procs (d+1) b (.mk 52 n s [x,y,z,u]) r) w):=by
 have X:=Ne w;have Y:=iF h;have F:=mI (λk=> ¬P k) w;obtain ⟨Z,N⟩:∃Z,Z=Ax c.g.procs (d+1) b (.mk 52 n s [x,y,z,u]) r:=⟨_,rfl⟩
 rw [<-N] at M ⊢;replace N:Z=((BK (if b then u else x) r).bind λp=>(AH (Ax c.g.procs d) b (if p.1 then y else z) p.2).bind (Bj (if b then x else u) p.1)):=by rw [N];unfold Ax;cases b<;>rfl
 have HB:Hid (∀(G:nP) (w1:wD),rowSits G w1 [x,y,z,u] a->Run c G w1 r->Calls prog 187 #[pt c.rb,.agg #[.int .u8 52,.int .i64 n,str s,.slice a 4 m],.bool b] w1 (UL (RunA c G Z w1) (RJ G Z w1))):=
  iF (λG w1 h1 h2=>by have h3:=XK (c:=c) (P:=G) (r:=r) hc IH b hx hy hz hu O a m w1 (by rw [<-N];exact M) h1 h2;rw [<-N] at h3;exact h3)
 refine Ad func162 ntmps162 rfl rfl ?_
 focus
  refine cS (eB [_,_,_,_] ?_);intro b1 w2 h4 x5 _ _;revert V X F;refine eE x5 ?_;intro V X F;refine eK ?_;refine A4 (AQ AU rfl (HB.out (Cl P w w2) _ (Dm Ae (λb h=>iG h)) (Y.out.more X)) (λ_ _ h=>h.ret)) rfl ?_ ?_;rotate_left;intro aa ab ac
  rotate_right 1
  rintro _ ad ⟨ae,⟨⟩,rfl,af,U⟩;have F:=mL F U (λk hk=>iG (λh=>hk (iG h)));refine Ak (Ah (Bm rfl ?_));rotate_left;refine AS (AF ?_);rotate_left
 . exact EW Ae F Y.out.sub (λk=>iG) rfl
 . exact Bz Ae F (λk=>iG) aFh
def fM (hc:c.fuel<=10000) (IH:EY c d) (b:Bool) {x z u:Nd} (hx:x.isExpr=true) (hy:y.isBlock=true) (hz:z.isBlock=true) (hu:u.isExpr=true) (O:StOk c.g.procs (.mk 53 n s [x,y,z,u])) (a:oA) (m:Nat) (w:wD)
 (M:Ax c.g.procs (d+1) b (.mk 53 n s [x,y,z,u]) r≠.error (-1)) (V:rowSits P w [x,y,z,u] a) (h:Run c P w r) :
 Calls prog 162 #[pt c.rb,.agg #[.int .u8 53,.int .i64 n,str s,.slice a 4 m],.bool b] w (DG c P (Ax c.g.procs (d+1) b (.mk 53 n s [x,y,z,u]) r) w):=by
 have X:=Ne w;have Y:=iF h;have F:=mI (λk=> ¬P k) w;obtain ⟨Z,N⟩:∃Z,Z=Ax c.g.procs (d+1) b (.mk 53 n s [x,y,z,u]) r:=⟨_,rfl⟩
 rw [<-N] at M ⊢;replace N:Z=((Bj (if b then u else x) true r).bind (Cg (AH (Ax c.g.procs d) b y) (AH (Ax c.g.procs d) b z) (if b then x else u) (if b then u else x) d)):=by rw [N];unfold Ax;cases b<;>rfl
 have HB:Hid (∀(G:nP) (w1:wD),rowSits G w1 [x,y,z,u] a->Run c G w1 r->Calls prog 188 #[pt c.rb,.agg #[.int .u8 53,.int .i64 n,str s,.slice a 4 m],.bool b] w1 (UL (RunA c G Z w1) (RJ G Z w1))):=
  iF (λG w1 h1 h2=>by have h3:=dK (c:=c) (P:=G) (r:=r) hc IH b hx hy hz hu O a m w1 (by rw [<-N];exact M) h1 h2;rw [<-N] at h3;exact h3)
 refine Ad func162 ntmps162 rfl rfl ?_
 focus
  refine cS (eB [_,_,_,_] ?_);intro b1 w2 h4 x5 _ _;revert V X F;refine eE x5 ?_;intro V X F;refine eK ?_;refine A4 (AQ AU rfl (HB.out (Cl P w w2) _ (Dm Ae (λb h=>iG h)) (Y.out.more X)) (λ_ _ h=>h.ret)) rfl ?_ ?_;rotate_left;intro aa ab ac
  rotate_right 1
  rintro _ ad ⟨ae,⟨⟩,rfl,af,U⟩;have F:=mL F U (λk hk=>iG (λh=>hk (iG h)));refine Ak (Ah (Bm rfl ?_));rotate_left;refine AS (AF ?_);rotate_left
 . exact EW Ae F Y.out.sub (λk=>iG) rfl
 . exact Bz Ae F (λk=>iG) aFh
def dL (hc:c.fuel<=10000) (IH:EY c d) (b:Bool) {x z:Nd} (hx:x.isExpr=true) (hy:y.isBlock=true) (hz:z.isExpr=true) (O:StOk c.g.procs (.mk 54 n s [x,y,z])) (a:oA) (m:Nat) (w:wD)
 (M:Ax c.g.procs (d+1) b (.mk 54 n s [x,y,z]) r≠.error (-1)) (V:rowSits P w [x,y,z] a) (h:Run c P w r) :
 Calls prog 162 #[pt c.rb,.agg #[.int .u8 54,.int .i64 n,str s,.slice a 3 m],.bool b] w (DG c P (Ax c.g.procs (d+1) b (.mk 54 n s [x,y,z]) r) w):=by
 have X:=Ne w;have Y:=iF h;have F:=mI (λk=> ¬P k) w;obtain ⟨Z,N⟩:∃Z,Z=Ax c.g.procs (d+1) b (.mk 54 n s [x,y,z]) r:=⟨_,rfl⟩
 rw [<-N] at M ⊢;replace N:Z=((A6 r).bind λr=>(BF (if b then z else x) r).bind λv=>(Cy (·.opens ⟨s,1,0⟩ v) r).bind λr=>(AH (Ax c.g.procs d) b y r).bind λr=>(A6 r).bind λr=>(BF (if b then x else z) r).bind λv=>Cy (·.closes s v) r):=by rw [N];unfold Ax;cases b<;>rfl
 have HB:Hid (∀(G:nP) (w1:wD),rowSits G w1 [x,y,z] a->Run c G w1 r->Calls prog 189 #[pt c.rb,.agg #[.int .u8 54,.int .i64 n,str s,.slice a 3 m],.bool b] w1 (UL (RunA c G Z w1) (RJ G Z w1))):=
  iF (λG w1 h1 h2=>by have h3:=Z3 (c:=c) (P:=G) (r:=r) hc IH b hx hy hz O a m w1 (by rw [<-N];exact M) h1 h2;rw [<-N] at h3;exact h3)
 refine Ad func162 ntmps162 rfl rfl ?_
 focus
  refine cS (eB [_,_,_,_] ?_);intro b1 w2 h4 x5 _ _;revert V X F;refine eE x5 ?_;intro V X F;refine eK ?_;refine A4 (AQ AU rfl (HB.out (Cl P w w2) _ (Dm Ae (λb h=>iG h)) (Y.out.more X)) (λ_ _ h=>h.ret)) rfl ?_ ?_;rotate_left;intro aa ab ac
  rotate_right 1
  rintro _ ad ⟨ae,⟨⟩,rfl,af,U⟩;have F:=mL F U (λk hk=>iG (λh=>hk (iG h)));refine Ak (Ah (Bm rfl ?_));rotate_left;refine AS (AF ?_);rotate_left
 . exact EW Ae F Y.out.sub (λk=>iG) rfl
 . exact Bz Ae F (λk=>iG) aFh
def Z5 (hc:c.fuel<=10000) (IH:EY c d) (b:Bool) (hg:ProcsOk c.g) {i:Nat} (U:Cf c.g.procs s=some i) (hl:l.length<=8) (aa:StOk c.g.procs (.mk 50 n s l)) (a:oA) (m:Nat) (w:wD)
 (M:Ax c.g.procs (d+1) b (.mk 50 n s l) r≠.error (-1)) (V:rowSits P w l a) (h:Run c P w r) :
 Calls prog 162 #[pt c.rb,.agg #[.int .u8 50,.int .i64 n,str s,.slice a l.length m],.bool b] w (DG c P (Ax c.g.procs (d+1) b (.mk 50 n s l) r) w):=by
 have X:=Ne w;have Y:=iF h;have F:=mI (λk=> ¬P k) w;obtain ⟨Z,N⟩:∃Z,Z=Ax c.g.procs (d+1) b (.mk 50 n s l) r:=⟨_,rfl⟩
 rw [<-N] at M ⊢;replace N:Z=((A6 r).bind λr=>(Cy (·.enters (c.g.procs.getD i ⟨[],[],.mk 0 0 [] []⟩).params (l.map mZ)) r).bind λr=>(AH (Ax c.g.procs d) (b != decide ((50:Int)=51)) (c.g.procs.getD i ⟨[],[],.mk 0 0 [] []⟩).body r).bind λr=>(A6 r).bind (Cy (·.leaves))):=by rw [N];rw [ET _ _ _ Ab,U];rfl
 have HB:Hid (∀(G:nP) (w1:wD) (q:Bool) (hq:q=(b != decide ((50:Int)=51))),rowSits G w1 l a->Run c G w1 r->Calls prog 194 #[pt c.rb,.agg #[.int .u8 50,.int .i64 n,str s,.slice a l.length m],.bool q] w1 (UL (RunA c G Z w1) (RJ G Z w1))):=
  iF (λG w1 q hq h1 h2=>by subst hq;have h3:=XM (k:=50) (n:=n) (c:=c) (P:=G) (r:=r) hc hg IH (b != decide ((50:Int)=51)) U hl a m w1 (by rw [<-N];exact M) h1 h2;rw [<-N] at h3;exact h3)
 refine Ad func162 ntmps162 rfl rfl ?_
 focus
  refine cS (eB [_,_,_,_] ?_);intro b1 w2 h4 x5 _ _;revert V X F;refine eE x5 ?_;intro V X F;refine eK ?_;refine C1 (Ni Ac rfl rfl rfl) ?_;refine A4 (AQ AU rfl (HB.out (Cl P w w2) _ _ (by cases b<;>rfl) (Dm Ae (λb h=>iG h)) (Y.out.more X)) (λ_ _ h=>h.ret)) rfl ?_ ?_;rotate_left;intro ab ac ad
  rotate_right 1
  rintro _ ae ⟨af,⟨⟩,rfl,ag,O⟩;have F:=mL F O (λk hk=>iG (λh=>hk (iG h)));refine Ak (Ah (Bm rfl ?_));rotate_left;refine AS (AF ?_);rotate_left
 . exact EW Ae F Y.out.sub (λk=>iG) rfl
 . exact Bz Ae F (λk=>iG) aFh
def Z6 (hc:c.fuel<=10000) (IH:EY c d) (b:Bool) (hg:ProcsOk c.g) {i:Nat} (U:Cf c.g.procs s=some i) (hl:l.length<=8) (aa:StOk c.g.procs (.mk 51 n s l)) (a:oA) (m:Nat) (w:wD)
 (M:Ax c.g.procs (d+1) b (.mk 51 n s l) r≠.error (-1)) (V:rowSits P w l a) (h:Run c P w r) :
 Calls prog 162 #[pt c.rb,.agg #[.int .u8 51,.int .i64 n,str s,.slice a l.length m],.bool b] w (DG c P (Ax c.g.procs (d+1) b (.mk 51 n s l) r) w):=by
 have X:=Ne w;have Y:=iF h;have F:=mI (λk=> ¬P k) w;obtain ⟨Z,N⟩:∃Z,Z=Ax c.g.procs (d+1) b (.mk 51 n s l) r:=⟨_,rfl⟩
 rw [<-N] at M ⊢;replace N:Z=((A6 r).bind λr=>(Cy (·.enters (c.g.procs.getD i ⟨[],[],.mk 0 0 [] []⟩).params (l.map mZ)) r).bind λr=>(AH (Ax c.g.procs d) (b != decide ((51:Int)=51)) (c.g.procs.getD i ⟨[],[],.mk 0 0 [] []⟩).body r).bind λr=>(A6 r).bind (Cy (·.leaves))):=by rw [N];rw [ET _ _ _ Ab,U];rfl
 have HB:Hid (∀(G:nP) (w1:wD) (q:Bool) (hq:q=(b != decide ((51:Int)=51))),rowSits G w1 l a->Run c G w1 r->Calls prog 194 #[pt c.rb,.agg #[.int .u8 51,.int .i64 n,str s,.slice a l.length m],.bool q] w1 (UL (RunA c G Z w1) (RJ G Z w1))):=
  iF (λG w1 q hq h1 h2=>by subst hq;have h3:=XM (k:=51) (n:=n) (c:=c) (P:=G) (r:=r) hc hg IH (b != decide ((51:Int)=51)) U hl a m w1 (by rw [<-N];exact M) h1 h2;rw [<-N] at h3;exact h3)
 refine Ad func162 ntmps162 rfl rfl ?_
 focus
  refine cS (eB [_,_,_,_] ?_);intro b1 w2 h4 x5 _ _;revert V X F;refine eE x5 ?_;intro V X F;refine eK ?_;refine C1 (Ni Ac rfl rfl rfl) ?_;refine A4 (AQ AU rfl (HB.out (Cl P w w2) _ _ (by cases b<;>rfl) (Dm Ae (λb h=>iG h)) (Y.out.more X)) (λ_ _ h=>h.ret)) rfl ?_ ?_;rotate_left;intro ab ac ad
  rotate_right 1
  rintro _ ae ⟨af,⟨⟩,rfl,ag,O⟩;have F:=mL F O (λk hk=>iG (λh=>hk (iG h)));refine Ak (Ah (Bm rfl ?_));rotate_left;refine AS (AF ?_);rotate_left
 . exact EW Ae F Y.out.sub (λk=>iG) rfl
 . exact Bz Ae F (λk=>iG) aFh
def dM (O:c.fuel<=10000) (hg:ProcsOk c.g) (Y:EY c d):XJ c (d+1):=by
 intro P b t r a m w N G M U h;cases B3 N with
 | upd X V Z=>exact L0 O d b Ab N G a m w U h
 | swap V Z=>exact L0 O d b Ab N G a m w U h
 | stack X hn V=>exact L0 O d b Ab N G a m w U h
 | tape X V=>exact L0 O d b Ab N G a m w U h
 | call X hn hl hv=>
  rename_i k s l;obtain ⟨i,hi⟩:=Option.isSome_iff_exists.1 (G.calls.1 X);rcases X with rfl|rfl
  . exact Z5 O Y b hg hi hl G a m w M U h
  . exact Z6 O Y b hg hi hl G a m w M U h
 | branch X V Z hz hu=>
  rcases X with rfl|rfl
  . exact Z4 O Y b V Z hz hu G a m w M U h
  . exact fM O Y b V Z hz hu G a m w M U h
 | local_ hn V Z hz=>exact dL O Y b V Z hz G a m w M U h
 | lstack hn V=>exact XL O Y b V G a m w M U h
def Us (G:c.fuel<=10000) (M:ProcsOk c.g):∀d,XJ c d
 | 0=>λP b t r a m w _ _ h _ _=>absurd (by unfold Ax;rfl) h
 | d+1=>dM G M (Uq (Us G M d))
def XN (h:c.fuel<=10000) (G:ProcsOk c.g) (d:Nat):EY c d:=Uq (Us h G d)
end
end Bk
namespace Bk
open Go Go.RowKit
section
variable {P:Program} {n:Nat} {l:Sl} {w:wD} {ty:TypeId} {Q:Exit->Act->wD->Prop} {ops:Array Oper} {rest:List Oper} {pos:String} {after:Array Edge} {A:Ending->wD->Prop} {B:List PanicEntry->wD->Prop} {D:List Deferred}
def VP {f:FuncId} {fn:Func} {c:Code} {args:lV} {R:Ending->wD->Prop}
 (M:P.funcs[f]? = some fn) (X:fn.ntmps=n) (N:fn.body=some c) (O:jW args.length n=true) (h:CW P n c (bodyPostD P fn R) (GJ 0 args) w):Calls P f args.toArray w R:=by
 unfold CW at h;refine calls_of_wp_defers M N (h _ ?_);have U:args.length<=n:=by simpa using O
 refine ⟨by simp;omega,rfl,λd v V=>?_⟩;obtain ⟨-,G⟩:=Gl d v args 0 V;simp only [kD] at G;have:d<args.length:=by
  rcases i7 d args.length with h|h
  . exact h
  . rw [iR h] at G;cases G
 rw [iE this] at G;simp only [iL] at G;simp [lJ,this,G]
def XO {x:Operand} {f:Fn} {fi ca:Array Value} (G:ev l x=some (.func f fi ca)) (k:SU P [⟨.fn f ca,fi⟩] n ops Q rest l w):LW P n ops Q (⟨none,.defer ⟨.value x,#[],#[]⟩,ty,pos,after,none⟩::rest) l w:=by
 unfold SU at k;unfold LW;intro a h;unfold wpList;rw [AG (Bd rfl)];left;have e:(execOp a.eval ⟨none,.defer ⟨.value x,#[],#[]⟩,ty,pos,after,none⟩).run P w = .ok (.defer ⟨.fn f ca,fi⟩) w:=by
  simp [execOp,resolve,h.ev G,Deferred.ofValue,iP]
 unfold kh;rw [e];refine k _ ⟨⟨h.size,rfl,h.has⟩,?_⟩;show _::a.defers=_;rw [h.defers]
def VQ {f:FuncId} {x:Operand} {fi ca:lV} {xs:List Operand} {tys:Array TypeId} {vs:lV} {d:Nat} (U:B0 P f=true) (V:ev l x=some (.func (.func f) fi.toArray ca.toArray)) (N:evs l xs=some vs) (X:jg d n=true) (C:Calls P f (fi++vs++ca).toArray w (UL A B))
 (Y:∀e w1,A e w1 -> ∃v,e = .returned v) (k:∀v w1,A (.returned v) w1->SU P D n ops Q rest ((d,v)::l) w1) (O:∀c w1,B c w1->J7 D n Q (.panic c) l w1) :
 SU P D n ops Q (⟨some d,.call ⟨.value x,xs.toArray,tys⟩,ty,pos,after,none⟩::rest) l w:=by
 unfold SU at k ⊢;unfold J7 at O;intro a M;unfold wpList;rw [AG (Bd rfl)];left;have G:xs.map a.eval=vs:=M.1.evs N;have e:(execOp a.eval ⟨some d,.call ⟨.value x,xs.toArray,tys⟩,ty,pos,after,none⟩).run P w = .ok (.enter f (fi++vs++ca).toArray) w:=by
  simp only [execOp,resolve,M.ev V,Deferred.ofValue,iV,je,iP,invoke];rw [DI U];simp [<-G]
 unfold kh;rw [e];refine jE C λe w1 h=>?_
 rcases h with h|⟨c,rfl,h⟩
 . obtain ⟨v,rfl⟩:=Y e w1 h;exact k v w1 h _ (M.put X v)
 . exact O c w1 h a M
def Nm {K:Act->wD->Prop} {c:List PanicEntry} (h:J7 D n Q (.panic c) l w):J7 D n (Exit.then K Q) (.panic c) l w:=by unfold J7 at h ⊢;exact h
def OG {fn:Func} {R:Ending->wD->Prop} {e:Exit} {u u':FrameMode} {f:FuncId} {fi ca:lV} {t G sz:Nat} {s:Sk} {tab:Tab} {b:Nat} (N:(e = .ret/\u = .returning) \/ ∃c,e = .panic c/\u = .panicking c) (V:B0 P f=true)
 (h:fn.results = #[.cell t G]) (T:TabOk P tab) (X:AD tab G=some (s,sz)) (Y:s.agg=false) (Z:look l t=some (pt b)) (hu:settle u' = .returning)
 (C:CallsD P f (fi++ca).toArray u w λe O w1=>O=u'/\e = .returned (.tuple #[]) /\ ∃v,Blk w1 b [v]/\R (.returned v) w1):J7 [⟨.fn (.func f) ca.toArray,fi.toArray⟩] n (bodyPostD P fn R) e l w:=by
 unfold J7;intro a U;have key:Leaves P fn a.tmps R a.defers u w:=by
  rw [U.2];refine leaves_cons (f:=f) (args:=(fi++ca).toArray) ?_ ?_ (CallsD.mono C ?_)
  . rcases N with ⟨-,rfl⟩|⟨c,-,rfl⟩<;>simp
  . simp only [invoke];rw [DI V];simp
  . rintro e1 O w1 ⟨rfl,rfl,v,M,hR⟩;simp only;rw [hu];exact ⟨v,QQ h T X Y (U.1.has t _ Z) (M.cell rfl),hR⟩
 rcases N with ⟨rfl,rfl⟩|⟨c,rfl,rfl⟩<;>exact key
def Nn {f:FuncId} {fn:Func} {t d id:Nat} {V Y:TypeId} {N O:String} {G M:Array Edge} {y:Code} {args:lV} {u u':FrameMode} {v:Value} {R:Ending->wD->Prop}
 (hf:P.funcs[f]? = some fn) (hn:fn.ntmps=n) (hb:fn.body=some (.seq (.region id #[⟨some t,.call ⟨.builtin .recover,#[],#[]⟩,V,N,G,none⟩,⟨some d,.assign (.tmp t),Y,O,M,none⟩] false) y)) (hl:jW args.length n=true) (ht:jg t n=true) (hd:jg d n=true)
 (hr:∀(c:Frame) (cs:List Frame),c.mode=u->recoverD (c::cs)=some (v,{ c with mode:=u' }::cs)\/(recoverD (c::cs)=none/\v = .nilIface/\u'=u))
 (h:CW P n y (bodyPost P fn R) ((d,v)::(t,v)::GJ 0 args) w):CallsD P f args.toArray u w λe Z w'=>Z=u'/\R e w':=by
 unfold CW at h;refine callsD_of_wpS hf hb λc₀ cs hu=>wpS_seq (wpS_region ?_)
 have aa:Env n (GJ 0 args) { tmps:=args.toArray++jZ (fn.ntmps-args.toArray.size) undef,defers:=[] }:=by
  have ae:args.length<=n:=by simpa using hl
  refine ⟨by simp;omega,rfl,λd v hv=>?_⟩;obtain ⟨-,U⟩:=Gl d v args 0 hv;simp only [kD] at U;have:d<args.length:=by
   rcases i7 d args.length with h|h
   . exact h
   . rw [iR h] at U;cases U
  rw [iE this] at U;simp only [iL] at U;simp [lJ,this,U]
 generalize ({ tmps:=args.toArray++jZ (fn.ntmps-args.toArray.size) undef,defers:=[] }:Act)=a at *;have ab:∀(c1:Frame),c1={ c₀ with mode:=u' }->wpOpsS P #[⟨some t,.call ⟨.builtin .recover,#[],#[]⟩,V,N,G,none⟩,⟨some d,.assign (.tmp t),Y,O,M,none⟩] (Exit.thenS (y.wpS P (bodyPostS P fn c₀ cs λe Z w'=>Z=u'/\R e w')) (bodyPostS P fn c₀ cs λe Z w'=>Z=u'/\R e w')) [1] (a.put (some t) v) (c1::cs) w:=λc1 ac=>by
  have he:=aa.put ht v;have ad:(a.put (some t) v).eval (.tmp t)=v:=he.ev (by simp [ev,Im]);simp only [wpOpsS,List.getElem?_toArray,lF,ja];rw [AG (Bd rfl)];simp only [execOp,je,ad,Oper.upon];refine wpS_of_wp (wp_mono (h _ (he.put hd v)) λe a1 w1 X=>?_);subst ac;cases e with
  | normal=>
   obtain ⟨q1,v1,q2,q3⟩:=X;exact ⟨q1,u',rfl,v1,q2,rfl,q3⟩
  | ret=>
   obtain ⟨q1,v1,q2,q3⟩:=X;exact ⟨q1,u',rfl,v1,q2,rfl,q3⟩
  | panic c=>
   obtain ⟨q1,q3⟩:=X;exact ⟨q1,u',rfl,rfl,q3⟩
  | outgrown=>exact ⟨u',rfl,X⟩
  | exit i=>exact X
  | goto i=>exact X
 simp only [lW,iM,ji,show jQ 2=[0,1] from rfl];unfold wpOpsS;simp only [List.getElem?_toArray,ja];rw [AG (Bd rfl)];have e1:(execOp a.eval ⟨some t,.call ⟨.builtin .recover,#[],#[]⟩,V,N,G,none⟩).run P w = .ok .recover w:=by
  simp [execOp,resolve,invoke,builtin,iP]
 rw [e1];simp only;rcases hr c₀ cs hu with h1|⟨h1,U,h3⟩
 . rw [h1];exact ab _ rfl
 . rw [h1];subst U;refine ab _ ?_;rw [h3,<-hu]
end
open Go.Proofs
attribute [local irreducible] Go.Calls
section
variable {c:RC} {P P':nP} {w w':wD} {r:Rn} {T:nP}
def Run.away (h:Run c P w r) (x:Fr T w w') (V:∀k,T k->P k /\ ¬c.S k):Run c P w' r:=by
 obtain ⟨ρ,κ,X,Y,Z,h4,⟨es,h5,h6⟩,h7,h8,h9,O,M⟩:=h;have hs:=x.size;have U:∀k,fK (ρ k) -> ¬T k:=λk G N=>(M k (V k N).1).1 G
 exact ⟨ρ,κ,X,Y,Z,h4.fr x (U _ (by rw [X];exact iH (iG rfl))),⟨es,h5,h6.fr x (U _ (by rw [Y];exact iH (iH rfl)))⟩,h7.fr x (λk G N=>U k (iG N) G),h8,h9.frS x (λk G N=>(V k N).2 G),O,λk G=>⟨(M k G).1,by have:=(M k G).2;omega⟩⟩
def XP (h:Nat) (w:wD) (G:Blk w h [.slice none 0 0,.bool false]):Calls prog 159 #[pt h] w λe w'=>e = .returned (.int .i64 0)/\Ext w w':=by
 have X:=Ne w;refine Ad func159 ntmps159 rfl rfl (eK ?_);refine C1 (A1 Ac rfl rfl) (kR ?_);exact ⟨rfl,X⟩
def XQ (h G M:Nat) (w:wD):CallsD prog 160 #[pt h,pt G,pt M] .returning w λe u w'=>u = .returning/\e = .returned (.tuple #[])/\Ext w w':=by
 have X:=Ne w;refine Nn (args:=[_,_,_]) (v:=.nilIface) func160 ntmps160 rfl rfl rfl rfl (λc cs N=>iH ⟨by simp [recoverD,N],rfl,rfl⟩) (eK ?_);refine C1 (UN Ac rfl rfl) (eK ?_);refine EZ rfl ?_;exact ⟨rfl,X⟩
def Tn (b2 b5 N X:Nat) (V e0:Int) (w:wD) (h2:Blk w b2 [pt X]) (Y:Blk w X [.slice none 0 0,.bool false]) (h5:Blk w b5 [.int .i64 0]) (M:Blk w N [.int .i64 e0]) (ad:N<w.heap.size) :
 CallsD prog 160 #[pt b2,pt b5,pt N] (.panicking (Nj V)) w λe u w'=>u = .panicking [{ v:=.iface 240 (.agg #[.int .i64 V]),recovered:=true }]/\e = .returned (.tuple #[])/\Blk w' N [.int .i64 V]/\Fr (· = N) w w':=by
 have F:=mI (· = N) w;have HL:=iF (λw1 h=>XP X w1 h);refine Nn (args:=[_,_,_]) (v:=.iface 240 (.agg #[.int .i64 V])) func160 ntmps160 rfl rfl rfl rfl (λc cs hc=>iG (by simp [recoverD,hc,Nj])) ?_;refine eK ?_;refine C1 (WE Ac rfl rfl) ?_;refine eK ?_;refine Aq (λZ=>Ext w Z) 3 (.pure 0 (.pure 2 (.fork 1 .tail .none))) mixed AU (Aa (Aa Ag)) ?_;intro w1 x2 _;have G:(λZ=>Ext w Z) w1:=x2;simp only at G;have O:=h2;have U:=h5;revert Y M F;refine eE x2 ?_;intro Y M F;refine ⟨G,?_⟩;refine Tq rfl (Db O) (Tq rfl (Db U) ?_);refine tC rfl rfl (HL.out _ Ae) ?_;rintro _ w7 ⟨⟨⟩,x6⟩;revert G M F;refine eE x6 ?_;intro G M F;refine ⟨G,?_⟩;refine Ar rfl ?_;refine eK ?_;refine C1 (Sz AU rfl) ?_;refine eK ?_;refine xA [_] ?_;intro b9 ae aa;refine eI [_] aa ?_;intro af ag ab _ _;revert M F;refine eE ab ?_;intro M F;refine eK ?_;refine eS [_] M ?_;intro ah ai ac _;clear M Y;have F:=F.fr ac Ab;refine Ak (Bm rfl ?_);exact ⟨rfl,Ae,F⟩
def dN (c:RC) (P:nP) (Z:Except Int Rn) (w:wD):Ending->wD->Prop:=λe w'=> ∃er,e = .returned (.int .i64 er)/\((er=0 /\ ∃r,Z = .ok r/\Run c P w' r)\/(er≠0/\Z = .error er))/\Fr (λk=> ¬P k) w w'
def VR {V:Nat} {f:FuncId} {ca:lV} (hb:B0 prog f=true) {Z:Except Int Rn} (hz:Z≠.error 0) (w:wD) (hP:∀k,P k->k<w.heap.size) (hS:∀k,c.S k->P k) (aa:P V) (M:Blk w V [.slice none 0 0,.bool false])
 (HC:∀w1,Ext w w1->Calls prog f ca.toArray w1 (DG c (Cl P w w1) Z w1)) :
 Calls prog 119 #[pt V,.func (.func f) #[] ca.toArray] w (dN c P Z w):=by
 have X:=Ne w;have HL:=iF (λw1 h=>XP V w1 h);have HC:=iF HC;refine VP (args:=[_,_]) func119 ntmps119 rfl rfl (cS (eB [_] ?_));intro Y w2 O x5 p6 z7;revert M X;refine eE x5 ?_;intro M X;refine eA [_] ?_;intro b8 w9 G ab ag ah;revert O M X;refine eE ab ?_;intro O M X;refine eK ?_;refine C1 (A1 Ac rfl rfl) (eK ?_);refine C1 (JN Ac rfl rfl) (kC (HL.out _ Ae) ?_);rintro _ ai ⟨⟨⟩,ac⟩;revert G O M X;refine eY ac ?_;intro aj G O M X;refine xA [_] ?_;intro N ak ad;refine eI [_] ad ?_;intro al ae af am an;revert G O M X;refine eE af ?_;intro G O M X;refine cT (Aj (Al (Dg (B6 rfl) rfl (XO rfl (G0 (DF (It (EN (FI (Av rfl) rfl (VQ (fi:=[]) (vs:=[]) (ca:=ca) (xs:=[]) hb rfl rfl rfl (HC.out _ X) (λ_ _ h=>h.ret) ?_ ?_))))))))))
 . rintro v w1 ⟨r,he,hr,hv,F⟩;obtain rfl:=Ending.returned.inj he;have h8:=G.fr F (λh=>h (iH ⟨Ab,Ab⟩));refine G0 (DF (It (EN (KM Ac rfl rfl rfl rfl rfl h8 λw3 h9 F2=>G0 (DF (Ka (OG (u':=.returning) (fi:=[]) (ca:=[pt Y,pt N,pt b8]) (iG ⟨rfl,rfl⟩) AU rfl Ac rfl rfl rfl rfl ((XQ Y N b8 w3).mono ?_))))))));rintro e u w4 ⟨rfl,rfl,x4⟩;have F3:Fr (λk=> ¬P k) w w4:=(((mG X).fr F (λk U=>iG (λh=>U (iG h)))).fr F2 (λk U=>iG (λh=>by have:=hP k h;omega))).ext x4;exact ⟨rfl,rfl,_,h9.ext x4,0,rfl,iG ⟨rfl,r,hr,((hv.away F2 (λk U=>⟨iH ⟨Ab,Ab⟩,λh=>by have:=hP k (hS k h);omega⟩)).ext x4).less hS (λk=>iG)⟩,F3⟩
 . rintro ch w1 ⟨er,he,rfl,F⟩;have h8:=G.fr F (λh=>h (iH ⟨Ab,Ab⟩));refine Nm (OG (u':=.panicking [{ v:=.iface 240 (.agg #[.int .i64 er]),recovered:=true }]) (fi:=[]) (ca:=[pt Y,pt N,pt b8]) (iH ⟨_,rfl,rfl⟩) AU rfl Ac rfl rfl rfl rfl ((Tn Y N b8 V er 0 w1 (O.fr F (λh=>h (iH ⟨Ab,Ab⟩))) (M.fr F (λh=>h (iG aa))) (ae.fr F (λh=>h (iH ⟨Ab,Ab⟩))) h8 h8.lt).mono ?_));rintro e u w4 ⟨rfl,rfl,h9,F2⟩;have F3:Fr (λk=> ¬P k) w w4:=((mG X).fr F (λk U=>iG (λh=>U (iG h)))).fr F2 (λk U=>iG (λh=>by have:=hP k h;omega));exact ⟨rfl,rfl,_,h9,er,rfl,iH ⟨λe=>hz (e▸he),he⟩,F3⟩
end
structure SV.small (s:SV):Prop where
 few:s.cells.length<=1000000
 each:∀xs∈s.cells,xs.length<=1000000
 tin:s.tin.length<=1000000
 tout:s.tout.length<=1000000
structure ResV where
 st:SV
 steps:Int
 err:Int
abbrev ResV.row (r:ResV) (a:oA) (c:Nat) (ta:oA) (tc:Nat) (oa:oA) (oc:Nat):lV:=[.slice a r.st.cells.length c,.slice ta r.st.tin.length tc,.slice oa r.st.tout.length oc,.int .i64 r.steps,.int .i64 r.err]
end Bk
namespace Bk
open Go Go.RowKit Go.Proofs
variable {m i n:Nat} {G:List (Int×Int)} {vs:List VD} {k x:Int} {xs:List Int} {st b:Stp} {F:List (List Int)} {s:lB} {N:Rn->Except Int Rn} {l:List Nd} {w w':wD} {t:Nd} {d:VD} {ρ:Nat->nP} {cs:List Nat} {e:Ending} {ps:List PD} {g:PG} {T:nP} {r:Rn}
def CO (vs:List VD) (s:SV) (j:Nat):Stp:=⟨s.cells.take j,⟨vs.take j,jQ j,0⟩,[],s.tin,s.tout⟩
def NewS (B sb:Nat) (st:Stp) (w:wD):Prop:= ∃ ρ κ,(∀k,k<B->ρ k = .none)/\StoreAt ρ κ w sb st
def gP (B sb:Nat) (st:Stp) (w:wD):Ending->wD->Prop:=λe w'=>e = .returned (.tuple #[])/\NewS B sb st w'/\Fr (λk=>B<=k) w w'
def XR {B sb:Nat} (h:NewS B sb st w) (O:st.calls=[]) (hl:∀c∈st.base.cells,c<st.heap.length) (hv:st.base.vars.length<=1000000) (hn:st.base.cells.length<=1000000) (hB:B<=sb) (ap:B<=w.heap.size)
 (v:VD) (xs:List Int) (u:Value) (cb:Nat) (w1:wD) (X:Ext w w1) (af:w.heap.size<=cb) (hb:Blk w1 cb [u]) (hu:OwnI w1 w.heap.size u xs) (ag:u.ownBlock≠some cb) :
 Calls prog 158 #[pt sb,v.val,pt cb] w1 (gP B sb { st with base:=⟨st.base.vars++[v],st.base.cells++[st.heap.length],st.base.locals⟩,heap:=st.heap++[xs] } w1):=by
 obtain ⟨ρ,κ,h0,h⟩:=h;have V:st.cur=st.base:=by unfold Stp.cur;rw [O];rfl
 obtain ⟨fb,fo,pre,post,T,vv,vc,ah,ab,M,hf,U⟩:=h.open;obtain ⟨rfl,rfl⟩:fb=sb/\fo=0:=by
  obtain ⟨_,_,_,_,_,_,-,h2|h2⟩:=ah
  . exact h2.2
  . rw [O] at h2;exact absurd h2.1 AN
 have N:st.calls.length=0:=by rw [O];rfl
 rw [N,V] at hf;rw [V] at M;have ai:fb<w.heap.size:=M.1.blk.lt;have ac:=hb.lt;obtain ⟨Y,aj,Z,ad⟩:∃Y,w.heap.size<=Y/\Y<w1.heap.size /\ ∀k,u.ownBlock=some k->k=Y:=by
  cases hu0:u.ownBlock with
  | none=>exact ⟨cb,af,ac,λk G=>by cases G⟩
  | some g=>exact ⟨g,(hu.lt hu0).1,(hu.lt hu0).2,λk G=>(iQ G).symm⟩
 obtain ⟨k1,k2,k3,k4,k5,k6⟩:=RH (κ:=κ) (n:=st.heap.length) hf h.fresh ai ab (λc O=>by have:=hl c O;omega) w1 cb Y X af aj ac Z;have ak:Win w1 fb 0 [vv,vc,.int .i64 st.base.locals] pre post T:=M.ext X;have aa:=Ul (κ:=Qe κ st.heap.length cb) st.base v st.heap.length fb 0 pre post T vv vc (.int .i64 st.base.locals) w1 k1 ak k2 k3 hv hn;rw [show KC (Qe κ st.heap.length cb) st.heap.length=pt cb by unfold KC Qe;rw [AG rfl]] at aa;refine aa.mono ?_;rintro e w' ⟨al,am,ρ',rfl,q1,q2,q3,q4,q5⟩;have eo:∀b,b<w.heap.size->FT ρ st.heap.length cb Y b=ρ b:=λb hb=>by unfold FT;rw [At Ab,At Ab]
 have hr:Ro ρ ρ' w:=λb hb=>by rw [q1 b Ab,eo b hb]
 have F:Fr (Ft ρ st.calls.length fb) w w':=(mG X).fr q5 (λk G=>by rw [N];exact k4 k G);have hκ:∀c,c≠st.heap.length->Qe κ st.heap.length cb c=κ c:=λc O=>At O
 have h1:=U ρ' (Qe κ st.heap.length cb) w' ⟨st.base.vars++[v],st.base.cells++[st.heap.length],st.base.locals⟩ al am hr q2 (λf hf c an=>hκ c (by rw [O] at hf;obtain rfl:=i8.1 hf;have:=hl c an;omega)) (λc O=>hκ c Ab) F q3 (by rw [N];exact q4);have ao:st.setCur ⟨st.base.vars++[v],st.base.cells++[st.heap.length],st.base.locals⟩={ st with base:=⟨st.base.vars++[v],st.base.cells++[st.heap.length],st.base.locals⟩ }:=by unfold mV;rw [AG O]
 rw [ao] at h1;have ae:CellAt ρ' (Qe κ st.heap.length cb) w' st.heap.length xs:=by
  refine ⟨?_,u,?_,?_,λk G=>?_⟩
  . rw [show Qe κ st.heap.length cb st.heap.length=cb from AG rfl,q1 cb ac];exact AG rfl
  . rw [show Qe κ st.heap.length cb st.heap.length=cb from AG rfl];exact hb.fr q5 k5
  . exact (hu.low (λ_ _=>iT _)).fr q5 (λk G hS=>by rw [ad k G] at hS;exact k6 hS)
  . rw [ad k G,q1 Y Z];unfold FT;rw [At (λe=>ag (by rw [G,ad k G,e])),AG rfl]
 refine ⟨rfl,⟨ρ',Qe κ st.heap.length cb,λk G=>by rw [hr k Ab,h0 k G],h1.newCell ae⟩,q5.weaken (λk G=>?_)⟩;rcases i7 k B with h|h
 . exfalso;have e1:FT ρ st.heap.length cb Y k = .none:=by rw [eo k Ab,h0 k h]
   unfold Ft at G;rw [e1] at G;rcases G with rfl|G|G
   . omega
   . cases G
   . cases G
 . exact h
attribute [local irreducible] Go.Calls
def VS (vs:List VD) (s:SV) (j:Nat) (G:j<vs.length) (h:j<s.cells.length):({ CO vs s j with base:=⟨(CO vs s j).base.vars++[vs[j]],(CO vs s j).base.cells++[(CO vs s j).heap.length],(CO vs s j).base.locals⟩,heap:=(CO vs s j).heap++[s.cells[j]] }:Stp)=CO vs s (j+1):=by
 simp only [CO,jp,lP (Nat.le_of_lt h),iI G,iI h,List.range_succ]
def CloneI (B:Nat) (xs:List Int) (w:wD):Ending->wD->Prop:=λe w'=> ∃a c,e = .returned (.slice a xs.length c)/\OwnI w' B (.slice a xs.length c) xs/\(∀k,(jf a xs.length c).ownBlock=some k->k<w'.heap.size)/\Ext w w'
def CloneI.ret {B:Nat} (h:CloneI B xs w e w'):∃v,e = .returned v:=by
 obtain ⟨_,_,h,-⟩:=h;exact ⟨_,h⟩
def XS (xs:List Int) (M:xs.length<=1000000) (B:Nat) (S:nP) (a:oA) (c:Nat) (w:wD) (N:B<=w.heap.size) (h:Rows S w (AZ xs) a):Calls prog 88 #[.slice a xs.length c] w (CloneI B xs w):=
 (FF xs M a c w (Gi h)).mono λ_ _ ⟨a,c,h1,h2,h3,h4⟩=>⟨a,c,h1,h2.low (λk G=>by have:=h3 k G;omega),λk G=>(h3 k G).2,h4⟩
def FitsP.each {s:SV} (h:FitsP vs s):∀xs∈s.cells,xs.length<=1000:=λxs M=>by
 obtain ⟨⟨X,N⟩,Y,Z,h5,O⟩:=h;obtain ⟨i,U,rfl⟩:=List.mem_iff_getElem.1 M;have G:=O i vs[i] s.cells[i] (iE Ab) (iE U);have V:=N vs[i] (iS _);unfold Ms CV at G;unfold IL at V;split at G
 . exact G
 . split at G<;>omega
def FitsP.small {vs:List VD} {s:SV} (h:FitsP vs s):s.small:=
 ⟨by have:=h.1.1;have:=h.2.1;omega,λxs G=>by have:=h.each xs G;omega,by have:=h.2.2.1;omega,by have:=h.2.2.2.1;omega⟩
def NewR (vs:List VD) (s:SV) (w:wD):Ending->wD->Prop:=λe w'=> ∃sb,e = .returned (.tuple #[.pointer (some ⟨sb,0,none⟩),.int .i64 0])/\NewS w.heap.size sb (CO vs s vs.length) w'/\w.heap.size<=sb/\Ext w w'
def NewR.ret {s:SV} (h:NewR vs s w e w'):∃v,e = .returned v:=by
 obtain ⟨_,h,-⟩:=h;exact ⟨_,h⟩
def NewS.first {B sb tb:Nat} {w1:wD} {s:SV} {ρ:Nat->Rl} (hB:B<=w'.heap.size) (N:w'.heap.size<=w1.heap.size) (O:Ro (λ_=>.none) ρ w') (U:TapeAt ρ w1 tb s.tin s.tout) (X:Ext w1 w) (hs:sb=w1.heap.size) (V:w.heap.size=sb+1) (G:Blk w sb [.slice none 0 0,.slice none 0 0,.int .i64 0,.slice none 0 0,pt tb]):NewS B sb (CO vs s 0) w:=by
 have Y:Ro ρ (λb=>if b=sb then .store else if b<sb then ρ b else .none) w1:=λb G=>by
  simp only;rw [At Ab,AG Ab]
 have M:=(U.ro Y (iW _)).ext X;refine ⟨_,λ_=>0,λk h=>?_,AG rfl,λb G=>?_,⟨_,_,_,tb,[],G,⟨⟨?_,λk h=>by cases h⟩,?_,λk h=>by cases h⟩,⟨?_,λk h=>by cases h⟩,?_,M⟩,λc xs Z=>?_⟩
 . rw [At Ab,AG Ab];exact O k Ab
 . rw [At Ab,At Ab]
 . exact nB
 . exact nB
 . exact nB
 . rfl
 . simp [CO] at Z
def NewS.low {B sb:Nat} (h:NewS B sb st w) (O:m<=B):NewS m sb st w:=by
 obtain ⟨ρ,κ,M,N⟩:=h;exact ⟨ρ,κ,λk U=>M k Ab,N⟩
def fN (vs:List VD) (s:SV) (hf:FitsP vs s) (S:nP) (a ca ta oa:oA) (c cc tc oc:Nat) (w:wD) (N:VDs S w vs a) (hv:s.sits S w ca ta oa) :
 Calls prog 118 #[.slice a vs.length c,.agg (s.row ca cc ta tc oa oc).toArray] w (NewR vs s w):=by
 have X:=Ne w;have hn:=hf.1.1;have ah:=hf.2.1;replace N:VDs (· < w.heap.size) w vs a:=N.lt2.wide λ_ h=>h.2
 have hv:=hv.ltA;have HF:=iF (λw1 h1 h2=>(cM vs Ab s (· < w.heap.size) a ca ta oa c cc tc oc w1 Ab h1 h2).mono (R':=λe w'=>e = .returned (.bool true)/\Ext w1 w') λe w' ⟨q,h1,h2,h3⟩=>⟨by rw [h1,h2.2 hf],h3⟩);have HT:=iF (λw1 h1 h2=>cX (λ_=>.none) s.tin s.tout hf.2.2.1 hf.2.2.2.1 ta oa tc oc w1 (Gi (S:=(· < w.heap.size)) h1) (Gi (S:=(· < w.heap.size)) h2));have Hf:=iF hf;clear hf;have Z:=hv.tin;have aa:=hv.tout;have G:=hv.cells;change Calls prog _ #[_,.agg #[.slice ca s.cells.length cc,.slice ta s.tin.length tc,.slice oa s.tout.length oc]] w _;refine Ad func118 ntmps118 rfl rfl ?_;refine cS (eB [_,_,_] ?_);intro b1 w2 O x5 p6 z7;revert X N hv Z aa G;refine eE x5 ?_;intro X N hv Z aa G;refine kC (HF.out _ Ae Ae) ?_;rintro _ w9 ⟨⟨⟩,x8⟩;revert O X N Z aa G;refine eY x8 ?_;intro bq O X N Z aa G;refine kQ (HT.out _ Ae Ae) ?_;rintro _ av ⟨a9,ba,⟨⟩,aw,br,ax,ay⟩;revert O X N G;refine eY ay ?_;intro az O X N G;refine C1 Mv (C1 Px (C1 Px (C1 Pa (C1 Pa (cT (Aj (cS (C1 Mv (C1 V2 (cT (LT ?_)))))))))));refine Ao (Ai ?_);have ai:=iF ax;have U:=Ne av;refine eK ?_;refine C1 (xB [_,_,_,_,_]) (eB [_,_,_,_,_] ?_);intro ac a0 aj a1 a2 a3;revert O X N G U;refine eE a1 ?_;intro O X N G U;refine C1 Pa (cT (Aj (cS (C1 Mv (C1 Pz (C1 Mv (cT ?_)))))))
 have hN:NewS (b1+1) ac (CO vs s 0) a0:=NewS.first Ab az aw ai.out U a2 a3 aj;have a4:b1+1<=ac:=by omega
 clear U aj ai HF HT Z aa hv;refine Au ?_;refine AP (ι:=Nat) (λj=>[(3,pt b1),(8,pt ac),(28,.slice a vs.length c),(29,.int .i64 vs.length),(30,.int .i64 j)])
  (λj w'=>j<=vs.length/\NewS (b1+1) ac (CO vs s j) w'/\Blk w' b1 [.slice ca s.cells.length cc,.slice ta s.tin.length tc,.slice oa s.tout.length oc]/\VDs (· < w.heap.size) w' vs a/\ICs (· < w.heap.size) w' s.cells ca/\Ext w w'/\b1+1<=w'.heap.size) (λj=>vs.length-j) 0 sB ⟨iT _,hN,O,N,G,X,Ab⟩ ?_
 clear hN O N G X;rintro j w3 ⟨hj,hN,O,N,G,X,hz⟩;by_cases ak:j<vs.length
 . obtain ⟨kb,ko,rfl,kS,hk⟩:=m5 N Ab;obtain ⟨db,bs,rfl,dS,hd⟩:=G.get (by intro e;rw [e] at ah;simp at ah;omega);have rx:=hk j _ (iE ak);obtain ⟨xa,xc,ry,Y⟩:=hd j _ (iE Ab);have bt:=Hf.out.each s.cells[j] (iS _);have g1:∀c∈(CO vs s j).base.cells,c<(CO vs s j).heap.length:=λc hc=>by simp only [CO,lm,jp] at hc ⊢;omega
   have g2:(CO vs s j).base.vars.length<=1000000:=by simp only [CO,jp];omega
   have g3:(CO vs s j).base.cells.length<=1000000:=by simp only [CO,mw];omega
   have HA:=iF (XR hN rfl g1 g2 g3 a4 hz vs[j] s.cells[j]);have ab:=VS vs s j ak Ab;rw [ab] at HA;clear hk hd ab hN;generalize vs[j]=x at *;generalize s.cells[j]=xs at *;have HX:=iF (λw1 hB (h:Rows (· < w.heap.size) w1 (AZ xs) xa)=>XS xs Ab w3.heap.size (· < w.heap.size) xa xc w1 hB h);obtain ⟨xn,xk,xl⟩:=x;replace rx:Row w3 ⟨kb,ko+j*3,none⟩ [str xn,.int .u8 xk,.int .i64 xl]:=rx;unfold VD.val at HA;dsimp only at HA;have a5:=iF (λ(u:Value) (cb:Nat) (w1:wD) (X:Ext w3 w1) (a6:w3.heap.size<=cb) (hb:Blk w1 cb [u]) (hu:OwnI w1 w3.heap.size u xs) (b2:Nat) (h1:∀k,u.ownBlock=some k->k<b2) (h2:b2<=cb)=>HA.out u cb w1 X a6 hb hu (λe=>by have:=h1 _ e;omega));clear HA;have U:=Ne w3;refine eK ?_;refine eA [_,_,_] ?_;intro bu bv a7 a8 bw bx;revert X N O G ry Y U;refine eE a8 ?_;intro X N O G ry Y U;refine C1 Pa (eS [_,_,_] a7 ?_);intro al am an bb;revert X N O G ry Y U;refine eF an ?_;intro X N O G ry Y U;refine cT (Aq (λwz=>Ext al wz) 12 (.pure 0 (.pure 1 (.pure 2 (.pure 3 (.pure 4 (.pure 5 (.pure 6 (.pure 7 (.pure 8 (.fork 9 (.pure 10 (.fork 11 .tail .none)) .none)))))))))) mixed AU (Af (Aa (Aa (Af (Aa Ag))))) ?_);intro ao ae _;have M:(λwz=>Ext al wz) ao:=ae;simp only at M;have ad:=am;have bc:=O;have ap:=ry;revert X N O G Y U;refine eY ae ?_;intro bd X N O G Y U;refine ⟨M,?_⟩;refine eT ?_;refine Tq rfl (xL [_,_,_] (λwz hz=>(mN ad hz))) ?_;refine eT ?_;refine Tq rfl (Ap Ac rfl rfl rfl (λwz hz=>mO (mJ ap hz) rfl)) ?_;refine tC rfl rfl (HX.out _ Ab Ae) ?_;rintro _ be ⟨bf,bg,⟨⟩,af,bh,aq⟩;revert M X N O G U;refine eY aq ?_;intro bi M X N O G U;refine ⟨M,?_⟩;refine Tq rfl (xB [_]) ?_
   refine AC rfl (Hj rfl rfl) rfl ?_ aFh Ay;rintro _ bj ⟨bk,rfl,V⟩;have bl:=V.blk;have ar:=V.ext;have bm:=V.pos;have bn:=V.size;revert af M X N O G U;refine eE ar ?_;intro af M X N O G U;refine ⟨M,?_⟩;refine Ar rfl (cC rfl (a5.out _ _ _ Ae Ab Ae Ae _ Ae Ab) ?_);rintro _ bo ⟨⟨⟩,au,ag⟩;have bp:=ag.size;revert X N O G;refine eF ag ?_;intro X N O G;refine Ak (Ah (Ai (Al (C1 V7 (C1 Mv (Ak ?_))))));exact AA (j+1) sB ⟨Ab,au,O,N,G,X,Ab⟩ Ab
 . obtain rfl:j=vs.length:=by omega
   refine kT ?_;exact ⟨_,rfl,hN.low Ab,Ab,X⟩
def Stp.sv (st:Stp):SV:=⟨(st.base.cells.take (st.base.cells.length-st.base.locals)).map st.items,st.tin,st.tout⟩
def Gk (l:List (List Int)) (j:Nat):List (List Int):=l.take j++jn (l.length-j) []
def To (l:List (List Int)) (j:Nat) (h:j<=l.length):(Gk l j).length=l.length:=by simp [Gk];omega
def Tp (l:List (List Int)) (j:Nat) (h:j<l.length):(Gk l j).set j l[j]=Gk l (j+1):=by
 unfold Gk;have G:(l.take j).length=j:=by simp;omega
 have M:(jn (l.length-j) ([]:List Int))=[]::jn (l.length-(j+1)) []:=by
  rw [show l.length-j=(l.length-(j+1))+1 by omega,mi]
 rw [lj _ _ Ab,G,kf,M,lT,iI h,jk];rfl
def Tr (l:List (List Int)):Gk l l.length=l:=by simp [Gk]
def ArrS.ics {C D g:Nat} {xs:List (List Int)} (h:ArrS E5 C D w g xs) {S:nP} (M:S g) (N:∀b,C<=b->b<D->S b):ICs S w xs (some ⟨g,0,none⟩):=
 iH ⟨g,0,rfl,M,λi x O=>by
  obtain ⟨cs,U,a,c,rfl,V⟩:=h.row O;exact ⟨a,c,U,V.wide (λb G=>N b G.1 G.2)⟩⟩
section
variable {ρ:Nat->Rl} {κ:Nat->Nat} {K:List (Int×Int)} {sb:Nat}
def dO {tb:Nat} {ti to:List Int} (w:wD) (h:TapeAt ρ w tb ti to):Calls prog 163 #[pt tb] w (CloneS ti w):=
 (fI ρ tb ti to w h).mono λ_ _ ⟨a,c,h1,h2,h3,h4⟩=>⟨a,c,h1,h2.rowsI h3,h4⟩
def Z7 {tb:Nat} {ti to:List Int} (w:wD) (h:TapeAt ρ w tb ti to):Calls prog 164 #[pt tb] w (CloneS to w):=
 (cW ρ tb ti to w h).mono λ_ _ ⟨a,c,h1,h2,h3,h4⟩=>⟨a,c,h1,h2.rowsI h3,h4⟩
def Stp.WF.items_le (G:st.WF K m) (c:Nat):(st.items c).length<=1000000:=by
 rcases i7 c K.length with h|h
 . exact (G.cell c _ (iE h)).le
 . unfold m6;rw [iK,iR (by rw [G.len];exact h)];exact iT _
def StoreAt.read (h:StoreAt ρ κ w sb st) (O:∀c∈st.base.cells,c<st.heap.length):∃M ca cc N tb,Blk w sb [M,.slice ca st.base.cells.length cc,.int .i64 st.base.locals,N,pt tb]/\TapeAt ρ w tb st.tin st.tout /\
 (st.base.cells≠[] -> ∃g,ca=some ⟨g,0,none⟩/\g<w.heap.size /\ ∀i c,st.base.cells[i]? = some c -> ∃a e,Row w ⟨g,0+i*1,none⟩ [pt (κ c)]/\Blk w (κ c) [.slice a (st.items c).length e]/\Rows (· < w.heap.size) w (AZ (st.items c)) a):=by
 obtain ⟨h1,-,⟨M,bc,N,tb,cs,V,X,h4,h5,Y⟩,h7⟩:=h;rcases X.c.1.row with ⟨rfl,Z,-⟩|⟨g,cap,rfl,-,-,hr⟩
 . refine ⟨M,none,0,N,tb,by rw [Z];exact V,Y,λG=>absurd (List.length_eq_zero_iff.1 Z) G⟩
 . refine ⟨M,_,_,N,tb,V,Y,λG=>⟨g,rfl,(X.c.1.blk (k:=g) rfl).2,λi c hi=>?_⟩⟩;have hc:=O c (jh hi);obtain ⟨-,v,k1,k2⟩:=h7 c (st.items c) (by unfold m6;rw [iK,iE hc];rfl);obtain ⟨a,e,rfl⟩:=k2.1.shape;refine ⟨a,e,λj v U=>?_,k1,(k2.1.rowsI (S:=λ_=>True) (λ_ _=>trivial)).ltA⟩;cases j with
   | zero=>
    simp only [ja,iL] at U;subst U;have:=hr.at (i:=i) (v:=KC κ c) (by rw [jl,hi];rfl);rw [lf,show (⟨g,0+i,none⟩:Addr).add 0=⟨g,0+i,none⟩ by simp [ki]];simpa using this
   | succ j=>simp at U
def Z8 (hw:st.WF K m) (hm:m<=1000000) (w:wD) (h:StoreAt ρ κ w sb st):Calls prog 122 #[pt sb] w (SvR st.sv w):=by
 have X:=Ne w;have H:=iF h;have ag:∀c∈st.base.cells,c<st.heap.length:=λc hc=>hw.cells_lt AN hc
 have a9:st.base.cells.length<=1000000:=by have:=hw.base.len;have:=hw.vb _ (jx ..);omega
 have ay:st.base.locals<=st.base.cells.length:=by have:=hw.base.len;have:=hw.base.loc;omega
 have ak:∀c,(st.items c).length<=1000000:=hw.items_le;obtain ⟨bv,ca,cc,cv,tb,hb,ht,hr⟩:=h.read ag;clear h;refine Ad func122 ntmps122 rfl rfl ?_;refine cS (eA [_,_,_] ?_);intro b1 w2 O x6 p7 z8;revert X hb;refine eE x6 ?_;intro X hb;refine eK ?_;refine C1 (A1 Ac rfl rfl) ?_;refine eK ?_;refine Aq (λwz=>Ext w2 wz) 11 (.pure 0 (.pure 1 (.pure 2 (.pure 3 (.pure 4 (.pure 5 (.pure 6 (.pure 7 (.pure 8 (.pure 9 (.pure 10 .tail))))))))))) mixed AU (Aa Ag) ?_;intro w9 al _;have ac:(λwz=>Ext w2 wz) w9:=al;simp only at ac;have V:=hb;revert O X;refine eY al ?_;intro ba O X;refine ⟨ac,?_⟩;refine Tq rfl Mv (Tq rfl Pn (Tq rfl Pg (Tq rfl Pf (Tq rfl (Db V) (Tq rfl Pz (Tq rfl Mv (Tq rfl Pn (Tq rfl Pg (Tq rfl Pf (Tq rfl (Db V) ?_))))))))));refine Ar rfl (C1 (AL rfl rfl (iO _ Ab)) (C1 Pa (cT ?_)));obtain ⟨M,hM⟩:∃M,M=st.base.cells.length-st.base.locals:=⟨_,rfl⟩;rw [show ((st.base.cells.length:Int)-(st.base.locals:Int))=(M:Int) by omega];obtain ⟨L,hL⟩:∃L,L=st.sv.cells:=⟨_,rfl⟩
 have ah:L.length=M:=by rw [hL,hM];simp [Stp.sv]
 clear hb ht hr;refine eK ?_;refine Aw (Dq (sh:=E5) (C:=w9.heap.size+1) (D:=w9.heap.size+1) (N:=M) (z:=[]) Ac CC rfl rfl rfl rfl AU rfl rfl Ab (λ_ _=>⟨none,0,rfl,iG rfl⟩)) rfl ?_ aFh;rintro _ bb ⟨ab,rfl,ai,bc,bd,ar⟩;revert O X;refine eE ar ?_;intro O X;refine C1 Pa (cT (Aj (cS (C1 Mv (C1 Pz (C1 Mv (cT ?_)))))));have e0:jn M []=Gk L 0:=by simp [Gk,ah]
 rw [e0] at ai;refine Au ?_;refine AP (ι:=Nat) (λj=>[(0,pt sb),(2,pt b1),(4,.slice (some ⟨ab,0,none⟩) M M),(24,.int .i64 M),(25,.int .i64 j)])
  (λj w'=>j<=M/\ArrS E5 (w9.heap.size+1) w'.heap.size w' ab (Gk L j)/\Blk w' b1 [.slice none 0 0,.slice none 0 0,.slice none 0 0]/\Ext w w'/\w9.heap.size+1<=w'.heap.size) (λj=>M-j) 0 sB ⟨iT _,ai.wide Ab,O,X,Ab⟩ ?_
 clear ai O X e0;rintro j w3 ⟨hj,U,O,X,hz⟩;obtain ⟨bv,ca,cc,cv,tb,hb,ht,hr⟩:=(H.out.ext X).read ag;by_cases az:j<M
 . obtain ⟨g,rfl,be,ad⟩:=hr (by intro e;rw [e] at hM;simp at hM;omega);obtain ⟨a,e,r1,r2,r3⟩:=ad j st.base.cells[j] (iE Ab);have am:L[j]=st.items st.base.cells[j]:=by simp [hL,Stp.sv]
   have Y:=Tp L j Ab;have bf:=To L j Ab;have HX:=iF (Ib (st.items st.base.cells[j]) (ak _) (· < w3.heap.size) a e);rw [am] at Y;clear ad hr am ag ak;generalize st.base.cells[j]=c at *;generalize st.items c=x at *;refine kQ (HX.out _ Ae) ?_;rintro _ bg ⟨bh,bi,⟨⟩,bj,au⟩;revert U O X;refine eY au ?_;intro bk U O X;refine C1 Pi (A7 (F0 (sh:=E5) (j:=j) (z:=x) (us:=[_]) Ac rfl rfl rfl rfl rfl rfl Ae Ab Ab Ab ⟨_,_,rfl,Rows.wide Ae (λb h=>by omega)⟩) (BJ ?_));rintro _ a0 ⟨av,aj,bl⟩;have a1:=aj.size;clear U;revert O X;refine eF aj ?_;intro O X;clear ht hb r1 r2 r3 aj;refine Ak (Ah (Ai (Al (C1 V7 (C1 Mv (Ak ?_))))));exact AA (j+1) sB ⟨Ab,by rw [<-Y];exact av.wide Ab,O,X,Ab⟩ Ab
 . obtain rfl:j=M:=by omega
   rw [<-ah,Tr] at U;clear hr;have HI:=iF (λw1 h=>dO (ρ:=ρ) (tb:=tb) (ti:=st.tin) (to:=st.tout) w1 h);have HO:=iF (λw1 h=>Z7 (ρ:=ρ) (tb:=tb) (ti:=st.tin) (to:=st.tout) w1 h);refine eK ?_;refine Aq (λwz=>Ext w3 wz) 11 (.pure 0 (.pure 1 (.pure 2 (.pure 3 (.pure 4 (.pure 6 (.pure 7 (.pure 8 (.pure 9 (.fork 5 (.fork 10 .tail .none) .none)))))))))) mixed AU (Aa Ag) ?_;intro aw an _;have G:(λwz=>Ext w3 wz) aw:=an;simp only at G;have V:=hb;revert U O X ht;refine eY an ?_;intro bm U O X ht;refine ⟨G,?_⟩;refine eT ?_;refine tC rfl rfl (HI.out _ Ae) ?_;rintro _ a2 ⟨ao,bn,⟨⟩,Z,ax⟩;revert G U O X ht;refine eY ax ?_;intro a3 G U O X ht;refine ⟨G,?_⟩;refine tC rfl rfl (HO.out _ Ae) ?_;rintro _ a4 ⟨ae,a5,⟨⟩,aa,ap⟩;revert Z G U O X;refine eY ap ?_;intro a6 Z G U O X;refine ⟨G,?_⟩;refine Ar rfl (C1 (xB [_,_,_]) (eS [_,_,_] O ?_));intro a7 aq af a8;revert aa Z U X;refine eF af ?_;intro aa Z U X;clear hb ht af;refine kX aq ?_;exact ⟨some ⟨ab,0,none⟩,j,ao,_,ae,_,(by show _=Ending.returned (.agg #[.slice (some ⟨ab,0,none⟩) st.sv.cells.length j,.slice ao st.tin.length _,.slice ae st.tout.length _]);rw [<-hL,ah]),⟨by rw [<-hL];exact U.ics ⟨Ab,Ab⟩ (λb h1 h2=>⟨Ab,Ab⟩),Z.wide (λb h=>⟨Ab,Ab⟩),aa.wide (λb h=>⟨Ab,Ab⟩)⟩,X⟩
end
def RR {v:List VD} (h:k≠54) (G:k≠55):C4 k s i v=v:=by
 unfold C4;rw [At (λe=>h e.1),At (λe=>G e.1)]
def Tt (ps:List PD) (v:List VD):List Nd->Nat
 | []=>0
 | t::r=>t.flt ps v+Tt ps v r
def OH {ps:List PD} {v:List VD} {k:Int} {s:lB} (h:k≠54) (G:k≠55):∀(l:List Nd) (i:Nat),CU ps v k s i l=Tt ps v l
 | [],_=>by rw [CU,Tt]
 | t::r,i=>by rw [CU,Tt,RR h G,OH h G r]
def Fy {v:List VD} {n:Int} (h:k≠54) (G:k≠55) (M:k≠50) (N:k≠51):(Nd.mk k n s l).flt ps v=Pd (CH ps v k s l.length)+Tt ps v l:=by
 rw [Nd.flt,At Ab,OH h G]
def NZ {α:Type} (X:Except Int α):Prop:=X≠.error 0
def NZ.bind {α β:Type} {X:Except Int α} {K:α->Except Int β} (h:NZ X) (G:∀v,NZ (K v)):NZ (X.bind K):=by
 cases X with
 | error e=>exact λM=>h (by simpa [i6] using M)
 | ok v=>exact G v
def XT {α:Type} (v:α):NZ (Except.ok v:Except Int α):=by unfold NZ;simp
def F9 (r:Rn):NZ (A6 r):=by unfold NZ A6;split<;>simp
def No (f:Stp->Int×Stp) (r:Rn):NZ (Cy f r):=by
 unfold NZ Cy;split
 . rename_i h;intro e;exact h (by simpa using e)
 . simp
def Np (t:Nd) (r:Rn):NZ (BF t r):=by
 unfold NZ BF;split
 . rename_i h;intro e;exact h (by simpa using e)
 . simp
def Nq (t:Nd) (r:Rn):NZ (BK t r):=(F9 r).bind λr=>(Np t r).bind λ_=>XT _
def KZ (t:Nd) (b:Bool) (r:Rn):NZ (Bj t b r):=(Nq t r).bind λp=>by unfold NZ;split<;>simp
def XU {f:Nd->Rn->Except Int Rn} (h:∀t r,NZ (f t r)):∀(l:List Nd) (r:Rn),NZ (Ei f l r)
 | [],r=>XT r
 | t::l,r=>(h t r).bind λr=>XU h l r
def Nr {f:Bool->Nd->Rn->Except Int Rn} (h:∀b t r,NZ (f b t r)) (b:Bool) (t:Nd) (r:Rn):NZ (AH f b t r):=XU (λt r=>h b t r) _ r
def Ut {h G:Rn->Except Int Rn} {x y:Nd} (M:∀r,NZ (h r)) (N:∀r,NZ (G r)):∀(m:Nat) (r:Rn),NZ (Cg h G x y m r)
 | 0,r=>by unfold NZ Cg;simp
 | m+1,r=>by
  unfold Cg;refine (M r).bind λr=>(Nq x r).bind λp=>?_
  split
  . exact XT _
  . exact (N _).bind λr=>(KZ y false r).bind λr=>Ut M N m r
def PX (ps:List PD):∀(d:Nat) (b:Bool) (t:Nd) (r:Rn),NZ (Ax ps d b t r)
 | 0,b,t,r=>by unfold NZ Ax;simp
 | d+1,b,.mk k n s l,r=>by
  have h:=Nr (PX ps d);unfold Ax;simp only;split
  . exact (Nq _ r).bind λp=>(h b _ _).bind λr=>KZ _ _ r
  split
  . exact (KZ _ _ r).bind λr=>Ut (h b _) (h b _) d r
  split
  . exact (F9 r).bind λr=>(Np _ r).bind λv=>(No _ r).bind λr=>(h b _ r).bind λr=>(F9 r).bind λr=>(Np _ r).bind λv=>No _ r
  split
  . exact (F9 r).bind λr=>(No _ r).bind λr=>(h b _ r).bind λr=>(F9 r).bind λr=>No _ r
  split
  . exact (F9 r).bind λr=>(No _ r).bind λr=>(h _ _ r).bind λr=>(F9 r).bind λr=>No _ r
  . exact (F9 r).bind λr=>No _ r
def G9 (ps:List PD) (b:Bool) (t:Nd) (r:Rn):∃d,AH (Ax ps d) b t r≠.error (-1):=
 LD (F:=λd=>Ax ps d) (λd G b t h=>KX ps b t h) (λd b t=>Ig ps d b t) r.rem b t (λx _ r M=>Th ps r.rem b x r (iW _)) r (iW _)
def L1 {ps:List PD}:∀ {l:List Nd},(∀t∈l,dJ ps t)->XI ps l
 | [],_=>trivial
 | t::r,h=>⟨h t AN,L1 λx G=>h x (by simp [G])⟩
def Eu {ps:List PD} {v:List VD}:∀ {l:List Nd},Tt ps v l=0 -> ∀t∈l,t.flt ps v=0
 | [],_,_,h=>by simp at h
 | x::r,G,t,h=>by
  simp only [Tt,jt] at G;rcases iU.1 h with rfl|h
  . exact G.1
  . exact Eu G.2 t h
def XV (ps:List PD) (N:Nat):∀t:Nd,t.size<N->t.isExpr=true->dJ ps t:=by
 induction N with
 | zero=>intro t h;omega
 | succ N M=>
  rintro ⟨k,n,s,l⟩ O h;have U:=Gq h;simp only [m7] at U;simp only [mR] at O;exact ⟨λe=>by omega,L1 λx G=>M x (by have:=CP G;omega) ((Iz h).2.1 x G)⟩
def Ev (ps:List PD) (h:t.isExpr=true):dJ ps t:=XV ps (t.size+1) t Ab h
def Ns {e:Int} (h:Pd e=0):e=0:=by unfold Pd at h;split at h<;>first|assumption|cases h
def Z9 (ps:List PD) (N:Nat):∀(t:Nd) (v:List VD),t.size<N->(t.isStmt=true\/t.isBlock=true)->t.flt ps v=0->dJ ps t:=by
 induction N with
 | zero=>intro t v h;omega
 | succ N X=>
  intro t v Y h M;rcases h with h|h
  . cases B3 h with
    | upd V G U=>
     exact ⟨λe=>by omega,Ev ps (Be G),Ev ps U,trivial⟩
    | swap G U=>exact ⟨λe=>by omega,Ev ps (Be G),Ev ps (Be U),trivial⟩
    | stack V Z G=>exact ⟨λe=>by omega,Ev ps (Be G),trivial⟩
    | tape V G=>exact ⟨λe=>by omega,Ev ps (Be G),trivial⟩
    | call V Z hl hv=>
     rename_i k s l;refine ⟨λ_=>?_,L1 λx G=>Ev ps (GO (jr.1 hv x G))⟩;rw [Nd.flt,AG V,jt] at M;have O:=Ns M.1;unfold CH Qn at O;rw [At Ab,At Ab,At Ab,At Ab,AG V] at O;cases hp:Cf ps s with
     | some i=>rfl
     | none=>rw [hp] at O;simp at O
    | branch V G U hz hu=>
     rename_i k x y z u;rw [Fy Ab Ab Ab Ab] at M;simp only [mR,AV] at Y;have O:=(jt.1 M).2;exact ⟨λe=>by omega,Ev ps G,X y v Ab (iH U) (Eu O y AN),X z v Ab (iH hz) (Eu O z AN),Ev ps hu,trivial⟩
    | local_ Z G U hz=>
     rename_i s x y z;rw [Nd.flt,At Ab] at M;simp only [mR,AV] at Y;simp only [CU,jt] at M;exact ⟨λe=>by omega,Ev ps G,X y _ Ab (iH U) M.2.2.1,Ev ps hz,trivial⟩
    | lstack Z G=>
     rename_i s x;rw [Nd.flt,At Ab] at M;simp only [mR,AV] at Y;simp only [CU,jt] at M;exact ⟨λe=>by omega,X x _ Ab (iH G) M.2.1,trivial⟩
  . obtain ⟨k,n,s,l⟩:=t;obtain ⟨e,hr⟩:=D5 h;simp only [Nd.kids] at hr;obtain ⟨rfl,-⟩:=Nd.mk.inj e;rw [Fy Ab Ab Ab Ab] at M;have O:=(jt.1 M).2;simp only [mR] at Y;exact ⟨λe=>by omega,L1 λx G=>X x v (by have:=CP G;omega) (iG (rowStmt_iff.1 hr x G)) (Eu O x G)⟩
def Jw {ps:List PD}:∀ {l:List PD} {i:Nat},DS ps i l=0 -> ∀p∈l,p.body.flt ps p.params=0
 | [],_,_,_,h=>by simp at h
 | x::r,i,G,p,h=>by
  simp only [DS,jt] at G;rcases iU.1 h with rfl|h
  . exact G.1.2
  . exact Jw G.2 p h
def OI {v:List VD} (h:t.wf) (G:Fi t=true) (M:t.flt ps v=0):StOk ps t:=by
 obtain ⟨N,O,U⟩:=body_iff.1 G;exact ⟨h,Ab,Z9 ps (t.size+1) t v Ab (iH N) M⟩
def VT (h:g.wf) (G:g.ok=true) (M:g.flt=0):StOk g.procs g.main:=by
 unfold PG.flt at M;exact OI h.main (DV G).2.2.2.2 (jt.1 M).2
def XW (h:g.wf) (G:g.ok=true) (N:g.flt=0):ProcsOk g:=by
 unfold PG.flt at N;have U:=(jt.1 (jt.1 N).1).2;obtain ⟨-,X,-,V,-⟩:=DV G;refine ⟨Ab,λp M=>?_⟩;obtain ⟨-,Y,-,O⟩:=DO (V p M);exact ⟨(body_iff.1 O).1,OI (h.procs p M).body O (Jw U p M),Ab⟩
def PY {s:SV} (h:FitsP vs s):(CO vs s vs.length).WF (vs.map λv=>(v.kind,v.len)) 1000:=by
 obtain ⟨⟨h1,X⟩,Y,h4,h5,Z⟩:=h;have e1:s.cells.take vs.length=s.cells:=kk Ab;have e2:vs.take vs.length=vs:=iZ;unfold CO;rw [e1,e2];have hb:FrmWF (vs.map λv=>(v.kind,v.len)) ⟨vs,jQ vs.length,0⟩:=⟨AN,iT _,λi v c G U=>by
  have V:=(List.getElem?_eq_some_iff.1 G).1;rw [List.getElem?_range (by simpa using V)] at U;obtain rfl:=iQ U;simp [G]⟩
 refine ⟨by simp [Y],hb,λf N=>by simp at N,λc x M=>?_,iT _,λf N=>?_⟩
 . rw [jl] at M;cases G:vs[c]? with
   | none=>rw [G] at M;cases M
   | some v=>
    rw [G] at M;obtain rfl:=iQ M;have V:=(List.getElem?_eq_some_iff.1 G).1;have O:=Z c v _ G (iE (show c<s.cells.length by omega));have h8:=X v (jh G);have h9:(m6 ⟨s.cells,⟨vs,jQ vs.length,0⟩,[],s.tin,s.tout⟩ c)=s.cells[c]:=by
     unfold m6;simp [iK,iE (show c<s.cells.length by omega)]
    rw [h9];unfold Ms CV at O;unfold IL at h8;unfold cellOk;simp only;split at O
    . omega
    . split at O<;>omega
 . simp only [i8] at N;rw [N];simp only;omega
def IN (s:SV) (f:Nat):Except Int Rn->ResV
 | .error e=>⟨s,0,e⟩
 | .ok r=>⟨r.st.sv,(f:Int)-r.rem,0⟩
def RS {P:Program} {l:Sl} {tab:Tab} {sz:Nat} {fn:Func} {R:Ending->wD->Prop} {b s:Nat} {X:Sk} {vs:lV} {U:Value} (h:fn.results = #[.tmp s,.cell m i]) (T:TabOk P tab) (Y:AD tab i=some (X,sz)) (Z:X.agg=true)
 (hv:look l m=some (pt b)) (h1:look l s=some U) (hb:Blk w b vs) (hl:vs.length=sz) (hR:R (.returned (.tuple #[U,.agg vs.toArray])) w):QW n (bodyPost P fn R) .ret l w:=by
 unfold QW;intro a V;refine ⟨V.defers,.tuple #[U,.agg vs.toArray],?_,hR⟩;have e:(loadVar i ⟨b,0,none⟩).run P w = .ok (.agg vs.toArray) w:=by
  simp only [iV,je,iP,loadVar,CB (T _ _ _ Y),Z,if_true,Cb (T _ _ _ Y)];rw [<-hl,CG hb.row]
 have M:=V.has m _ hv;have N:=V.has s _ h1;simp only [jL] at M N;simp [results,h,M,N,e,asAddr]
section
variable {c:RC} {P P':nP}
def XX (hc:c.fuel<=10000) (hg:ProcsOk c.g) (N:StOk c.g.procs c.g.main) (O:c.g.main.isBlock=true) (d:Nat) (b:Bool) (U:AH (Ax c.g.procs d) b c.g.main r≠.error (-1)) (G V b7 vc pc X:Nat) (va pa M:oA) (w:wD) (h:Run c P w r)
 (ab:Blk w G [pt c.rb]) (Y:Blk w V (c.g.cells va vc pa pc M X)) (h7:Blk w b7 [.bool b]) (hm:c.g.main.sits P w M) :
 Calls prog 120 #[pt G,pt V,pt b7] w (DG c P (AH (Ax c.g.procs d) b c.g.main r) w):=by
 have HB:=iF (XN hc hg d P b c.g.main r M X w O N U hm h);generalize AH (Ax c.g.procs d) b c.g.main r=Z at *;unfold DG at HB;have F:=mI (λk=> ¬P k) w;unfold PG.cells at Y;generalize c.g.main=t at *;obtain ⟨k,n,s,l⟩:=t;replace Y:Blk w V [.slice va c.g.vars.length vc,.slice pa c.g.procs.length pc,.int .u8 k,.int .i64 n,str s,.slice M l.length X]:=Y;refine Ad func120 ntmps120 rfl rfl ?_
 focus
  refine eK ?_;refine A4 (AQ AU rfl (HB.out) (λ_ _ h=>h.ret)) rfl ?_ ?_;rotate_left;intro c7 w8 q9
  rotate_right 1
  rintro _ ac ⟨ad,⟨⟩,rfl,ae,aa⟩;have F:=mL F aa (λk hk=>iG hk);refine Ak (Bm rfl ?_);rotate_left;refine AF ?_;rotate_left
 . exact iG ⟨_,rfl,rfl,Ae,F⟩
 . exact iH ⟨_,rfl,Ae⟩
end
def ArrS.blkI {C D g:Nat} (h:ArrS Da C D w g xs):Blk w g (AZ xs):=by
 obtain ⟨G,M,N,O⟩:=h.ex;have e:G=xs.map λx=>[.int .i64 x]:=by
  refine lL (by simp [N]) λi U V=>?_
  rw [lx];exact O i xs[i] G[i] (iE Ab) (iE U)
 have X:G.flatten=AZ xs:=by
  rw [e];clear h M N O e
  induction xs with
  | nil=>rfl
  | cons x r Y=>simp only [jo,kJ,Y];rfl
 rw [<-X];exact M
section
variable {c:RC} {P P':nP}
def aA (M:c.fuel<=10000) (w:wD) (h:Run c P w r):Calls prog 122 #[pt c.sb] w (SvR r.st.sv w):=by
 obtain ⟨ρ,κ,h⟩:=h;obtain ⟨K,G⟩:=h.wf;exact Z8 G Ab w h.st
def Run.small (O:c.fuel<=10000) (h:Run c P w r):r.st.sv.small:=by
 obtain ⟨ρ,κ,h⟩:=h;obtain ⟨K,G⟩:=h.wf;obtain ⟨U,V,X,tb,cs,-,-,-,-,M⟩:=h.st.frs;have Y:=M.li;have Z:=M.lo;have h3:=G.base.len;have h4:=G.vb _ (jx ..);refine ⟨by simp only [Stp.sv,kz,jp];omega,λxs N=>?_,by simp only [Stp.sv];omega,by simp only [Stp.sv];omega⟩;simp only [Stp.sv,List.mem_map] at N;obtain ⟨x,-,rfl⟩:=N;exact G.items_le x
def aB {B sb vc pc mc f:Nat} {va Y ma:oA} {S:nP} {K:List (Int×Int)} {N w:wD} (hN:NewS B sb st N) (X:Ext N w) (hB:B<=N.heap.size) (ad:N.heap.size<=m) (ae:N.heap.size<=i) (Z:m≠i)
 (aa:st.WF K 1000) (V:Blk w m [.slice va g.vars.length vc,.slice Y g.procs.length pc,.int .u8 g.main.kind,.int .i64 g.main.num,str g.main.name,.slice ma g.main.kids.length mc,pt sb,.int .i64 0,.int .i64 f,.slice (some ⟨i,0,none⟩) g.procs.length n]) {es:List Int} (ab:es.length=g.procs.length) (he:Blk w i (AZ es)) (hp:PDs S w g.procs Y) (hS:∀k,S k->P k) (hP:∀k,P k->k<w.heap.size/\(k<B\/(N.heap.size<=k/\k≠m/\k≠i))) :
 Run ⟨m,sb,i,n,g,va,vc,Y,pc,ma,mc,f,S⟩ P w ⟨st,f⟩:=by
 obtain ⟨ρ,κ,h0,hs⟩:=hN;have hr:Ro ρ (λb=>if b=m then .other 0 else if b=i then .other 1 else ρ b) N:=λb V=>by
  simp only;rw [At Ab,At Ab]
 have af:=V.lt;have ac:=he.lt;have O:=hs.fresh;refine ⟨_,κ,AG rfl,?_,iW _,?_,⟨es,ab,he⟩,hs.move (Fr.none X) (λ_ h=>h.elim) hr (λb V=>?_),⟨K,aa.mono Ab⟩,hp,hS,λk hk=>⟨λh=>?_,(hP k hk).1⟩⟩
 . show (if i=m then Rl.other 0 else if i=i then Rl.other 1 else ρ i)=Rl.other 1;rw [At (λe=>Z e.symm),AG rfl]
 . simp only [Int.sub_self];exact V
 . rw [At Ab,At Ab];exact O b Ab
 . obtain ⟨-,U⟩:=hP k hk;have e1:ρ k = .none:=by
    rcases U with U|U
    . exact h0 k U
    . exact O k U.1
   have e2:(if k=m then Rl.other 0 else if k=i then Rl.other 1 else ρ k) = .none:=by
    rw [At Ab,At Ab,e1]
   rw [e2] at h;rcases h with h|h|h
   . exact h
   . cases h
   . cases h
end
def BeginR (res:ResV) (w:wD):Ending->wD->Prop:=λe w'=> ∃v a c ta tc oa oc,e = .returned (.tuple #[v,.agg (res.row a c ta tc oa oc).toArray])/\res.st.sits (λb=>w.heap.size<=b/\b<w'.heap.size) w' a ta oa/\res.st.small/\Ext w w'
def BeginR.ret {G:ResV} (h:BeginR G w e w'):∃v,e = .returned v:=by
 obtain ⟨_,_,_,_,_,_,_,h,-⟩:=h;exact ⟨_,h⟩
def aC (g:PG) (av:g.wf) (ah:g.ok=true) (h0:g.flt=0) (s:SV) (hf:FitsP g.vars s) (f:Nat) (a5:f<=10000) (ac:Bool) (d:Nat) (bt:AH (Ax g.procs d) ac g.main ⟨CO g.vars s g.vars.length,f⟩≠.error (-1))
 (S:nP) (va:oA) (vc:Nat) (pa:oA) (pc:Nat) (ma:oA) (mc:Nat) (ca ta oa:oA) (cc tc oc:Nat) (w:wD) (Y:g.sits S w va pa ma) (U:PDsC S w g.procs pa) (bu:g.vars.length<=vc) (hv:s.sits S w ca ta oa) :
 Calls prog 86 #[.agg (g.cells va vc pa pc ma mc).toArray,.agg (s.row ca cc ta tc oa oc).toArray,.int .i64 f,.bool ac] w (BeginR (IN s f (AH (Ax g.procs d) ac g.main ⟨CO g.vars s g.vars.length,f⟩)) w):=by
 have X:=Ne w;have Y:=Y.ltA;have U:=U.ltA;have hv:=hv.ltA;have aw:=hf.small;have HV:=iF (F7 av ah);have HC:=iF (λw1 h1 h2=>Kg g av ah (· < w.heap.size) va vc pa pc ma mc w1 h1 h2 bu);rw [h0] at HC;have HN:=iF (λw1 (h1:g.sits (· < w.heap.size) w1 va pa ma) h2=>fN g.vars s hf (· < w.heap.size) va ca ta oa vc cc tc oc w1 h1.vars h2);have HK:=iF (λw1 h=>KQ s (· < w.heap.size) ca ta oa cc tc oc w1 aw.few aw.each aw.tin aw.tout h);have bv:=iF (XW av ah h0);have bw:=iF (VT av ah h0);have bx:=iF (MI ah);have HW:=iF (PY hf);have bz:=Nr (PX g.procs d) ac g.main ⟨CO g.vars s g.vars.length,f⟩;have d9:=(DV ah).2.1;clear hf av ah h0;refine Ad func86 ntmps86 rfl rfl ?_;refine cS (eB [_,_,_,_,_,_] ?_);intro b1 w2 h4 x5 p6 z7;revert X Y U hv;refine eE x5 ?_;intro X Y U hv;refine eB [_,_,_] ?_;intro b8 w9 G b0 ea ec;revert h4 X Y U hv;refine eE b0 ?_;intro h4 X Y U hv;refine eB [_] ?_;intro ax ed M b2 ee ef;revert G h4 X Y U hv;refine eE b2 ?_;intro G h4 X Y U hv;refine C1 Pa (eA [_,_,_,_,_] ?_);intro a7 eg O b3 eh ei;revert M G h4 X Y U hv;refine eE b3 ?_;intro M G h4 X Y U hv;refine kC (HV.out _ _ _ _ _ _ _ _ Ae) ?_;rintro _ ej ⟨⟨⟩,b4⟩;revert O M G h4 X Y U hv;refine eY b4 ?_;intro ek O M G h4 X Y U hv;refine kQ (HC.out _ Ae Ae) ?_;rintro _ a6 ⟨el,em,⟨⟩,b5⟩;revert O M G h4 X Y U hv;refine eY b5 ?_;intro en O M G h4 X Y U hv;refine kQ (HN.out _ Ae Ae) ?_;rintro _ ai ⟨ae,⟨⟩,a8,eo,b6⟩;revert O M G h4 X Y U hv;refine eY b6 ?_;intro ep O M G h4 X Y U hv;refine C1 Mv (C1 Px (C1 Px (C1 Pa (C1 Pa (cT (Aj (cS (C1 Mv (C1 V2 (cT (LT ?_)))))))))));refine Ao (Ai ?_)
 have b7:=iF a8;have Xn:=Ne ai;clear a8 HV HC HN;refine E2 (ι:=Nat×Nat×Nat) (λx=>[(4,pt b1),(5,pt b8),(7,pt ax),(8,.slice none 0 0),(9,pt a7),(10,pt ae),(12,pt x.2.2)])
  (λx w'=>Blk w' x.1 [.slice va g.vars.length vc,.slice pa g.procs.length pc,.int .u8 g.main.kind,.int .i64 g.main.num,str g.main.name,.slice ma g.main.kids.length mc,pt ae,.int .i64 0,.int .i64 f,.slice (some ⟨x.2.1,0,none⟩) g.procs.length g.procs.length] /\
   Blk w' x.2.1 (AZ (jn g.procs.length 0))/\Blk w' x.2.2 [pt x.1]/\ai.heap.size<=x.1/\ai.heap.size<=x.2.1/\ai.heap.size<=x.2.2/\x.1≠x.2.1/\x.2.2≠x.1/\x.2.2≠x.2.1/\Blk w' b1 (g.cells va vc pa pc ma mc)/\Blk w' b8 [.slice ca s.cells.length cc,.slice ta s.tin.length tc,.slice oa s.tout.length oc]/\Blk w' ax [.bool ac]/\Blk w' a7 [.slice none 0 0,.slice none 0 0,.slice none 0 0,.int .i64 0,.int .i64 0]/\g.sits (· < w.heap.size) w' va pa ma/\s.sits (· < w.heap.size) w' ca ta oa/\Ext ai w'/\Ext w w') ?_ ?_
 . focus
    refine Aq (λwz=>Ext ai wz) 10 (.pure 0 (.pure 1 (.pure 2 (.pure 3 (.pure 4 (.pure 5 (.fork 6 (.pure 7 (.fork 8 (.fork 9 .tail .none) (.fork 9 (.fork 8 .tail .none) .none))) (.fork 9 (.fork 6 (.pure 7 (.fork 8 .tail .none)) .none) .none)))))))) mixed AU (Aa Ag) ?_;intro b9 a9 _;have V:(λwz=>Ext ai wz) b9:=a9;simp only at V;have ba:=h4;revert O M G h4 X Y U hv Xn;refine eY a9 ?_;intro eq O M G h4 X Y U hv Xn;refine ⟨V,?_⟩;refine Tq rfl (xL [_,_,_,_,_,_] (λwz hz=>(mN ba hz))) ?_;refine eT ?_;refine AC rfl (Dq (sh:=Da) (C:=0) (D:=0) (N:=g.procs.length) (z:=0) Ac CC rfl rfl rfl rfl AU rfl rfl Ab (λ_ _=>rfl)) rfl ?_ aFh ?kra5;rintro _ cn ⟨er,rfl,ad,et,eu,bb⟩;revert V O M G h4 X Y U hv Xn;refine eE bb ?_;intro V O M G h4 X Y U hv Xn;refine ⟨V,?_⟩;refine Tq rfl (xB [_,_,_,_,_,_,_,_,_,_]) ?_;refine AC rfl (Hj rfl rfl) rfl ?_ aFh ?kra13;rintro _ co ⟨cp,rfl,aj⟩;have ak:=aj.blk;have bc:=aj.ext;have cq:=aj.pos;have cr:=aj.size;revert ad V O M G h4 X Y U hv Xn;refine eE bc ?_;intro ad V O M G h4 X Y U hv Xn;refine ⟨V,?_⟩;refine AC rfl (A2 CC rfl) rfl ?_ aFh Ay;rintro _ ct ⟨cu,rfl,al⟩;have a0:=al.blk;dsimp only at a0;have bd:=al.ext;have cv:=al.pos;have cw:=al.size;revert ak ad V O M G h4 X Y U hv Xn;refine eE bd ?_;intro ak ad V O M G h4 X Y U hv Xn;refine ⟨V,?_⟩;refine Ar rfl (eS [_] a0 ?_);intro cx cy be cz;revert ak ad O M G h4 X Y U hv Xn;refine eF be ?_;intro ak ad O M G h4 X Y U hv Xn;refine Ak ?_;rotate_left;refine AC rfl (A2 CC rfl) rfl ?_ aFh Ay;rintro _ c0 ⟨c1,rfl,am⟩;have an:=am.blk;dsimp only at an;have bf:=am.ext;have c2:=am.pos;have c3:=am.size;revert ad V O M G h4 X Y U hv Xn;refine eE bf ?_;intro ad V O M G h4 X Y U hv Xn;refine ⟨V,?_⟩;refine AC rfl (Hj rfl rfl) rfl ?_ aFh Ay;rintro _ c4 ⟨c5,rfl,ao⟩;have a1:=ao.blk;have bg:=ao.ext;have c6:=ao.pos;have c7:=ao.size;revert an ad V O M G h4 X Y U hv Xn;refine eE bg ?_;intro an ad V O M G h4 X Y U hv Xn;refine ⟨V,?_⟩;refine Ar rfl (eS [_] an ?_);intro c8 c9 bh da
    revert a1 ad O M G h4 X Y U hv Xn;refine eF bh ?_;intro a1 ad O M G h4 X Y U hv Xn;refine Ak ?_;rotate_left;refine AC rfl (A2 CC rfl) rfl ?_ aFh Ay;rintro _ db ⟨dc,rfl,ap⟩;have af:=ap.blk;dsimp only at af;have bi:=ap.ext;have dd:=ap.pos;have de:=ap.size;revert V O M G h4 X Y U hv Xn;refine eE bi ?_;intro V O M G h4 X Y U hv Xn;refine ⟨V,?_⟩;refine AC rfl (Dq (sh:=Da) (C:=0) (D:=0) (N:=g.procs.length) (z:=0) Ac CC rfl rfl rfl rfl AU rfl rfl Ab (λ_ _=>rfl)) rfl ?_ aFh Ay;rintro _ df ⟨dg,rfl,aq,dh,di,bj⟩;revert af V O M G h4 X Y U hv Xn;refine eE bj ?_;intro af V O M G h4 X Y U hv Xn;refine ⟨V,?_⟩;refine Tq rfl (xB [_,_,_,_,_,_,_,_,_,_]) ?_;refine AC rfl (Hj rfl rfl) rfl ?_ aFh Ay;rintro _ dk ⟨dl,rfl,ar⟩;have a2:=ar.blk;have bk:=ar.ext;have dm:=ar.pos;have dn:=ar.size;revert aq af V O M G h4 X Y U hv Xn;refine eE bk ?_;intro aq af V O M G h4 X Y U hv Xn;refine ⟨V,?_⟩;refine Ar rfl (eS [_] af ?_);intro dp dq bl dr;revert a2 aq O M G h4 X Y U hv Xn;refine eF bl ?_;intro a2 aq O M G h4 X Y U hv Xn;refine Ak ?_;rotate_left
   all_goals exact BQ (_,_,_) sC ⟨Ae,ArrS.blkI Ae,Ae,by (try simp only);omega,by (try simp only);omega,by (try simp only);omega,by (try simp only);omega,by (try simp only);omega,by (try simp only);omega,Ae,Ae,Ae,Ae,Ae,Ae,Xn,X⟩
 . clear h4 G M O Y hv U X Xn;rintro ⟨rb,eb,au⟩ w3 ⟨ay,az,aa,o1,o2,o3,o4,o5,o6,h4,G,M,O,Y,hv,Xn,X⟩;simp only at ay az aa o1 o2 o3 o4 o5 o6;have ew:=Xn.size;have ds:=aa.lt;have hR:Run ⟨rb,ae,eb,g.procs.length,g,va,vc,pa,pc,ma,mc,f,(· < w.heap.size)⟩ (λk=>k<a6.heap.size\/k=au) w3 ⟨CO g.vars s g.vars.length,f⟩:=
    aB b7.out Xn Ab o1 o2 o4 HW.out ay (es:=jn g.procs.length 0) AN az Y.procs (λk hk=>iG Ab) (λk hk=>by rcases hk with hk|hk<;>omega)
   have HA:Hid (∀jb w4,Ext w3 w4->w3.heap.size<=jb->jb<w4.heap.size->Blk w4 jb [.slice none 0 0,.bool false]->Calls prog 119 #[pt jb,.func (.func 120) #[] #[pt au,pt b1,pt ax]] w4 (dN ⟨rb,ae,eb,g.procs.length,g,va,vc,pa,pc,ma,mc,f,(· < w.heap.size)⟩ (Cl (λk=>k<a6.heap.size\/k=au) w3 w4) (AH (Ax g.procs d) ac g.main ⟨CO g.vars s g.vars.length,f⟩) w4)):=iF λjb w4 X4 j1 j2 hj=>
    VR (ca:=[pt au,pt b1,pt ax]) AU bz w4 (λk hk=>by have:=X4.size;rcases hk with (hk|hk)|hk<;>omega) (λk hk=>iG (iG (by have e:k<w.heap.size:=hk;omega))) (iH ⟨j1,j2⟩) hj (λw5 X5=>
     XX (c:=⟨rb,ae,eb,g.procs.length,g,va,vc,pa,pc,ma,mc,f,(· < w.heap.size)⟩) a5 bv.out bw.out bx.out d ac bt au b1 ax vc pc mc va pa ma w5 ((hR.more X4).more X5) ((aa.ext X4).ext X5) ((h4.ext X4).ext X5) ((M.ext X4).ext X5) (mK ((Y.main.ext X4).ext X5) (λb hb=>iG (iG (iG (by have e:b<w.heap.size:=hb;omega))))))
   unfold dN at HA;generalize AH (Ax g.procs d) ac g.main ⟨CO g.vars s g.vars.length,f⟩=Z at *;have X3:=Ne w3;clear Xn hR;refine cS (eA [_,_] ?_);intro ex cb cd ce ey ez;revert ay az aa h4 G M O Y hv X X3;refine eE ce ?_;intro ay az aa h4 G M O Y hv X X3;refine C1 (B6 rfl) ?_;refine Aw (AM AU rfl (HA.out _ _ X3 Ab Ab Ae) (λ_ _ ⟨_,h⟩=>⟨_,h.1⟩)) rfl ?_ aFh;rintro _ a3 ⟨dt,⟨⟩,bm,ab⟩;have du:=ab.size;clear cd ay az;have aa:=mH aa ab (λh=>h (iG (iH rfl)));have h4:=mH h4 ab (λh=>h (iG (iG Ab)));have G:=mH G ab (λh=>h (iG (iG Ab)));have M:=mH M ab (λh=>h (iG (iG Ab)));have O:=mH O ab (λh=>h (iG (iG Ab)));have Y:=ny Y ab (λb hb h=>h (iG (iG (by have e:b<w.heap.size:=hb;omega))));have hv:=nt hv ab (λb hb h=>h (iG (iG (by have e:b<w.heap.size:=hb;omega))));have X:=mQ X ab (λk hk=>by (rcases i7 k w.heap.size with h|h;exact absurd (iG (iG Ab)) hk;exact h));refine C1 Pa (cT (Aj ?_));rcases bm with ⟨bn,r,hZ,hR⟩|⟨bn,hZ⟩
   . subst bn;have cf:=hR.rem;have hb:=hR.blk;have cg:=hR.small a5;have HS:=iF (λw1 (h:Run ⟨rb,ae,eb,g.procs.length,g,va,vc,pa,pc,ma,mc,f,(· < w.heap.size)⟩ (Cl (λk=>k<a6.heap.size\/k=au) w3 cb) w1 r)=>aA a5 w1 h);simp only at cf hb HS;rw [hZ];generalize ch:r.st.sv=sv at *;obtain ⟨cells,tin,tout⟩:=sv;refine eK ?_;refine Aq (λwz=>Ext a3 wz) 12 (.pure 0 (.pure 1 (.pure 2 (.pure 3 (.pure 4 (.pure 6 (.pure 7 (.pure 8 (.pure 9 (.fork 5 (.pure 10 (.pure 11 .tail)) .none)))))))))) mixed AU (Aa Ag) ?_;intro ci bo _;have ag:(λwz=>Ext a3 wz) ci:=bo;simp only at ag;have cj:=aa;have dv:=hb;revert aa h4 G M O Y hv X hR hb;refine eY bo ?_;intro e0 aa h4 G M O Y hv X hR hb;refine ⟨ag,?_⟩;refine eT ?_;refine tC rfl rfl (HS.out _ Ae) ?_;rintro _ dw ⟨e1,e2,dx,dy,ck,cl,⟨⟩,a4,bp⟩;revert ag aa h4 G M O Y hv X hR hb;refine eE bp ?_;intro ag aa h4 G M O Y hv X hR hb;refine ⟨ag,?_⟩;refine Tq rfl (xB [_,_,_,_,_]) (Tq rfl Pa ?_);refine Ar rfl (eS [_,_,_,_,_] O ?_);intro dz d0 bq d1;revert a4 aa h4 G M Y hv X hb;refine eF bq ?_;intro a4 aa h4 G M Y hv X hb;refine cT (AR ?_);refine RS rfl Ac rfl rfl rfl rfl Ae rfl ?_;rw [show IN s f (.ok r)=⟨⟨cells,tin,tout⟩,(f:Int)-r.rem,0⟩ by unfold IN;simp only [ch]]
     exact ⟨_,_,_,_,_,_,_,rfl,nC Ae (λb h=>⟨Ab,Ab⟩),cg,X⟩
   . refine kQ (HK.out _ Ae) ?_;rintro _ e3 ⟨e4,e5,d2,d3,d4,d5,⟨⟩,br,cm⟩;revert aa h4 G M O Y hv X;refine eE cm ?_;intro aa h4 G M O Y hv X;refine C1 Mv (C1 (xB [_,_,_,_,_]) (C1 Pa (eS [_,_,_,_,_] O ?_)));intro d6 d7 bs d8;revert br aa h4 G M Y hv X;refine eF bs ?_;intro br aa h4 G M Y hv X;refine cT (AR (As ?_));refine RS rfl Ac rfl rfl rfl rfl Ae rfl ?_;subst hZ;exact ⟨_,_,_,_,_,_,_,rfl,nC Ae (λb h=>⟨Ab,Ab⟩),aw,X⟩
def ResR (res:ResV) (w:wD):Ending->wD->Prop:=λe w'=> ∃a c ta tc oa oc,e = .returned (.agg (res.row a c ta tc oa oc).toArray)/\res.st.sits (λb=>w.heap.size<=b/\b<w'.heap.size) w' a ta oa/\res.st.small/\Ext w w'
def ResR.ret {G:ResV} (h:ResR G w e w'):∃v,e = .returned v:=by
 obtain ⟨_,_,_,_,_,_,h,-⟩:=h;exact ⟨_,h⟩
def OJ (g:PG) (aa:g.wf) (ab:g.ok=true) (h0:g.flt=0) (s:SV) (hf:FitsP g.vars s) (f:Nat) (ac:f<=10000) (d:Nat) (ad:AH (Ax g.procs d) false g.main ⟨CO g.vars s g.vars.length,f⟩≠.error (-1))
 (S:nP) (va:oA) (vc:Nat) (Y:oA) (pc:Nat) (ma:oA) (mc:Nat) (ca ta oa:oA) (cc tc oc:Nat) (w:wD) (O:g.sits S w va Y ma) (G:PDsC S w g.procs Y) (ae:g.vars.length<=vc) (U:s.sits S w ca ta oa) :
 Calls prog 48 #[.agg (g.cells va vc Y pc ma mc).toArray,.agg (s.row ca cc ta tc oa oc).toArray,.int .i64 f] w (ResR (IN s f (AH (Ax g.procs d) false g.main ⟨CO g.vars s g.vars.length,f⟩)) w):=by
 have X:=Ne w;have O:=O.ltA;have G:=G.ltA;have U:=U.ltA;have HB:=iF (λw1 h1 h2 h3=>aC g aa ab h0 s hf f ac false d ad (· < w.heap.size) va vc Y pc ma mc ca ta oa cc tc oc w1 h1 h2 ae h3);generalize IN s f _=af at *;obtain ⟨⟨cells,tin,tout⟩,n,er⟩:=af;refine Ad func48 ntmps48 rfl rfl (cS (eB [_,_,_,_,_,_] ?_));intro b1 w2 Z x5 p6 z7;revert X O G U;refine eE x5 ?_;intro X O G U;refine eB [_,_,_] ?_;intro b8 w9 V ag au av;revert Z X O G U;refine eE ag ?_;intro Z X O G U;refine eA [_,_,_,_,_] ?_;intro aw ax M ah ay z22;revert V Z X O G U;refine eE ah ?_;intro V Z X O G U;refine kQ (HB.out _ Ae Ae Ae) ?_;rintro _ az ⟨a0,a1,a2,ao,ap,aq,ar,⟨⟩,N,a3,ai⟩;revert M X;refine eY ai ?_;intro a4 M X;refine eK ?_;refine eA [_,_,_,_,_] ?_;intro a5 a6 aj ak a7 a8;revert N M X;refine eE ak ?_;intro N M X;refine C1 Pa (eS [_,_,_,_,_] aj ?_);intro a9 ba al z46;revert N M X;refine eF al ?_;intro N M X;refine eK ?_;refine eS [_,_,_,_,_] M ?_;intro bb am an bc;revert N X;refine eF an ?_;intro N X;refine kX am ?_;exact ⟨_,_,_,_,_,_,rfl,nC Ae (λb h=>⟨Ab,Ab⟩),Ae,X⟩
noncomputable def DR (g:PG) (s:SV) (f:Nat):ResV:=
 IN s f (AH (Ax g.procs (Classical.choose (G9 g.procs false g.main ⟨CO g.vars s g.vars.length,f⟩))) false g.main ⟨CO g.vars s g.vars.length,f⟩)
def PZ (g:PG) (s:SV) (f:Nat):AH (Ax g.procs (Classical.choose (G9 g.procs false g.main ⟨CO g.vars s g.vars.length,f⟩))) false g.main ⟨CO g.vars s g.vars.length,f⟩≠.error (-1):=
 Classical.choose_spec (G9 g.procs false g.main ⟨CO g.vars s g.vars.length,f⟩)
structure VdV where
 ok:Bool
 tried:Int
 st:SV
 err:Int
def VdV.zero:VdV:=⟨false,0,⟨[],[],[]⟩,0⟩
noncomputable instance:DecidableEq SV:=λa b=>Classical.propDecidable _
noncomputable def Wu (g p:PG) (f:Nat):List SV->Int->VdV
 | [],n=>⟨true,n,⟨[],[],[]⟩,0⟩
 | s::l,n=>
  if (DR g s f).err≠0 then Wu g p f l n
  else if (DR p (DR g s f).st f).err=0/\(DR p (DR g s f).st f).st=s then Wu g p f l (Go.IntKind.wrap .i64 (n+1))
  else ⟨false,Go.IntKind.wrap .i64 (n+1),s,(DR p (DR g s f).st f).err⟩
noncomputable instance:DecidableEq VD:=λa b=>Classical.propDecidable _
noncomputable def D8 (e:EX) (p:PG):Int:=
 if ¬e.valid then 1
 else if p.ok=false\/p.flt≠0 then 3
 else match p.errs with
  | er::_=>er
  | []=>if p.vars=e.g.vars then 0 else 7
def VU {e:EX} {p:PG} (N:∀x∈p.errs,x≠0) (h:D8 e p=0):e.valid/\p.acc/\p.vars=e.g.vars:=by
 unfold D8 at h;split at h
 . exact absurd h B9
 . rename_i O;split at h
   . exact absurd h B9
   . rename_i G;rw [not_or,Bool.not_eq_false,Decidable.not_not] at G;split at h
     . rename_i U l M;exact absurd h (N U (by rw [M];simp))
     . rename_i M;split at h
       . rename_i V;exact ⟨Decidable.not_not.1 O,⟨G.1,G.2,M⟩,V⟩
       . exact absurd h B9
structure FrmS (ρ:Nat->nP) (f g:Frm):Prop where
 vars:f.vars=g.vars
 locals:f.locals=g.locals
 len:f.cells.length=g.cells.length
 cell:∀(i c d:Nat),f.cells[i]? = some c->g.cells[i]? = some d->ρ c d
structure Sim (ρ:Nat->nP) (a b:Stp):Prop where
 base:FrmS ρ a.base b.base
 nc:a.calls.length=b.calls.length
 call:∀(i:Nat) (f g:Frm),a.calls[i]? = some f->b.calls[i]? = some g->FrmS ρ f g
 tin:a.tin=b.tin
 tout:a.tout=b.tout
 items:∀c d,ρ c d->a.items c=b.items d
 lt:∀c d,ρ c d->c<a.heap.length/\d<b.heap.length
 inj:∀c d c' d',ρ c d->ρ c' d'->(c=c'↔d=d')
def Vis (st:Stp) (s:lB) (d:Nat):Prop:= ∃i:Nat,BR s st.cur.vars=some i/\st.cur.cells[i]? = some d
section
variable {a:Stp} {c d:Nat}
def FrmS.get {f g:Frm} (h:FrmS ρ f g) {d:Nat} (e:g.cells[i]? = some d):∃c,f.cells[i]? = some c/\ρ c d:=by
 have G:=(List.getElem?_eq_some_iff.1 e).1;have M:f.cells[i]? = some (f.cells[i]'(by rw [h.len];exact G)):=iE (by rw [h.len];exact G);exact ⟨_,M,h.cell i _ d M e⟩
def FrmS.none {f g:Frm} (h:FrmS ρ f g) {i:Nat} (e:g.cells[i]? = none):f.cells[i]? = none:=by
 rw [List.getElem?_eq_none_iff] at e ⊢;rw [h.len];exact e
def Sim.getC (h:Sim ρ a b) {g:Frm} (e:b.calls[i]? = some g):∃f,a.calls[i]? = some f/\FrmS ρ f g:=by
 have G:=(List.getElem?_eq_some_iff.1 e).1;have M:a.calls[i]? = some (a.calls[i]'(by rw [h.nc];exact G)):=iE (by rw [h.nc];exact G);exact ⟨_,M,h.call i _ g M e⟩
def Sim.nil (h:Sim ρ a b):a.calls=[]↔b.calls=[]:=by
 rw [<-List.length_eq_zero_iff,<-List.length_eq_zero_iff,h.nc]
def Sim.cur (h:Sim ρ a b):FrmS ρ a.cur b.cur:=by
 unfold Stp.cur;rw [List.getLast?_eq_getElem?,List.getLast?_eq_getElem?,h.nc];cases e:b.calls[b.calls.length-1]? with
 | none=>
  have:a.calls[b.calls.length-1]? = none:=by
   rw [List.getElem?_eq_none_iff] at e ⊢;rw [h.nc];exact e
  rw [this];exact h.base
 | some g=>
  obtain ⟨f,G,M⟩:=h.getC e;rw [G];exact M
def Sim.look (h:Sim ρ a b):a.look=b.look:=by
 funext s;unfold Stp.look Frm.cell;have G:=h.cur;rw [G.vars];cases BR s b.cur.vars with
 | none=>rfl
 | some i=>
  simp only [kU];cases e:b.cur.cells[i]? with
  | none=>rw [G.none e];rfl
  | some d=>
   obtain ⟨c,M,N⟩:=G.get e;rw [M];simp only [ky,h.items _ _ N]
def Vis.cellD (h:Vis st s d):st.cellD s=d:=by
 obtain ⟨i,G,M⟩:=h;unfold Stp.cellD Frm.cell;rw [G];simp [M]
def Sim.vis (h:Sim ρ a b) (G:Vis b s d):∃c,Vis a s c/\ρ c d:=by
 obtain ⟨i,M,N⟩:=G;obtain ⟨c,O,U⟩:=h.cur.get N;exact ⟨c,⟨i,by rw [h.cur.vars];exact M,O⟩,U⟩
def Sim.all (h:Sim ρ a b) (N:ρ c d) (xs:List Int):Sim ρ (a.all c xs) (b.all d xs) where
 base:=h.base
 nc:=h.nc
 call:=h.call
 tin:=h.tin
 tout:=h.tout
 items:=λO U G=>by
  rw [CQ,CQ,h.items _ _ G];have e:=h.inj _ _ _ _ G N;have l:=h.lt _ _ N;by_cases M:O=c
  . rw [AG ⟨M,l.1⟩,AG ⟨e.1 M,l.2⟩]
  . rw [At (λx=>M x.1),At (λx=>M (e.2 x.1))]
 lt:=λO U G=>by
  unfold Stp.all;simp only [kg];exact h.lt _ _ G
 inj:=h.inj
def Sim.put (h:Sim ρ a b) (G:ρ c d) (i:Nat) (v:Int):Sim ρ (a.put c i v) (b.put d i v):=by
 unfold Stp.put;rw [h.items _ _ G];exact h.all G _
def Sim.tinW (h:Sim ρ a b) (x:List Int):Sim ρ { a with tin:=x } { b with tin:=x }:=⟨h.base,h.nc,h.call,rfl,h.tout,h.items,h.lt,h.inj⟩
def Sim.toutW (h:Sim ρ a b) (x:List Int):Sim ρ { a with tout:=x } { b with tout:=x }:=⟨h.base,h.nc,h.call,h.tin,rfl,h.items,h.lt,h.inj⟩
def Sim.transfer (h:Sim ρ a b) (G:ρ c d) (k:Int) (i:Nat):(a.transfer k c i).1=(b.transfer k d i).1/\Sim ρ (a.transfer k c i).2 (b.transfer k d i).2:=by
 unfold mP;rw [h.tin,h.tout,h.items _ _ G];by_cases U:k=46
 . simp only [AG U];cases b.tin with
   | nil=>exact ⟨rfl,h⟩
   | cons v r=>
    simp only;by_cases M:(b.items d).getD i 0≠0
    . simp only [AG M];exact ⟨trivial,h⟩
    . simp only [At M];exact ⟨trivial,(h.put G i v).tinW r⟩
 simp only [At U];by_cases M:k=47
 . simp only [AG M];by_cases N:4096<=b.tin.length
   . simp only [AG N];exact ⟨trivial,h⟩
   . simp only [At N];exact ⟨trivial,(h.put G i 0).tinW _⟩
 simp only [At M];by_cases N:k=48
 . simp only [AG N];by_cases O:4096<=b.tout.length
   . simp only [AG O];exact ⟨trivial,h⟩
   . simp only [At O];exact ⟨trivial,(h.put G i 0).toutW _⟩
 simp only [At N];cases b.tout.getLast? with
 | none=>exact ⟨rfl,h⟩
 | some v=>
  simp only;by_cases O:(b.items d).getD i 0≠0
  . simp only [AG O];exact ⟨trivial,h⟩
  . simp only [At O];exact ⟨trivial,(h.put G i v).toutW _⟩
def Sim.move (h:Sim ρ a b) (M:ρ c d) {e f:Nat} (G:ρ e f) (k:Int) (i:Nat):(a.move k c i e).1=(b.move k d i f).1/\Sim ρ (a.move k c i e).2 (b.move k d i f).2:=by
 unfold nh;rw [h.items _ _ M,h.items _ _ G];by_cases N:k=44
 . simp only [AG N];by_cases O:1000<=(b.items f).length
   . simp only [AG O];exact ⟨trivial,h⟩
   . simp only [At O];exact ⟨trivial,(h.all G _).put M i 0⟩
 simp only [At N];cases (b.items f).getLast? with
 | none=>exact ⟨rfl,h⟩
 | some v=>
  simp only;by_cases U:(b.items d).getD i 0≠0
  . simp only [AG U];exact ⟨trivial,h⟩
  . simp only [At U];exact ⟨trivial,(h.put M i v).all G _⟩
def Sim.exec (h:Sim ρ a b) (k:Int) (s:lB) (l:List Nd) (h1:∃d,Vis b (l.getD 0 (.mk 0 0 [] [])).name d) (h2:k=43 -> ∃d,Vis b (l.getD 1 (.mk 0 0 [] [])).name d) (h3:k=44\/k=45 -> ∃d,Vis b s d) :
 (a.exec k s l).1=(b.exec k s l).1/\Sim ρ (a.exec k s l).2 (b.exec k s l).2:=by
 obtain ⟨d,Y⟩:=h1;obtain ⟨c,hc,N⟩:=h.vis Y;unfold Stp.exec;simp only [h.look,hc.cellD,Y.cellD,h.items _ _ N];generalize Bf b.look (l.getD 0 (.mk 0 0 [] []))=U;generalize (if k=43 then Bf b.look (l.getD 1 (.mk 0 0 [] [])) else if 40<=k/\k<=42 then AW b.look (l.getD 1 (.mk 0 0 [] [])) else (0,0))=r;by_cases Z:U.2≠0
 . simp only [AG Z];exact ⟨trivial,h⟩
 simp only [At Z];by_cases e2:r.2≠0
 . simp only [AG e2];exact ⟨trivial,h⟩
 simp only [At e2];by_cases e3:U.1<0\/((b.items d).length:Int)<=U.1
 . simp only [AG e3];exact ⟨trivial,h⟩
 simp only [At e3];by_cases e4:40<=k/\k<=42
 . simp only [AG e4];exact ⟨trivial,h.put N _ _⟩
 simp only [At e4];by_cases V:k=43
 . simp only [AG V];obtain ⟨f,O⟩:=h2 V;obtain ⟨e,X,G⟩:=h.vis O;rw [X.cellD,O.cellD,h.items _ _ G];by_cases M:r.1<0\/((b.items f).length:Int)<=r.1
   . simp only [AG M];exact ⟨trivial,h⟩
   . simp only [At M];exact ⟨trivial,(h.put N _ _).put G _ _⟩
 simp only [At V];by_cases M:k=44\/k=45
 . simp only [AG M];obtain ⟨f,O⟩:=h3 M;obtain ⟨e,X,G⟩:=h.vis O;rw [X.cellD,O.cellD];exact h.move N G k _
 . simp only [At M];exact h.transfer N k _
def Stp.WF.vis {K:List (Int×Int)} (h:st.WF K m) (G:El st.cur.vars s k=0):∃d x,Vis st s d/\d<st.heap.length/\K[d]? = some x/\x.1=k/\cellOk x (st.items d):=by
 obtain ⟨i,c,x,M,N,-,-,O,U,V,X⟩:=h.use G;exact ⟨c,x,⟨i,M,N⟩,O,U,V,X⟩
def VV {v:List VD} {x:Nd} (G:x.isPlace=true) (h:x.bad v=0):El v x.name 1=0\/El v x.name 2=0:=by
 obtain ⟨k,n,s,l⟩:=x;obtain ⟨M,-⟩:=Ko h;simp only [Nd.isPlace,iJ,jI,beq_iff_eq,m7] at G;rcases G.1 with rfl|rfl
 . exact iG (M B9)
 . exact iH (M B9)
end
section
variable {st' a:Stp} {c d e:Nat} {v:Int} {ys:List Int}
def Stp.eq_of (h:a.base=b.base) (G:a.calls=b.calls) (M:a.tin=b.tin) (N:a.tout=b.tout) (O:a.heap.length=b.heap.length) (U:∀c,a.items c=b.items c):a=b:=by
 obtain ⟨Y,Z,ca,ia,oa⟩:=a;obtain ⟨hb,bb,cb,ib,ob⟩:=b;simp only at h G M N O;subst h G M N;congr 1;refine lL O λn V X=>?_
 have:=U n;unfold m6 at this;simpa [iK,iE V,iE X] using this
def Bq (h:c<st.heap.length):(st.put c i v).items c=(st.items c).set i v:=by
 unfold Stp.put;rw [CQ,AG ⟨rfl,h⟩]
def Bg (h:d≠c):(st.put c i v).items d=st.items d:=by
 unfold Stp.put;rw [CQ,At (λx=>h x.1)]
def Ew (h:c<st.heap.length):(st.all c xs).items c=xs:=by rw [CQ,AG ⟨rfl,h⟩]
def Ce (h:d≠c):(st.all c xs).items d=st.items d:=by rw [CQ,At (λx=>h x.1)]
def Ga:(st.all c xs).heap.length=st.heap.length:=by simp [Stp.all]
def CT:(st.put c i v).heap.length=st.heap.length:=by simp [Stp.put,Stp.all]
def GC {L:List Int} (h:i<L.length) (v:Int):(L.set i v).set i (L.getD i 0)=L:=by
 rw [lI];simp [iK,iE h]
def DH {L:List Int} (h:i<L.length) (v:Int):(L.set i v).getD i 0=v:=by
 simp [iK,jS h]
def Ij (G:c<st.heap.length) (M:i<(st.items c).length) (v:Int):(st.put c i v).put c i ((st.items c).getD i 0)=st:=by
 refine Stp.eq_of rfl rfl rfl rfl (by simp [CT]) λN=>?_
 by_cases h:N=c
 . subst h;rw [Bq (by rw [CT];exact G),Bq G,GC M]
 . rw [Bg h,Bg h]
def Nt {L:List Int} (h:i<L.length):L.set i (L.getD i 0)=L:=by
 have:=GC h 0;rwa [lI] at this
def VW {L:List Int} {j:Nat} (G:i<L.length) (M:j<L.length) :
 ((((L.set i (L.getD j 0)).set j (L.getD i 0)).set i (((L.set i (L.getD j 0)).set j (L.getD i 0)).getD j 0)).set j (((L.set i (L.getD j 0)).set j (L.getD i 0)).getD i 0))=L:=by
 by_cases h:i=j
 . subst h;simp only [Nt G]
 . have N:((L.set i (L.getD j 0)).set j (L.getD i 0)).getD j 0=L.getD i 0:=DH (by simp [M]) _;have O:((L.set i (L.getD j 0)).set j (L.getD i 0)).getD i 0=L.getD j 0:=by
    rw [iK,jy (λx=>h x.symm),<-iK,DH G]
   rw [N,O,List.set_comm _ _ (λx=>h x.symm),lI,lI,Nt G,Nt M]
def XY {j:Nat} (N:c<st.heap.length) (O:i<(st.items c).length) (X:e<st.heap.length) (U:j<(st.items e).length) :
 (((st.put c i ((st.items e).getD j 0)).put e j ((st.items c).getD i 0)).put c i ((((st.put c i ((st.items e).getD j 0)).put e j ((st.items c).getD i 0)).items e).getD j 0)).put e j
  ((((st.put c i ((st.items e).getD j 0)).put e j ((st.items c).getD i 0)).items c).getD i 0)=st:=by
 refine Stp.eq_of rfl rfl rfl rfl (by simp [CT]) λV=>?_
 by_cases G:c=e
 . subst G;by_cases h:V=c
   . subst h;simp only [Bq,CT,N];exact VW O U
   . simp only [Bg h]
 . have M:e≠c:=λx=>G x.symm
   by_cases h:V=c
   . subst h;simp only [Bq,Bg G,Bg M,CT,N,X];rw [DH U,GC O]
   . by_cases Y:V=e
     . subst Y;simp only [Bq,Bg G,Bg M,CT,N,X];rw [DH O,GC U]
     . simp only [Bg h,Bg Y]
def Uu (v:BitVec 64):KH v.toNat=v.toInt:=by
 rw [BitVec.toInt_eq_toNat_cond];unfold KH;rw [jP];have:=v.isLt;simp [IntKind.signed,IntKind.bits];omega
def VX (h:E4 x):(BitVec.ofInt 64 x).toInt=x:=by
 unfold E4 at h;rw [BitVec.toInt_ofInt];simp only [Int.bmod];omega
def XZ {u r:Int} (G:k=40\/k=41\/k=42) (h:E4 u):LN (Bb k) (LN k u r) r=u:=by
 rcases G with rfl|rfl|rfl
 . simp only [Bb,LN];simp;unfold E4 at h;unfold KH;rw [jP,jP];simp [IntKind.signed,IntKind.bits];omega
 . simp only [Bb,LN];simp;unfold E4 at h;unfold KH;rw [jP,jP];simp [IntKind.signed,IntKind.bits];omega
 . have e:Bb 42=42:=by decide
   rw [e];simp only [LN];simp only [show ¬((42:Int)=40) by decide,show ¬((42:Int)=41) by decide,if_false,NP];rw [Uu (BitVec.ofInt 64 u ^^^ BitVec.ofInt 64 r),BitVec.ofInt_toInt,BitVec.xor_assoc,BitVec.xor_self,BitVec.xor_zero,Uu,VX h]
def Stp.execT (st:Stp) (k:Int) (i:Nat) (r:Int) (c e d:Nat):Int×Stp:=
 if 40<=k/\k<=42 then (0,st.put c i (LN k ((st.items c).getD i 0) r))
 else if k=43 then
  if r<0\/((st.items e).length:Int)<=r then (12,st)
  else (0,(st.put c i ((st.items e).getD r.toNat 0)).put e r.toNat ((st.items c).getD i 0))
 else if k=44\/k=45 then st.move k c i d
 else st.transfer k c i
def Nu (st:Stp) (k:Int) (s:lB) (l:List Nd):st.exec k s l =
 (let x:=l.getD 0 (.mk 0 0 [] [])
  let y:=l.getD 1 (.mk 0 0 [] [])
  let a:=Bf st.look x
  let r:=if k=43 then Bf st.look y else if 40<=k/\k<=42 then AW st.look y else (0,0)
  if a.2≠0 then (a.2,st) else if r.2≠0 then (r.2,st) else if a.1<0\/((st.items (st.cellD x.name)).length:Int)<=a.1 then (12,st)
  else st.execT k a.1.toNat r.1 (st.cellD x.name) (st.cellD y.name) (st.cellD s)):=rfl
def Tu {r:Int} (hk:40<=k/\k<=49) (h:st.execT k i r c e d=(0,st')) (N:i<(st.items c).length) (O:c<st.heap.length) (he:k=43->e<st.heap.length)
 (hd:k=44\/k=45->d<st.heap.length/\c≠d/\(st.items d).length<=1000) (ht:st.tin.length<=4096/\st.tout.length<=4096) (hr:E4 ((st.items c).getD i 0)):st'.execT (Bb k) i r c e d=(0,st):=by
 unfold Stp.execT at h ⊢;by_cases h1:40<=k/\k<=42
 . rw [AG h1] at h;obtain ⟨-,rfl⟩:=lp h;have aa:k=40\/k=41\/k=42:=by omega
   have h2:40<=Bb k/\Bb k<=42:=by rcases aa with rfl|rfl|rfl<;>decide
   rw [AG h2,Bq O,DH N,XZ aa hr,Ij O N]
 rw [At h1] at h;by_cases h2:k=43
 . subst h2;have e1:Bb 43=43:=by decide
   rw [e1,At B9,AG rfl];rw [AG rfl] at h;by_cases X:r<0\/((st.items e).length:Int)<=r
   . rw [AG X] at h;cases h
   rw [At X] at h;obtain ⟨-,rfl⟩:=lp h;have hj:r.toNat<(st.items e).length:=by omega
   rw [At (by simp only [F8];exact X)];rw [XY O N (he rfl) hj]
 rw [At h2] at h;by_cases X:k=44\/k=45
 . rw [AG X] at h;obtain ⟨d1,d2,d3⟩:=hd X;have d4:d≠c:=λx=>d2 x.symm
   have h4:Bb k=44\/Bb k=45:=by rcases X with rfl|rfl<;>decide
   rw [At Ab,At Ab,AG h4];rcases X with rfl|rfl
   . unfold nh at h ⊢;rw [AG rfl] at h;by_cases Y:1000<=(st.items d).length
     . rw [AG Y] at h;cases h
     rw [At Y] at h;obtain ⟨-,rfl⟩:=lp h;have e1:((st.all d (st.items d++[(st.items c).getD i 0])).put c i 0).items d=st.items d++[(st.items c).getD i 0]:=by rw [Bg d4,Ew d1]
     have U:((st.all d (st.items d++[(st.items c).getD i 0])).put c i 0).items c=(st.items c).set i 0:=by rw [Bq (by rw [Ga];exact O),Ce d2]
     rw [At B9,e1,U,lO];simp only [DH N,ne_eq,not_true,if_false,lr];congr 1;refine Stp.eq_of rfl rfl rfl rfl (by simp [CT,Ga]) λc'=>?_
     by_cases h6:c'=d
     . subst h6;rw [Ew (by simp [CT,Ga,d1])]
     . rw [Ce h6];by_cases M:c'=c
       . subst M;rw [Bq (by simp [CT,Ga,O]),U,GC N]
       . rw [Bg M,Bg M,Ce h6]
   . unfold nh at h ⊢;rw [At B9] at h;have Z:Bb 45=44:=by decide
     rw [Z,AG rfl];rcases jF (st.items d) with V|⟨ys,y,G⟩
     . rw [V] at h;cases h
     rw [jU] at G;rw [G,lO] at h;simp only [lr] at h;by_cases Y:(st.items c).getD i 0≠0
     . rw [AG Y] at h;cases h
     rw [At Y] at h;obtain ⟨-,rfl⟩:=lp h;have e1:((st.put c i y).all d ys).items d=ys:=Ew (by rw [CT];exact d1);have U:((st.put c i y).all d ys).items c=(st.items c).set i y:=by rw [Ce d2,Bq O]
     rw [e1,U,DH N,At (by rw [G] at d3;simp at d3;omega)];congr 1;refine Stp.eq_of rfl rfl rfl rfl (by simp [CT,Ga]) λc'=>?_
     by_cases M:c'=c
     . subst M;rw [Bq (by simp [CT,Ga,O]),Ce d2,U,lI];have:=GC (L:=st.items c') N 0;rw [lI] at this;rw [<-Decidable.not_not.1 Y];exact this
     . rw [Bg M];by_cases h6:c'=d
       . subst h6;rw [Ew (by simp [CT,Ga,d1]),G]
       . rw [Ce h6,Ce h6,Bg M]
 rw [At X] at h;obtain ⟨t1,t2⟩:=ht;have Y:k=46\/k=47\/k=48\/k=49:=by omega
 have h6:Bb k=46\/Bb k=47\/Bb k=48\/Bb k=49:=by rcases Y with rfl|rfl|rfl|rfl<;>decide
 rw [At Ab,At Ab,At Ab];rcases Y with rfl|rfl|rfl|rfl
 . unfold mP at h ⊢;rw [AG rfl] at h;have Z:Bb 46=47:=by decide
   rw [Z,At B9,AG rfl];cases ht:st.tin with
   | nil=>rw [ht] at h;cases h
   | cons v r=>
    rw [ht] at h t1;simp only at h;by_cases M:(st.items c).getD i 0≠0
    . rw [AG M] at h;cases h
    rw [At M] at h;obtain ⟨-,rfl⟩:=lp h;have U:({ st.put c i v with tin:=r }:Stp).items c=(st.items c).set i v:=Bq O;rw [U,DH N];rw [At (by simp at t1 ⊢;omega)];congr 1;have:=Ij O N v;rw [Decidable.not_not.1 M] at this;have e3:({ ({ st.put c i v with tin:=r }:Stp).put c i 0 with tin:=v::r }:Stp)={ (st.put c i v).put c i 0 with tin:=v::r }:=rfl;rw [e3,this,<-ht]
 . unfold mP at h ⊢;rw [At B9,AG rfl] at h;have Z:Bb 47=46:=by decide
   rw [Z,AG rfl];by_cases M:4096<=st.tin.length
   . rw [AG M] at h;cases h
   rw [At M] at h;obtain ⟨-,rfl⟩:=lp h;have U:({ st.put c i 0 with tin:=(st.items c).getD i 0::st.tin }:Stp).items c=(st.items c).set i 0:=Bq O;simp only [U,DH N,ne_eq,not_true,if_false];congr 1;have e3:({ ({ st.put c i 0 with tin:=(st.items c).getD i 0::st.tin }:Stp).put c i ((st.items c).getD i 0) with tin:=st.tin }:Stp)={ (st.put c i 0).put c i ((st.items c).getD i 0) with tin:=st.tin }:=rfl;rw [e3,Ij O N]
 . unfold mP at h ⊢;rw [At B9,At B9,AG rfl] at h;have Z:Bb 48=49:=by decide
   rw [Z,At B9,At B9,At B9];by_cases M:4096<=st.tout.length
   . rw [AG M] at h;cases h
   rw [At M] at h;obtain ⟨-,rfl⟩:=lp h;have U:({ st.put c i 0 with tout:=st.tout++[(st.items c).getD i 0] }:Stp).items c=(st.items c).set i 0:=Bq O;simp only [lO,U,DH N,ne_eq,not_true,if_false,lr];congr 1;have e3:({ ({ st.put c i 0 with tout:=st.tout++[(st.items c).getD i 0] }:Stp).put c i ((st.items c).getD i 0) with tout:=st.tout }:Stp)={ (st.put c i 0).put c i ((st.items c).getD i 0) with tout:=st.tout }:=rfl;rw [e3,Ij O N]
 . unfold mP at h ⊢;rw [At B9,At B9,At B9] at h;have Z:Bb 49=48:=by decide
   rw [Z,At B9,At B9,AG rfl];rcases jF st.tout with V|⟨ys,y,G⟩
   . rw [V] at h;cases h
   rw [jU] at G;rw [G,lO] at h;simp only [lr] at h;by_cases M:(st.items c).getD i 0≠0
   . rw [AG M] at h;cases h
   rw [At M] at h;obtain ⟨-,rfl⟩:=lp h;have U:({ st.put c i y with tout:=ys }:Stp).items c=(st.items c).set i y:=Bq O;rw [U,DH N];rw [G] at t2;rw [At (by simp at t2 ⊢;omega)];congr 1;have:=Ij O N y;rw [Decidable.not_not.1 M] at this;have e3:({ ({ st.put c i y with tout:=ys }:Stp).put c i 0 with tout:=ys++[y] }:Stp)={ (st.put c i y).put c i 0 with tout:=ys++[y] }:=rfl;rw [e3,this,<-G]
end
def LF {m x:Nd}:∀ {l:List Nd},x∈l->m∈x.walk->m∈BV l
 | [],h,_=>by cases h
 | t::r,h,G=>by
  simp only [BV,jD];rcases iU.1 h with rfl|h
  . exact iG G
  . exact iH (LF h G)
def RT {n:Int} {m x:Nd} (h:x∈l) (G:m∈x.walk):m∈(Nd.mk k n s l).walk:=by
 simp only [Nd.walk];exact js _ (LF h G)
def OK (t:Nd):t∈t.walk:=by
 obtain ⟨k,n,s,l⟩:=t;simp [Nd.walk]
def RU {f g:lB->Option (List Int)}:∀(N:Nat) (t:Nd),t.size<N->(∀m∈t.walk,2<=m.kind->m.kind<=5->f m.name=g m.name)->AW f t=AW g t
 | 0,_,h,_=>by omega
 | N+1,.mk k n s l,h,hm=>by
  have G:∀x∈l,AW f x=AW g x:=λx hx=>RU N x (by have:=DJ hx;simp only [mR] at h;omega) (λm Z=>hm m (RT hx Z))
  have M:2<=k->k<=5->f s=g s:=λh1 h2=>hm _ (OK _) h1 h2
  unfold AW;by_cases O:k=1
  . rw [AG O,AG O]
  rw [At O,At O];by_cases U:k=2
  . rw [AG U,AG U,M Ab Ab]
  rw [At U,At U];by_cases V:k=3
  . rw [AG V,AG V,M Ab Ab];rcases l with _|⟨x,_|⟨y,r⟩⟩
    . rfl
    . simp only [G x (i8.2 rfl)]
    . rfl
  rw [At V,At V];by_cases X:k=4
  . rw [AG X,AG X,M Ab Ab]
  rw [At X,At X];by_cases Y:k=5
  . rw [AG Y,AG Y,M Ab Ab]
  rw [At Y,At Y];rcases l with _|⟨x,_|⟨y,_|⟨z,r⟩⟩⟩
  . rfl
  . simp only [G x (i8.2 rfl)]
  . simp only [G x AN,G y AN]
  . rfl
def IE {f g:lB->Option (List Int)} (h:∀s,t.ment s=true->f s=g s):AW f t=AW g t:=
 RU (t.size+1) t Ab λm G M N=>h _ (by
  unfold Nd.ment;rw [kW];exact ⟨m,G,by unfold Nd.isRef;simp [M,N]⟩)
def LG {f g:lB->Option (List Int)} (M:t.kind=2\/t.kind=3) (h:∀s,t.idx s=true->f s=g s):Bf f t=Bf g t:=by
 obtain ⟨k,n,s,l⟩:=t;unfold Bf;by_cases G:(Nd.mk k n s l).kind=2
 . rw [AG G,AG G]
 . rw [At G,At G];have N:k=3:=M.resolve_left G;cases l with
   | nil=>rfl
   | cons x r=>exact IE λs O=>h s (by unfold Nd.idx;simp [N,m7,Nd.kids,O])
def RngL (xs:List Int):Prop:= ∀x∈xs,E4 x
def RngL.get (h:RngL xs) (i:Nat):E4 (xs.getD i 0):=by
 rw [iK];cases e:xs[i]? with
 | none=>simp [E4]
 | some x=>exact h x (jh e)
def X6 {f:lB->Option (List Int)} (G:∀s xs,f s=some xs->xs.length<=1000000/\RngL xs):∀(N:Nat) (t:Nd),t.size<N->t.wf->E4 (AW f t).1
 | 0,_,h,_=>by omega
 | N+1,.mk k n s l,h,M=>by
  have hn:E4 n:=by
   simp only [Nd.wf] at M;exact ⟨M.2.2.1,M.2.2.2.1⟩
  have IH:∀x∈l,E4 (AW f x).1:=λx O=>X6 G N x (by have:=DJ O;simp only [mR] at h;omega) (BD (by simp only [Nd.wf] at M;exact M.2.2.2.2.2.2) x O)
  have z:E4 0:=by simp [E4]
  unfold AW;by_cases U:k=1
  . rw [AG U];exact hn
  rw [At U];by_cases V:k=2
  . rw [AG V];cases e:f s with
    | none=>exact z
    | some c=>exact F5 ((G s c e).2.get 0) z
  rw [At V];by_cases X:k=3
  . rw [AG X];cases e:f s with
    | none=>exact z
    | some c=>
     rcases l with _|⟨x,_|⟨y,r⟩⟩
     . exact z
     . exact F5 z (F5 z ((G s c e).2.get _))
     . exact z
  rw [At X];by_cases Y:k=4
  . rw [AG Y];cases e:f s with
    | none=>exact z
    | some c=>exact F5 z ((G s c e).2.get _)
  rw [At Y];by_cases Z:k=5
  . rw [AG Z];cases e:f s with
    | none=>exact z
    | some c=>
     have:=(G s c e).1;unfold E4;simp only;omega
  rw [At Z];rcases l with _|⟨x,_|⟨y,_|⟨z',r⟩⟩⟩
  . exact z
  . exact F5 z (Of _ _)
  . exact F5 z (F5 z (Og _ (IH x AN)))
  . exact z
structure Good (st:Stp):Prop where
 wf:∃K m,st.WF K m
 rng:∀c,RngL (st.items c)
 tin:st.tin.length<=4096
 tout:st.tout.length<=4096
 tinR:RngL st.tin
 toutR:RngL st.tout
 nodup:∀f∈st.base::st.calls,f.cells.Nodup
section
variable {st' a:Stp} {c d e:Nat} {v:Int} {ys:List Int}
def Good.cur (h:Good st):st.cur.cells.Nodup:=h.nodup _ (IB st)
def Good.look (h:Good st) (s:lB) (xs:List Int) (e:st.look s=some xs):xs.length<=1000000/\RngL xs:=by
 obtain ⟨K,m,G⟩:=h.wf;refine ⟨G.look_le e,?_⟩;unfold Stp.look at e;cases h2:st.cur.cell s with
 | none=>rw [h2] at e;cases e
 | some c=>
  rw [h2] at e;obtain rfl:=iQ e;exact h.rng c
def Good.ev (h:Good st) (G:t.wf):E4 (AW st.look t).1:=X6 h.look (t.size+1) t Ab G
def RngL.set (h:RngL xs) (G:E4 v):RngL (xs.set i v):=λx M=>by
 rcases List.mem_or_eq_of_mem_set M with N|rfl
 . exact h x N
 . exact G
def Nv (h:∀c,RngL (st.items c)) (G:RngL xs):∀d,RngL ((st.all c xs).items d):=λd=>by
 rw [CQ];split
 . exact G
 . exact h d
def Ex (h:∀c,RngL (st.items c)) (G:E4 v):∀d,RngL ((st.put c i v).items d):=Nv h ((h c).set G)
def X8 (a b:Stp):Prop:=a.base=b.base/\a.calls=b.calls/\a.heap.length=b.heap.length
def aD (k x y:Int):E4 (LN k x y):=by
 unfold LN;split
 . exact Kc _
 split
 . exact Kc _
 . exact Uc _ _ _
def Nw (st:Stp) (k:Int) (i:Nat) (r:Int) (c e d:Nat):X8 (st.execT k i r c e d).2 st:=by
 unfold Stp.execT nh mP
 repeat' split
 all_goals refine ⟨rfl,rfl,?_⟩
 all_goals simp [CT,Ga]
def RV (h:Good st) (k:Int) (i:Nat) (r:Int) (c e d:Nat) :
 (∀X,RngL ((st.execT k i r c e d).2.items X))/\(st.execT k i r c e d).2.tin.length<=4096/\(st.execT k i r c e d).2.tout.length<=4096/\RngL (st.execT k i r c e d).2.tin/\RngL (st.execT k i r c e d).2.tout:=by
 have z:E4 0:=by simp [E4]
 have G:(∀X,RngL (st.items X))/\st.tin.length<=4096/\st.tout.length<=4096/\RngL st.tin/\RngL st.tout:=⟨h.rng,h.tin,h.tout,h.tinR,h.toutR⟩;have O:=h.tin;have U:∀c i,E4 ((st.items c).getD i 0):=λc i=>(h.rng c).get i
 unfold Stp.execT;split
 . exact ⟨Ex h.rng (aD _ _ _),G.2⟩
 split
 . split
   . exact G
   . exact ⟨Ex (Ex h.rng (U _ _)) (U _ _),G.2⟩
 split
 . unfold nh;split
   . split
     . exact G
     . refine ⟨Ex (Nv h.rng λx N=>?_) z,G.2⟩;rcases jD.1 N with M|M
       . exact h.rng d x M
       . rw [i8.1 M];exact U _ _
   . split
     . exact G
     . rename_i v V;split
       . exact G
       . exact ⟨Nv (Ex h.rng (h.rng d v (List.mem_of_getLast? V))) (λx N=>h.rng d x (DX N)),G.2⟩
 . unfold mP;split
   . split
     . exact G
     . rename_i v r V;split
       . exact G
       . have M:=h.tinR;rw [V] at M O;exact ⟨Ex h.rng (M v AN),by simp at O ⊢;omega,h.tout,λx N=>M x (by simp only [iU];exact iH N),h.toutR⟩
   split
   . split
     . exact G
     . refine ⟨Ex h.rng z,by simp only [iM];omega,h.tout,λx N=>?_,h.toutR⟩;rcases iU.1 N with rfl|M
       . exact U _ _
       . exact h.tinR x M
   split
   . split
     . exact G
     . refine ⟨Ex h.rng z,h.tin,by simp only [iX,iM,ji];omega,h.tinR,λx N=>?_⟩;rcases jD.1 N with M|M
       . exact h.toutR x M
       . rw [i8.1 M];exact U _ _
   . split
     . exact G
     . rename_i v V;split
       . exact G
       . exact ⟨Ex h.rng (h.toutR v (List.mem_of_getLast? V)),h.tin,by simp only [lq];omega,h.tinR,λx N=>h.toutR x (DX N)⟩
def Jy (st:Stp) (k:Int) (s:lB) (l:List Nd):(st.exec k s l).2=st \/ ∃i r c e d,(st.exec k s l).2=(st.execT k i r c e d).2:=by
 rw [Nu];simp only;generalize (if k=43 then Bf st.look (l.getD 1 (.mk 0 0 [] [])) else if 40<=k/\k<=42 then AW st.look (l.getD 1 (.mk 0 0 [] [])) else (0,0))=r;generalize Bf st.look (l.getD 0 (.mk 0 0 [] []))=a;split
 . exact iG rfl
 split
 . exact iG rfl
 split
 . exact iG rfl
 . exact iH ⟨_,_,_,_,_,rfl⟩
def GD (st:Stp) (k n:Int) (s:lB) (l:List Nd):X8 (st.run1 k n s l).2 st:=by
 unfold Stp.run1;split
 . exact ⟨rfl,rfl,rfl⟩
 split
 . exact ⟨rfl,rfl,rfl⟩
 . rcases Jy st k s l with h|⟨i,r,c,e,d,h⟩<;>rw [h]
   . exact ⟨rfl,rfl,rfl⟩
   . exact Nw ..
def Good.run1 (h:Good st) (k n:Int) (s:lB) (l:List Nd):Good (st.run1 k n s l).2:=by
 obtain ⟨K,m,U⟩:=h.wf;obtain ⟨V,X,Z⟩:=GD st k n s l;have Y:∀f∈(st.run1 k n s l).2.base::(st.run1 k n s l).2.calls,f.cells.Nodup:=by rw [V,X];exact h.nodup
 have G:=U.run1 k n s l;have key:(∀M,RngL ((st.run1 k n s l).2.items M))/\(st.run1 k n s l).2.tin.length<=4096/\(st.run1 k n s l).2.tout.length<=4096/\RngL (st.run1 k n s l).2.tin/\RngL (st.run1 k n s l).2.tout:=by
  have N:(∀M,RngL (st.items M))/\st.tin.length<=4096/\st.tout.length<=4096/\RngL st.tin/\RngL st.tout:=⟨h.rng,h.tin,h.tout,h.tinR,h.toutR⟩
  unfold Stp.run1;split
  . exact N
  split
  . exact N
  . rcases Jy st k s l with O|⟨i,r,c,e,d,O⟩<;>rw [O]
    . exact N
    . exact RV h ..
 exact ⟨⟨K,m,G⟩,key.1,key.2.1,key.2.2.1,key.2.2.2.1,key.2.2.2.2,Y⟩
def OL {l:List Nat} (h:l.Nodup) {i j x:Nat} (G:l[i]? = some x) (M:l[j]? = some x):i=j:=by
 have N:=(List.getElem?_eq_some_iff.1 G).1;exact (List.getElem?_inj N h).1 (G.trans M.symm)
def Nx (N:st.cur.cells.Nodup) {s G:lB} (h:Vis st s c) (O:Vis st G d) (U:G≠s):d≠c:=by
 rintro rfl;obtain ⟨i,V,X⟩:=h;obtain ⟨j,Y,Z⟩:=O;obtain rfl:=OL N X Z;obtain ⟨v,h5,h6⟩:=Dl V;obtain ⟨u,M,h8⟩:=Dl Y;rw [h5] at M;obtain rfl:=iQ M;exact U (h8.symm.trans h6)
def Fk {a b:Stp} (h:a.base=b.base) (G:a.calls=b.calls):a.cur=b.cur:=by unfold Stp.cur;rw [h,G]
def aE {a b:Stp} (G:a.base=b.base) (M:a.calls=b.calls) {s:lB} (h:∀d,Vis b s d->a.items d=b.items d):a.look s=b.look s:=by
 unfold Stp.look Frm.cell;rw [Fk G M];cases e:BR s b.cur.vars with
 | none=>rfl
 | some i=>
  simp only [kU];cases e2:b.cur.cells[i]? with
  | none=>rfl
  | some d=>
   simp only [ky];rw [h d ⟨i,e,e2⟩]
def RW {r:Int} {h:Nat} (G:h≠c) (O:k=43->h≠e) (N:k=44\/k=45->h≠d):(st.execT k i r c e d).2.items h=st.items h:=by
 unfold Stp.execT;split
 . exact Bg G
 split
 . rename_i M;split
   . rfl
   . rw [Bg (O M),Bg G]
 split
 . rename_i M;unfold nh;split
   . split
     . rfl
     . rw [Bg G,Ce (N M)]
   . split
     . rfl
     . split
       . rfl
       . rw [Ce (N M),Bg G]
 . unfold mP
   repeat' split
   all_goals first|rfl|exact Bg G
end
abbrev NL:Nd:=.mk 0 0 [] []
structure Basic (st:Stp) (k:Int) (s:lB) (l:List Nd):Prop where
 kind:40<=k/\k<=49
 px:(l.getD 0 NL).kind=2\/(l.getD 0 NL).kind=3
 vx:∃c,Vis st (l.getD 0 NL).name c/\c<st.heap.length
 py:k=43->((l.getD 1 NL).kind=2\/(l.getD 1 NL).kind=3) /\ ∃e,Vis st (l.getD 1 NL).name e/\e<st.heap.length
 vs:k=44\/k=45 -> ∃d,Vis st s d/\d<st.heap.length/\(st.items d).length<=1000/\(l.getD 0 NL).name≠s
 ix:(l.getD 0 NL).idx (l.getD 0 NL).name=false/\(k=43->(l.getD 0 NL).idx (l.getD 1 NL).name=false)/\(k=44\/k=45->(l.getD 0 NL).idx s=false)
 iy:k=43->(l.getD 1 NL).idx (l.getD 0 NL).name=false/\(l.getD 1 NL).idx (l.getD 1 NL).name=false
 my:40<=k/\k<=42->(l.getD 1 NL).ment (l.getD 0 NL).name=false
def Fz (G:40<=k/\k<=49):(40<=Bb k/\Bb k<=49)/\(Bb k=43↔k=43)/\((Bb k=44\/Bb k=45)↔(k=44\/k=45))/\((40<=Bb k/\Bb k<=42)↔(40<=k/\k<=42)):=by
 have h:k=40\/k=41\/k=42\/k=43\/k=44\/k=45\/k=46\/k=47\/k=48\/k=49:=by omega
 rcases h with rfl|rfl|rfl|rfl|rfl|rfl|rfl|rfl|rfl|rfl<;>decide
section
variable {st':Stp} {n:Int}
def VY (hG:Good st) (O:Basic st k s l) (h:st.exec k s l=(0,st')):st'.exec (Bb k) s l=(0,st):=by
 obtain ⟨c,hc,ah⟩:=O.vx;obtain ⟨e1,e2,e3,e4⟩:=Fz O.kind;rw [Nu] at h;simp only at h;have ai:∃e,st.cellD (l.getD 1 NL).name=e/\(k=43->Vis st (l.getD 1 NL).name e/\e<st.heap.length):=⟨_,rfl,λM=>by
  obtain ⟨-,e,he,aj⟩:=O.py M;rw [he.cellD];exact ⟨he,aj⟩⟩
 obtain ⟨e,ae,hy⟩:=ai;have ak:∃d,st.cellD s=d/\(k=44\/k=45->Vis st s d/\d<st.heap.length/\(st.items d).length<=1000):=⟨_,rfl,λM=>by
  obtain ⟨d,hd,al,V,-⟩:=O.vs M;rw [hd.cellD];exact ⟨hd,al,V⟩⟩
 obtain ⟨d,af,Y⟩:=ak;rw [hc.cellD,ae,af] at h;generalize ha:Bf st.look (l.getD 0 (.mk 0 0 [] []))=a at h;generalize hr:(if k=43 then Bf st.look (l.getD 1 (.mk 0 0 [] [])) else if 40<=k/\k<=42 then AW st.look (l.getD 1 (.mk 0 0 [] [])) else (0,0))=r at h;split at h
 . rename_i N;exact absurd (congrArg Prod.fst h) N
 rename_i am;split at h
 . rename_i N;exact absurd (congrArg Prod.fst h) N
 rename_i an;split at h
 . cases h
 rename_i Z;have hi:a.1.toNat<(st.items c).length:=by omega
 have aa:=Tu O.kind h hi ah (λM=>(hy M).2) (λM=>⟨(Y M).2.1,by
  obtain ⟨-,-,-,-,N⟩:=O.vs M;exact λx=>Nx hG.cur hc (Y M).1 (λy=>N y.symm) x.symm,(Y M).2.2⟩) ⟨hG.tin,hG.tout⟩ ((hG.rng c).get _)
 have ab:st'=(st.execT k a.1.toNat r.1 c e d).2:=by rw [h]
 obtain ⟨s1,s2,s3⟩:X8 st' st:=by rw [ab];exact Nw ..
 have U:∀X,X≠(l.getD 0 NL).name->(k=43->X≠(l.getD 1 NL).name)->(k=44\/k=45->X≠s)->st'.look X=st.look X:=λX V h2 h3=>aE s1 s2 λd' ac=>by
  rw [ab];exact RW (Nx hG.cur hc ac V) (λM=>Nx hG.cur (hy M).1 ac (h2 M)) (λM=>Nx hG.cur (Y M).1 ac (h3 M))
 have ao:Bf st'.look (l.getD 0 (.mk 0 0 [] []))=a:=by
  rw [<-ha];refine LG O.px λX G=>U X ?_ ?_ ?_
  . rintro rfl;rw [O.ix.1] at G;cases G
  . rintro M rfl;rw [O.ix.2.1 M] at G;cases G
  . rintro M rfl;rw [O.ix.2.2 M] at G;cases G
 have ap:(if Bb k=43 then Bf st'.look (l.getD 1 (.mk 0 0 [] [])) else if 40<=Bb k/\Bb k<=42 then AW st'.look (l.getD 1 (.mk 0 0 [] [])) else (0,0))=r:=by
  rw [<-hr];by_cases V:k=43
  . rw [AG V,AG (e2.2 V)];refine LG (O.py V).1 λX G=>U X ?_ ?_ (λM=>by omega)
    . rintro rfl;rw [(O.iy V).1] at G;cases G
    . rintro M rfl;rw [(O.iy V).2] at G;cases G
  . rw [At V,At (λx=>V (e2.1 x))];by_cases h2:40<=k/\k<=42
    . rw [AG h2,AG (e4.2 h2)];refine IE λX G=>U X ?_ (λM=>absurd M V) (λM=>by omega)
      rintro rfl;rw [O.my h2] at G;cases G
    . rw [At h2,At (λx=>h2 (e4.1 x))]
 rw [Nu];simp only;rw [ao,ap];have ad:∀s,st'.cellD s=st.cellD s:=λs=>by unfold Stp.cellD;rw [Fk s1 s2]
 rw [ad,ad,ad,hc.cellD,ae,af,At am,At an];have ag:(st'.items c).length=(st.items c).length:=by
  rw [ab];unfold Stp.execT;split
  . exact F8 ..
  split
  . split
    . rfl
    . rw [F8,F8]
  split
  . rename_i M;have N:c≠d:=by
     obtain ⟨-,-,-,-,N⟩:=O.vs M;exact λx=>Nx hG.cur hc (Y M).1 (λy=>N y.symm) x.symm
    unfold nh;split
    . split
      . rfl
      . rw [F8,Ce N]
    . split
      . rfl
      . split
        . rfl
        . rw [Ce N,F8]
  . unfold mP
    repeat' split
    all_goals first|rfl|exact F8 ..
 rw [ag,At Z];exact aa
def L2 {k n:Int} {s:lB} {l:List Nd} (h:(st.run1 k n s l).1=0):k≠56/\(Nd.mk k n s l).bad st.cur.vars=0/\st.run1 k n s l=st.exec k s l:=by
 unfold Stp.run1 at h ⊢;split at h
 . cases h
 rename_i M;split at h
 . rename_i G;exact absurd h G
 rename_i G;rw [At M,At G];exact ⟨M,Decidable.not_not.1 G,rfl⟩
def Tv {k:Int} (G:40<=k/\k<=49):CI (Bb k)=CI k:=by
 have h:k=40\/k=41\/k=42\/k=43\/k=44\/k=45\/k=46\/k=47\/k=48\/k=49:=by omega
 rcases h with rfl|rfl|rfl|rfl|rfl|rfl|rfl|rfl|rfl|rfl<;>decide
def VZ (O:Good st) (M:Basic st k s l) (h:(st.run1 k n s l).1=0):(st.run1 k n s l).2.run1 (Bb k) n s l=(0,st):=by
 obtain ⟨h1,N,U⟩:=L2 h;obtain ⟨V,X,s3⟩:=GD st k n s l;have e0:=Fz M.kind;have Y:st.exec k s l=(0,(st.run1 k n s l).2):=by
  rw [<-U];exact Prod.ext h rfl
 have Z:=VY O M Y;generalize (st.run1 k n s l).2=st' at *;unfold Stp.run1;have G:(Nd.mk (Bb k) n s l).bad st'.cur.vars=0:=by
  rw [Fk V X];unfold Nd.bad at N ⊢;rw [Tv M.kind];exact N
 rw [At Ab,At (λx=>x G),Z]
def Tw (hG:Good st) (G:Basic st k s l) (h:(st.run1 k n s l).1=0) {a:Stp} (U:Sim ρ a (st.run1 k n s l).2) :
 (a.run1 (Bb k) n s l).1=0/\Sim ρ (a.run1 (Bb k) n s l).2 st:=by
 have M:=VZ hG G h;obtain ⟨V,X,s3⟩:=GD st k n s l;obtain ⟨Y,Z,-⟩:=L2 h;have e0:=Fz G.kind;generalize (st.run1 k n s l).2=st' at *;obtain ⟨h4,h5,h6⟩:=L2 (st:=st') (k:=Bb k) (n:=n) (s:=s) (l:=l) (by rw [M]);rw [h6] at M;have N:∀ {s c},Vis st s c->Vis st' s c:=λ{s c} ⟨i,Y,Z⟩=>⟨i,by rw [Fk V X];exact Y,by rw [Fk V X];exact Z⟩
 obtain ⟨c,hc,-⟩:=G.vx;have hx:=U.exec (Bb k) s l ⟨c,N hc⟩ (λO=>by
  obtain ⟨-,e,he,-⟩:=G.py (e0.2.1.1 O);exact ⟨e,N he⟩) (λO=>by
  obtain ⟨d,hd,-⟩:=G.vs (e0.2.2.1.1 O);exact ⟨d,N hd⟩)
 rw [M] at hx;have e:a.run1 (Bb k) n s l=a.exec (Bb k) s l:=by
  unfold Stp.run1;rw [At h4,U.cur.vars,At (λx=>x h5)]
 rw [e];exact hx
end
def Rv (f f':Rn->Except Int Rn) (v:List VD):Prop:= ∀(st:Stp) (M:Nat) (r':Rn),Good st->st.cur.vars=v->f ⟨st,M⟩ = .ok r' ->
 Good r'.st/\r'.st.base=st.base/\r'.st.calls=st.calls/\st.heap.length<=r'.st.heap.length/\r'.rem<=M /\
 ∀(ρ:Nat->nP) (a:Stp),(∀c d,ρ c d->d<st.heap.length)->Sim ρ a r'.st -> ∃a',Sim ρ a' st /\ ∀F,M-r'.rem<=F->f' ⟨a,F⟩ = .ok ⟨a',F-(M-r'.rem)⟩
section
variable {v:List VD}
def LH (f:Nd->Rn->Except Int Rn):∀(l m:List Nd) (r:Rn),Ei f (l++m) r=(Ei f l r).bind (Ei f m)
 | [],m,r=>rfl
 | t::l,m,r=>by
  simp only [kp,Ei];cases f t r with
  | error e=>rfl
  | ok h=>exact LH f l m h
def Rv.row {f f':Nd->Rn->Except Int Rn}:∀(l:List Nd),(∀t∈l,Rv (f t) (f' t) v)->Rv (Ei f l) (Ei f' l.reverse) v
 | [],_=>λst M Y G N h=>by
  cases h;exact ⟨G,rfl,rfl,iW _,iW _,λρ a _ O=>⟨a,O,λF _=>by simp only [kf,kD];rfl⟩⟩
 | t::l,Z=>λst M Y G N h=>by
  obtain ⟨U,h1,h2⟩:=AO h;obtain ⟨g1,b1,c1,l1,m1,k1⟩:=Z t AN st M U G N h1;obtain ⟨g2,b2,c2,l2,m2,k2⟩:=Rv.row l (λx hx=>Z x (by simp [hx])) U.st U.rem Y g1 (by rw [Fk b1 c1];exact N) h2;refine ⟨g2,b2.trans b1,c2.trans c1,jM l1 l2,jM m2 m1,λρ a hρ O=>?_⟩;obtain ⟨a1,V,e1⟩:=k2 ρ a (λc d h=>jX (hρ c d h) l1) O;obtain ⟨a2,X,e2⟩:=k1 ρ a1 hρ V;refine ⟨a2,X,λF hF=>?_⟩;rw [kI,LH,e1 F Ab];simp only [i6,Ei];rw [e2 _ Ab];simp only [kA,Rn.mk.injEq,true_and];omega
def Rv.block {f f':Bool->Nd->Rn->Except Int Rn} {b:Bool} (h:∀x∈t.kids,Rv (f b x) (f' (!b) x) v):Rv (AH f b t) (AH f' (!b) t) v:=by
 cases b with
 | false=>exact Rv.row t.kids h
 | true=>
  have:=Rv.row (f:=f true) (f':=f' false) t.kids.reverse (λx G=>h x (by simpa using G));rw [mf] at this;exact this
def Fe (st:Stp) {F:Nat} (h:1<=F):A6 ⟨st,F⟩ = .ok ⟨st,F-1⟩:=by
 unfold A6;rw [At (by simp only;omega)]
def K0 (F:Nat) (h:AW st.look t=(x,0)):BF t ⟨st,F⟩ = .ok x:=by
 unfold BF;simp only [h];rfl
def IF {F:Nat} (G:1<=F) (h:AW st.look t=(x,0)):BK t ⟨st,F⟩ = .ok (decide (x≠0),⟨st,F-1⟩):=by
 unfold BK;rw [Fe st G];simp only [i6];rw [K0 _ h]
def Jz {q:Bool} {F:Nat} (G:1<=F) (h:AW st.look t=(x,0)) (M:q=decide (x≠0)):Bj t q ⟨st,F⟩ = .ok ⟨st,F-1⟩:=by
 unfold Bj;rw [IF G h];simp only [i6];rw [At (by rw [M];simp)]
def JA {f:Stp->Int×Stp} (F:Nat) (h:(f st).1=0):Cy f ⟨st,F⟩ = .ok ⟨(f st).2,F⟩:=by
 unfold Cy;rw [At (by simp only;omega)]
def Sim.ev {a:Stp} (h:Sim ρ a b) {x:Int×Int} (e:AW b.look t=x):AW a.look t=x:=by rw [h.look,e]
def Rv.branch {g g':Bool->Rn->Except Int Rn} (x u:Nd) (hg:∀p,Rv (g p) (g' p) v) :
 Rv (λr=>(BK x r).bind λp=>(g p.1 p.2).bind (Bj u p.1)) (λr=>(BK u r).bind λp=>(g' p.1 p.2).bind (Bj x p.1)) v:=λst M r' hG hv h=>by
 obtain ⟨p,h1,h⟩:=AO h;obtain ⟨r1,Z,h3⟩:=AO h;obtain ⟨hM,G,x0,N,O⟩:=Et h1;obtain ⟨p1,p2⟩:=p;simp only at O G Z h3 hM N;subst G;obtain ⟨g1,b1,c1,l1,m1,k1⟩:=hg p1 st (M-1) r1 hG hv Z;obtain ⟨X,rfl,u0,U,Y⟩:=De h3;simp only at X U ⊢;refine ⟨g1,b1,c1,l1,Ab,λρ a hρ hS=>?_⟩;obtain ⟨a1,V,e1⟩:=k1 ρ a hρ hS;refine ⟨a1,V,λF hF=>?_⟩;rw [IF Ab (hS.ev U)];simp only [i6];rw [<-Y,e1 _ Ab];simp only;rw [Jz Ab (V.ev N) O];simp only [kA,Rn.mk.injEq,true_and];omega
def OM (b1 b2:Rn->Except Int Rn) (test entry:Nd) (k:Nat) (r:Rn):Except Int Rn:=
 (BK test r).bind λp=>if p.1 then .ok p.2 else (b2 p.2).bind λr=>(Bj entry false r).bind (Cg b1 b2 test entry k)
def JB (h G:Rn->Except Int Rn) (test entry:Nd) (k:Nat) (r:Rn):Cg h G test entry (k+1) r=(h r).bind (OM h G test entry k):=rfl
def ON {b1 b2 O U:Rn->Except Int Rn} (first G:Nd) (h1:Rv b1 O v) (h2:Rv b2 U v):∀(m:Nat) (st:Stp) (M:Nat) (N:Rn),Good st->st.cur.vars=v->Cg b1 b2 G first m ⟨st,M⟩ = .ok N ->
 Good N.st/\N.st.base=st.base/\N.st.calls=st.calls/\st.heap.length<=N.st.heap.length/\N.rem<M/\(∃x,AW N.st.look G=(x,0)/\decide (x≠0)=true) /\
 ∃j,j+1<=m /\ ∀(ρ:Nat->nP) (a:Stp),(∀c d,ρ c d->d<st.heap.length)->Sim ρ a N.st -> ∃a',Sim ρ a' st /\
  ∀k F,M-N.rem-1<=F->Cg O U first G (k+j+1) ⟨a,F⟩=OM O U first G k ⟨a',F-(M-N.rem-1)⟩
 | 0,st,M,N,_,_,h=>by cases h
 | m+1,st,M,N,hG,hv,h=>by
  rw [JB] at h;obtain ⟨V,e1,h⟩:=AO h;obtain ⟨g1,p1,c1,l1,m1,k1⟩:=h1 st M V hG hv e1;unfold OM at h;obtain ⟨p,e2,h⟩:=AO h;obtain ⟨hM,aa,x0,ab,X⟩:=Et e2;obtain ⟨q,r2⟩:=p;simp only at X aa h;subst aa;cases q with
  | true=>
   rw [AG rfl] at h;cases h;simp only;refine ⟨g1,p1,c1,l1,Ab,⟨x0,ab,X.symm⟩,0,Ab,λρ a hρ hS=>?_⟩;obtain ⟨a1,Y,f1⟩:=k1 ρ a hρ hS;refine ⟨a1,Y,λk F hF=>?_⟩;rw [kK,JB,f1 F Ab];simp only [i6];rw [show F-(M-V.rem)=F-(M-(V.rem-1)-1) by omega]
  | false=>
   rw [At AN] at h;obtain ⟨r3,e3,h⟩:=AO h;obtain ⟨g2,p2,c2,l2,m2,k2⟩:=h2 V.st (V.rem-1) r3 g1 (by rw [Fk p1 c1];exact hv) e3;obtain ⟨r4,e4,h⟩:=AO h;obtain ⟨ag,rfl,y0,ae,af⟩:=De e4;obtain ⟨g3,p3,c3,l3,m3,Z,j,hj,k3⟩:=ON first G h1 h2 m r3.st (r3.rem-1) N g2 (by rw [Fk p2 c2,Fk p1 c1];exact hv) h;refine ⟨g3,p3.trans (p2.trans p1),c3.trans (c2.trans c1),Ab,Ab,Z,j+1,Ab,λρ a hρ hS=>?_⟩;obtain ⟨a3,ac,f3⟩:=k3 ρ a (λc d h=>by have:=hρ c d h;omega) hS;obtain ⟨a2,ad,f2⟩:=k2 ρ a3 (λc d h=>by have:=hρ c d h;omega) ac;obtain ⟨a1,Y,f1⟩:=k1 ρ a2 hρ ad;refine ⟨a1,Y,λk F hF=>?_⟩;rw [show k+(j+1)+1=(k+1)+j+1 by omega,f3 (k+1) F Ab];unfold OM;rw [IF Ab (ac.ev ae)];simp only [i6];rw [<-af,At AN,f2 _ Ab];simp only;rw [Jz Ab (ad.ev ab) X];simp only;rw [JB,f1 _ Ab];simp only [i6];unfold OM;rw [show F-(r3.rem-1-N.rem-1)-1-(V.rem-1-r3.rem)-1-(M-V.rem)=F-(M-N.rem-1) by omega];rfl
def Rv.loop {b1 b2 O:Rn->Except Int Rn} (first G:Nd) (h1:Rv b1 N v) (h2:Rv b2 O v) (m:Nat) :
 Rv (λr=>(Bj first true r).bind (Cg b1 b2 G first m)) (λr=>(Bj G true r).bind (Cg N O first G m)) v:=λst M r' hG hv h=>by
 obtain ⟨r1,e1,h⟩:=AO h;obtain ⟨hM,rfl,x0,U,X⟩:=De e1;simp only at hM U h;obtain ⟨g3,p3,c3,l3,m3,⟨y0,Y,Z⟩,j,hj,k3⟩:=ON first G h1 h2 m st (M-1) r' hG hv h;refine ⟨g3,p3,c3,l3,Ab,λρ a hρ hS=>?_⟩;obtain ⟨a3,V,f3⟩:=k3 ρ a hρ hS;refine ⟨a3,V,λF hF=>?_⟩;show (Bj G true ⟨a,F⟩).bind (Cg N O first G m)=_;rw [Jz Ab (hS.ev Y) Z.symm];simp only [i6];obtain ⟨k,rfl⟩:∃k,m=k+j+1:=⟨m-(j+1),Ab⟩;rw [f3 k _ Ab];unfold OM;rw [IF Ab (V.ev U)];simp only [i6];rw [<-X,AG rfl];simp only [kA,Rn.mk.injEq,true_and];omega
end
def JC {M:List lB} (h:(Ep (Ds l M)).2=0):∀t∈l,∀s∈M,t.idx s=false:=λt N s O=>by
 unfold Ds at h;cases e:l.findSome? λt=>M.find? λs=>t.idx s with
 | some x=>rw [e] at h;cases h
 | none=>
  have U:=List.findSome?_eq_none_iff.1 e t N;have V:=List.find?_eq_none.1 U s O;simpa using V
section
variable {K:List (Int×Int)}
def GE (U:st.WF K m) {x:Nd} (O:x.isPlace=true) (Z:x.bad st.cur.vars=0):(x.kind=2\/x.kind=3)/\(∃c,Vis st x.name c/\c<st.heap.length)/\El st.cur.vars x.name 3≠0:=by
 have V:x.kind=2\/x.kind=3:=by
  simp only [Nd.isPlace,iJ,jI,beq_iff_eq] at O;exact O.1
 have N:∀k,El st.cur.vars x.name k=0->k≠3->El st.cur.vars x.name 3≠0:=λk G M N=>by
  obtain ⟨i,a,h4,h5,h6⟩:=Ti G;obtain ⟨j,b,X,Y,h9⟩:=Ti N;rw [h4] at X;obtain rfl:=iQ X;rw [h5] at Y;obtain rfl:=iQ Y;exact M (h6.symm.trans h9)
 rcases VV O Z with h|h
 . obtain ⟨c,y,G,M,-⟩:=U.vis h;exact ⟨V,⟨c,G,M⟩,N 1 h B9⟩
 . obtain ⟨c,y,G,M,-⟩:=U.vis h;exact ⟨V,⟨c,G,M⟩,N 2 h B9⟩
def Ya (hw:st.WF K m) {k1 n:Int} (ht:(Nd.mk k n s l).isStmt=true) (M:(EO (.mk k n s l)).2=0) (hk:k<50\/55<k) (h1:k1=k\/k1=Bb k) (ac:(Nd.mk k1 n s l).bad st.cur.vars=0):Basic st k1 s l:=by
 obtain ⟨hu,G⟩:=Ko ac;cases B3 ht with
 | upd O X hy=>
  rename_i x y;rw [EO] at M;by_cases ad:k=56
  . rw [AG ad] at M;cases M
  have Y:40<=k/\k<=42:=by omega
  rw [At ad,AG Y] at M;obtain ⟨e1,e2,e3,e4⟩:=Fz (show 40<=k/\k<=49 by omega);have U:40<=k1/\k1<=42:=by
   rcases h1 with rfl|rfl
   . exact Y
   . exact e4.2 Y
  obtain ⟨N,G⟩:=Cn G;obtain ⟨Z,p2,-⟩:=GE hw X N;split at M
  . cases M
  rename_i aa;simp only [jI,not_or,Bool.not_eq_true] at aa;exact ⟨Ab,Z,p2,λh=>by omega,λh=>by omega,⟨aa.1,λh=>by omega,λh=>by omega⟩,λh=>by omega,λ_=>aa.2⟩
 | swap X hy=>
  rename_i x y;have U:k1=43:=by rcases h1 with rfl|rfl<;>decide
  subst U;rw [EO] at M;rw [At B9,At B9,AG rfl] at M;have V:=JC M;obtain ⟨N,G⟩:=Cn G;obtain ⟨af,G⟩:=Cn G;obtain ⟨Z,p2,-⟩:=GE hw X N;obtain ⟨q1,q2,-⟩:=GE hw hy af;exact ⟨B9,Z,p2,λ_=>⟨q1,q2⟩,λh=>by omega,⟨V x AN _ AN,λ_=>V x AN _ AN,λh=>by omega⟩,λ_=>⟨V y AN _ AN,V y AN _ AN⟩,λh=>by omega⟩
 | stack O hn X=>
  rename_i x;have ag:44<=k/\k<=45:=by omega
  obtain ⟨e1,e2,e3,e4⟩:=Fz (show 40<=k/\k<=49 by omega);have U:k1=44\/k1=45:=by
   rcases h1 with rfl|rfl
   . exact O
   . exact e3.2 O
  rw [EO] at M;rw [At Ab,At Ab,At Ab,AG ag] at M;have V:=JC M;obtain ⟨N,G⟩:=Cn G;obtain ⟨Z,p2,p3⟩:=GE hw X N;have ae:CI k1=3:=by rcases U with rfl|rfl<;>decide
  have ab:=hu (by rw [ae];decide);rw [ae] at ab;obtain ⟨d,y,d1,d2,-,d4,d5⟩:=hw.vis ab;refine ⟨Ab,Z,p2,λh=>by omega,λ_=>⟨d,d1,d2,?_,λe=>p3 ?_⟩,⟨V x AN _ AN,λh=>by omega,λ_=>V x AN _ AN⟩,λh=>by omega,λh=>by omega⟩
  . rcases d5 with ⟨h,-⟩|⟨h,-⟩|⟨-,h⟩
    . omega
    . omega
    . exact h
  . have e':x.name=s:=e;rw [e'];exact ab
 | tape O X=>
  rename_i x;obtain ⟨e1,e2,e3,e4⟩:=Fz (show 40<=k/\k<=49 by omega);have U:k1=46\/k1=47\/k1=48\/k1=49:=by
   have:40<=k1/\k1<=49/\(k1=43↔k=43)/\((k1=44\/k1=45)↔(k=44\/k=45))/\((40<=k1/\k1<=42)↔(40<=k/\k<=42)):=by
    rcases h1 with rfl|rfl
    . exact ⟨Ab,Ab,Iff.rfl,Iff.rfl,Iff.rfl⟩
    . exact ⟨e1.1,e1.2,e2,e3,e4⟩
   omega
  rw [EO] at M;rw [At Ab,At Ab,At Ab,At Ab,AG Ab] at M;have V:=JC M;obtain ⟨N,G⟩:=Cn G;obtain ⟨Z,p2,-⟩:=GE hw X N;exact ⟨Ab,Z,p2,λh=>by omega,λh=>by omega,⟨V x AN _ AN,λh=>by omega,λh=>by omega⟩,λh=>by omega,λh=>by omega⟩
 | call O _ _ _=>omega
 | branch O _ _ _ _=>omega
 | local_ _ _ _ _=>omega
 | lstack _ _=>omega
end
def Rv.basic (ps:List PD) (d:Nat) (b:Bool) {n:Int} (U:(Nd.mk k n s l).isStmt=true) (V:(EO (.mk k n s l)).2=0) (G:k<50\/55<k) (v:List VD):Rv (Ax ps (d+1) b (.mk k n s l)) (Ax ps (d+1) (!b) (.mk k n s l)) v:=λst M r' N hv h=>by
 rw [Cp ps d b G] at h;obtain ⟨r1,X,h⟩:=AO h;obtain ⟨Y,rfl⟩:=B7 X;obtain ⟨O,rfl⟩:=Dw h;simp only at O Y ⊢;obtain ⟨K,m,Z⟩:=N.wf;obtain ⟨h1,h2,h3⟩:=L2 O;have hB:=Ya Z U V G (k1:=if b then Bb k else k) (by cases b<;>simp) h2;obtain ⟨s1,s2,s3⟩:=GD st (if b then Bb k else k) n s l;refine ⟨N.run1 ..,s1,s2,Nat.le_of_eq s3.symm,Ab,λρ a hρ hS=>?_⟩;obtain ⟨q1,q2⟩:=Tw N hB O hS;refine ⟨_,q2,λF hF=>?_⟩;rw [Cp ps d (!b) G,Fe a Ab];have e:(if (!b)=true then Bb k else k)=Bb (if b=true then Bb k else k):=by cases b<;>simp [Ec]
 simp only [i6];rw [e,JA _ q1];simp only [kA,Rn.mk.injEq,true_and];omega
section
variable {st' a:Stp} {f g:Frm} {v:List VD}
def setCur_heapR:(st.setCur f).heap=st.heap:=by unfold mV;split<;>rfl
def setCur_tin:(st.setCur f).tin=st.tin:=by unfold mV;split<;>rfl
def setCur_tout:(st.setCur f).tout=st.tout:=by unfold mV;split<;>rfl
def Ey (c:Nat):(st.setCur f).items c=st.items c:=by unfold m6;rw [setCur_heapR]
def GF (h:a.base=b.base) (G:a.calls=b.calls):(a.setCur f).base=(b.setCur f).base/\(a.setCur f).calls=(b.setCur f).calls:=by
 unfold mV;rw [G];split
 . exact ⟨rfl,rfl⟩
 . exact ⟨h,rfl⟩
def FN:(st.setCur f).cur=f:=by
 unfold mV Stp.cur;split
 . rename_i h;simp [h]
 . simp
def Fv:((st.setCur f).setCur g).base=(st.setCur g).base/\((st.setCur f).setCur g).calls=(st.setCur g).calls:=by
 unfold mV;by_cases h:st.calls=[]
 . simp [h]
 . simp [h]
def Gb:(st.setCur st.cur).base=st.base/\(st.setCur st.cur).calls=st.calls:=by
 unfold mV Stp.cur;rcases jF st.calls with h|⟨l,x,h⟩
 . simp [h]
 . simp [h]
def Sim.setCur (h:Sim ρ a b) (O:FrmS ρ f g):Sim ρ (a.setCur f) (b.setCur g):=by
 unfold mV;by_cases N:b.calls=[]
 . rw [AG N,AG (h.nil.2 N)];exact ⟨O,h.nc,h.call,h.tin,h.tout,h.items,h.lt,h.inj⟩
 . rw [At N,At (λx=>N (h.nil.1 x))];refine ⟨h.base,by simp [h.nc],λi f' g' G M=>?_,h.tin,h.tout,h.items,h.lt,h.inj⟩;simp only at G M;have U:=h.nc;rcases i7 i (b.calls.length-1) with V|V
   . rw [iN (by simp;omega),lh,AG Ab] at G;rw [iN (by simp;omega),lh,AG Ab] at M;exact h.call i _ _ G M
   . rw [iY (by simp;omega)] at G M;simp only [lq] at G M;have X:=(List.getElem?_eq_some_iff.1 G).1;simp only [iM,ji] at X;rw [show i-(a.calls.length-1)=0 by omega] at G;rw [show i-(b.calls.length-1)=0 by omega] at M;simp only [ja,iL] at G M;subst G M;exact O
def FrmS.mono {ρ':Nat->nP} (h:FrmS ρ f g) (M:∀c d,d∈g.cells->ρ c d->ρ' c d):FrmS ρ' f g:=
 ⟨h.vars,h.locals,h.len,λi c d N G=>M c d (jh G) (h.cell i c d N G)⟩
def Good.lt (h:Good st) {f:Frm} (M:f∈st.base::st.calls) {c:Nat} (N:c∈f.cells):c<st.heap.length:=by
 obtain ⟨K,m,G⟩:=h.wf;rw [G.len];exact (G.all' f M).lt N
def Good.len (h:Good st):st.cur.vars.length=st.cur.cells.length:=by
 obtain ⟨K,m,G⟩:=h.wf;exact G.cur.len
def RX (h:(st.opens d x).1=0):BR d.name st.cur.vars=none/\(st.opens d x).2={ st.setCur ⟨st.cur.vars++[d],st.cur.cells++[st.heap.length],st.cur.locals+1⟩ with heap:=st.heap++[if d.kind=1 then [x] else []] }:=by
 unfold Stp.opens at h ⊢;split at h
 . cases h
 . rename_i G;rw [At G];refine ⟨?_,rfl⟩;cases e:BR d.name st.cur.vars with
   | none=>rfl
   | some i=>rw [e] at G;exact absurd rfl G
def K1 (x:Int) (h:BR d.name st.cur.vars=none):st.opens d x=(0,{ st.setCur ⟨st.cur.vars++[d],st.cur.cells++[st.heap.length],st.cur.locals+1⟩ with heap:=st.heap++[if d.kind=1 then [x] else []] }):=by
 unfold Stp.opens;rw [h,At AN]
def Stp.plus (st:Stp) (d:VD) (xs:List Int):Stp:={ st.setCur ⟨st.cur.vars++[d],st.cur.cells++[st.heap.length],st.cur.locals+1⟩ with heap:=st.heap++[xs] }
def Kw:(st.plus d xs).cur=⟨st.cur.vars++[d],st.cur.cells++[st.heap.length],st.cur.locals+1⟩:=FN (st:=st)
def FO (c:Nat):(st.plus d xs).items c=if c=st.heap.length then xs else st.items c:=by
 unfold Stp.plus m6;simp only [iK];rcases lk c st.heap.length with h|h|h
 . rw [iN h,At Ab]
 . subst h;simp
 . rw [At Ab,iR (by simp;omega),iR Ab]
def RY:(st.plus d xs).heap.length=st.heap.length+1:=by simp [Stp.plus]
def Good.plus (h:Good st) {d:VD} {x:Int} (M:d.kind=1\/d.kind=3) (O:E4 x) (U:BR d.name st.cur.vars=none):Good (st.plus d (if d.kind=1 then [x] else [])):=by
 obtain ⟨K,m,V⟩:=h.wf;obtain ⟨X,G⟩:=V.opens M x;rw [K1 x U] at G;refine ⟨⟨X,m+1,G⟩,λc=>?_,?_,?_,?_,?_,λf Y=>?_⟩
 . rw [FO];split
   . split
     . intro y N;rw [i8.1 N];exact O
     . intro y N;cases N
   . exact h.rng c
 . show (st.setCur _).tin.length<=4096;rw [setCur_tin];exact h.tin
 . show (st.setCur _).tout.length<=4096;rw [setCur_tout];exact h.tout
 . show RngL (st.setCur _).tin;rw [setCur_tin];exact h.tinR
 . show RngL (st.setCur _).tout;rw [setCur_tout];exact h.toutR
 . rcases M4 (st:=st) Y with rfl|Z
   . refine List.nodup_append.2 ⟨h.cur,AN,λc hc d M e=>?_⟩;have:=h.lt (IB st) hc;rw [i8.1 M] at e;omega
   . exact h.nodup f Z
def OO {h:Nat} (G:st.cur=⟨vs++[d],cs++[h],n+1⟩) (M:vs.length=cs.length) (N:d.name=s) :
 st.closes s x=if d.kind=1/\(st.items h).getD 0 0≠x\/d.kind=3/\0<(st.items h).length then (16,st) else (0,st.setCur ⟨vs,cs,n⟩):=by
 unfold Stp.closes;rw [G];simp only [iX,iM,ji,jC,Nat.add_sub_cancel,iK,lr];rw [iY (iW _),M,iY (iW _)];simp only [kf,ja,kY];rw [At (by rw [N];simp)]
def Holds (d:VD) (x:Int) (xs:List Int):Prop:=xs=if d.kind=1 then [x] else []
def Tx (X:d.kind=1\/d.kind=3) (O:st.cur=⟨vs++[d],cs++[m],n+1⟩) (U:vs.length=cs.length) (V:d.name=s) (h:Holds d x (st.items m)) :
 st.closes s x=(0,st.setCur ⟨vs,cs,n⟩):=by
 rw [OO O U V,At];unfold Holds at h;rw [h];rintro (⟨N,G⟩|⟨N,G⟩)
 . rw [AG N] at G;exact G rfl
 . rw [At Ab] at G;simp at G
def RZ (O:st.cur=⟨vs++[d],cs++[m],n+1⟩) (U:vs.length=cs.length) (V:d.name=s) (Z:d.kind=1\/d.kind=3) (X:d.kind=1->(st.items m).length=1)
 (h:(st.closes s x).1=0):Holds d x (st.items m)/\(st.closes s x).2=st.setCur ⟨vs,cs,n⟩:=by
 rw [OO O U V] at h ⊢;split at h
 . cases h
 rename_i G;rw [At G];refine ⟨?_,rfl⟩;unfold Holds;simp only [not_or,not_and,Decidable.not_not] at G;split
 . rename_i N;obtain ⟨y,Y⟩:=List.length_eq_one_iff.1 (X N);have:=G.1 N;rw [Y] at this ⊢;simp at this;rw [this]
 . exact kv (by have:=G.2 Ab;omega)
def Sim.plus {e:Nat} (h:Sim ρ a b) (hl:b.cur.vars.length=b.cur.cells.length) {d:VD} {xs:List Int} {N:Stp} (X:N.base=(b.setCur ⟨b.cur.vars++[d],b.cur.cells++[e],b.cur.locals+1⟩).base)
 (U:N.calls=(b.setCur ⟨b.cur.vars++[d],b.cur.cells++[e],b.cur.locals+1⟩).calls) (O:N.heap=b.heap) (aa:N.tin=b.tin) (Y:N.tout=b.tout) (he:e<b.heap.length) (hx:b.items e=xs) (hρ:∀c d,ρ c d->d≠e) :
 Sim (λc d=>ρ c d\/(c=a.heap.length/\d=e)) (a.plus d xs) N:=by
 have hf:FrmS (λc d=>ρ c d\/(c=a.heap.length/\d=e)) ⟨a.cur.vars++[d],a.cur.cells++[a.heap.length],a.cur.locals+1⟩ ⟨b.cur.vars++[d],b.cur.cells++[e],b.cur.locals+1⟩:=by
  have Z:=h.cur;refine ⟨by simp [Z.vars],by simp [Z.locals],by simp [Z.len],λi c d' G M=>?_⟩;simp only at G M;have ab:=Z.len;rcases i7 i b.cur.cells.length with hi|hi
  . rw [iN Ab] at G M;exact iG (Z.cell i c d' G M)
  . rw [iY Ab] at G M;have h3:=(List.getElem?_eq_some_iff.1 G).1;simp only [iM,ji] at h3;rw [show i-a.cur.cells.length=0 by omega] at G;rw [show i-b.cur.cells.length=0 by omega] at M;simp only [ja,iL] at G M;exact iH ⟨G.symm,M.symm⟩
 have h0:Sim (λc d=>ρ c d\/(c=a.heap.length/\d=e)) { a with heap:=a.heap++[xs] } b:=by
  refine ⟨h.base.mono λc d _=>iG,h.nc,λi f g G M=>(h.call i f g G M).mono λc d _=>iG,h.tin,h.tout,λc d' V=>?_,λc d' V=>?_,λc d' c' ac G M=>?_⟩
  . have hi:∀c,({ a with heap:=a.heap++[xs] }:Stp).items c=(a.plus d xs).items c:=λc=>rfl
    rw [hi,FO];rcases V with V|⟨rfl,rfl⟩
    . have:=h.lt _ _ V;rw [At Ab,h.items _ _ V]
    . rw [AG rfl,hx]
  . simp only [iX,iM,ji];rcases V with V|⟨rfl,rfl⟩
    . have:=h.lt _ _ V;omega
    . omega
  . rcases G with G|⟨rfl,rfl⟩
    . rcases M with M|⟨rfl,rfl⟩
      . exact h.inj _ _ _ _ G M
      . have:=h.lt _ _ G;have:=hρ _ _ G;constructor<;>intro<;>omega
    . rcases M with M|⟨rfl,rfl⟩
      . have:=h.lt _ _ M;have:=hρ _ _ M;constructor<;>intro<;>omega
      . simp
 have G:=h0.setCur hf;have e2:({ a with heap:=a.heap++[xs] }:Stp).setCur ⟨a.cur.vars++[d],a.cur.cells++[a.heap.length],a.cur.locals+1⟩=a.plus d xs:=by
  unfold Stp.plus mV;by_cases Z:a.calls=[]<;>simp [Z]
 rw [e2] at G;have e3:N=b.setCur ⟨b.cur.vars++[d],b.cur.cells++[e],b.cur.locals+1⟩:=by
  refine Stp.eq_of X U (by rw [aa,setCur_tin]) (by rw [Y,setCur_tout]) (by rw [O,setCur_heapR]) λc=>?_
  rw [Ey];unfold m6;rw [O]
 rw [e3];exact G
def Sim.minus {e:Nat} (hG:Good b) (h:Sim (λc d=>ρ c d\/(c=e/\d=b.heap.length)) a (b.plus d xs)) (hρ:∀c d,ρ c d->d<b.heap.length) :
 ∃cs Y,a.cur=⟨b.cur.vars++[d],cs++[Y],b.cur.locals+1⟩/\b.cur.vars.length=cs.length/\a.items Y=xs/\Sim ρ (a.setCur ⟨b.cur.vars,cs,b.cur.locals⟩) b:=by
 have hc:=h.cur;rw [Kw] at hc;obtain ⟨va,ca,na⟩:∃va ca,∃na,a.cur=⟨va,ca,na⟩:=⟨_,_,_,rfl⟩;obtain ⟨na,M⟩:=na;have V:=hc.vars;have X:=hc.locals;have N:=hc.len;rw [M] at V X N;simp only [iX,iM,ji] at V X N;rcases jF ca with rfl|⟨cs,Y,rfl⟩
 . simp at N
 rw [jU] at *;simp only [iX,iM,ji] at N;have G:=hc.cell;rw [M] at G;simp only at G;have ab:=hG.len;have h0:=G cs.length Y b.heap.length AN (by rw [show cs.length=b.cur.cells.length by omega,iY (iW _)];simp);have hf:FrmS (λc d=>ρ c d\/(c=e/\d=b.heap.length)) ⟨b.cur.vars,cs,b.cur.locals⟩ b.cur:=⟨rfl,rfl,by simp only;omega,λi c d' O Z=>by
  simp only at O;have hi:=(List.getElem?_eq_some_iff.1 O).1;exact G i c d' (by rw [iN hi];exact O) (by rw [iN Ab];exact Z)⟩
 have hS:=h.setCur hf;refine ⟨cs,Y,by rw [M,V,X],Ab,?_,?_⟩
 . have O:=h.items Y b.heap.length h0;rw [O,FO,AG rfl]
 . have hb:((b.plus d xs).setCur b.cur).base=b.base/\((b.plus d xs).setCur b.cur).calls=b.calls:=by
    have e1:=GF (a:=b.plus d xs) (b:=b.setCur ⟨b.cur.vars++[d],b.cur.cells++[b.heap.length],b.cur.locals+1⟩) (f:=b.cur) rfl rfl;have e2:=Fv (st:=b) (f:=⟨b.cur.vars++[d],b.cur.cells++[b.heap.length],b.cur.locals+1⟩) (g:=b.cur);have e3:=Gb (st:=b);exact ⟨e1.1.trans (e2.1.trans e3.1),e1.2.trans (e2.2.trans e3.2)⟩
   have aa:∀ {g:Frm},g∈b.base::b.calls -> ∀c d,d∈g.cells->(ρ c d\/(c=e/\d=b.heap.length))->ρ c d:=λ{g} hg c d hd U=>by
    rcases U with U|⟨-,rfl⟩
    . exact U
    . have:=hG.lt hg hd;omega
   refine ⟨?_,by rw [hS.nc,hb.2],λi f g O Z=>?_,?_,?_,λc d' U=>?_,λc d' U=>?_,λc d' c' ac O Z=>h.inj _ _ _ _ (iG O) (iG Z)⟩
   . have:=hS.base;rw [hb.1] at this;exact this.mono (aa AN)
   . exact (hS.call i f g O (by rw [hb.2];exact Z)).mono (aa (by simp [jh Z]))
   . rw [setCur_tin,h.tin];exact setCur_tin (st:=b)
   . rw [setCur_tout,h.tout];exact setCur_tout (st:=b)
   . rw [Ey,h.items _ _ (iG U),FO,At (by have:=hρ _ _ U;omega)]
   . rw [setCur_heapR];exact ⟨(h.lt _ _ (iG U)).1,hρ _ _ U⟩
end
section
variable {st' a:Stp} {f g:Frm} {v:List VD}
def OP {h:Nat} (G:a.cur=⟨vs++[d],cs++[h],n⟩) (M:b.cur=⟨vs,cs,m⟩) (U:vs.length=cs.length) (N:s≠d.name) (O:∀c∈cs,a.items c=b.items c):a.look s=b.look s:=by
 unfold Stp.look Frm.cell;rw [G,M];simp only;rw [Js,At (λe=>N e.symm)];cases e:BR s vs with
 | none=>rfl
 | some i=>
  have:=DY e;simp only [kU];rw [iN Ab,iE (show i<cs.length by omega)];simp only [ky];rw [O _ (iS _)]
def V0:((b.plus d xs).setCur b.cur).base=b.base/\((b.plus d xs).setCur b.cur).calls=b.calls:=by
 have h:=GF (a:=b.plus d xs) (b:=b.setCur ⟨b.cur.vars++[d],b.cur.cells++[b.heap.length],b.cur.locals+1⟩) (f:=b.cur) rfl rfl;have G:=Fv (st:=b) (f:=⟨b.cur.vars++[d],b.cur.cells++[b.heap.length],b.cur.locals+1⟩) (g:=b.cur);have M:=Gb (st:=b);exact ⟨h.1.trans (G.1.trans M.1),h.2.trans (G.2.trans M.2)⟩
def Yb {blk X:Rn->Except Int Rn} (hd:d.kind=1\/d.kind=3) (hn:d.name=s) (h:Rv blk X (v++[d])) {u:Int} {N:Rn} (hG:Good st) (hv:st.cur.vars=v) (hx:E4 x) (ho:(st.opens d x).1=0)
 (hb:blk ⟨(st.opens d x).2,i⟩ = .ok N) (hc:(N.st.closes s u).1=0) :
 BR s v=none/\Good (N.st.closes s u).2/\(N.st.closes s u).2.base=st.base/\(N.st.closes s u).2.calls=st.calls/\st.heap.length<=(N.st.closes s u).2.heap.length/\N.rem<=i/\(∀V,V≠s->(N.st.closes s u).2.look V=N.st.look V) /\
 ∀(ρ:Nat->nP) (a:Stp),(∀c d,ρ c d->d<st.heap.length)->Sim ρ a (N.st.closes s u).2->(a.opens d u).1=0 /\ ∃a',(∀F,i-N.rem<=F->X ⟨(a.opens d u).2,F⟩ = .ok ⟨a',F-(i-N.rem)⟩)/\(∀V,V≠s->a'.look V=st.look V)/\(a'.closes s x).1=0/\Sim ρ (a'.closes s x).2 st:=by
 obtain ⟨h0,-⟩:=RX ho;rw [K1 x h0] at hb;have ae:=hG.plus hd hx h0;have O:=hG.len;obtain ⟨Y,b1,c1,l1,m1,k1⟩:=h _ i N ae (by rw [Kw,hv]) hb;have U:N.st.cur=⟨st.cur.vars++[d],st.cur.cells++[st.heap.length],st.cur.locals+1⟩:=(Fk b1 c1).trans Kw;have h1:d.kind=1->(N.st.items st.heap.length).length=1:=λhk=>by
  obtain ⟨K,m,hw⟩:=Y.wf;have hf:=hw.cur;rw [U] at hf;have h2:=hf.kind st.cur.vars.length d st.heap.length AN (by rw [O];simp);rcases hw.cell _ _ h2 with ⟨-,h⟩|⟨h,-⟩|⟨h,-⟩
  . exact h
  . simp only at h;omega
  . simp only at h;omega
 obtain ⟨hH,af⟩:=RZ U O hn hd h1 hc;have G:(N.st.closes s u).2=N.st.setCur st.cur:=af;have e0:(N.st.setCur st.cur).base=st.base/\(N.st.setCur st.cur).calls=st.calls:=by
  have e1:=GF (f:=st.cur) b1 c1;have e2:=V0 (b:=st) (d:=d) (xs:=if d.kind=1 then [x] else []);exact ⟨e1.1.trans e2.1,e1.2.trans e2.2⟩
 rw [RY] at l1;have Z:∀V,V≠s->(N.st.setCur st.cur).look V=N.st.look V:=λV aa=>
  (OP U (FN (f:=st.cur)) O (by rw [hn];exact aa) (λc _=>(Ey c).symm)).symm
 refine ⟨by rw [<-hv,<-hn];exact h0,?_,by rw [G];exact e0.1,by rw [G];exact e0.2,by rw [G,setCur_heapR];omega,m1,by rw [G];exact Z,λρ a hρ hS=>?_⟩
 . obtain ⟨K,m,hw⟩:=Y.wf;have ag:=hw.closes s u;refine ⟨⟨K,m,ag⟩,λc=>?_,?_,?_,?_,?_,?_⟩
   . rw [G,Ey];exact Y.rng c
   . rw [G,setCur_tin];exact Y.tin
   . rw [G,setCur_tout];exact Y.tout
   . rw [G,setCur_tin];exact Y.tinR
   . rw [G,setCur_tout];exact Y.toutR
   . rw [G,e0.1,e0.2];exact hG.nodup
 . rw [G] at hS;have ah:a.cur.vars=st.cur.vars:=by rw [hS.cur.vars,FN]
   have ai:BR d.name a.cur.vars=none:=by rw [ah];exact h0
   rw [K1 u ai];refine ⟨rfl,?_⟩;have aj:Sim (λc d'=>ρ c d'\/(c=a.heap.length/\d'=st.heap.length)) (a.plus d (if d.kind=1 then [u] else [])) N.st:=by
    have ab:(N.st.setCur st.cur).cur=st.cur:=FN;have ht:=Fv (st:=N.st) (f:=st.cur) (g:=N.st.cur);have hs:=Gb (st:=N.st);refine Sim.plus hS (by rw [ab];exact O) ?_ ?_ setCur_heapR.symm setCur_tin.symm setCur_tout.symm (by rw [setCur_heapR];omega) (by rw [Ey];exact hH) (λc d' hr=>by have:=hρ c d' hr;omega)
    . rw [ab,<-U,ht.1,hs.1]
    . rw [ab,<-U,ht.2,hs.2]
   obtain ⟨a',ac,e1⟩:=k1 _ _ (λc d' hr=>by
    rw [RY];rcases hr with hr|⟨-,rfl⟩
    . have:=hρ _ _ hr;omega
    . omega) aj
   obtain ⟨cs,c0,q1,q2,q3,q4⟩:=ac.minus hG hρ;have ad:=Tx (x:=x) hd q1 q2 hn q3;refine ⟨a',e1,λV aa=>?_,by rw [ad],by rw [ad];exact q4⟩;rw [ac.look];refine OP Kw rfl O (by rw [hn];exact aa) (λc hc=>?_);rw [FO,At];have:=hG.lt (IB st) hc;omega
def Rv.local_ {blk U:Rn->Except Int Rn} {first N:Nd} (h:Rv blk U (v++[⟨s,1,0⟩])) (w1:first.wf) (hm:BR s v=none->first.ment s=false/\N.ment s=false) :
 Rv (λr=>(A6 r).bind λr=>(BF first r).bind λx=>(Cy (·.opens ⟨s,1,0⟩ x) r).bind λr=>(blk r).bind λr=>(A6 r).bind λr=>(BF N r).bind λx=>Cy (·.closes s x) r)
  (λr=>(A6 r).bind λr=>(BF N r).bind λx=>(Cy (·.opens ⟨s,1,0⟩ x) r).bind λr=>(U r).bind λr=>(A6 r).bind λr=>(BF first r).bind λx=>Cy (·.closes s x) r) v:=λst M r' hG hv G=>by
 obtain ⟨q1,h1,G⟩:=AO G;obtain ⟨hM,rfl⟩:=B7 h1;obtain ⟨x,h2,G⟩:=AO G;obtain ⟨q3,h3,G⟩:=AO G;obtain ⟨ho,rfl⟩:=Dw h3;obtain ⟨r1,h4,G⟩:=AO G;obtain ⟨q5,h5,G⟩:=AO G;obtain ⟨V,rfl⟩:=B7 h5;obtain ⟨u,h6,G⟩:=AO G;obtain ⟨hc,rfl⟩:=Dw G;have X:=M0 h2;have hu:=M0 h6;simp only at X hu ho hc h4 hM V ⊢;have Y:E4 x:=by
  have:=hG.ev w1;rw [X] at this;exact this
 obtain ⟨n1,n2,n3,n4,n5,n6,n7,n8⟩:=Yb (iG rfl) rfl h hG hv Y ho h4 hc;obtain ⟨m1,m2⟩:=hm n1;refine ⟨n2,n3,n4,n5,Ab,λρ a hρ hS=>?_⟩;obtain ⟨p1,a',p2,p3,p4,p5⟩:=n8 ρ a hρ hS;refine ⟨_,p5,λF hF=>?_⟩;show (A6 ⟨a,F⟩).bind _=_;rw [Fe a Ab];simp only [i6];have Z:AW a.look N=(u,0):=by
  rw [hS.look,<-hu];refine IE λs' O=>n7 s' ?_
  rintro rfl;rw [m2] at O;cases O
 have aa:AW a'.look first=(x,0):=by
  rw [<-X];refine IE λs' O=>p3 s' ?_
  rintro rfl;rw [m1] at O;cases O
 rw [K0 _ Z];simp only;rw [JA _ p1];simp only;rw [p2 _ Ab];simp only;rw [Fe a' Ab];simp only;rw [K0 _ aa];simp only;rw [JA _ p4];simp only [kA,Rn.mk.injEq,true_and];omega
def Rv.lstack {blk:Rn->Except Int Rn} (h:Rv blk N (v++[⟨s,3,0⟩])) :
 Rv (λr=>(A6 r).bind λr=>(Cy (·.opens ⟨s,3,0⟩ 0) r).bind λr=>(blk r).bind λr=>(A6 r).bind (Cy (·.closes s 0)))
  (λr=>(A6 r).bind λr=>(Cy (·.opens ⟨s,3,0⟩ 0) r).bind λr=>(N r).bind λr=>(A6 r).bind (Cy (·.closes s 0))) v:=λst M r' Y Z G=>by
 obtain ⟨q1,h1,G⟩:=AO G;obtain ⟨hM,rfl⟩:=B7 h1;obtain ⟨q3,h3,G⟩:=AO G;obtain ⟨U,rfl⟩:=Dw h3;obtain ⟨r1,V,G⟩:=AO G;obtain ⟨q5,h5,G⟩:=AO G;obtain ⟨O,rfl⟩:=B7 h5;obtain ⟨X,rfl⟩:=Dw G;simp only at U X V hM O ⊢;obtain ⟨n1,n2,n3,n4,n5,n6,n7,n8⟩:=Yb (iH rfl) rfl h Y Z (by simp [E4]) U V X;refine ⟨n2,n3,n4,n5,Ab,λρ a hρ hS=>?_⟩;obtain ⟨p1,a',p2,p3,p4,p5⟩:=n8 ρ a hρ hS;refine ⟨_,p5,λF hF=>?_⟩;show (A6 ⟨a,F⟩).bind _=_;rw [Fe a Ab];simp only [i6];rw [JA _ p1];simp only;rw [p2 _ Ab];simp only;rw [Fe a' Ab];simp only;rw [JA _ p4];simp only [kA,Rn.mk.injEq,true_and];omega
def OQ (O:FrmS ρ f g) (X:g.vars.length=g.cells.length):∀(ps:List VD) (G:List lB),(BS f ps G).1=(BS g ps G).1/\((BS g ps G).1=0->(BS f ps G).2.length=(BS g ps G).2.length /\
 ∀(i c d:Nat),(BS f ps G).2[i]? = some c->(BS g ps G).2[i]? = some d->ρ c d)
 | [],_=>by simp [BS]
 | _::_,[]=>by simp [BS]
 | v::r,s::q=>by
  obtain ⟨Y,Z⟩:=OQ O X r q;unfold BS;rw [O.vars];cases e:BR s g.vars with
  | none=>simp
  | some j=>
   simp only;by_cases V:(g.vars.getD j ⟨[],0,0⟩).kind≠v.kind\/(g.vars.getD j ⟨[],0,0⟩).len≠v.len
   . simp only [AG V];exact ⟨trivial,λh=>by cases h⟩
   . simp only [At V];refine ⟨Y,λh0=>?_⟩;obtain ⟨i3,i4⟩:=Z h0;refine ⟨by simp [i3],λi c d M N=>?_⟩;cases i with
     | zero=>
      have hj:=DY e;have U:j<f.cells.length:=by rw [O.len];omega
      simp only [ja,iL,iK] at M N;rw [iE U] at M;rw [iE (show j<g.cells.length by omega)] at N;simp only [kY] at M N;rw [<-M,<-N];exact O.cell j _ _ (iE _) (iE _)
     | succ i=>exact i4 i c d (by simpa using M) (by simpa using N)
def OR {c:Nat}:∀ {ps:List VD} {G:List lB},g.vars.length=g.cells.length->c∈(BS g ps G).2 -> ∃s∈G,∃j:Nat,BR s g.vars=some j/\g.cells[j]? = some c
 | [],_,_,h=>by simp [BS] at h
 | _::_,[],_,h=>by simp [BS] at h
 | v::r,s::q,M,h=>by
  unfold BS at h;cases e:BR s g.vars with
  | none=>rw [e] at h;cases h
  | some j=>
   rw [e] at h;simp only at h;split at h
   . cases h
   . rcases iU.1 h with rfl|h
     . have V:=DY e;refine ⟨s,AN,j,e,?_⟩;rw [iK,iE (show j<g.cells.length by omega)];rfl
     . obtain ⟨N,O,U⟩:=OR M h;exact ⟨N,by simp [O],U⟩
def LJ (G:g.cells.Nodup) (M:g.vars.length=g.cells.length):∀(ps:List VD) (N:List lB),N.Nodup->(BS g ps N).2.Nodup
 | [],_,_=>by simp [BS]
 | _::_,[],_=>by simp [BS]
 | v::r,s::q,h=>by
  unfold BS;cases e:BR s g.vars with
  | none=>simp
  | some j=>
   simp only;split
   . simp
   . rw [List.nodup_cons] at h;refine List.nodup_cons.2 ⟨λU=>?_,LJ G M r q h.2⟩;obtain ⟨s',V,j',X,Y⟩:=OR M U;have hj:=DY e;have Z:g.cells[j]? = some (g.cells.getD j 0):=by
      rw [iK,iE (show j<g.cells.length by omega)];rfl
     obtain rfl:=OL G Z Y;obtain ⟨x,h5,h6⟩:=Dl e;obtain ⟨y,O,h8⟩:=Dl X;rw [h5] at O;obtain rfl:=iQ O;exact h.1 (by rw [<-h6,h8];exact V)
def OS:∀(l acc:List Nd),LO acc l=none->(l.map mZ).Nodup /\ ∀u∈acc,∀t∈l,u.name≠t.name
 | [],_,_=>⟨AN,λ_ _ _ h=>by cases h⟩
 | t::r,acc,h=>by
  unfold LO at h;split at h
  . cases h
  . rename_i O;obtain ⟨U,N⟩:=OS r (acc++[t]) h;have V:∀u∈acc,u.name≠t.name:=λu M e=>O (kW.2 ⟨u,M,by simp [e]⟩)
    refine ⟨?_,λu M x G=>?_⟩
    . rw [jo,List.nodup_cons];refine ⟨λX=>?_,U⟩;obtain ⟨x,G,e⟩:=List.mem_map.1 X;exact N t AN x G e.symm
    . rcases iU.1 G with rfl|G
      . exact V u M
      . exact N u (by simp [M]) x G
def Sim.push (h:Sim ρ a b) (N:FrmS ρ f g):Sim ρ { a with calls:=a.calls++[f] } { b with calls:=b.calls++[g] }:=by
 refine ⟨h.base,by simp [h.nc],λi f' g' G M=>?_,h.tin,h.tout,h.items,h.lt,h.inj⟩;simp only at G M;have O:=h.nc;rcases i7 i b.calls.length with U|U
 . rw [iN Ab] at G M;exact h.call i _ _ G M
 . rw [iY Ab] at G M;have V:=(List.getElem?_eq_some_iff.1 G).1;simp only [iM,ji] at V;rw [show i-a.calls.length=0 by omega] at G;rw [show i-b.calls.length=0 by omega] at M;simp only [ja,iL] at G M;subst G M;exact N
def Sim.pop (h:Sim ρ a { b with calls:=b.calls++[g] }):a.calls≠[]/\FrmS ρ a.cur g/\Sim ρ { a with calls:=a.calls.dropLast } b:=by
 have G:=h.nc;simp only [iX,iM,ji] at G;have O:=h.cur;have M:({ b with calls:=b.calls++[g] }:Stp).cur=g:=by unfold Stp.cur;simp
 rw [M] at O;refine ⟨λe=>by rw [e] at G;simp at G,O,h.base,by simp;omega,λi f' g' N U=>?_,h.tin,h.tout,h.items,h.lt,h.inj⟩;simp only at N;have V:=(List.getElem?_eq_some_iff.1 U).1;rw [lh,AG Ab] at N;exact h.call i f' g' N (by simp only;rw [iN V];exact U)
def Rv.call {blk Y:Rn->Except Int Rn} {ps:List VD} {V:List lB} (h:Rv blk Y ps) (hq:V.Nodup) :
 Rv (λr=>(A6 r).bind λr=>(Cy (·.enters ps V) r).bind λr=>(blk r).bind λr=>(A6 r).bind (Cy (·.leaves)))
  (λr=>(A6 r).bind λr=>(Cy (·.enters ps V) r).bind λr=>(Y r).bind λr=>(A6 r).bind (Cy (·.leaves))) v:=λst M r' X hv G=>by
 obtain ⟨q1,h1,G⟩:=AO G;obtain ⟨hM,rfl⟩:=B7 h1;obtain ⟨q3,h3,G⟩:=AO G;obtain ⟨Z,rfl⟩:=Dw h3;obtain ⟨O,h4,G⟩:=AO G;obtain ⟨q5,h5,G⟩:=AO G;obtain ⟨ag,rfl⟩:=B7 h5;obtain ⟨hc,rfl⟩:=Dw G;simp only at Z hc h4 hM ag ⊢;have aa:=X.len;obtain ⟨K,m,hw⟩:=X.wf;unfold nr at Z h4;split at Z
 . cases Z
 rename_i c1;rw [At c1] at h4;split at Z
 . rename_i c2;exact absurd Z c2
 rename_i c2;rw [At c2] at h4;split at Z
 . cases Z
 rename_i c3;rw [At c3] at h4;have ah:Good { st with calls:=st.calls++[⟨ps,(BS st.cur ps V).2,0⟩] }:=by
  have ai:st.WF K (max m ps.length):=⟨hw.len,hw.base,hw.calls,hw.cell,hw.nc,λf U=>jM (hw.vb f U) (Nat.le_max_left _ _)⟩;have ab:=ai.enters (ps:=ps) (Nat.le_max_right _ _) V;unfold nr at ab;rw [At c1,At c2,At c3] at ab;refine ⟨⟨K,_,ab⟩,X.rng,X.tin,X.tout,X.tinR,X.toutR,λf U=>?_⟩;rcases iU.1 U with U|U
  . exact X.nodup f (by simp only at U;rw [U];simp)
  . rcases jD.1 U with U|U
    . exact X.nodup f (by simp [U])
    . rw [i8.1 U];exact LJ X.cur aa ps V hq
 obtain ⟨g1,b1,k1,l1,m1,j1⟩:=h _ _ O ah (by unfold Stp.cur;simp) h4;simp only at b1 k1 l1;have c4:¬(O.st.calls=[]\/0<O.st.cur.locals):=λc4=>by
  unfold nj at hc;rw [AG c4] at hc;cases hc
 have aj:O.st.leaves=(0,{ O.st with calls:=O.st.calls.dropLast }):=by
  unfold nj;rw [At c4]
 rw [aj];simp only;have N:O.st.calls.dropLast=st.calls:=by rw [k1];simp
 refine ⟨?_,b1,N,l1,Ab,λρ a hρ hS=>?_⟩
 . obtain ⟨K',m',ak⟩:=g1.wf;have ac:=ak.leaves;unfold nj at ac;rw [At c4] at ac;refine ⟨⟨K',m',ac⟩,g1.rng,g1.tin,g1.tout,g1.tinR,g1.toutR,λf U=>?_⟩;simp only [b1,N] at U;exact X.nodup f U
 . have al:({ O.st with calls:=O.st.calls.dropLast }:Stp).cur=st.cur:=Fk b1 N;have ad:=hS.cur;rw [al] at ad;obtain ⟨s1,s2⟩:=OQ ad aa ps V;obtain ⟨s3,s4⟩:=s2 (Decidable.not_not.1 c2);have ae:=hS.nc;simp only [N] at ae;have he:a.enters ps V=(0,{ a with calls:=a.calls++[⟨ps,(BS a.cur ps V).2,0⟩] }):=by
    unfold nr;rw [At c1,At (by rw [s1];exact c2),At (by rw [ae];exact c3)]
   have af:=hS.push (f:=⟨ps,(BS a.cur ps V).2,0⟩) (g:=⟨ps,(BS st.cur ps V).2,0⟩) ⟨rfl,rfl,s3,s4⟩;have er:({ ({ O.st with calls:=O.st.calls.dropLast }:Stp) with calls:=({ O.st with calls:=O.st.calls.dropLast }:Stp).calls++[⟨ps,(BS st.cur ps V).2,0⟩] }:Stp)=O.st:=by
    refine Stp.eq_of rfl ?_ rfl rfl rfl (λ_=>rfl);show O.st.calls.dropLast++[_]=O.st.calls;rw [N,k1]
   rw [er] at af;obtain ⟨a1,am,e1⟩:=j1 ρ _ hρ af;obtain ⟨t1,t2,t3⟩:=am.pop;have hl:a1.leaves=(0,{ a1 with calls:=a1.calls.dropLast }):=by
    unfold nj;rw [At];rintro (h|h)
    . exact t1 h
    . rw [t2.locals] at h;simp at h
   refine ⟨_,t3,λF hF=>?_⟩;show (A6 ⟨a,F⟩).bind _=_;rw [Fe a Ab];simp only [i6];rw [JA _ (by rw [he]),he];simp only;rw [e1 _ Ab];simp only;rw [Fe a1 Ab];simp only;rw [JA _ (by rw [hl]),hl];simp only [kA,Rn.mk.injEq,true_and];omega
end
def R0 {ps:List PD} {v:List VD}:∀(N:Nat) (t:Nd),t.size<N->t.isExpr=true->t.flt ps v=0 -> ∀m∈t.walk,2<=m.kind->m.kind<=5->Eb v m.name≠none
 | 0,_,h,_,_,_,_,_,_=>by omega
 | N+1,.mk k n s l,h,Y,O,m,M,Z,h5=>by
  have hk:=Gq Y;simp only [m7] at hk;rw [Fy Ab Ab Ab Ab,jt] at O;simp only [Nd.walk,iU] at M;rcases M with rfl|M
  . have G:=Ns O.1;simp only [m7,mZ] at Z h5 ⊢;intro hn;unfold CH El at G;rw [hn] at G;by_cases U:k=2
    . rw [AG U] at G;cases G
    by_cases c3:k=3
    . rw [At U,AG c3] at G;cases G
    . rw [At U,At c3,AG Ab] at G;cases G
  . obtain ⟨x,V,X⟩:=Ia M;simp only [mR] at h;exact R0 N x (by have:=DJ V;omega) ((Iz Y).2.1 x V) (Eu O.2 x V) m X Z h5
def IG {v:List VD} (G:t.isExpr=true) (M:t.flt ps v=0) (N:BR s v=none):t.ment s=false:=by
 cases e:t.ment s with
 | false=>rfl
 | true=>
  unfold Nd.ment at e;obtain ⟨m,O,h⟩:=kW.1 e;unfold Nd.isRef at h;simp only [iJ,decide_eq_true_eq] at h;have:=R0 (t.size+1) t Ab G M m O h.1.1 h.1.2;rw [h.2,Jr,N] at this;exact absurd rfl this
section
variable (ps:List PD) (d:Nat) (b:Bool) (n:Int) (s:lB) (l:List Nd)
def Yc (r:Rn):Ax ps (d+1) b (.mk 52 n s l) r=(BK (if b then Bu l (l.length-1) else Bu l 0) r).bind λp=>(AH (Ax ps d) b (if p.1 then Bu l 1 else Bu l 2) p.2).bind (Bj (if b then Bu l 0 else Bu l (l.length-1)) p.1):=by
 conv=>lhs;unfold Ax
 rw [AG rfl]
def Ty (r:Rn):Ax ps (d+1) b (.mk 53 n s l) r=(Bj (if b then Bu l (l.length-1) else Bu l 0) true r).bind (Cg (AH (Ax ps d) b (Bu l 1)) (AH (Ax ps d) b (Bu l 2)) (if b then Bu l 0 else Bu l (l.length-1)) (if b then Bu l (l.length-1) else Bu l 0) d):=by
 conv=>lhs;unfold Ax
 rw [At B9,AG rfl]
def R1 (r:Rn):Ax ps (d+1) b (.mk 54 n s l) r=(A6 r).bind λr=>(BF (if b then Bu l (l.length-1) else Bu l 0) r).bind λv=>(Cy (·.opens ⟨s,1,0⟩ v) r).bind λr=>(AH (Ax ps d) b (Bu l 1) r).bind λr=>
 (A6 r).bind λr=>(BF (if b then Bu l 0 else Bu l (l.length-1)) r).bind λv=>Cy (·.closes s v) r:=by
 conv=>lhs;unfold Ax
 rw [At B9,At B9,AG rfl]
def P0 (r:Rn):Ax ps (d+1) b (.mk 55 n s l) r=(A6 r).bind λr=>(Cy (·.opens ⟨s,3,0⟩ 0) r).bind λr=>(AH (Ax ps d) b (Bu l 0) r).bind λr=>(A6 r).bind (Cy (·.closes s 0)):=by
 conv=>lhs;unfold Ax
 rw [At B9,At B9,At B9,AG rfl]
end
structure Acc (ps:List PD) (v:List VD) (t:Nd):Prop where
 wf:t.wf
 flt:t.flt ps v=0
 rej:∀m∈t.walk,(EO m).2=0
def Acc.kid {v:List VD} {n:Int} (h:Acc ps v (.mk k n s l)) {x:Nd} (G:x∈l) (N:x.flt ps vs=0):Acc ps vs x:=
 ⟨BD (by have:=h.wf;simp only [Nd.wf] at this;exact this.2.2.2.2.2.2) x G,N,λm O=>h.rej m (RT G O)⟩
def Uv {ps:List PD} (aa:∀p∈ps,p.body.isBlock=true/\Acc ps p.params p.body):∀(d:Nat) (b:Bool) (t:Nd) (v:List VD),t.isStmt=true->Acc ps v t->Rv (Ax ps d b t) (Ax ps d (!b) t) v
 | 0,b,t,v,_,_=>λst M r' hG hv h=>by
  unfold Ax at h;cases h
 | d+1,b,t,v,ht,O=>by
  have Y:∀ {x:Nd} {v:List VD} (b:Bool),x.isBlock=true->Acc ps v x->Rv (AH (Ax ps d) b x) (AH (Ax ps d) (!b) x) v:=λ{x v} b V O=>by
   obtain ⟨e,X⟩:=Jv V;refine Rv.block λy U=>Uv aa d b y v (X y U) ?_
   have N:=O.flt;rw [e,Fy B9 B9 B9 B9,jt] at N;rw [e] at O;exact O.kid U (Eu N.2 y U)
  have N:=O.flt;have Z:=O.rej _ (OK _);cases B3 ht with
  | upd X V U=>exact Rv.basic ps d b ht Z Ab v
  | swap V U=>exact Rv.basic ps d b ht Z Ab v
  | stack X hn V=>exact Rv.basic ps d b ht Z Ab v
  | tape X V=>exact Rv.basic ps d b ht Z Ab v
  | call X hn hl hv=>
   rename_i k s l;rw [Nd.flt,AG X,jt] at N;have h1:=Ns N.1;unfold CH Qn at h1;rw [At Ab,At Ab,At Ab,At Ab,AG X] at h1;have ab:(Ep (LO [] l)).2=0:=by
    rw [EO] at Z;rw [At Ab,At Ab,At Ab,At Ab,At Ab,AG Ab] at Z;exact Z
   have ac:(l.map mZ).Nodup:=by
    cases e:LO [] l with
    | none=>exact (OS l [] e).1
    | some x=>rw [e] at ab;cases ab
   cases hp:Cf ps s with
   | none=>rw [hp] at h1;cases h1
   | some i=>
    have hi:i<ps.length:=by
     unfold Cf at hp;exact (List.findIdx?_eq_some_iff_findIdx_eq.1 hp).1
    have ad:ps.getD ((Cf ps s).getD 0) ⟨[],[],.mk 0 0 [] []⟩=ps[i]:=by
     rw [hp];simp [iK,iE hi]
    obtain ⟨q1,q2⟩:=aa ps[i] (iS hi);have hR:=Rv.call (v:=v) (Y (b != decide (k=51)) q1 q2) ac;have G:Ax ps (d+1) b (.mk k 0 s l)=_:=funext (ET ps d b (n:=0) (s:=s) (l:=l) X);have e2:Ax ps (d+1) (!b) (.mk k 0 s l)=_:=funext (ET ps d (!b) (n:=0) (s:=s) (l:=l) X);rw [G,e2,ad,dC];exact hR
  | branch X V U hz hu=>
   rename_i k x y z u;rw [Fy Ab Ab Ab Ab,jt] at N;have ay:=O.kid (x:=y) AN (Eu N.2 y AN);have az:=O.kid (x:=z) AN (Eu N.2 z AN);rcases X with rfl|rfl
   . have hg:∀b p:Bool,Rv (λr=>AH (Ax ps d) b (if p then y else z) r) (λr=>AH (Ax ps d) (!b) (if p then y else z) r) v:=λb p=>by
      cases p
      . exact Y b hz az
      . exact Y b U ay
     have G:=λb=>funext (Yc ps d b 0 [] [x,y,z,u])
     cases b with
     | false=>
      rw [G,G];exact Rv.branch (g:=λp r=>AH (Ax ps d) false (if p then y else z) r) (g':=λp r=>AH (Ax ps d) true (if p then y else z) r) x u (hg false)
     | true=>
      rw [G,G];exact Rv.branch (g:=λp r=>AH (Ax ps d) true (if p then y else z) r) (g':=λp r=>AH (Ax ps d) false (if p then y else z) r) u x (hg true)
   . have G:=λb=>funext (Ty ps d b 0 [] [x,y,z,u])
     cases b with
     | false=>
      rw [G,G];exact Rv.loop x u (Y false U ay) (Y false hz az) d
     | true=>
      rw [G,G];exact Rv.loop u x (Y true U ay) (Y true hz az) d
  | local_ hn V U hz=>
   rename_i s x y z;rw [Nd.flt,At Ab] at N;simp only [CU,jt] at N;have fx:x.flt ps v=0:=N.2.1;have fy:y.flt ps (v++[⟨s,1,0⟩])=0:=N.2.2.1;have fz:z.flt ps v=0:=N.2.2.2.1;have ay:=O.kid (x:=y) AN fy;have ax:=O.kid (x:=x) AN fx;have az:=O.kid (x:=z) AN fz;have G:=λb=>funext (R1 ps d b 0 s [x,y,z])
   cases b with
   | false=>
    rw [G,G];exact Rv.local_ (Y false U ay) ax.wf λh=>⟨IG V fx h,IG hz fz h⟩
   | true=>
    rw [G,G];exact Rv.local_ (Y true U ay) az.wf λh=>⟨IG hz fz h,IG V fx h⟩
  | lstack hn V=>
   rename_i s x;rw [Nd.flt,At Ab] at N;simp only [CU,jt] at N;have fx:x.flt ps (v++[⟨s,3,0⟩])=0:=N.2.1;have ax:=O.kid (x:=x) AN fx;have G:=λb=>funext (P0 ps d b 0 s [x])
   rw [G,G];exact Rv.lstack (Y b V ax)
def Ny (h:Ck l=[]):∀m∈l,(EO m).2=0:=λm G=>by
 unfold Ck at h;have:=List.filter_eq_nil_iff.1 h (EO m).2 (List.mem_map.2 ⟨m,G,rfl⟩);simpa using this
def Yd (h:g.wf) (N:g.ok=true) (O:g.flt=0) (G:g.errs=[]):(∀p∈g.procs,p.body.isBlock=true/\Acc g.procs p.params p.body)/\g.main.isBlock=true/\Acc g.procs g.vars g.main:=by
 unfold PG.errs at G;rw [AG O,List.append_eq_nil_iff] at G;unfold PG.flt at O;have U:=jt.1 O;have V:=(jt.1 U.1).2;obtain ⟨-,-,-,X,Y⟩:=DV N;refine ⟨λp M=>⟨(body_iff.1 (DO (X p M)).2.2.2).1,(h.procs p M).body,Jw V p M,Ny ?_⟩,(body_iff.1 Y).1,h.main,U.2,Ny G.2⟩;have:=G.1;unfold C9 at this;exact List.flatMap_eq_nil_iff.1 this p M
def aF (h:g.wf) (G:g.ok=true) (U:g.flt=0) (V:g.errs=[]) (d:Nat) (b:Bool):Rv (AH (Ax g.procs d) b g.main) (AH (Ax g.procs d) (!b) g.main) g.vars:=by
 obtain ⟨X,Y,M⟩:=Yd h G U V;obtain ⟨e,Z⟩:=Jv Y;refine Rv.block λy N=>Uv X d b y g.vars (Z y N) ?_
 have O:=M.flt;rw [e,Fy B9 B9 B9 B9,jt] at O;rw [e] at M;exact M.kid N (Eu O.2 y N)
structure SV.rng (s:SV):Prop where
 cells:∀xs∈s.cells,RngL xs
 tin:RngL s.tin
 tout:RngL s.tout
def Kx {s:SV} (h:s.cells.length=vs.length):CO vs s vs.length=⟨s.cells,⟨vs,jQ vs.length,0⟩,[],s.tin,s.tout⟩:=by
 unfold CO;rw [kk Ab,iZ]
def Wa {s:SV} (h:FitsP vs s) (G:s.rng):Good (CO vs s vs.length):=by
 have M:=PY h;obtain ⟨Y,O,U,V,Z⟩:=h;rw [Kx O] at M ⊢;refine ⟨⟨_,_,M⟩,λc=>?_,U,V,G.tin,G.tout,λf N=>?_⟩
 . unfold m6;rw [iK];cases e:s.cells[c]? with
   | none=>intro x X;cases X
   | some xs=>exact G.cells xs (jh e)
 . simp only [i8] at N;rw [N];exact List.nodup_range
def R2 (ac:g.wf) (ad:g.ok=true) (h0:g.flt=0) (he:g.errs=[]) {s:SV} (hf:FitsP g.vars s) (O:s.rng) {d F:Nat} {b:Bool} (h:AH (Ax g.procs d) b g.main ⟨CO g.vars s g.vars.length,F⟩ = .ok r) :
 FitsP g.vars r.st.sv/\r.st.sv.rng/\r.rem<=F /\ ∃r2,AH (Ax g.procs d) (!b) g.main ⟨CO g.vars r.st.sv g.vars.length,F⟩ = .ok r2/\r2.rem=r.rem/\r2.st.sv=s:=by
 have hG:=Wa hf O;obtain ⟨hv,h3,h4,h5,h6⟩:=hf;rw [Kx h3] at h hG;obtain ⟨Y,b1,c1,l1,m1,k1⟩:=aF ac ad h0 he d b _ F r hG rfl h;simp only at b1 c1 l1;have M:r.st.sv.cells.length=g.vars.length:=by
  unfold Stp.sv;rw [b1];simp
 have G:∀i,i<g.vars.length->r.st.sv.cells[i]? = some (r.st.items i):=λi N=>by
  unfold Stp.sv;rw [b1];simp [N]
 have aa:FitsP g.vars r.st.sv:=by
  refine ⟨hv,M,Y.tin,Y.tout,λi v xs h7 Z=>?_⟩;have N:=(List.getElem?_eq_some_iff.1 h7).1;rw [G i N] at Z;obtain rfl:=iQ Z;obtain ⟨K,m,hw⟩:=Y.wf;have hb:=hw.base;rw [b1] at hb;have hk:=hb.kind i v i h7 (by simp [N]);have ae:=hv.2 v (jh h7);unfold IL at ae;unfold Ms CV;rcases hw.cell _ _ hk with ⟨q1,q2⟩|⟨q1,q2,-⟩|⟨q1,q2⟩<;>simp only at q1 q2
  . rw [At Ab,AG q1];omega
  . rw [At Ab,At Ab];exact q2
  . rw [AG q1];exact q2
 have ab:r.st.sv.rng:=⟨λxs hx=>by
  obtain ⟨i,N,rfl⟩:=List.mem_iff_getElem.1 hx;rw [M] at N;have:=G i N;rw [iE Ab] at this;rw [iQ this];exact Y.rng i,Y.tinR,Y.toutR⟩
 refine ⟨aa,ab,m1,?_⟩;have hS:Sim (λc d=>c=d/\d<g.vars.length) (CO g.vars r.st.sv g.vars.length) r.st:=by
  rw [Kx M];refine ⟨?_,by rw [c1],λi f g X _=>by simp at X,rfl,rfl,λc d O=>?_,λc d O=>?_,λc d c' d' X h2=>by rw [X.1,h2.1]⟩
  . rw [b1];refine ⟨rfl,rfl,rfl,λi c d X h2=>?_⟩;simp only at X h2;rw [X] at h2;obtain rfl:=iQ h2;have:=jh X;exact ⟨rfl,lm.1 this⟩
  . obtain ⟨rfl,Z⟩:=O;unfold m6;simp only;rw [iK,G c Z];rfl
  . obtain ⟨rfl,Z⟩:=O;simp only;rw [M];omega
 obtain ⟨a,U,e⟩:=k1 _ _ (λc d O=>by simp only;rw [h3];exact O.2) hS;refine ⟨_,e F Ab,by simp only;omega,?_⟩;have hb:=U.base;have V:=hb.locals;have hl:=hb.len;simp only at V hl;simp only [mw] at hl;unfold Stp.sv;obtain ⟨cells,tin,tout⟩:=s;simp only at h3;congr 1
 . rw [V,kD,iZ];refine lL (by simp [hl,h3]) λi Z h9=>?_
   rw [lx];have N:i<g.vars.length:=by rw [h3] at h9;exact h9
   have O:=hb.cell i a.base.cells[i] i (iE (by rw [hl];exact N)) (by simp [N]);rw [U.items _ _ O];unfold m6;simp [iK,iE h9]
 . exact U.tin
 . exact U.tout
structure Fin_ (st:Stp):Prop where
 wf:∃K m,st.WF K m
 tin:st.tin.length<=4096
 tout:st.tout.length<=4096
def Kpt (a b:Stp):Prop:=Fin_ b/\b.base=a.base/\b.calls=a.calls
def Kpt.refl {a:Stp} (h:Fin_ a):Kpt a a:=⟨h,rfl,rfl⟩
def Kpt.trans {a b c:Stp} (h:Kpt a b) (k:Kpt b c):Kpt a c:=⟨k.1,k.2.1.trans h.2.1,k.2.2.trans h.2.2⟩
def KeepX (f:Rn->Except Int Rn):Prop:= ∀r r',Fin_ r.st->f r = .ok r'->Kpt r.st r'.st
def Tz (st:Stp) (k:Int) (s:lB) (l:List Nd) (G:st.tin.length<=4096) (M:st.tout.length<=4096):(st.exec k s l).2.tin.length<=4096/\(st.exec k s l).2.tout.length<=4096:=by
 rcases Jy st k s l with h|⟨i,r,c,e,d,h⟩<;>rw [h]
 . exact ⟨G,M⟩
 unfold Stp.execT nh mP
 repeat' split
 all_goals first
  | exact ⟨G,M⟩
  | exact ⟨by simp only [iM];omega,M⟩
  | exact ⟨G,by simp only [iX,iM,ji];omega⟩
  | exact ⟨G,by simp only [lq];omega⟩
  | (rename_i N _;rw [N] at G;exact ⟨by simp at G ⊢;omega,M⟩)
def aG (h:Fin_ st) (k n:Int) (s:lB) (l:List Nd):Kpt st (st.run1 k n s l).2:=by
 obtain ⟨⟨K,m,O⟩,G,M⟩:=h;obtain ⟨U,V,-⟩:=GD st k n s l;have N:(st.run1 k n s l).2.tin.length<=4096/\(st.run1 k n s l).2.tout.length<=4096:=by
  unfold Stp.run1;split
  . exact ⟨G,M⟩
  split
  . exact ⟨G,M⟩
  . exact Tz st k s l G M
 exact ⟨⟨⟨K,m,O.run1 k n s l⟩,N.1,N.2⟩,U,V⟩
def R3 {G:Stp} (h:Fin_ st) {v:VD} (hv:v.kind=1\/v.kind=3) (ho:(st.opens v x).1=0) (hb:Fin_ (st.opens v x).2->Kpt (st.opens v x).2 G) (M:(G.closes s k).1=0):Kpt st (G.closes s k).2:=by
 obtain ⟨⟨K,m,hw⟩,h1,h2⟩:=h;obtain ⟨K',V⟩:=hw.opens hv x;obtain ⟨-,U⟩:=RX ho;have hF:Fin_ (st.opens v x).2:=⟨⟨_,_,V⟩,by rw [U];show (st.setCur _).tin.length<=4096;rw [setCur_tin];exact h1,by rw [U];show (st.setCur _).tout.length<=4096;rw [setCur_tout];exact h2⟩;obtain ⟨⟨⟨K2,m2,X⟩,t1,t2⟩,Z,b2⟩:=hb hF;have N:G.cur=⟨st.cur.vars++[v],st.cur.cells++[st.heap.length],st.cur.locals+1⟩:=by
  rw [Fk Z b2,U];exact FN (st:=st)
 have Y:(G.closes s k).2=G.setCur st.cur:=by
  unfold Stp.closes at M ⊢;simp only at M ⊢;split at M
  . simp at M
  . rename_i q1;rw [At q1];split at M
    . simp at M
    . rename_i q2;rw [At q2,N];simp
 obtain ⟨f1,f2⟩:=GF (f:=st.cur) Z b2;have e2:(((st.opens v x).2).setCur st.cur).base=st.base/\(((st.opens v x).2).setCur st.cur).calls=st.calls:=by
  rw [U];obtain ⟨g1,g2⟩:=Fv (st:=st) (f:=⟨st.cur.vars++[v],st.cur.cells++[st.heap.length],st.cur.locals+1⟩) (g:=st.cur);obtain ⟨g3,g4⟩:=Gb (st:=st);obtain ⟨g5,g6⟩:=GF (a:={ st.setCur ⟨st.cur.vars++[v],st.cur.cells++[st.heap.length],st.cur.locals+1⟩ with heap:=st.heap++[if v.kind=1 then [x] else []] }) (b:=st.setCur ⟨st.cur.vars++[v],st.cur.cells++[st.heap.length],st.cur.locals+1⟩) (f:=st.cur) rfl rfl;exact ⟨g5.trans (g1.trans g3),g6.trans (g2.trans g4)⟩
 have O:=X.closes s k;rw [Y] at O ⊢;exact ⟨⟨⟨_,_,O⟩,by rw [setCur_tin];exact t1,by rw [setCur_tout];exact t2⟩,f1.trans e2.1,f2.trans e2.2⟩
def Stp.WF.up {K:List (Int×Int)} {m':Nat} (h:st.WF K m) (G:m<=m'):st.WF K m':=⟨h.len,h.base,h.calls,h.cell,h.nc,λf M=>jM (h.vb f M) G⟩
def Wb {st2:Stp} (h:Fin_ st) {ps:List VD} {qs:List lB} (ho:(st.enters ps qs).1=0) (hb:Fin_ (st.enters ps qs).2->Kpt (st.enters ps qs).2 st2) (hc:(st2.leaves).1=0):Kpt st (st2.leaves).2:=by
 obtain ⟨⟨K,m,hw⟩,h1,h2⟩:=h;have b:=(hw.up (Nat.le_max_left m ps.length)).enters (Nat.le_max_right m ps.length) qs;obtain ⟨fr,e1⟩:∃fr,(st.enters ps qs).2={ st with calls:=st.calls++[fr] }:=by
  unfold nr at ho ⊢;split at ho
  . simp at ho
  . rename_i q1;rw [At q1];split at ho
    . rename_i q2;exact absurd ho q2
    . rename_i q2;rw [At q2];split at ho
      . simp at ho
      . rename_i q3;rw [At q3];exact ⟨_,rfl⟩
 obtain ⟨⟨⟨K2,m2,c⟩,t1,t2⟩,b1,b2⟩:=hb ⟨⟨_,_,b⟩,by rw [e1];exact h1,by rw [e1];exact h2⟩;have a:=c.leaves;have hl:(st2.leaves).2={ st2 with calls:=st2.calls.dropLast }:=by
  unfold nj at hc ⊢;split at hc
  . simp at hc
  . rename_i q1;rw [At q1]
 rw [hl] at a ⊢;refine ⟨⟨⟨_,_,a⟩,t1,t2⟩,?_,?_⟩
 . show st2.base=st.base;rw [b1,e1]
 . show st2.calls.dropLast=st.calls;rw [b2,e1];simp
def KeepX.row {f:Nd->Rn->Except Int Rn}:∀(l:List Nd),(∀t,KeepX (f t))->KeepX (Ei f l)
 | [],_,r,N,G,h=>by
  simp only [Ei,kA] at h;subst h;exact .refl G
 | t::l,M,r,N,G,h=>by
  simp only [Ei] at h;obtain ⟨a,O,U⟩:=AO h;have k1:=M t _ _ G O;exact k1.trans (KeepX.row l M _ _ k1.1 U)
def KeepX.block {f:Bool->Nd->Rn->Except Int Rn} (h:∀b t,KeepX (f b t)) (b:Bool) (t:Nd):KeepX (AH f b t):=KeepX.row _ (h b)
def KeepX.loop {M N:Rn->Except Int Rn} {test entry:Nd} (O:KeepX M) (U:KeepX N):∀m,KeepX (Cg M N test entry m)
 | 0,r,r',_,h=>by simp [Cg] at h
 | m+1,r,r',hF,h=>by
  simp only [Cg] at h;obtain ⟨V,k1,h⟩:=AO h;obtain ⟨a2,k2,h⟩:=AO h;have G:=O _ _ hF k1;obtain ⟨-,X,-⟩:=Et k2;split at h
  . simp only [kA] at h;subst h;rw [X];exact G
  . obtain ⟨a3,Y,h⟩:=AO h;obtain ⟨a4,k4,h⟩:=AO h;rw [X] at Y;have Z:=U ⟨V.st,V.rem-1⟩ _ G.1 Y;obtain ⟨-,e4,-⟩:=De k4;rw [e4] at h;exact G.trans (Z.trans (KeepX.loop O U m ⟨a3.st,a3.rem-1⟩ _ Z.1 h))
def OT (ps:List PD):∀(d:Nat) (b:Bool) (t:Nd),KeepX (Ax ps d b t)
 | 0,b,t,r,r',_,h=>by simp [Ax] at h
 | d+1,b,.mk k n s l,r,r',G,h=>by
  have M:∀b t,KeepX (AH (Ax ps d) b t):=KeepX.block (OT ps d);unfold Ax at h;by_cases c1:k=52
  . simp only [AG c1] at h;obtain ⟨p,k1,h⟩:=AO h;obtain ⟨c,N,h⟩:=AO h;obtain ⟨-,e2,-⟩:=Et k1;rw [e2] at N;have e3:=M _ _ ⟨r.st,r.rem-1⟩ _ G N;obtain ⟨-,e5,-⟩:=De h;rw [e5];exact e3
  simp only [At c1] at h;by_cases c2:k=53
  . simp only [AG c2] at h;obtain ⟨c,N,h⟩:=AO h;obtain ⟨-,e5,-⟩:=De N;rw [e5] at h;exact KeepX.loop (M b _) (M b _) d ⟨r.st,r.rem-1⟩ _ G h
  simp only [At c2] at h;by_cases c3:k=54
  . simp only [AG c3] at h;obtain ⟨a1,k1,h⟩:=AO h;obtain ⟨a2,N,h⟩:=AO h;obtain ⟨a3,O,h⟩:=AO h;obtain ⟨a4,U,h⟩:=AO h;obtain ⟨a5,V,h⟩:=AO h;obtain ⟨a6,k6,h⟩:=AO h;obtain ⟨-,rfl⟩:=B7 k1;obtain ⟨X,rfl⟩:=Dw O;obtain ⟨-,rfl⟩:=B7 V;obtain ⟨Y,rfl⟩:=Dw h;exact R3 G (iG rfl) X (λZ=>M _ _ _ _ Z U) Y
  simp only [At c3] at h;by_cases c4:k=55
  . simp only [AG c4] at h;obtain ⟨a1,k1,h⟩:=AO h;obtain ⟨a3,O,h⟩:=AO h;obtain ⟨a4,U,h⟩:=AO h;obtain ⟨a5,V,h⟩:=AO h;obtain ⟨-,rfl⟩:=B7 k1;obtain ⟨X,rfl⟩:=Dw O;obtain ⟨-,rfl⟩:=B7 V;obtain ⟨Y,rfl⟩:=Dw h;exact R3 G (iH rfl) X (λZ=>M _ _ _ _ Z U) Y
  simp only [At c4] at h;by_cases c5:k=50\/k=51
  . simp only [AG c5] at h;obtain ⟨a1,k1,h⟩:=AO h;obtain ⟨a3,O,h⟩:=AO h;obtain ⟨a4,U,h⟩:=AO h;obtain ⟨a5,V,h⟩:=AO h;obtain ⟨-,rfl⟩:=B7 k1;obtain ⟨X,rfl⟩:=Dw O;obtain ⟨-,rfl⟩:=B7 V;obtain ⟨Y,rfl⟩:=Dw h;exact Wb G X (λZ=>M _ _ _ _ Z U) Y
  . simp only [At c5] at h;obtain ⟨a1,k1,h⟩:=AO h;obtain ⟨-,rfl⟩:=B7 k1;obtain ⟨-,rfl⟩:=Dw h;exact aG G ..
def Ye {s:SV} (hf:FitsP vs s) {d F:Nat} {b:Bool} (h:AH (Ax ps d) b t ⟨CO vs s vs.length,F⟩ = .ok r):FitsP vs r.st.sv:=by
 have M:=PY hf;obtain ⟨hv,h3,h4,h5,h6⟩:=hf;rw [Kx h3] at h M;obtain ⟨⟨⟨K,m,hw⟩,t1,t2⟩,V,-⟩:=KeepX.block (OT ps d) b t _ _ ⟨⟨_,_,M⟩,h4,h5⟩ h;simp only at V;have N:r.st.sv.cells.length=vs.length:=by
  unfold Stp.sv;rw [V];simp
 have G:∀i,i<vs.length->r.st.sv.cells[i]? = some (r.st.items i):=λi X=>by
  unfold Stp.sv;rw [V];simp [X]
 refine ⟨hv,N,t1,t2,λi v xs Y h8=>?_⟩;have X:=(List.getElem?_eq_some_iff.1 Y).1;rw [G i X] at h8;obtain rfl:=iQ h8;have hb:=hw.base;rw [V] at hb;have hk:=hb.kind i v i Y (by simp [X]);have Z:=hv.2 v (jh Y);unfold IL at Z;unfold Ms CV;rcases hw.cell _ _ hk with ⟨O,U⟩|⟨O,U,-⟩|⟨O,U⟩<;>simp only at O U
 . rw [At Ab,AG O];omega
 . rw [At Ab,At Ab];exact U
 . rw [AG O];exact U
def TA {r:Int} (h:0<=r) (G:r<=4000):E4 (Cx r):=by
 unfold E4 Cx;split
 . omega
 . split<;>omega
def R4 {h:Int} (N:h<=2001) (r:Int×Int):∀(k:Nat) (left:Int),∀q∈If h r k left,RngL q.1
 | 0,_,q,G=>by
  simp only [If,i8] at G;rw [G];intro x M;simp at M
 | k+1,left,q,G=>by
  simp only [If,List.mem_flatMap,List.mem_map,lm] at G;obtain ⟨m,V,p,O,rfl⟩:=G;have U:=R4 N r k _ p O;intro x M;rcases iU.1 M with rfl|M
  . have X:0<=Rr h r k left:=by unfold Rr;omega
    have Y:bQ h r k left<=h-1:=by unfold bQ;omega
    exact TA Ab Ab
  . exact U x M
def OU {h:Int} (N:h<=2001):∀(l:List (Int×Int)) (left:Int),∀s∈FM h l left,∀xs∈s,RngL xs
 | [],_,s,G=>by
  simp only [FM,i8] at G;subst G;intro xs M;simp at M
 | p::l,left,s,G=>by
  simp only [FM,List.mem_flatMap,List.mem_map] at G;obtain ⟨m,-,q,O,r,U,rfl⟩:=G;intro xs M;rcases iU.1 M with rfl|M
  . exact R4 N _ _ _ q O
  . exact OU N l _ r U xs M
def Yf {b:BoxV}:∀s∈LQ vs b,s.rng:=by
 intro s G;unfold LQ at G;split at G
 . rename_i U;rw [List.mem_map] at G;obtain ⟨t,M,rfl⟩:=G;unfold VC at M;rw [List.mem_flatMap] at M;obtain ⟨m,-,M⟩:=M;have O:=OU (h:=2*b.v+1) (by have:=U.1.1;omega) _ _ t M;refine ⟨λxs N=>O xs (List.dropLast_subset _ N),?_,λx N=>by cases N⟩;show RngL (t.getLastD []);rw [List.getLastD_eq_getLast?];cases e:t.getLast? with
   | none=>intro x N;cases N
   | some xs=>exact O xs (List.mem_of_getLast? e)
 . cases G
def Yg {s:SV} (h:FitsP g.vars s) (f:Nat):FitsP g.vars (DR g s f).st:=by
 unfold DR;generalize Classical.choose _=d;cases hx:AH (Ax g.procs d) false g.main ⟨CO g.vars s g.vars.length,f⟩ with
 | error e=>exact h
 | ok r=>exact Ye h hx
def aH (p:PG):∀x∈p.errs,x≠0:=by
 have h:∀l:List Nd,∀x∈Ck l,x≠0:=λl x G=>by
  unfold Ck at G;simpa using (List.mem_filter.1 G).2
 intro x G;unfold PG.errs at G;split at G
 . rcases jD.1 G with G|G
   . unfold C9 at G;rw [List.mem_flatMap] at G;obtain ⟨q,-,G⟩:=G;exact h _ x G
   . exact h _ x G
 . cases G
def Nz (g p:PG) (f:Nat) (s:SV) (l:List SV) (n:Int):Wu g p f (s::l) n=if (DR g s f).err≠0 then Wu g p f l n
 else if (DR p (DR g s f).st f).err=0/\(DR p (DR g s f).st f).st=s then Wu g p f l (Go.IntKind.wrap .i64 (n+1))
 else ⟨false,Go.IntKind.wrap .i64 (n+1),s,(DR p (DR g s f).st f).err⟩:=rfl
noncomputable def BN (e:EX) (p:PG):VdV×Int:=if D8 e p≠0 then (VdV.zero,D8 e p) else (Wu e.g p e.fuel.toNat (LQ e.g.vars e.box) 0,0)
def TC (l m:List (List Int)) (S S':nP) (a Y:oA) (c c':Nat) (w:wD) (hl:l.length<=1000000) (hf:∀xs∈l,xs.length<=1000000) (aa:∀xs∈m,xs.length<=1000000) (U:ICs S w l a) (G:ICs S' w m Y) :
 Calls prog 123 #[.slice a l.length c,.slice Y m.length c',.func (.func 124) #[] #[]] w λe w'=> ∃q,e = .returned (.bool q)/\(q=true↔l=m)/\Ext w w':=by
 have X:=Ne w;rcases Decidable.em (l.length=m.length) with hn|hn
 case inr=>
  refine Ad func123 ntmps123 rfl rfl (kR ?_);exact ⟨false,rfl,⟨λh=>(by cases h),λh=>absurd (by rw [h]) hn⟩,X⟩
 refine Ad func123 ntmps123 rfl rfl (eK ?_);have U:=U.ltA;have G:=G.ltA;refine AP (ι:=Nat) (λj=>[(1,.slice Y m.length c'),(2,.func (.func 124) #[] #[]),(15,.slice a l.length c),(16,.int .i64 l.length),(17,.int .i64 j)])
  (λj w'=>j<=l.length/\l.take j=m.take j/\ICs (· < w.heap.size) w' l a/\ICs (· < w.heap.size) w' m Y/\Ext w w') (λj=>l.length-j) 0 sB ⟨iT _,rfl,U,G,X⟩ ?_
 rintro j w1 ⟨hj,ht,U,G,X⟩;by_cases N:j<l.length
 . have M:j<m.length:=by omega
   obtain ⟨kb,ko,rfl,kS,hk⟩:=U.get (by intro e;subst e;simp at N);obtain ⟨ah,ai,rfl,aj,ab⟩:=G.get (by intro e;subst e;simp at M);obtain ⟨xa,xc,r1,v1⟩:=hk j _ (iE N);obtain ⟨ac,ad,r2,v2⟩:=ab j _ (iE M);have p1:=hf _ (iS N);have p2:=aa _ (iS M);have V:l[j]=m[j]->l.take (j+1)=m.take (j+1):=λh=>by rw [iI N,iI M,ht,h]
   have ae:l[j]≠m[j]->l≠m:=λh e=>h (by subst e;rfl)
   generalize l[j]=x at *;generalize m[j]=y at *;have Z:=iF (λw1 h h'=>Mr x y p1 p2 xa ac xc ad w1 (Gi (S:=(· < w.heap.size)) h) (Gi (S:=(· < w.heap.size)) h'));by_cases O:x=y
   . rw [decide_eq_true O] at Z;refine eK ?_;refine Aw (A9 (fi:=[]) (ca:=[]) AU rfl rfl (Z.out _ Ae Ae) (λ_ _ h=>⟨_,h.1⟩)) rfl ?_ aFh;rintro ak al ⟨⟨⟩,af⟩;revert X U G;refine eE af ?_;intro X U G;refine eK ?_;exact AA (j+1) sB ⟨Ab,V O,U,G,X⟩ Ab
   . rw [decide_eq_false O] at Z;refine eK ?_;refine Aw (A9 (fi:=[]) (ca:=[]) AU rfl rfl (Z.out _ Ae Ae) (λ_ _ h=>⟨_,h.1⟩)) rfl ?_ aFh;rintro am an ⟨⟨⟩,ag⟩;have X:=X.ext ag;refine kR ?_;exact ⟨false,rfl,⟨λh=>(by cases h),λh=>absurd h (ae O)⟩,X⟩
 . obtain rfl:j=l.length:=by omega
   rw [iZ,hn,iZ] at ht;refine kR ?_;exact ⟨true,rfl,⟨λ_=>ht,λ_=>rfl⟩,X⟩
def Wc (s t:SV) (ag:s.small) (ah:t.small) (S S':nP) (a ta oa a' V Y:oA) (c tc oc c' ac ad:Nat) (w:wD) (hs:s.sits S w a ta oa) (ai:t.sits S' w a' V Y) :
 Calls prog 87 #[.agg (s.row a c ta tc oa oc).toArray,.agg (t.row a' c' V ac Y ad).toArray] w λe w'=> ∃q,e = .returned (.bool q)/\(q=true↔s=t)/\Ext w w':=by
 have X:=Ne w;obtain ⟨cells,tin,tout⟩:=s;obtain ⟨M,ab,O⟩:=t;obtain ⟨h1,h2,h3⟩:=hs;obtain ⟨Z,N,G⟩:=ai;obtain ⟨m1,m2,m3,m4⟩:=ag;obtain ⟨aq,aj,ak,al⟩:=ah;simp only [SV.mk.injEq] at *;have HE:=iF (λw1 h h'=>TC cells M S S' a a' c c' w1 m1 m2 aj h h');have HI:=iF (λw1 h h'=>Mr tin ab m3 ak ta V tc ac w1 (Gi (S:=S) h) (Gi (S:=S') h'));have HO:=iF (λw1 h h'=>Mr tout O m4 al oa Y oc ad w1 (Gi (S:=S) h) (Gi (S:=S') h'));change Calls prog _ #[.agg #[.slice a cells.length c,.slice ta tin.length tc,.slice oa tout.length oc],.agg #[.slice a' M.length c',.slice V ab.length ac,.slice Y O.length ad]] w _;refine Ad func87 ntmps87 rfl rfl ?_
 focus
  refine cS (eB [_,_,_] ?_);intro b1 w2 h4 x5 _ _;revert X h1 h2 h3 Z N G;refine eE x5 ?_;intro X h1 h2 h3 Z N G;refine eB [_,_,_] ?_;intro b8 w9 U am _ _;revert h4 X h1 h2 h3 Z N G;refine eE am ?_;intro h4 X h1 h2 h3 Z N G;refine eK ?_;refine Aw (AM AU rfl (HE.out _ Ae Ae) (λ_ _ ⟨_,h⟩=>⟨_,h.1⟩)) rfl ?_ aFh;rintro _ ar ⟨au,⟨⟩,af,an⟩;revert U h4 X h2 h3 N G;refine eE an ?_;intro U h4 X h2 h3 N G;refine C1 Mv (O5 rfl rfl rfl (λaa=>?_) (λaa=>?_));refine Bn rfl rfl rfl (Ho Ae) (C1 Pf (Bn rfl rfl rfl (Ho Ae) (C1 (Pl h4) (Bn rfl rfl rfl (Ho Ae) (C1 Pf (Bn rfl rfl rfl (Ho Ae) (C1 (Pl U) (Bn rfl rfl rfl (Ho Ae) (cC rfl (HI.out _ Ae Ae) ?_)))))))));rintro _ av ⟨⟨⟩,ao⟩;revert U h4 X h3 G;refine eE ao ?_;intro U h4 X h3 G;refine C1 (Cm rfl rfl Ae) (C1 Mv (B8 rfl rfl rfl (λae=>?_) (λae=>?_)));refine kC (HO.out _ Ae Ae) ?_;rintro _ aw ⟨⟨⟩,ap⟩;have X:=X.ext ap;refine kR ?_;rotate_left;refine kR ?_;rotate_left;refine Bh rfl rfl rfl (Hr Ae) rfl (Bh rfl rfl rfl (Hr Ae) rfl (Bh rfl rfl rfl (Hr Ae) rfl (Bh rfl rfl rfl (Hr Ae) rfl (Bh rfl rfl rfl (Hr Ae) rfl (C1 (BZ rfl rfl Ae) (kR ?_))))));rotate_left
 . exact ⟨_,rfl,⟨λh=>⟨af.1 aa,ae,of_decide_eq_true h⟩,λh=>decide_eq_true h.2.2⟩,X⟩
 . exact ⟨false,rfl,⟨λh=>(by cases h),λh=>absurd h.2.1 ae⟩,X⟩
 . exact ⟨false,rfl,⟨λh=>(by cases h),λh=>by rw [af.2 h.1] at aa;cases aa⟩,X⟩
def Ky {P:Program} {d:Nat} {xs ys:Array Value} {w:wD} {B:Nat->Bool}:∀(G:List Field),(∀f∈G,(f.name == "_")=false /\ ∃u v,(part f.type xs f.offset).run P w = .ok u w/\(part f.type ys f.offset).run P w = .ok v w/\(Op.equalIn d f.type u v).run P w = .ok (B f.offset) w)->(Op.eqFields d xs ys G).run P w = .ok (G.all λf=>B f.offset) w
 | [],_=>by simp [Op.eqFields]
 | f::G,h=>by
  obtain ⟨M,u,v,N,O,U⟩:=h f jx;have V:=Ky (P:=P) (d:=d) (xs:=xs) (ys:=ys) (w:=w) (B:=B) G (λg X=>h g (js _ X))
  unfold Op.eqFields
  rw [AG (show f.name ≠ "_" from λe=>by rw [e] at M;cases M)]
  cases hb:B f.offset
  . simp [iV,N,O,U,hb,jV]
  . simp [iV,N,O,U,hb,jV,V]
def Wd (u v:VD) (o:Nat):Bool:=if o=0 then decide (u.name=v.name) else if o=1 then decide (u.kind=v.kind) else decide (u.len=v.len)
def TD (u v:VD) (w:wD):(Op.equalIn 10000 77 u.val v.val).run prog w = .ok (Wd u v 0&&(Wd u v 1&&Wd u v 2)) w:=by
 rw [show (10000:Nat)=9999+1 from rfl,run_equalIn_agg w 9999 _ _ _ Q0 Q1];rw [Ky (B:=Wd u v) _ (λf O=>?_)]
 . have e:((prog.fieldsOf 77).toList.all λf=>Wd u v f.offset)=(((prog.fieldsOf 77).toList.map (λf=>(f.name == "_",f.type,f.offset))).all λt=>Wd u v t.2.2):=by rw [List.all_map];rfl
   rw [e,KN];simp only [lM,List.all_nil,Bool.and_true]
 . have N:(f.name == "_",f.type,f.offset)∈(prog.fieldsOf 77).toList.map (λf=>(f.name == "_",f.type,f.offset)):=List.mem_map.2 ⟨f,O,rfl⟩
   rw [KN] at N;simp only [iU,jB,or_false,lC] at N
   rcases N with ⟨h,G,M⟩|⟨h,G,M⟩|⟨h,G,M⟩
   . rw [G,M]
     refine ⟨h,str u.name,str v.name,Er (cs:=u.cells) Ac rfl rfl rfl w,Er (cs:=v.cells) Ac rfl rfl rfl w,?_⟩
     rw [run_equalIn_string w 9998 _ _ _ (show prog.underlying 9=some .string from (Ac 9 .str 1 rfl).under)];simp [Wd,FW]
   . rw [G,M]
     refine ⟨h,.int .u8 u.kind,.int .u8 v.kind,Er (cs:=u.cells) Ac rfl rfl rfl w,Er (cs:=v.cells) Ac rfl rfl rfl w,?_⟩
     rw [run_equalIn_int w 9998 _ _ .u8 _ _ (show prog.underlying 5=some (.int .u8) from (Ac 5 (.int .u8) 1 rfl).under)];simp [Wd,FW]
   . rw [G,M]
     refine ⟨h,.int .i64 u.len,.int .i64 v.len,Er (cs:=u.cells) Ac rfl rfl rfl w,Er (cs:=v.cells) Ac rfl rfl rfl w,?_⟩
     rw [run_equalIn_int w 9998 _ _ .i64 _ _ (show prog.underlying 3=some (.int .i64) from (Ac 3 (.int .i64) 1 rfl).under)];simp [Wd,FW]
def dP {u v:VD} (h:u≠v):(Wd u v 0&&(Wd u v 1&&Wd u v 2))=false:=by
 obtain ⟨un,O,U⟩:=u;obtain ⟨V,X,Y⟩:=v;rw [<-Bool.not_eq_true];intro e;simp only [Wd,iJ] at e;obtain ⟨G,M,N⟩:=e;simp at G M N;exact h (by rw [G,M,N])
def Yh {l:Sl} {S:wD->Prop} {ty t':TypeId} {x y:Operand} {u v:VD} (h:u≠v) (M:ev l x=some u.val) (N:ev l y=some v.val):Br prog n l S (.binOp .neq 77 x y t') ty (.bool true):=by
 unfold Br;intro a w O pos after g G _;have U:=run_eqGuard_agg (P:=prog) w .neq 77 x y u.cells.toArray v.cells.toArray Q2;have V:(binOp .neq 77 u.val v.val).run prog w = .ok (.bool true) w:=by
  rw [run_neq_struct,TD,dP h];rfl
 simp only [execOp,G.ev M,G.ev N,iV,U,V,jV,je]
def TE (l m:List VD) (S S':nP) (a a':oA) (c c':Nat) (w:wD) (hl:l.length<=1000000000) (hs:VDs S w l a) (G:VDs S' w m a') :
 Calls prog 82 #[.slice a l.length c,.slice a' m.length c'] w λe w'=> ∃q,e = .returned (.bool q)/\(q=true↔l=m)/\Ext w w':=by
 have X:=Ne w;rcases Decidable.em (l.length=m.length) with hn|hn
 case inr=>
  refine Ad func82 ntmps82 rfl rfl ?_;refine kR ?_;exact ⟨false,rfl,⟨λh=>(by cases h),λh=>absurd (by rw [h]) hn⟩,X⟩
 refine Ad func82 ntmps82 rfl rfl ?_;refine eK ?_;refine AP (ι:=Nat) (λj=>[(0,.slice a l.length c),(1,.slice a' m.length c'),(12,.int .i64 l.length),(13,.int .i64 j)]) (λj w'=>VDs S w' l a/\VDs S' w' m a'/\l.take j=m.take j/\Ext w w'/\j<=l.length) (λj=>l.length-j) 0 sB ⟨hs,G,rfl,X,iT _⟩ ?_;clear hs G X;rintro j w1 ⟨hs,G,ht,X,hj⟩;by_cases ac:j<l.length
 . have U:j<m.length:=by omega
   obtain ⟨kb,ko,rfl,-,hk⟩:=m5 hs Ab;obtain ⟨ag,ah,rfl,-,ad⟩:=m5 G Ab;have r1:Row w1 ⟨kb,ko+j*3,none⟩ l[j].cells:=hk j _ (iE ac);have r2:Row w1 ⟨ag,ah+j*3,none⟩ m[j].cells:=ad j _ (iE U);have V:l[j]=m[j]->l.take (j+1)=m.take (j+1):=λh=>by rw [iI ac,iI U,ht,h]
   have aa:l[j]≠m[j]->l≠m:=λh e=>h (by subst e;rfl)
   clear hk ad;generalize l[j]=x at *;generalize m[j]=y at *;by_cases ab:x=y
   . subst ab;refine eK ?_;refine Aq (λM=>Ext w1 M) 8 (.pure 0 (.pure 1 (.pure 2 (.pure 3 (.pure 4 (.pure 5 (.pure 6 (.pure 7 .tail)))))))) mixed AU (Aa (Af (Aa (Aa (Af (Aa Ag)))))) ?_;intro ai ae _;have Y:(λM=>Ext w1 M) ai:=ae;simp only at Y;have N:=r1;have O:=r2;revert X hs G;refine eE ae ?_;intro X hs G;refine ⟨Y,?_⟩;refine eT ?_;refine Tq rfl (BE Ac rfl rfl rfl (λM hz=>(mJ N hz)) rfl) ?_;refine eT ?_;refine Tq rfl (BE Ac rfl rfl rfl (λM hz=>(mJ O hz)) rfl) ?_;refine Ar rfl (C1 (Vr (v:=x) rfl rfl) ?_);refine eK ?_;exact AA (j+1) sB ⟨hs,G,V rfl,X,Ab⟩ Ab
   . have aa:=aa ab;clear V;refine eK ?_;refine Aq (λM=>Ext w1 M) 8 (.pure 0 (.pure 1 (.pure 2 (.pure 3 (.pure 4 (.pure 5 (.pure 6 (.pure 7 .tail)))))))) mixed AU (Aa (Af (Aa (Aa (Af (Aa Ag)))))) ?_;intro aj af _;have Z:(λM=>Ext w1 M) aj:=af;simp only at Z;have N:=r1;have O:=r2;have X:=X.ext af;refine ⟨Z,?_⟩;refine eT ?_;refine Tq rfl (BE Ac rfl rfl rfl (λM hz=>(mJ N hz)) rfl) ?_;refine eT ?_;refine Tq rfl (BE Ac rfl rfl rfl (λM hz=>(mJ O hz)) rfl) ?_;refine Ar rfl (C1 (Yh (u:=x) (v:=y) ab rfl rfl) ?_);refine kR ?_;exact ⟨false,rfl,⟨λh=>(by cases h),λh=>absurd h aa⟩,X⟩
 . obtain rfl:j=l.length:=by omega
   rw [iZ,hn,iZ] at ht;refine kR ?_;exact ⟨true,rfl,⟨λ_=>ht,λ_=>rfl⟩,X⟩
def Yi (g:PG) (h:g.wf) (G:g.ok=false) (S:nP) (M:oA) (vc:Nat) (N:oA) (V:Nat) (O:oA) (Y:Nat) (w:wD) (U:g.sits S w M N O) :
 Calls prog 70 #[.agg (g.cells M vc N V O Y).toArray] w (ChkR [] w):=by
 have Z:=iF (F7 h G);have X:=Ne w;refine Ad func70 ntmps70 rfl rfl (cS (eB [_,_,_,_,_,_] ?_));intro b1 w2 h4 x5 _ _;revert U X;refine eE x5 ?_;intro U X;refine kC (Z.out _ _ _ _ _ _ _ _ Ae) ?_;rintro _ w9 ⟨⟨⟩,x8⟩;have X:=X.ext x8;refine kR ?_;exact ⟨none,0,rfl,nA,X,λ_=>⟨rfl,rfl⟩⟩
def aI (e:EX) (hw:e.wf) (p:PG) (hp:p.wf) (db:p.vars.length<=1000000) (S:nP) (va:oA) (vc:Nat) (pa:oA) (pc:Nat) (ma:oA) (mc:Nat) (ae:oA) (al:Nat) (an:oA) (ap:Nat) (ao:oA) (aq:Nat) (w:wD)
 (U:e.sits S w va pa ma vc) (G:p.sits S w ae an ao) (M:PDsC S w p.procs an) (ay:p.vars.length<=al) :
 Calls prog 46 #[.agg (e.cells va vc pa pc ma mc).toArray,.agg (p.cells ae al an ap ao aq).toArray] w λr w'=>r = .returned (.int .i64 (D8 e p))/\Ext w w':=by
 have X:=Ne w;have U:=U.ltA;have G:=G.ltA;have M:=M.ltA;have HE:=iF (λw1 h=>KR e hw (· < w.heap.size) va vc pa pc ma mc w1 h);have HV:=iF (λ(q:Bool) (h:p.ok=q)=>F7 hp h);have HS:=iF (λ(h:p.ok=true) w1 h1 h2=>Kg p hp h (· < w.heap.size) ae al an ap ao aq w1 h1 h2 ay);have HC:=iF (λ(h:p.ok=true) w1 h1 h2=>Re p hp h (· < w.heap.size) ae al an ap ao aq w1 h1 h2 ay);have HN:=iF (λ(h:p.ok=false) w1 h1=>Yi p hp h (· < w.heap.size) ae al an ap ao aq w1 h1);have HQ:=iF (λw1 (h1:VDs (· < w.heap.size) w1 p.vars ae) (h2:VDs (· < w.heap.size) w1 e.g.vars va)=>TE p.vars e.g.vars _ _ ae va al vc w1 Ab h1 h2);have N:=U.g.vars;have O:=G.vars;unfold EX.cells D8 at *;generalize ar:decide e.valid=q1 at *;rcases Decidable.em e.valid with h1|h1
 case inr=>
  rw [decide_eq_false h1] at ar;subst ar;rw [AG h1];clear HV HS HC HN HQ hp hw;refine Ad func46 ntmps46 rfl rfl ?_;refine cS (eB [_,_,_,_,_,_,_,_,_,_,_,_] ?_);intro b1 w2 h4 x5 _ _;revert X U G M N O;refine eE x5 ?_;intro X U G M N O;refine eB [_,_,_,_,_,_] ?_;intro b8 w9 az bs _ _;revert h4 X U G M N O;refine eE bs ?_;intro h4 X U G M N O;refine eK ?_;refine A3 [_,_,_,_,_,_,_,_,_,_,_,_] Ac rfl rfl rfl h4 rfl rfl rfl (cC rfl (HE.out _ Ae) ?_);rintro _ dc ⟨⟨⟩,bt⟩;revert az h4 X U G M N O;refine eE bt ?_;intro az h4 X U G M N O;refine kR ?_;exact ⟨rfl,X⟩
 rw [decide_eq_true h1] at ar;subst ar;rw [At (λh=>h h1)];cases hok:p.ok
 . have HV:=iF (HV.out _ hok);have HN:=iF (HN.out hok);rw [AG (iG rfl)];clear HS HC HQ hp hw hok h1;refine Ad func46 ntmps46 rfl rfl ?_;refine cS (eB [_,_,_,_,_,_,_,_,_,_,_,_] ?_);intro dd de ak bu _ _;revert X U G M N O;refine eE bu ?_;intro X U G M N O;refine eB [_,_,_,_,_,_] ?_;intro df dg ag a0 _ _;revert ak X U G M N O;refine eE a0 ?_;intro ak X U G M N O;refine eK ?_;refine A3 [_,_,_,_,_,_,_,_,_,_,_,_] Ac rfl rfl rfl ak rfl rfl rfl (cC rfl (HE.out _ Ae) ?_);rintro _ b0 ⟨⟨⟩,a1⟩;revert ag ak X U G M N O;refine eE a1 ?_;intro ag ak X U G M N O;refine kQ (HN.out _ Ae) ?_;rintro _ b2 ⟨b3,b4,⟨⟩,au,a2,b5⟩;revert ag ak X U G M N O;refine eE a2 ?_;intro ag ak X U G M N O;refine kC (HV.out _ _ _ _ _ _ _ _ Ae) ?_;rintro _ b6 ⟨⟨⟩,a3⟩;revert au ag ak X U G M N O;refine eE a3 ?_;intro au ag ak X U G M N O;refine kR ?_;exact ⟨rfl,X⟩
 have HV:=iF (HV.out _ hok);have HS:=iF (HS.out hok);have HC:=iF (HC.out hok);clear HN hp hw hok h1;rcases Decidable.em (p.flt=0) with h2|h2
 case inr=>
  rw [AG (iH h2)];have h3:0<p.flt:=Nat.pos_of_ne_zero h2;generalize p.flt=nf at *;generalize p.errs=xs at *;clear HQ h2;refine Ad func46 ntmps46 rfl rfl ?_;refine cS (eB [_,_,_,_,_,_,_,_,_,_,_,_] ?_);intro dh di af bv _ _;revert X U G M N O;refine eE bv ?_;intro X U G M N O;refine eB [_,_,_,_,_,_] ?_;intro dk dl ac a4 _ _;revert af X U G M N O;refine eE a4 ?_;intro af X U G M N O;refine eK ?_;refine A3 [_,_,_,_,_,_,_,_,_,_,_,_] Ac rfl rfl rfl af rfl rfl rfl (cC rfl (HE.out _ Ae) ?_);rintro _ b7 ⟨⟨⟩,a5⟩;revert ac af X U G M N O;refine eE a5 ?_;intro ac af X U G M N O;refine kQ (HC.out _ Ae Ae) ?_;rintro _ b9 ⟨ca,cb,⟨⟩,am,a6,cc⟩;revert ac af X U G M N O;refine eE a6 ?_;intro ac af X U G M N O;refine kC (HV.out _ _ _ _ _ _ _ _ Ae) ?_;rintro _ cd ⟨⟨⟩,a7⟩;revert am ac af X U G M N O;refine eE a7 ?_;intro am ac af X U G M N O;refine kQ (HS.out _ Ae Ae) ?_;rintro _ ce ⟨cf,cg,⟨⟩,a8⟩;revert am ac af X U G M N O;refine eE a8 ?_;intro am ac af X U G M N O;refine kR ?_;exact ⟨rfl,X⟩
 rw [h2] at HS;rw [At (by simp [h2])];cases hE:p.errs with
 | cons er tl=>
  rw [hE] at HC;clear HQ;refine Ad func46 ntmps46 rfl rfl ?_
  focus
   refine cS (eB [_,_,_,_,_,_,_,_,_,_,_,_] ?_);intro dm dn ad bw _ _;revert X U G M N O;refine eE bw ?_;intro X U G M N O;refine eB [_,_,_,_,_,_] ?_;intro dp dq Z a9 _ _;revert ad X U G M N O;refine eE a9 ?_;intro ad X U G M N O;refine eK ?_;refine A3 [_,_,_,_,_,_,_,_,_,_,_,_] Ac rfl rfl rfl ad rfl rfl rfl (cC rfl (HE.out _ Ae) ?_);rintro _ ch ⟨⟨⟩,ba⟩;revert Z ad X U G M N O;refine eE ba ?_;intro Z ad X U G M N O;refine kQ (HC.out _ Ae Ae) ?_;rintro _ ci ⟨cj,ck,⟨⟩,ah,bb,bc⟩;revert Z ad X U G M N O;refine eE bb ?_;intro Z ad X U G M N O;refine kC (HV.out _ _ _ _ _ _ _ _ Ae) ?_;rintro _ cl ⟨⟨⟩,bd⟩;revert ah Z ad X U G M N O;refine eE bd ?_;intro ah Z ad X U G M N O;refine kQ (HS.out _ Ae Ae) ?_;rintro _ cm ⟨cn,co,⟨⟩,be⟩;revert ah Z ad X U G M N O;refine eE be ?_;intro ah Z ad X U G M N O;refine eK ?_;refine Az rfl (λav=>?_) (λav=>?_);rotate_left;refine eK ?_;rotate_left
  . obtain ⟨g0,cp,bf,-,-,aw⟩:=ah.rows AN;simp only [jm] at bf;obtain ⟨rfl,-,-⟩:=bf;obtain ⟨cs,hr,p0,dr,ds,dt,s0,rfl⟩:=aw 0 er rfl;clear aw ah bc Z ad N O HC HS HV HE hE;refine eK ?_;refine C1 (Pw hr) ?_;refine kR ?_;exact ⟨rfl,X⟩
  . exact absurd AN av
 | nil=>
  rw [hE] at HC;by_cases h3:p.vars=e.g.vars
  . rw [AG h3];have ax:Hid (∀w1,VDs (· < w.heap.size) w1 p.vars ae->VDs (· < w.heap.size) w1 e.g.vars va->Calls prog 82 #[.slice ae p.vars.length al,.slice va e.g.vars.length vc] w1 λe w'=>e = .returned (.bool true)/\Ext w1 w'):=iF λw1 h1 h2=>(HQ.out w1 h1 h2).mono λ_ _ ⟨q,g1,g2,g3⟩=>⟨by rw [g1,g2.2 h3],g3⟩
    clear HQ h3;refine Ad func46 ntmps46 rfl rfl ?_;refine cS (eB [_,_,_,_,_,_,_,_,_,_,_,_] ?_);intro du dv aa bx _ _;revert X U G M N O;refine eE bx ?_;intro X U G M N O;refine eB [_,_,_,_,_,_] ?_;intro dw dx V bg _ _;revert aa X U G M N O;refine eE bg ?_;intro aa X U G M N O;refine eK ?_;refine A3 [_,_,_,_,_,_,_,_,_,_,_,_] Ac rfl rfl rfl aa rfl rfl rfl (cC rfl (HE.out _ Ae) ?_);rintro _ cq ⟨⟨⟩,bh⟩;revert V aa X U G M N O;refine eE bh ?_;intro V aa X U G M N O;refine kQ (HC.out _ Ae Ae) ?_;rintro _ cr ⟨ct,cu,⟨⟩,ai,bi,cv⟩;revert V aa X U G M N O;refine eE bi ?_;intro V aa X U G M N O;refine kC (HV.out _ _ _ _ _ _ _ _ Ae) ?_;rintro _ cw ⟨⟨⟩,bj⟩;revert ai V aa X U G M N O;refine eE bj ?_;intro ai V aa X U G M N O;refine kQ (HS.out _ Ae Ae) ?_;rintro _ cx ⟨cy,cz,⟨⟩,bk⟩;revert ai V aa X U G M N O;refine eE bk ?_;intro ai V aa X U G M N O;refine kC (ax.out _ Ae Ae) ?_;rintro _ c0 ⟨⟨⟩,bl⟩;revert ai V aa X U G M N O;refine eE bl ?_;intro ai V aa X U G M N O;refine kR ?_;exact ⟨rfl,X⟩
  . rw [At h3];have ax:Hid (∀w1,VDs (· < w.heap.size) w1 p.vars ae->VDs (· < w.heap.size) w1 e.g.vars va->Calls prog 82 #[.slice ae p.vars.length al,.slice va e.g.vars.length vc] w1 λe w'=>e = .returned (.bool false)/\Ext w1 w'):=iF λw1 h1 h2=>(HQ.out w1 h1 h2).mono λ_ _ ⟨q,g1,g2,g3⟩=>⟨by rw [g1];cases q;rfl;exact absurd (g2.1 rfl) h3,g3⟩
    clear HQ h3;refine Ad func46 ntmps46 rfl rfl ?_;refine cS (eB [_,_,_,_,_,_,_,_,_,_,_,_] ?_);intro dy dz ab bz _ _;revert X U G M N O;refine eE bz ?_;intro X U G M N O;refine eB [_,_,_,_,_,_] ?_;intro d0 d1 Y bm _ _;revert ab X U G M N O;refine eE bm ?_;intro ab X U G M N O;refine eK ?_;refine A3 [_,_,_,_,_,_,_,_,_,_,_,_] Ac rfl rfl rfl ab rfl rfl rfl (cC rfl (HE.out _ Ae) ?_);rintro _ c1 ⟨⟨⟩,bn⟩;revert Y ab X U G M N O;refine eE bn ?_;intro Y ab X U G M N O;refine kQ (HC.out _ Ae Ae) ?_;rintro _ c2 ⟨c3,c4,⟨⟩,aj,bo,c5⟩;revert Y ab X U G M N O;refine eE bo ?_;intro Y ab X U G M N O;refine kC (HV.out _ _ _ _ _ _ _ _ Ae) ?_;rintro _ c6 ⟨⟨⟩,bp⟩;revert aj Y ab X U G M N O;refine eE bp ?_;intro aj Y ab X U G M N O;refine kQ (HS.out _ Ae Ae) ?_;rintro _ c7 ⟨c8,c9,⟨⟩,bq⟩;revert aj Y ab X U G M N O;refine eE bq ?_;intro aj Y ab X U G M N O;refine kC (ax.out _ Ae Ae) ?_;rintro _ da ⟨⟨⟩,br⟩;revert aj Y ab X U G M N O;refine eE br ?_;intro aj Y ab X U G M N O;refine kR ?_;exact ⟨rfl,X⟩
def We (e:EX) (f:Nat) (hf:e.fuel=(f:Int)) (b6:f<=10000) (p:PG) (hp:p.wf) (ao:p.acc) (s t:SV) (a9:FitsP p.vars s) (bl:t.small) (S:nP) (va:oA) (vc:Nat) (pa:oA) (pc:Nat) (ma:oA) (mc:Nat) (ap:oA) (aw:Nat) (af:oA) (be:Nat) (aq:oA) (bf:Nat)
 (ca ta oa ax ay az:oA) (cc tc oc bm bn bo:Nat) (w:wD) (G:p.sits S w ap af aq) (M:PDsC S w p.procs af) (b7:p.vars.length<=aw) (k1:s.sits S w ca ta oa) (O:t.sits S w ax ay az) :
 Calls prog 49 #[.agg (e.cells va vc pa pc ma mc).toArray,.agg (p.cells ap aw af be aq bf).toArray,.agg (s.row ca cc ta tc oa oc).toArray,.agg (t.row ax bm ay bn az bo).toArray] w λr w'=>
  ∃q,r = .returned (.tuple #[.bool q,.int .i64 (DR p s f).err])/\(q=true↔(DR p s f).err=0/\(DR p s f).st=t)/\Ext w w':=by
 have X:=Ne w;have G:=G.ltA;have M:=M.ltA;have k1:=k1.ltA;have O:=O.ltA;have HF:Hid (∀w1,p.sits (· < w.heap.size) w1 ap af aq->PDsC (· < w.heap.size) w1 p.procs af->s.sits (· < w.heap.size) w1 ca ta oa->Calls prog 48 #[.agg (p.cells ap aw af be aq bf).toArray,.agg (s.row ca cc ta tc oa oc).toArray,.int .i64 e.fuel] w1 (ResR (DR p s f) w1)):=
  iF λw1 h1 h2 h3=>by rw [hf];exact OJ p hp ao.1 ao.2.1 s a9 f b6 _ (PZ p s f) _ ap aw af be aq bf ca ta oa cc tc oc w1 h1 h2 b7 h3
 have HQ:=iF (λ(u:SV) S1 a1 a2 a3 c1 c2 c3 w1 h0 h1 (h2:t.sits (· < w.heap.size) w1 ax ay az)=>Wc u t h0 bl S1 _ a1 a2 a3 ax ay az c1 c2 c3 bm bn bo w1 h1 h2);generalize DR p s f=r at *;clear hp ao a9 hf bl;unfold EX.cells at *;obtain ⟨⟨a0,bp,bg⟩,n,er⟩:=r;obtain ⟨b4,cq,b9⟩:=t;obtain ⟨b5,cr,cb⟩:=s;simp only [SV.mk.injEq] at *;by_cases bq:er=0
 . subst bq;refine Ad func49 ntmps49 rfl rfl ?_;refine cS (eB [_,_,_,_,_,_,_,_,_,_,_,_] ?_);intro b1 w2 h4 x5 _ _;revert X G M O k1;refine eE x5 ?_;intro X G M O k1;refine eB [_,_,_,_,_,_] ?_;intro b8 w9 V cd _ _;revert h4 X G M O k1;refine eE cd ?_;intro h4 X G M O k1;refine Du [_,_,_] rfl rfl rfl ?_;intro da db br;have aa:=br.blk;dsimp only at aa;have ce:=br.ext;revert V h4 X G M O k1;refine eE ce ?_;intro V h4 X G M O k1;refine Du [_,_,_] rfl rfl rfl ?_;intro dc dd bs;have ab:=bs.blk;dsimp only at ab;have cf:=bs.ext;revert aa V h4 X G M O k1;refine eE cf ?_;intro aa V h4 X G M O k1;refine kQ (HF.out _ Ae Ae Ae) ?_;rintro _ de ⟨df,dg,ct,cu,cv,cw,⟨⟩,ag,dh,cg⟩;revert ab aa V h4 X G M O k1;refine eE cg ?_;intro ab aa V h4 X G M O k1;refine xA [_,_,_,_,_] ?_;intro di dk a4;refine Dz [_,_,_,_,_] Ac rfl rfl rfl rfl rfl rfl a4 rfl ?_;intro bt a4;have an:=a4.blk;dsimp only at an;have ch:=a4.ext;revert ag ab aa V h4 X G M O k1;refine eE ch ?_;intro ag ab aa V h4 X G M O k1;refine eK ?_;refine Aq (λwz=>Ext bt wz) 12 (.pure 0 (.pure 1 (.pure 2 (.pure 3 (.pure 4 (.pure 5 (.pure 6 (.pure 9 (.pure 10 (.fork 7 (.pure 8 (.pure 11 .tail)) .none)))))))))) mixed AU (Aa Ag) ?_
   intro ci bu _;have ac:(λwz=>Ext bt wz) ci:=bu;simp only at ac;have ah:=an;have bh:=ag;have ar:=ab;have bi:=aa;have bj:=V;have bv:=h4;have ai:=G;have aj:=M;have au:=O;have av:=k1;revert an ag ab aa V h4 X G M O k1;refine eE bu ?_;intro an ag ab aa V h4 X G M O k1;refine ⟨ac,?_⟩;refine eT ?_;refine eN rfl (xL [_,_,_] (λwz hz=>(mN ah hz))) (eN rfl (xL [_,_,_] (λwz hz=>(mN ar hz))) (Tq rfl Pf (Tq rfl (Db ah) ?_)));refine FB rfl rfl rfl rfl (Hn B9) (AM AU rfl (HQ.out ⟨a0,bp,bg⟩ _ _ _ _ _ _ _ _ Ae Ae Ae) (λ_ _ ⟨_,h⟩=>⟨_,h.1⟩)) rfl ?_ aFh Ay;rintro _ dl ⟨dm,⟨⟩,cj,ck⟩;revert ac an ag ab aa V h4 X G M O k1;refine eE ck ?_;intro ac an ag ab aa V h4 X G M O k1;refine ⟨ac,?_⟩;refine Tq rfl bA (Tq rfl Pa ?_);clear ah bh ar bi bj bv ai aj au av ac;refine Ar rfl ?_;refine kT ?_;exact ⟨_,rfl,by rw [cj];simp [SV.mk.injEq],X⟩
 . refine Ad func49 ntmps49 rfl rfl ?_;refine cS (eB [_,_,_,_,_,_,_,_,_,_,_,_] ?_);intro dn dp Y cl _ _;revert X G M O k1;refine eE cl ?_;intro X G M O k1;refine eB [_,_,_,_,_,_] ?_;intro dq dr N bw _ _;revert Y X G M O k1;refine eE bw ?_;intro Y X G M O k1;refine Du [_,_,_] rfl rfl rfl ?_;intro cx cy ba;have U:=ba.blk;dsimp only at U;have bx:=ba.ext;revert N Y X G M O k1;refine eE bx ?_;intro N Y X G M O k1;refine Du [_,_,_] rfl rfl rfl ?_;intro cz c0 bb;have Z:=bb.blk;dsimp only at Z;have bz:=bb.ext;revert U N Y X G M O k1;refine eE bz ?_;intro U N Y X G M O k1;refine kQ (HF.out _ Ae Ae Ae) ?_;rintro _ c4 ⟨c5,c6,cm,cn,co,cp,⟨⟩,ae,c7,b0⟩;revert Z U N Y X G M O k1;refine eE b0 ?_;intro Z U N Y X G M O k1;refine xA [_,_,_,_,_] ?_;intro c8 c9 al;refine Dz [_,_,_,_,_] Ac rfl rfl rfl rfl rfl rfl al rfl ?_;intro bc al;have am:=al.blk;dsimp only at am;have b2:=al.ext;revert ae Z U N Y X G M O k1;refine eE b2 ?_;intro ae Z U N Y X G M O k1;refine eK ?_;refine Aq (λwz=>Ext bc wz) 12 (.pure 0 (.pure 1 (.pure 2 (.pure 3 (.pure 4 (.pure 5 (.pure 6 (.pure 7 (.pure 8 (.pure 9 (.pure 10 (.pure 11 .tail)))))))))))) mixed AU (Aa Ag) ?_
   intro b3 bd _;have ak:(λwz=>Ext bc wz) b3:=bd;simp only at ak;have ad:=am;have a5:=ae;have a6:=Z;have a7:=U;have a8:=N;have bk:=Y;have ai:=G;have aj:=M;have au:=O;have av:=k1;revert am ae Z U N Y X G M O k1;refine eE bd ?_;intro am ae Z U N Y X G M O k1;refine ⟨ak,?_⟩;refine Tq rfl Pf (Tq rfl (Db ad) (Tq rfl V1 (Tq rfl Mv (L8 rfl rfl rfl rfl (IT Ae) rfl (L8 rfl rfl rfl rfl (IT Ae) rfl (L8 rfl rfl rfl rfl (IT Ae) rfl (L8 rfl rfl rfl rfl (IT Ae) rfl (Tq rfl Ss (Tq rfl Pf (Tq rfl (Db ad) (Tq rfl Pa ?_)))))))))));clear ak ad a5 a6 a7 a8 bk ai aj au av;refine Ar rfl ?_;refine kT ?_;exact ⟨_,rfl,⟨λh=>(by cases h),λh=>absurd h.1 bq⟩,X⟩
def Yj (r:Int) (h:r<=4000) (w:wD):Calls prog 117 #[.int .i64 r] w λe w'=>e = .returned (.int .i64 (Cx r))/\Ext w w':=by
 have X:=Ne w;by_cases G:r<0
 . rw [show Cx r=0 by unfold Cx;rw [AG G]];refine Ad func117 ntmps117 rfl rfl (kR ?_);exact ⟨rfl,X⟩
 . have M:r.tmod 2=r%2:=Int.tmod_eq_emod_of_nonneg Ab;have N:jP .i64 (r.tdiv 2)=r/2:=by rw [Int.tdiv_eq_ediv_of_nonneg Ab];exact iO _ Ab
   have V:0<=r/2/\r/2<=2000:=by omega
   by_cases O:r%2=1
   . rw [show Cx r=r/2+1 by unfold Cx;rw [At G,AG O]];generalize r/2=q at *;generalize r%2=m at *;refine Ad func117 ntmps117 rfl rfl (eK ?_);refine C1 (O8 rfl rfl B9 M) (eK ?_);refine C1 (Ip rfl rfl B9 N) (kR ?_);exact ⟨rfl,X⟩
   . rw [show Cx r = -(r/2) by unfold Cx;rw [At G,At O]];have U:KH (0-r/2) = -(r/2):=by rw [show (0:Int)-r/2 = -(r/2) by omega];exact iO _ Ab
     generalize r/2=q at *;generalize r%2=m at *;refine Ad func117 ntmps117 rfl rfl (eK ?_);refine C1 (O8 rfl rfl B9 M) (eK ?_);refine C1 (Ip rfl rfl B9 N) (C1 (Mc rfl) (kR ?_));rw [U];exact ⟨rfl,X⟩
def IP (h:Int) (ls:List (Int×Int)) (m:Nat):List (Int×Int):=(jQ (ls.length+1)).map λj=>if m<=j then Bx h (ls.drop j) else (0,0)
def Ha (h:Int) (G:List (Int×Int)) (m:Nat):(IP h G m).length=G.length+1:=by simp [IP]
def E7 {h:Int} {j:Nat} (M:j<=G.length):(IP h G m)[j]? = some (if m<=j then Bx h (G.drop j) else (0,0)):=by
 unfold IP;rw [jl,List.getElem?_range Ab];rfl
def Wf (h:Int) (G:List (Int×Int)):IP h G G.length=jn (G.length+1) (0,0):=by
 apply kw;intro j;by_cases M:j<G.length+1
 . rw [E7 Ab,List.getElem?_replicate,AG M];split
   . rw [jK Ab];rfl
   . rfl
 . rw [iR (by rw [Ha];omega),iR (by simp;omega)]
def Yk {h:Int} (U:m<G.length):(IP h G (m+1)).set m ((Bx h (G.drop (m+1))).1+G[m].1,(Bx h (G.drop (m+1))).2+G[m].2*h)=IP h G m:=by
 apply kw;intro j;by_cases N:j<=G.length
 . by_cases M:m=j
   . subst M;rw [jS (by rw [Ha];omega),E7 N,AG (iW _),jd U];rfl
   . rw [jy M,E7 N,E7 N];by_cases O:m<=j
     . rw [AG O,AG Ab]
     . rw [At O,At Ab]
 . rw [iR (by rw [kg,Ha];omega),iR (by rw [Ha];omega)]
def P1 {h:Int} (M:1<=h/\h<=2001):∀G:List (Int×Int),(∀p∈G,0<=p.1/\p.1<=p.2/\p.2<=1000)->0<=(Bx h G).1/\(Bx h G).1<=1000*G.length/\(Bx h G).1<=(Bx h G).2/\(Bx h G).2<=2001000*G.length
 | [],_=>by simp [Bx]
 | p::G,N=>by
  obtain ⟨V,X,Y,Z⟩:=P1 M G (λq O=>N q (js _ O));obtain ⟨p1,p2,U⟩:=N p jx;have m1:p.2*h<=1000*2001:=Int.mul_le_mul U M.2 Ab Ab;have m2:p.2*1<=p.2*h:=Int.mul_le_mul_of_nonneg_left M.1 Ab;simp only [Bx,iM];omega
def R5 (h:Int) (ls:List (Int×Int)) (F:List (List Int)) (left:Int):List SV:=(FM h (ls.drop F.length) left).map λs=>IM (F++s)
def Yl (h:Int) (ls:List (Int×Int)) (F:List (List Int)) (xs:List Int) (k:Nat) (left:Int):List SV:=
 (If h (Bx h (ls.drop (F.length+1))) k left).flatMap λq=>R5 h ls (F++[xs++q.1]) q.2
def aJ {h:Int} (M:F.length=G.length) (left:Int):R5 h G F left=[IM F]:=by
 unfold R5;rw [M,ly];simp [FM]
def Ym {h:Int} {left:Int}:Yl h G F xs 0 left=R5 h G (F++[xs]) left:=by
 simp [Yl,If]
def gD (h:Int) (ls:List (Int×Int)) (c:Nat) (p:Int×Int) (left:Int):Int:=eR h (Bx h (ls.drop (c+1))) p left
def gQ (h:Int) (ls:List (Int×Int)) (c:Nat) (p:Int×Int) (left:Int):Int:=fH (Bx h (ls.drop (c+1))) p left
def Yn {h:Int} {p:Int×Int} (N:G[F.length]? = some p) (left:Int) :
 R5 h G F left=(jQ (gQ h G F.length p left-gD h G F.length p left+1).toNat).flatMap λ(m:Nat)=>Yl h G F [] (gD h G F.length p left+m).toNat left:=by
 obtain ⟨M,O⟩:=List.getElem?_eq_some_iff.1 N;unfold R5;rw [jd M,O];simp only [FM,List.map_flatMap,List.map_map,Yl,R5,gD,gQ,kF,iX,iM,ji,jC];congr 1;funext m;congr 1;funext q;congr 1;funext s;simp [Function.comp]
def Yo {h:Int} {k:Nat} {left:Int} :
 Yl h G F xs (k+1) left=(jQ (bQ h (Bx h (G.drop (F.length+1))) k left-Rr h (Bx h (G.drop (F.length+1))) k left+1).toNat).flatMap λ(m:Nat)=>
  Yl h G F (xs++[Cx (Rr h (Bx h (G.drop (F.length+1))) k left+m)]) k (left-1-Rr h (Bx h (G.drop (F.length+1))) k left-m):=by
 unfold Yl;simp only [If,List.flatMap_assoc,List.flatMap_map];congr 1;funext m;congr 1;funext q;simp
def Yp {h:Int}:(VC h G).map IM=(jQ ((Bx h G).2-(Bx h G).1+1).toNat).flatMap λ(m:Nat)=>R5 h G [] ((Bx h G).1+m):=by
 simp [VC,R5,List.map_flatMap]
def K3 {α:Type} {f:Nat->List α} {N:Nat} {out S:List α} (h:out++(jQ N).flatMap f <+: S) (G:m<N):(out++(jQ m).flatMap f)++f m <+: S:=by
 refine List.IsPrefix.trans ?_ h;rw [jk,List.prefix_append_right_inj];have e:(jQ m).flatMap f++f m=(jQ (m+1)).flatMap f:=by rw [List.range_succ,kB];simp
 rw [e];obtain ⟨d,rfl⟩:∃d,N=m+1+d:=⟨N-(m+1),Ab⟩;rw [List.range_add (n:=m+1),kB];exact List.prefix_append _ _
def JD {α:Type} {f:Nat->List α} {out:List α}:(out++(jQ m).flatMap f)++f m=out++(jQ (m+1)).flatMap f:=by
 rw [List.range_succ,kB,jk];simp
def fO {h:Int} {r:Int×Int} {left:Int} (G:0<=r.1) (M:0<=k) (N:(m:Int)<bQ h r k left-Rr h r k left+1):0<=Rr h r k left+m/\Rr h r k left+m<=h-1/\k+r.1<=left-1-Rr h r k left-m/\left-1-Rr h r k left-m<=left-1:=by
 unfold bQ Rr at *;omega
def R6 {l:lV} {b:Value} (h:l[i]? = some b):l.set i b=l:=by
 apply kw;intro j;by_cases G:i=j
 . subst G;rw [jS (List.getElem?_eq_some_iff.1 h).1,h]
 . rw [jy G]
section
variable {P:Program} {l:Sl} {tab:Tab} {ty:TypeId}
def Yq {h:List lV} {j:Nat} {a b:Value} (O:∀cs∈h,cs.length=2) (M:h[j]? = some [a,b]):h.flatten[j*2]? = some a/\h.flatten[j*2+1]? = some b:=by
 have G:=(List.getElem?_eq_some_iff.1 M).1;have U:=(List.getElem?_eq_some_iff.1 M).2;obtain ⟨e,N⟩:=FH O G;rw [e,U,jk];constructor
 . rw [iY Ab,N];simp
 . rw [iY Ab,N,show j*2+1-j*2=1 by omega];simp
def LK {x y:Operand} {t C D g j f:Nat} {v:Int} {xs:List (Int×Int)} {p z u:Int×Int} (T:TabOk P tab) (ht:AD tab t=some (.int .i64,1)) (hx:ev l x=some (.pointer (some ⟨g,0+j*2+f,none⟩))) (hy:ev l y=some (.int .i64 v))
 (hA:ArrS CZ C D w g xs) (hj:xs[j]? = some p) (hg:g<C\/D<=g) (hz:(f=0/\z=(v,p.2))\/(f=1/\z=(p.1,v))) (hi:xs[i]? = some u) (hij:j≠i) :
 BG P n l (.store t x y) ty w (GV λw'=>ArrS CZ C D w' g (xs.set j z)/\Row w' ⟨g,0+i*2,none⟩ [.int .i64 u.1,.int .i64 u.2]/\Fr (· = g) w w'/\w'.heap.size=w.heap.size):=by
 obtain ⟨css,c1,c2,c3⟩:=hA.ex;have hl:=hA.lens c2 c3;have hjl:=(List.getElem?_eq_some_iff.1 hj).1;have hcj:css[j]? = some [.int .i64 p.1,.int .i64 p.2]:=by
  have h1:css[j]? = some css[j]:=iE Ab;rw [h1,show css[j]=_ from c3 j p _ hj h1]
 obtain ⟨g1,g2⟩:=Yq hl hcj;have hfl:=Em hl;have hsz:css.flatten.length=css.length*2:=hfl;have hd:=D2 (P:=P) (n:=n) (l:=l) (ty:=ty) (us:=[.int .i64 v]) T ht hx hy rfl rfl rfl c1 (by rw [mq];simp only [iM,ji];omega);unfold BG at hd ⊢;intro a dst pos after gd next Q ha hn b;refine hd a dst pos after gd next Q ha (λv' w' h=>h.elim) (λw' hP=>b w' ?_);have hP':Put w w' g (A8 css.flatten (j*2) [.int .i64 z.1,.int .i64 z.2]):=by
  have e:A8 css.flatten (0+j*2+f) [.int .i64 v]=A8 css.flatten (j*2) [.int .i64 z.1,.int .i64 z.2]:=by
   rcases hz with ⟨rfl,rfl⟩|⟨rfl,rfl⟩
   . simp only [A8,jC,kK];refine (R6 ?_).symm;rw [jy Ab];exact g2
   . simp only [A8,jC];rw [R6 g1]
  rw [<-e];exact hP
 have hA2:=T2 c2 c3 hjl hg rfl hP';obtain ⟨cs,r1,r2⟩:=hA2.row (by rw [jy hij];exact hi);obtain rfl:cs=_:=r2;exact ⟨hA2,r1,hP'.fr,hP'.size⟩
end
def fP (L:List (Int×Int)) (w:wD):Ending->wD->Prop:=λe w'=> ∃g,e = .returned (.slice (some ⟨g,0,none⟩) L.length L.length)/\w.heap.size<=g/\g<w'.heap.size/\ArrS CZ 0 0 w' g L/\Ext w w'
def Wg (G:List (Int×Int)) (hp:∀p∈G,0<=p.1/\p.1<=p.2/\p.2<=1000) (hn:G.length<=33) (h:Int) (hh:1<=h/\h<=2001) (la:oA) (c:Nat) (w:wD) (hs:Bds w G la) :
 Calls prog 84 #[.slice la G.length c,.int .i64 h] w (fP (IP h G 0) w):=by
 have X:=Ne w;have HP:=iF hp;replace hs:Arr (λb=>b<w.heap.size) 2 LP w G la:=by
  rcases hs with h|⟨b,o,h1,M,h3⟩
  . exact iG h
  . cases G with
    | nil=>exact iG rfl
    | cons v r=>exact iH ⟨b,o,h1,Cs (mO (h3 0 v rfl) rfl),h3⟩
 have HX:Hid (∀w2,Ext w w2->Arr (λb=>b<w.heap.size) 2 LP w2 G la):=iF λw2 x=>hs.mono aFh (λ_ _ _ _ _ h=>mJ h x)
 clear hp hs;refine Ad func84 ntmps84 rfl rfl ?_;refine eK ?_;refine Aw (Dq (sh:=CZ) (C:=0) (D:=0) (N:=G.length+1) (z:=((0,0):Int×Int)) Ac CC rfl rfl rfl rfl AU rfl rfl Ab (λ_ _=>rfl)) rfl ?_ aFh;rintro _ w6 ⟨g1,rfl,M,h3,h4,x5⟩;have X:=X.ext x5;refine eK ?_;refine C1 (AL rfl rfl (iO _ Ab)) (C1 Pa (cT ?_));refine Au ?_;rw [<-Wf h G] at M;refine AP (ι:=Nat) (λm=>[(0,.slice la G.length c),(1,.int .i64 h),(5,.slice (some ⟨g1,0,none⟩) (G.length+1) (G.length+1)),(6,.int .i64 ((m:Int)-1))])
  (λm w'=>m<=G.length/\ArrS CZ 0 0 w' g1 (IP h G m)/\Ext w w') (λm=>m) G.length sB ⟨iW _,M,X⟩ ?_
 clear M X h4;rintro m w7 ⟨hm,M,X⟩;cases m with
 | zero=>
  refine kR ?_;exact ⟨g1,by rw [Ha];first|done|rfl,Ab,M.lt,M,X⟩
 | succ k=>
  have hk:k<G.length:=by omega
  obtain ⟨kb,ko,rfl,kS,Y⟩:=m5 (HX.out _ X) Ab;have Z:=Y k _ (iE hk);obtain ⟨cs,ry,ae⟩:=M.row (E7 (m:=k+1) (j:=k+1) Ab);rw [AG (iW _)] at ae;obtain rfl:cs=_:=ae;have hr:=P1 hh (G.drop (k+1)) (λq hq=>HP.out q (List.mem_of_mem_drop hq));have ay:(G.drop (k+1)).length<=33:=by rw [kV];omega
  have af:=HP.out _ (iS hk);have ac:=Yk (h:=h) hk;have hz:(IP h G (k+1))[k]? = some ((0,0):Int×Int):=by rw [E7 Ab,At Ab]
  have hy:(IP h G (k+1))[k+1]? = some (Bx h (G.drop (k+1))):=by rw [E7 Ab,AG (iW _)]
  have ar:=Ha h G (k+1);clear Y HP HX;generalize Bx h (G.drop (k+1))=r at *;generalize G[k]=p at *;generalize (G.drop (k+1)).length=dl at *;obtain ⟨r1,r2⟩:=r;obtain ⟨p1,p2⟩:=p;simp only at hr af ac;replace Z:Row w7 ⟨kb,ko+k*2,none⟩ [.int .i64 p1,.int .i64 p2]:=Z;replace ry:Row w7 ⟨g1,0+(k+1)*2,none⟩ [.int .i64 r1,.int .i64 r2]:=ry;obtain ⟨q,hq⟩:∃q,p2*h=q:=⟨_,rfl⟩
  have az:0<=q/\q<=2001000:=by
   rw [<-hq];have m1:p2*h<=1000*2001:=Int.mul_le_mul af.2.2 hh.2 Ab Ab;have m2:0<=p2*h:=Int.mul_nonneg Ab Ab;omega
  have an:jP .i64 (p2*h)=q:=by rw [hq];exact iO _ Ab
  rw [hq] at ac;generalize IP h G (k+1)=W at *;have ao:k<W.length:=by omega
  refine nq (m:=[(0,.slice (some ⟨kb,ko,none⟩) G.length c),(1,.int .i64 h),(5,.slice (some ⟨g1,0,none⟩) (G.length+1) (G.length+1)),(6,.int .i64 (k:Int))]) ?_ (by (refine An rfl ?_;refine An rfl ?_;refine An rfl ?_;refine B4 rfl (by go_num) ?_;exact BL));refine eK ?_;refine Aq (λV=>Ext w7 V) 14 (.pure 0 (.pure 1 (.pure 2 (.pure 3 (.pure 4 (.pure 5 (.pure 6 (.pure 7 (.pure 8 (.pure 9 (.pure 10 (.pure 11 (.pure 12 (.pure 13 .tail)))))))))))))) mixed AU (Aa (Af (Aa (Aa (Af (Aa Ag)))))) ?_;intro ap ag _;have aa:(λV=>Ext w7 V) ap:=ag;simp only at aa;have O:=Z;have ah:=ry;revert X Z M;refine eE ag ?_;intro X Z M;refine ⟨aa,?_⟩;refine eT ?_;refine Tq rfl (Ap Ac rfl rfl rfl (λV hz=>mO (mJ ah hz) rfl)) ?_;refine eT ?_;refine Tq rfl (Ap Ac rfl rfl rfl (λV hz=>mO (mJ O hz) rfl)) (Tq rfl V7 ?_);refine Ar rfl ?_;refine eK ?_;refine A7 (LK (j:=k) (i:=k+1) (f:=0) (z:=((r1+p1,0):Int×Int)) Ac rfl rfl rfl Ae hz (iH Ab) (iG ⟨rfl,rfl⟩) hy Ab) (BJ ?_);rintro _ ai ⟨aj,aq,ak,a0⟩;revert X Z;refine eF ak ?_;intro X Z;clear ry M ak;refine cT (Aq (λV=>Ext ai V) 16 (.pure 0 (.pure 1 (.pure 2 (.pure 3 (.pure 4 (.pure 5 (.pure 6 (.pure 7 (.pure 8 (.pure 9 (.pure 10 (.pure 11 (.pure 12 (.pure 13 (.pure 14 (.pure 15 .tail)))))))))))))))) mixed AU (Af (Aa (Aa (Af (Aa Ag))))) ?_);intro al ab _;have U:(λV=>Ext ai V) al:=ab
  simp only at U;have ad:=aq;have O:=Z;revert aj X;refine eE ab ?_;intro aj X;refine ⟨U,?_⟩;refine eT ?_;refine Tq rfl (Dr ad) ?_;refine eT ?_;refine Tq rfl (Dr O) (Tq rfl Mv (Tq rfl (Io rfl rfl an) (Tq rfl V7 ?_)));refine Ar rfl ?_;refine eK ?_;refine A7 (LK (j:=k) (i:=k+1) (f:=1) (z:=((r1+p1,r2+q):Int×Int)) Ac rfl rfl rfl Ae (jS ao) (iH Ab) (iH ⟨rfl,rfl⟩) (by rw [jy Ab];exact hy) Ab) ?_;refine BJ ?_;rintro _ au ⟨av,aw,am,ax⟩;have X:=X.fr am Ab;refine eK ?_;refine C1 (AL rfl rfl (iO _ Ab)) (C1 Pa (Ak ?_));exact AA k sB ⟨Ab,by rw [<-ac,show W.set k (r1+p1,r2+q)=(W.set k (r1+p1,0)).set k (r1+p1,r2+q) from (lI ..).symm];assumption,X⟩ Ab
def Ik:Shape Value where
 sz:=1
 rep _ _ v cs:=cs=[v]/\Value.one v=true
 len h:=by rw [h.1];rfl
 one h:=by rw [h.1];simp [h.2]
 mono h _ _:=h
 lt h:=h
structure DCx where
 y:Nat
 c:Nat
 bY:Nat
 bL:Nat
 bR:Nat
 bH:Nat
 bS:Nat
 bI:Nat
 bN:Nat
 g:Nat
 gr:Nat
 lc:Nat
 la:oA
 h:Int
 ls:List (Int×Int)
 Rt:nP
section
variable {x:DCx} {A:nP} {W W':wD}
abbrev Yr (b:Nat):Value:=.pointer (some ⟨b,0,none⟩)
abbrev DCx.capI (x:DCx):lV:=[Yr x.bS,Yr x.bY,Yr x.bL,Yr x.bR,Yr x.bH,Yr x.bN]
abbrev DCx.capN (x:DCx):lV:=[Yr x.bS,Yr x.bI,Yr x.bH,Yr x.bR,Yr x.bN]
def DCx.fix (x:DCx) (k:Nat):Prop:=x.Rt k\/k=x.bY\/k=x.bL\/k=x.bR\/k=x.bH\/k=x.bS\/k=x.bI\/k=x.bN\/k=x.gr
structure DCx.K (x:DCx) (W:wD):Prop where
 y0:Blk W x.bY [.func (.yield x.y) #[] #[]]
 l0:Blk W x.bL [.slice x.la x.ls.length x.lc]
 r0:Blk W x.bR [.slice (some ⟨x.gr,0,none⟩) (x.ls.length+1) (x.ls.length+1)]
 h0:Blk W x.bH [.int .i64 x.h]
 s0:Blk W x.bS [.slice (some ⟨x.g,0,none⟩) x.ls.length x.ls.length]
 i0:Blk W x.bI [.func (.func 115) #[] x.capI.toArray]
 n0:Blk W x.bN [.func (.func 116) #[] x.capN.toArray]
 ld:Arr x.Rt 2 LP W x.ls x.la
 rs:ArrS CZ 0 0 W x.gr (IP x.h x.ls 0)
def DCx.K.fr (h:x.K W) (f:Fr T W W') (G:∀k,x.fix k -> ¬T k):x.K W':=by
 obtain ⟨M,N,O,U,V,X,Y,Z,h9⟩:=h;unfold DCx.fix at G;exact ⟨M.fr f (G _ AN),N.fr f (G _ AN),O.fr f (G _ AN),U.fr f (G _ AN),V.fr f (G _ AN),X.fr f (G _ AN),Y.fr f (G _ AN),
  Z.mono aFh (λb _ _ _ hb h=>mT h f (G b (iG hb))),h9.fr f (λk hk=>⟨Ab,λe=>G k (by simp [e]) hk⟩)⟩
instance  : LfF T W W' (x.K W) (∀k,x.fix k -> ¬T k) (x.K W'):=⟨λx s h=>Bk.DCx.K.fr h x s⟩
def DCx.L (x:DCx) (A:nP) (W:wD) (F:List (List Int)):Prop:= ∃(bl:Nat->Nat) (cs:lV),ArrS Ik 0 0 W x.g cs/\cs.length=x.ls.length /\
 (∀i xs,F[i]? = some xs->cs[i]? = some (.slice (some ⟨bl i,0,none⟩) xs.length xs.length)/\ArrS Da 0 0 W (bl i) xs/\A (bl i) /\ ¬x.fix (bl i)/\bl i≠x.g) /\
 ∀i j,i<F.length->j<F.length->bl i=bl j->i=j
def DCx.L.fr (h:x.L A W F) (f:Fr T W W') (O:A x.g) (M:∀k,A k -> ¬T k):x.L A W' F:=by
 obtain ⟨U,cs,V,X,Y,Z⟩:=h;refine ⟨U,cs,V.fr f (λk G=>⟨Ab,λe=>M k (e▸O) G⟩),X,λi xs hi=>?_,Z⟩;obtain ⟨g1,g2,N,g4⟩:=Y i xs hi;exact ⟨g1,g2.fr f (λk G=>⟨Ab,λe=>M k (e▸N) G⟩),N,g4⟩
def DCx.L.more {N:nP} (h:x.L A W F) (O:∀k,A k->N k):x.L N W F:=by
 obtain ⟨U,cs,V,X,G,Y⟩:=h;exact ⟨U,cs,V,X,λi xs M=>⟨(G i xs M).1,(G i xs M).2.1,O _ (G i xs M).2.2.1,(G i xs M).2.2.2⟩,Y⟩
def DCx.L.less {z:List Int} (h:x.L A W (F++[z])):x.L A W F:=by
 obtain ⟨M,cs,N,O,U,V⟩:=h;refine ⟨M,cs,N,O,λi xs G=>U i xs ?_,λi j G X=>V i j (by simp;omega) (by simp;omega)⟩;rw [iN (List.getElem?_eq_some_iff.1 G).1];exact G
structure DCx.D (x:DCx) (J:(nP)->List SV->wD->Prop) (A:nP) (out:List SV) (W:wD) (F:List (List Int)):Prop where
 k:x.K W
 l:x.L A W F
 j:J A out W
 lt:∀k,A k->x.c<=k/\k<W.heap.size
 own:∀k,x.fix k->x.Rt k\/A k
 ag:A x.g
 sz:x.c<=W.heap.size
structure DCx.Ok (x:DCx):Prop where
 rt:∀k,x.Rt k->k<x.c
 h:1<=x.h/\x.h<=2001
 ls:∀p∈x.ls,0<=p.1/\p.1<=p.2/\p.2<=1000
 n:1<=x.ls.length/\x.ls.length<=33
 g:¬x.fix x.g
def DCx.grow (A:nP) (W W':wD):nP:=λk=>A k\/(W.heap.size<=k/\k<W'.heap.size)
def DCx.grow_j {J:(nP)->List SV->wD->Prop} {out:List SV} {c:Nat} (N:EM c J) (O:J A out W) (M:∀k,A k->c<=k/\k<W.heap.size) (U:c<=W.heap.size) (f:Fr A W W'):J (DCx.grow A W W') out W':=
 N A _ out W W' O f (λk G=>(M k G).1) (λk G=>G.elim (λh=>(M k h).1) (λh=>by omega)) (λk G h=>h.elim id (λh=>by omega))
def DCx.D.grow {J:(nP)->List SV->wD->Prop} {out:List SV} {G:List (List Int)} (N:EM x.c J) (h:x.D J A out W F) (f:Fr A W W') (M:x.K W') (O:x.L (DCx.grow A W W') W' G):x.D J (DCx.grow A W W') out W' G:=
 ⟨M,O,DCx.grow_j N h.j h.lt h.sz f,λk M=>M.elim (λe=>⟨(h.lt k e).1,by have:=(h.lt k e).2;have:=f.size;omega⟩) (λe=>⟨by have:=h.sz;omega,e.2⟩),λk M=>(h.own k M).imp id iG,iG h.ag,by have:=h.sz;have:=f.size;omega⟩
def DCx.End (x:DCx) (J Jx:(nP)->List SV->wD->Prop) (S:List SV) (A:nP) (out:List SV) (G:List (List Int)->Prop):Ending->wD->Prop:=λe W'=>
 ∃q A',e = .returned (.bool q)/\(∀k,A k->A' k)/\((q=true /\ ∃F,G F/\x.D J A' out W' F)\/(q=false/\(∀k,A' k->x.c<=k) /\ ∃pre,pre <+: S/\Jx A' pre W'))
def DCx.End.ret {J Jx:(nP)->List SV->wD->Prop} {S:List SV} {out:List SV} {G:List (List Int)->Prop} (h:x.End J Jx S A out G e W'):∃v,e = .returned v:=by
 obtain ⟨_,_,h,-⟩:=h;exact ⟨_,h⟩
def DCx.end_nl {J Jx:(nP)->List SV->wD->Prop} {S:List SV} {out:List SV} {G:List (List Int)->Prop} (w:wD):¬x.End J Jx S A out G .outgrown w:=λ⟨_,_,h,_⟩=>by cases h
end
def P2 (b0:Nat) (W:wD) (vs:lV) (s:SV):Prop:= ∃a c ta tc oa oc,vs=[.agg (s.row a c ta tc oa oc).toArray]/\s.sits (λb=>b0<=b) W a ta oa
def SRes (Rt:nP) (J Jx:(nP)->List SV->wD->Prop) (A:nP) (xs:List SV) (W:wD):Ending->wD->Prop:=λe W'=>
 Keeps (λk=>A k\/Rt k) W W'/\((e = .returned (.bool true)/\J A xs W')\/(e = .returned (.bool false)/\Jx A xs W'))
def SRes.ret {J Jx:(nP)->List SV->wD->Prop} {A:nP} {xs:List SV} (h:SRes T J Jx A xs w e w'):∃v,e = .returned v:=by
 obtain ⟨-,⟨h,-⟩|⟨h,-⟩⟩:=h<;>exact ⟨_,h⟩
def DCx.L.sits {x:DCx} {A:nP} {W:wD} {F:List (List Int)} (h:x.L A W F) (U:F.length=x.ls.length) (hn:1<=x.ls.length) (V:A x.g):∃b,(∃cs,ArrS Ik 0 0 W x.g cs/\cs[x.ls.length-1]? = some (.slice (some ⟨b,0,none⟩) (F.getLastD []).length (F.getLastD []).length)) /\
 (IM F).sits A W (some ⟨x.g,0,none⟩) (some ⟨b,0,none⟩) none:=by
 obtain ⟨bl,cs,N,h2,O,-⟩:=h;have X:F[x.ls.length-1]? = some (F.getLastD []):=by
  rw [List.getLastD_eq_getLast?,List.getLast?_eq_getElem?,U,iE Ab];rfl
 obtain ⟨Y,Z,g3,-,-⟩:=O _ _ X;refine ⟨_,⟨cs,N,Y⟩,iH ⟨x.g,0,rfl,V,λi xs G=>?_⟩,iH ⟨_,0,rfl,g3,Z.blkI.row⟩,iG rfl⟩;have M:F[i]? = some xs:=by
  have:(IM F).cells=F.dropLast:=rfl;rw [this] at G;rw [lh] at G;split at G
  . exact G
  . cases G
 obtain ⟨k1,k2,k3,-,-⟩:=O i xs M;obtain ⟨us,hr,hu,-⟩:=N.row k1;subst hu;exact ⟨_,_,hr,iH ⟨_,0,rfl,k3,k2.blkI.row⟩⟩
end Bk
