/- Texts that the proofs of ExerciseBack, ExerciseJoins need. No condition. (Part 10 of 10.) -/
import Derived.Test.YtjkgmpljepnmiaaGreatDoorPEbx8
set_option linter.unusedSimpArgs false
set_option linter.unusedVariables false
set_option linter.defProp false
set_option maxRecDepth 100000
set_option maxHeartbeats 4000000
open Go.Proofs.Tryz
open List renaming length_append->jy,length_cons->jz,getElem?_eq_getElem->jB,length_nil->jD,getElem_cons_succ->jE,getElem_mem->jH,set_cons_zero->jI,take_succ_eq_append_getElem->jK,cons_append->jP,take_length->jQ,mem_cons->jR,append_assoc->jS,not_mem_nil->jU,flatten_cons->jY,getElem?_eq_none->j4,replicate->ke,getElem?_append_left->kj,nil_append->km,length_take->kn,getElem?_append_right->kp,drop_eq_getElem_cons->kv,take_append_drop->kA,append_nil->kB,isEmpty_iff->kF,all_eq_true->kG,mem_cons_of_mem->kH,take_succ_cons->kK,map_cons->kN,mem_singleton->kP
open Bool renaming and_eq_true->jA,false_eq_true->kx
open Go.Lib renaming hid->jC,indexByte->ky
open Or renaming inl->jF,inr->jG
open Option.some renaming injEq->jJ,inj->jW
open Nat renaming le_refl->jL,zero_le->jN,blt->jT,lt_or_ge->jX,le_of_ble_eq_true->kg,le_trans->kz,eq_of_beq_eq_true->kD,ble->kJ,beq->kL
open Go.Result renaming andThen->jM,andThen_ok->kE
open Go.Sem renaming run_bind->jO,run_pure->jZ
open Go renaming Calls->jV
open Go.Region renaming ready->j6,binds->kO
open Go.IntWalk renaming i64_in->j7
open Go.Value.slice renaming injEq->j8
open List.cons renaming injEq->j9
open Prod.mk renaming injEq->kf
open Go.DataW renaming trod->kh
open Array renaming getElem?_eq_none->ki
open Go.Value renaming slice->kq,ownBlock->kC
open Go.Addr renaming add->kI
namespace Bk
open Go Go.RowKit Go.Proofs
def Oz {P:Program} {n:Nat} {l:Sl} {tab:Tab} {zt:E4} {ty:TypeId} {w:wD} {α:Type} {sh:Shape α} {x y:Operand} {t e sz1 B B' c d:Nat} {R Ry:nP} {a a':oA} {sE:Sk} {zs:lV} {xs ys:List α} (T:TabOk P tab) (Z:CN P zt) (ht:AC tab t=some (.slice e,sz1)) (hE:AC tab e=some (sE,sh.sz)) (hz:C9 zt e=some zs) (hzl:zs.length=sh.sz)
 (hby:DB P e=true) (hsz:jT 0 sh.sz=true) (hx:ev l x=some (.slice a xs.length c)) (hy:ev l y=some (.slice a' ys.length d)) (hox:OwnQ sh w R B e (.slice a xs.length c) xs) (hoy:OwnQ sh w Ry B' e (.slice a' ys.length d) ys) (hR : ∀b,Ry b->R b/\(kq a xs.length c).ownBlock≠some b) (hyn:ys=[]->a'=none/\d=0) (hlen:xs.length+ys.length<=10000000000) (hB:B<=w.heap.size) :
 Cz P n l (.call ⟨.builtin .append,#[x,y],#[t,t]⟩) ty w (K9 fun o w'=> ∃a2 c2,o = .slice a2 (xs++ys).length c2/\OwnQ sh w' R B e (.slice a2 (xs++ys).length c2) (xs++ys)/\Fr (fun k=>(kq a xs.length c).ownBlock=some k) w w'):=by
 by_cases f:ys=[]
 . obtain ⟨rfl,rfl⟩:=hyn f;subst f;rw [kB];obtain ⟨i,hi,hs⟩:=(T _ _ _ hE).info;have hun:=(T _ _ _ ht).under;have key:(Builtin.append_ #[t,t] ty #[.slice a xs.length c,.slice none 0 0]).run P w = .ok (.slice a xs.length c) w:=by
    obtain ⟨css,h1,-⟩:=hox.ex;exact run_append_owned_none (P:=P) w B t ty e i sh.sz hun hi _ xs.length css.flatten h1
   unfold Cz;intro act dst pos after g next Q ha hn _;have e1:(execOp act.eval ⟨dst,.call ⟨.builtin .append,#[x,y],#[t,t]⟩,ty,pos,after,g⟩).run P w = .ok (.value (.slice a xs.length c)) w:=by
    simp only [jD] at hy;simp only [execOp,resolve,invoke,builtin,jO,jZ,kE,List.map_toArray,kN,List.map_nil,ha.ev hx,ha.ev hy,key]
   unfold Oper.wp;rw [e1];exact hn _ _ ⟨a,c,rfl,hox,Fr.refl _ _⟩
 . obtain ⟨css,h1,h2,h3⟩:=hox.ex;obtain ⟨cys,k1,k2,k3⟩:=hoy.ex;have hpos:0<ys.length:=List.length_pos_iff.2 f;rcases k1.row with ⟨-,h0,-⟩|⟨g,cap,hv,-,-,hr⟩
   . omega
   simp only [j8] at hv;obtain ⟨rfl,-,-⟩:=hv;have hone:cys.flatten.all Value.one=true:=by
    rw [kG];intro u hu;obtain ⟨cs,hcs,hu⟩:=List.mem_flatten.1 hu;obtain ⟨j,hj,rfl⟩:=List.mem_iff_getElem.1 hcs;have:=sh.one (k3 j ys[j] cys[j] (jB Aa) (jB hj));exact kG.1 this u hu
   have hd:=Ea (P:=P) (n:=n) (l:=l) (ty:=ty) T Z ht hE hz hzl hby hsz hx hy h1 hr k1.1 hone Aa Aa hB;unfold Cz at hd ⊢;intro act dst pos after gd next Q ha hn m;refine hd act dst pos after gd next Q ha (fun v' w' hG=>?_) (fun w' hG=>hG.elim);obtain ⟨g1,g2,g',cap',rfl,g4⟩:=hG;refine hn _ w' ⟨some ⟨g',0,none⟩,cap',by rw [jy],⟨css++cys,by rw [List.flatten_append,jy];exact g1,by simp [h2,k2],fun j z ds hz hd=>?_⟩,g2⟩;have key:sh.rep w (fun b=>R b/\(kq a xs.length c).ownBlock≠some b) z ds:=by
    by_cases hj:j<xs.length
    . rw [kj hj] at hz;rw [kj Aa] at hd;exact h3 j z ds hz hd
    . rw [kp Aa] at hz;rw [kp Aa,h2] at hd;exact sh.mono (k3 _ z ds hz hd) (fun b hb=>hR b hb.1) (fun _ _ _ _ hu=>hu)
   refine sh.mono (sh.lt key) (fun b hb=>⟨hb.1.1,fun e=>?_⟩) (fun b o u hb hu=>g2.keep hb.1.2 hu);simp only [kC,jJ] at e;subst e;rcases g4 with h|h
   . exact hb.1.2 h
   . omega
def W0 {l:List EX} {x:EX} (h : ¬GB l) (L:Ez l x.name=false) : ¬GB (l++[x]):=by
 rintro ⟨i,M,e,f,E⟩;rw [jy,List.length_singleton] at M;by_cases F:i<l.length
 . rw [kj F] at f;rw [List.take_append_of_le_length Aa] at E;exact h ⟨i,F,e,f,E⟩
 . obtain rfl:i=l.length:=by omega
   rw [kp (jL _),Nat.sub_self] at f;simp only [List.getElem?_cons_zero,jJ] at f;subst f;rw [List.take_left,L] at E;cases E
def S8 (a b:List EX):Ch (a++b)=Ch a++Ch b:=by
 unfold Ch;rw [List.flatMap_append]
def Od : ∀(l acc:List EX) (n line:Nat),(∀e∈l,e.valid/\e.g.wf/\e.g.text.length<=65536)->GB (acc++l) -> ¬GB acc->acc.length+l.length<=100->l.length<n -> ∃f:Nat,line<=f/\DJ n acc line (Ch l)=([],(f:Int),22)
 | [],acc,n,line,_,E,F,_,_=>absurd (by rwa [kB] at E) F
 | e::l,acc,n+1,line,h,E,L,M,F=>by
  obtain ⟨h1,N,O⟩:=h e Bg;have U:Ch (e::l)=e.text++Ch l:=rfl;have V:=Oa h1 N O (Ch l);simp only [jz] at M F;rw [U,DJ,At (Vk e _),At Aa,V];simp only;cases hh:Ez acc e.name with
  | true=>exact ⟨line,jL _,AH rfl⟩
  | false=>
   rw [At Ao];obtain ⟨a,Z,X⟩:=Od l (acc++[e]) n (line+Lib.countByte ((e.text++Ch l).take ((e.text++Ch l).length-(Ch l).length)) 10) (fun x Y=>h x (kH _ Y)) (by rw [jS];exact E) (W0 L hh) (by simp only [jy,jz,jD];omega) Aa;exact ⟨a,Aa,X⟩
def H4 (a b:List EX):Bool:=a.any fun x=>Ez b x.name
def hasN_iff {l:List EX} {s:lB}:Ez l s=true ↔ ∃e∈l,e.name=s:=by
 unfold Ez;rw [List.any_eq_true];exact ⟨fun ⟨e,h1,h2⟩=>⟨e,h1,by simpa using h2⟩,fun ⟨e,h1,h2⟩=>⟨e,h1,by simpa using h2⟩⟩
def W4 {a b:List EX} (h:H4 a b=true):GB (a++b):=by
 unfold H4 at h;rw [List.any_eq_true] at h;obtain ⟨x,f,h⟩:=h;obtain ⟨e,E,F⟩:=hasN_iff.1 h;obtain ⟨i,L,rfl⟩:=List.mem_iff_getElem.1 E;refine ⟨a.length+i,by rw [jy];omega,b[i],?_,hasN_iff.2 ⟨x,?_,F.symm⟩⟩
 . rw [kp Aa,Nat.add_sub_cancel_left,jB L]
 . rw [List.take_append,List.take_of_length_le Aa];exact List.mem_append_left _ f
def Y4 {a b:List EX} (N : ¬GB a) (O : ¬GB b) (h:H4 a b=false) : ¬GB (a++b):=by
 rintro ⟨i,U,e,f,F⟩;rw [jy] at U;by_cases L:i<a.length
 . rw [kj L] at f;rw [List.take_append_of_le_length Aa] at F;exact N ⟨i,L,e,f,F⟩
 . rw [kp Aa] at f;rw [List.take_append,List.take_of_length_le Aa] at F;obtain ⟨x,E,M⟩:=hasN_iff.1 F;rcases List.mem_append.1 E with E|E
   . have:H4 a b=true:=by
      unfold H4;rw [List.any_eq_true];exact ⟨x,E,hasN_iff.2 ⟨e,List.mem_of_getElem? f,M.symm⟩⟩
     rw [h] at this;cases this
   . exact O ⟨i-a.length,Aa,e,f,hasN_iff.2 ⟨x,E,M⟩⟩
def S9 {a b:List EX} (L : ∀e∈a,e.valid/\e.g.wf) (M : ∀e∈b,e.valid/\e.g.wf) (N : ¬GB a) (O : ¬GB b) (V:a.length+b.length<=100) (X : ¬ 65536<(Ch a).length+(Ch b).length) :
 (H4 a b=true -> ∃n:Nat,1<=n/\Iw (Ch a++Ch b)=([],(n:Int),22))/\(H4 a b=false->Iw (Ch a++Ch b)=(a++b,0,0)):=by
 rw [<-S8];have E : ∀e∈a++b,e.valid/\e.g.wf:=fun e f=>(List.mem_append.1 f).elim (L e) (M e)
 have F:(Ch (a++b)).length=(Ch a).length+(Ch b).length:=by rw [S8,jy]
 refine ⟨fun h=>?_,fun h=>Oc E (Y4 N O h) (by rw [jy];omega) Aa⟩;unfold Iw;rw [At Aa];refine Od (a++b) [] 101 1 (fun e f=>⟨(E e f).1,(E e f).2,?_⟩) (show GB (a++b) from W4 h) (fun ⟨i,hi,_⟩=>by simp at hi) (by simp only [jD,jy];omega) (by rw [jy];omega);have Y:e.text.length<=(Ch (a++b)).length:=by
  obtain ⟨u,v,U⟩:=List.append_of_mem f;rw [U];unfold Ch;rw [List.flatMap_append,List.flatMap_cons,jy,jy];omega
 have Z:e.g.text.length<=e.text.length:=by unfold EX.text;rw [jy];omega
 omega
attribute [local irreducible] Go.Calls
def Us {l m:List EX} {i:Nat} (h:i<l.length):H4 (l.take (i+1)) m=(H4 (l.take i) m||Ez m l[i].name):=by
 unfold H4;rw [jK h,List.any_append];simp
def W5 {m:List EX} {k:Nat} (h:k<m.length) (s:lB):Ez (m.take (k+1)) s=(Ez (m.take k) s||(m[k].name==s)):=by
 unfold Ez;rw [jK h,List.any_append];simp
def cJ (l m:List EX) (ba:l.length<=9223372036854775807) (bb:m.length<=9223372036854775807) (hw : ∀e∈l,e.name.length<=9223372036854775807/\e.g.wf) (hv : ∀e∈m,e.name.length<=9223372036854775807/\e.g.wf) (S S':nP) (a:oA) (c:Nat) (b:oA) (d:Nat) (w:wD) (F:EXs S w l a) (E:EXs S' w m b) (O:Errs2 w) (N:TabsF w) :
 Calls prog 8 #[.slice a l.length c,.slice b m.length d] w fun r w'=>r = .returned (.bool true)/\Ext w w':=by
 have X:=Ext.refl w;have bc:=N.g;have F:=F.ltA;have E:=E.ltA;have HA:=jC (fun L h1 V=>PI L h1 V);have HG:Hid (∀L,EXs (· < w.heap.size) L l a->Calls prog 11 #[.slice a l.length c] L (GreatF l L)):=jC (fun L h=>Lu l ba (fun e he=>(hw e he).2) (· < w.heap.size) a c L h);have au:Hid (∀L,EXs (· < w.heap.size) L m b->Calls prog 11 #[.slice b m.length d] L (GreatF m L)):=jC (fun L h=>Lu m bb (fun e he=>(hv e he).2) (· < w.heap.size) b d L h);have HW:=jC hw;have ac:=jC hv;clear hw hv;refine Ad func8 ntmps8 rfl rfl ?_
 focus
  refine eK ?_;refine cC rfl (HA.out _ Af Af) ?_;rintro _ w2 ⟨⟨⟩,x1⟩;revert O N X F E;refine eY x1 ?_;intro z3 O N X F E;refine eK ?_;refine eQ rfl (HG.out _ Af) ?_;rintro _ w7 ⟨b4,⟨⟨⟩,⟨h5,x6⟩⟩⟩;revert O N X F E;refine eY x6 ?_;intro z8 O N X F E;refine C1 Mv ?_;refine Mr rfl rfl rfl (fun c9=>?_) (fun c9=>?_);refine Ba rfl rfl rfl (IL Af) rfl (Ba rfl rfl rfl (IL Af) rfl (C1 (B4 rfl rfl Af) ?_));refine eK ?_;refine xR ?_;rotate_left;refine Bd rfl rfl rfl (IM Af) (C1 Mv (Bd rfl rfl rfl (IM Af) (eQ rfl (au.out _ Af) ?_)));rintro _ ci ⟨cj,⟨⟨⟩,⟨ck,bd⟩⟩⟩;revert O N X F E;refine eY bd ?_;intro cl O N X F E;refine C1 (BR rfl rfl Af) (C1 Mv ?_);refine Mr rfl rfl rfl (fun be=>?_) (fun be=>?_);refine Ba rfl rfl rfl (IL Af) rfl (Ba rfl rfl rfl (IL Af) rfl (Ba rfl rfl rfl (IL Af) rfl (C1 (B4 rfl rfl Af) ?_)));refine eK ?_;refine xR ?_;rotate_left;refine Bd rfl rfl rfl (IM Af) (C1 Mv (Bd rfl rfl rfl (IM Af) (C1 Pz (Bd rfl rfl rfl (IM Af) (C1 V5 (C1 (BR rfl rfl Af) (C1 Mv ?_)))))));refine DO rfl rfl rfl (fun bf=>?_) (fun bf=>?_);refine eK ?_;refine xR ?_;rotate_left;refine eK ?_;refine AL rfl (fun bg=>?_) (fun bg=>?_);refine eK ?_;refine xR ?_;rotate_left;refine Aw (Ag ?_);rotate_left
 . exact ⟨rfl,X⟩
 . exact ⟨rfl,X⟩
 . exact ⟨rfl,X⟩
 . exact ⟨rfl,X⟩
 have hf:=(show _=false->Fit l by assumption) Af;have av:=(show _=false->Fit m by assumption) Af;have HV:=jC (fun L h=>Jr l Aa (· < w.heap.size) a c L h);have aw:=jC (fun L h=>Jr m Aa (· < w.heap.size) b d L h);have HP:=jC (fun S a c hc L h1 V=>Jn l (hf.wf HW.out) S a c Aa hc L h1 V);have aj:=jC (fun S a c hc L h1 V=>Jn m (av.wf ac.out) S a c Aa hc L h1 V);obtain ⟨s,pk,hp,hc⟩:=JX l;obtain ⟨t,qk,hq,ax⟩:=JX m;rw [hp] at HP;rw [hq] at aj;simp only at HP aj;clear hp hq hf av HA HG au;refine eK ?_;refine eQ rfl (HV.out _ Af) ?_;rintro _ cm ⟨cn,⟨co,⟨⟨⟩,⟨cp,⟨U,bh⟩⟩⟩⟩⟩;revert O N X F E;refine eY bh ?_;intro cq O N X F E;refine cC rfl (HP.out _ _ _ Af _ Af Af) ?_;rintro _ cr ⟨⟨⟩,bi⟩;revert U O N X F E;refine eY bi ?_;intro bw U O N X F E;refine eK ?_;refine eQ rfl (aw.out _ Af) ?_;rintro _ bx ⟨bz,⟨b0,⟨⟨⟩,⟨b1,⟨Y,ay⟩⟩⟩⟩⟩;revert U O N X F E;refine eY ay ?_;intro b2 U O N X F E;refine cC rfl (aj.out _ _ _ Af _ Af Af) ?_;rintro _ b3 ⟨⟨⟩,az⟩;revert Y U O N X F E;refine eY az ?_;intro b5 Y U O N X F E;refine C1 Mv (C1 Px (C1 Px (C1 Pa (C1 Pa (cT (Al ?_))))));clear HV HP aw aj;rcases hc with ⟨rfl,rfl,e2,e3,e4,e5⟩|⟨hk,rfl⟩
 . rcases ax with ⟨rfl,rfl,k2,k3,k4,k5⟩|⟨hk,rfl⟩
   . have HX:=jC (S9 (a:=l) (b:=m) (fun e he=>⟨e2 e he,(HW.out e he).2⟩) (fun e he=>⟨k2 e he,(ac.out e he).2⟩) e3 k3 Aa);have HR:=jC (fun h L O N=>Ls (Ch l++Ch m) h L O N);have am : ∀e∈l++m,e.g.few:=fun e he=>KG ((List.mem_append.1 he).elim (e2 e) (k2 e)).2.1.1
     have HS:=jC (fun S S' a a' c c' L h1 bj=>Vb (l++m) (by rw [jy];omega) am S S' a a' c c' L h1 bj);clear e2 e3 k2 k3 am HW ac;generalize Iw (Ch l++Ch m)=q at *;obtain ⟨ql,qn,qe⟩:=q;generalize Ch l=s at *;generalize Ch m=t at *
     focus
      refine eK ?_;refine AL rfl (fun bk=>?_) (fun bk=>?_);refine eK ?_;refine xR ?_;rotate_left;refine eK ?_;refine C1 (MD rfl rfl Aa) (eQ rfl (HR.out (by rw [jy];omega) _ Af Af) ?_);rintro _ aa ⟨ad,⟨a0,⟨⟨⟩,⟨ct,⟨a1,bm⟩⟩⟩⟩⟩;revert Y U O N X F E;refine eY bm ?_;intro cu Y U O N X F E;refine C1 Mv (C1 Px (C1 Px (C1 Px (C1 Pa (C1 Pa (C1 Pa (cN (C1 Pa (cT (Al (cS ?_)))))))))));refine C1 Mv (C1 Pz (C1 Mv (cT ?_)));rotate_left
     . exact ⟨rfl,X⟩
     have HJ:=jC (HX.out Aa);have M:=EXs.ltA (show EXs _ aa ql ad from a1);clear a1 Y U HR HX;have hz:aa.heap.size<=aa.heap.size:=jL _;refine Av ?_;refine AK (ι:=Nat) (fun i=>[(0,.slice a l.length c),(1,.slice b m.length d),(9,.slice ad ql.length a0),(10,.int .i64 qn),(11,.int .i64 qe),(12,.bool (H4 (l.take i) m)),(68,.int .i64 l.length),(69,.int .i64 i)])
      (fun i w'=>i<=l.length/\EXs (· < w.heap.size) w' l a/\EXs (· < w.heap.size) w' m b/\EXs (· < aa.heap.size) w' ql ad/\aa.heap.size<=w'.heap.size/\Ext w w') (fun i=>l.length-i) 0 sB ⟨jN _,F,E,M,hz,X⟩ ?_
     clear F E M hz X O N bc;rintro i L ⟨hi,F,E,M,hz,X⟩;by_cases ar:i<l.length
     . clear HJ HS;have a2:=Us (m:=m) ar;generalize H4 (l.take i) m=tw at *;obtain ⟨kb,ko,rfl,-,hk⟩:=Arr.get F Aa;have bn : ∃va vc pa pc ma mc,Row L ⟨kb,ko+i*12,none⟩ (l[i].cells va vc pa pc ma mc):=by
        obtain ⟨va,vc,pa,pc,ma,mc,rx,-⟩:=hk i _ (jB ar);exact ⟨va,vc,pa,pc,ma,mc,rx⟩
       clear bn;refine cS (C1 V3 (cT (Al (dO (Aw (Ag (Al (Av (cS (C1 Mv (C1 Pa ?_)))))))))));refine cN (C1 Mv (C1 Pz (C1 Mv (cT ?_))));refine Av ?_;refine AK (ι:=Nat) (fun k=>[(0,.slice (some ⟨kb,ko,none⟩) l.length c),(1,.slice b m.length d),(9,.slice ad ql.length a0),(10,.int .i64 qn),(11,.int .i64 qe),(12,.bool (Ez (m.take k) l[i].name||tw)),(13,.int .i64 i),(68,.int .i64 l.length),(69,.int .i64 i),(73,.int .i64 m.length),(74,.int .i64 k)])
        (fun k w'=>k<=m.length/\EXs (· < w.heap.size) w' l (some ⟨kb,ko,none⟩)/\EXs (· < w.heap.size) w' m b/\EXs (· < aa.heap.size) w' ql ad/\aa.heap.size<=w'.heap.size/\Ext w w') (fun k=>m.length-k) 0 sB ⟨jN _,F,E,M,hz,X⟩ ?_
       clear F E M hz X hk;rintro k w2 ⟨cv,F,E,M,hz,X⟩;by_cases an:k<m.length
       . have ak:=W5 an l[i].name;obtain ⟨cw,cx,rfl,-,a3⟩:=Arr.get E Aa;obtain ⟨va,vc,pa,pc,ma,mc,rx,-⟩:=a3 k _ (jB an);clear a3 a2;have a4:=F;obtain ⟨bo,bp,al,-,hk⟩:=Arr.get a4 Aa;obtain ⟨rfl,rfl⟩:kb=bo/\ko=bp:=by injection al with al;injection al with e1 e2;exact ⟨e1,e2⟩
         obtain ⟨cy,cz,c0,c1,c2,c3,ry,-⟩:=hk i _ (jB ar);clear hk a4 al;generalize l[i]=e at *;generalize m[k]=f at *;generalize Ez (m.take k) e.name=q at *;unfold EX.cells at rx ry;cases hB:(q||tw) with
         | true=>
          have hn:(Ez (m.take (k+1)) e.name||tw)=true:=by rw [ak];revert hB;cases q<;>cases tw<;>simp
          clear ak rx ry;refine eK ?_;refine AD (fun wz=>Ext w2 wz) 12 (.pure 0 (.pure 1 (.pure 2 (.pure 3 (.pure 4 (.pure 5 (.pure 6 (.pure 7 (.pure 8 (.pure 9 (.pure 10 (.pure 11 .tail)))))))))))) mixed Bx (Aj (Ab (Ab (Aj (Aj (Ab (Ab (Aj (Ab Am))))))))) ?_;intro bq a5 _;have ae:(fun wz=>Ext w2 wz) bq:=a5;simp only at ae;have af:=F;have ag:=M;have ab:=E;revert F M X E;refine eY a5 ?_;intro c4 F M X E;refine ⟨ae,?_⟩;refine Tq rfl Mv (Tq rfl Mv (eM rfl (eM rfl (eM rfl (eM rfl (eM rfl (eM rfl (eM rfl (eM rfl (eM rfl (eM rfl ?_)))))))))));clear ae af ag ab;refine AE rfl (Ba rfl rfl rfl (rfl) rfl (C1 (B4 rfl rfl rfl) (C1 Pa (Ai (Ae (Ag (Ak (C1 V7 (C1 Mv (Ai ?_))))))))));exact Ax (k+1) (by rw [hn];(refine As rfl ?_;refine As rfl ?_;refine As rfl ?_;refine As rfl ?_;refine As rfl ?_;refine As rfl ?_;refine As rfl ?_;refine As rfl ?_;refine As rfl ?_;refine As rfl ?_;refine As rfl ?_;exact Cb)) ⟨Aa,F,E,M,Aa,X⟩ Aa
         | false=>
          have hn:(Ez (m.take (k+1)) e.name||tw)=decide (e.name=f.name):=by
           rw [ak];have h1:q=false:=by revert hB;cases q<;>simp
           have V:tw=false:=by revert hB;cases tw<;>simp
           rw [h1,V,Bool.false_or,Bool.or_false,Bool.eq_iff_iff,beq_iff_eq,decide_eq_true_eq];exact eq_comm
          clear ak
          focus
           refine eK ?_;refine AD (fun wz=>Ext w2 wz) 12 (.pure 0 (.pure 1 (.pure 2 (.pure 3 (.pure 4 (.pure 5 (.pure 6 (.pure 7 (.pure 8 (.pure 9 (.pure 10 (.pure 11 .tail)))))))))))) mixed Bx (Aj (Ab (Ab (Aj (Aj (Ab (Ab (Aj (Ab Am))))))))) ?_;intro br a6 _;have ah:(fun wz=>Ext w2 wz) br:=a6;simp only at ah;have af:=F;have ag:=M;have ab:=E;have ao:=ry;have ap:=rx;revert F M X E ry rx;refine eY a6 ?_;intro c5 F M X E ry rx;refine ⟨ah,?_⟩;refine Tq rfl Mv (Tq rfl Mv (eN rfl (AX rfl) (eN rfl (AX rfl) (eN rfl (AQ Ac rfl rfl rfl rfl Aa Aa) (eN rfl (DE Ac rfl rfl rfl) (eN rfl (Ay Ac rfl rfl rfl (fun wz hz=>Row.at0 (Row.ext ao hz) rfl)) (eN rfl (AX rfl) (eN rfl (AX rfl) (eN rfl (AQ Ac rfl rfl rfl rfl Aa Aa) (eN rfl (DE Ac rfl rfl rfl) (eN rfl (Ay Ac rfl rfl rfl (fun wz hz=>Row.at0 (Row.ext ap hz) rfl)) ?_)))))))))));clear ah af ag ab ao ap;refine AE rfl (Bd rfl rfl rfl (rfl) (C1 V8 (C1 (BR rfl rfl rfl) (C1 Pa (Ai (Ae (Ag (Ak (C1 V7 (C1 Mv (Ai ?_)))))))))));rotate_left
          all_goals exact Ax (k+1) (by rw [hn];(refine As rfl ?_;refine As rfl ?_;refine As rfl ?_;refine As rfl ?_;refine As rfl ?_;refine As rfl ?_;refine As rfl ?_;refine As rfl ?_;refine As rfl ?_;refine As rfl ?_;refine As rfl ?_;exact Cb)) ⟨Aa,F,E,M,Aa,X⟩ Aa
       . obtain rfl:k=m.length:=by omega
         rw [jQ,Bool.or_comm,<-a2];refine cS (C1 V3 (cT (Al (II (DN (AP (AP (Bt (Ae (Ag (Ak ?_)))))))))));refine C1 V7 (C1 Mv (Ai ?_));exact Ax (i+1) sB ⟨Aa,F,E,M,hz,X⟩ Aa
     . obtain rfl:i=l.length:=by omega
       rw [jQ];cases hb:H4 l m with
       | true=>
        obtain ⟨n,h1,V⟩:=HJ.out.1 hb;simp only [kf] at V;obtain ⟨rfl,rfl,rfl⟩:=V;clear HJ HS;refine eK ?_;refine xR ?_;all_goals exact ⟨rfl,X⟩
       | false=>
        have V:=HJ.out.2 hb;simp only [kf] at V;obtain ⟨rfl,rfl,rfl⟩:=V;clear HJ;have HQ:=jC (fun L h V=>NV l Aa (· < w.heap.size) a c L h V);have bs:=jC (fun L h V=>NV m Aa (· < w.heap.size) b d L h V);refine eK ?_;refine eQ rfl (HQ.out _ (fun b h=>by have:=X.size;omega) Af) ?_;rintro _ c6 ⟨c7,⟨c8,⟨⟨⟩,⟨da,⟨a7,⟨db,⟨ai,bt⟩⟩⟩⟩⟩⟩⟩;revert F E X M;refine eY bt ?_;intro dc F E X M;refine eK ?_;refine eQ rfl (bs.out _ (fun b h=>by omega) Af) ?_;rintro _ b6 ⟨b7,⟨b8,⟨⟨⟩,⟨b9,⟨ca,⟨cb,⟨cc,a8⟩⟩⟩⟩⟩⟩⟩;revert a7 F E X M;refine eY a8 ?_;intro cd a7 F E X M;refine LF ?_;refine AB (Oz Ac Dj rfl rfl rfl rfl Bx rfl rfl rfl Af Af (fun b' h=>⟨h,fun e=>by have:=ai _ e;omega⟩) Af Aa Aa) rfl ?_ aFh;rintro _ ce ⟨bu,⟨bv,⟨rfl,⟨aq,Z⟩⟩⟩⟩;have cf:=Z.size;have F:=EXs.fr F Z (fun b hb hT=>by have:=ai _ hT;(try dsimp only at hb);omega);have E:=EXs.fr E Z (fun b hb hT=>by have:=ai _ hT;(try dsimp only at hb);omega);have X:=Ext.fr X Z (fun k hk=>by have:=ai _ hk;omega);have M:=EXs.fr M Z (fun b hb hT=>by have:=ai _ hT;(try dsimp only at hb);omega);refine LF (cC rfl (HS.out _ (fun _=>True) _ _ _ _ _ Af (OwnQ.exs Af (fun _ _=>trivial) (fun _ _ _=>trivial))) ?_);rintro _ cg ⟨⟨⟩,a9⟩;revert aq F E X M;refine eY a9 ?_;intro ch aq F E X M
        refine eK ?_;refine xR ?_;all_goals exact ⟨rfl,X⟩
   . clear HW ac;refine eK ?_;refine xR ?_;all_goals exact ⟨rfl,X⟩
 . clear HW ac ax;refine eK ?_;refine xR ?_;all_goals exact ⟨rfl,X⟩
end Bk
namespace Bk
open Go Go.RowKit Go.Proofs
def Joins_d (l:List EX) (a:oA) (c:Nat) (m:List EX) (b:oA) (d:Nat) (w:wD) (f:l.length<=9223372036854775807) (_:l.length<=c) (L : ∀e∈l,(e.name.length<=9223372036854775807/\e.g.wf)/\e.rng) (M:EXs Ga w l a) (h:m.length<=9223372036854775807) (_:m.length<=d) (N : ∀e∈m,(e.name.length<=9223372036854775807/\e.g.wf)/\e.rng) (E:EXs Ga w m b) (O:TabsF w) (U:Errs2 w) :
 Calls prog 8 #[.slice a l.length c,.slice b m.length d] w fun r w'=>r = .returned (.bool true)/\Ext w w':=cJ l m f h (fun e F=>(L e F).1) (fun e F=>(N e F).1) Ga Ga a c b d w M E U O
end Bk
