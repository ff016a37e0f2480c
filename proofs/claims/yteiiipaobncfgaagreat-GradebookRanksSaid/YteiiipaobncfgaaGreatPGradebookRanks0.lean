/- Texts that the proofs of GradebookNone, GradebookFull, GradebookNew, GradebookRanks, GradebookApart need. No condition. (Part 12 of 13.) -/
import Derived.Test.YteiiipaobncfgaaGreatPGua8
set_option linter.unusedSimpArgs false
set_option linter.unusedVariables false
set_option linter.defProp false
set_option maxRecDepth 100000
set_option maxHeartbeats 4000000
open Go.Proofs.Tryz
open List renaming getElem?_eq_getElem->gm,take_succ_eq_append_getElem->gx,getElem_mem->gA,length_cons->gD,take_length->gF,getElem?_eq_none->gG,getElem?_append_left->gJ,length_append->gO,replicate->gT,getElem?_append_right->gU,getElem?_map->gV,drop_eq_getElem_cons->gW,getElem?_cons_zero->gX,getD_eq_getElem?_getD->gY,append_assoc->gZ,length_nil->hH,mem_singleton->ia,length_take->ij,mem_cons->ik,map_cons->im,mem_of_getElem?->io,range->it,getElem?_set_ne->iF,not_mem_nil->iH
open Go.Lib renaming hid->gp
open Or renaming inl->gq,inr->gt
open Bool renaming and_eq_true->gu,false_eq_true->iE
open Go.Result renaming andThen->gw
open Option.some renaming injEq->gy,inj->gB
open Go.IntWalk renaming i64_in->gz
open Nat renaming zero_le->gC,le_refl->gI,lt_or_ge->gK,blt->gM,le_of_ble_eq_true->gS,eq_of_beq_eq_true->ip,zero_add->iu,ble->iy,beq->iA
open Go.Sem renaming run_bind->gE,run_pure->gP
open Go renaming Calls->gH
open Except renaming bind->gL
open Go.Value renaming slice->gN,int->ii,ownBlock->iI
open Go.Region renaming ready->gQ,binds->iw
open Go.Value.slice renaming injEq->gR
open Go.DataW renaming trod->ic
open List.cons renaming injEq->ig
open Go.Builtin renaming zeroCells->iq
open Go.Calls renaming mono->ir
open Array renaming getElem?_eq_none->iv,replicate->iD
open Go.Oper renaming wp->iB
open Go.Addr renaming add->iC
open Go.IntKind renaming wrap->iG
open Go.Op renaming equalIn->iJ
open Bk.Row renaming ext->iO,at0->iT
namespace Bk
open Go Go.RowKit Go.Proofs
attribute [local irreducible] Go.Calls
def XX {x:Bv} {l:List Bv} {j:Nat} (h:j<l.length):(l.take (j+1)).any (λy=>decide (y=x))=((l.take j).any (λy=>decide (y=x))||decide (l[j]=x)):=by
 rw [gx h,List.any_append];simp
def M5 {P:Program} {n:Nat} {ops:Array Oper} {Q:Exit->Act->wD->Prop} {S:wD->Prop} {K i d j dj:Nat} {l:Sl} {w:wD} {r x:Sc} {op:Op} {ty:TypeId} {pos:String} {after:Array Edge} {h:Bool} (O:ops.toList[i]? = some ⟨some d,op,ty,pos,after,some (j,h)⟩) (U:BC ops j=some dj) (V:gM dj n=true) (X:look l dj=some undef) (Y:gM d n=true)
 (Z:S w) (k:TW P n ops Q S K x ((d,undef)::l) w) (N:TW P n ops Q S K r l w):TW P n ops Q S K (.fork i x r) l w:=by
 unfold TW at k N ⊢;intro a G;refine ⟨?_,N a G⟩;have M:ops[i]? = some ⟨some d,op,ty,pos,after,some (j,h)⟩:=by simpa using O
 unfold wpOp;rw [M];simp only;rw [AB (by rw [Gy G rfl U V X];decide)];exact ⟨Z,k _ (G.put Y undef)⟩
section
variable {P:Program} {n:Nat} {l:Sl} {S:wD->Prop} {t t':Nat} {x y:Operand} {ty:TypeId} {a b:lB}
def Vr (G:ev l x=some (str a)) (M:ev l y=some (str b)) (h:¬b<=a):Bh P n l S (.binOp .geq t x y t') ty (.bool false):=by
 rw [<-decide_eq_false h];exact Wz G M
end
set_option maxHeartbeats 8000000 in
def Vs (l:List EX) (G:List SB) (hl:∀e∈l,e.name.length<=9223372036854775807/\e.g.wf) (ar:∀s∈G,s.wf) (S S':nP) (a a':oA) (c c':Nat) (w:wD) (hs:EXs S w l a) (Z:SBs S' w G a') :
 Calls prog 8 #[.slice a l.length c,.slice a' G.length c'] w λe w'=>e = .returned (.bool true)/\Ext w w':=by
 have X:=Ext.refl w;have hs:=hs.ltA;have Z:=Z.ltA;have HM:=gp (λw1 h1 h2=>OV l G (λe he=>(hl e he).2) (λs hs=>(ar s hs).ans) (· < w.heap.size) (· < w.heap.size) a a' c c' w1 h1 h2);refine Ad func8 ntmps8 rfl rfl ?_
 focus
  refine eK ?_;refine cC rfl (Gt _) ?_;rintro _ w2 ⟨⟨⟩,x1⟩;revert X hs Z;refine eY x1 ?_;intro z3 X hs Z;refine eK ?_;refine eQ rfl (HM.out _ Af Af) ?_;rintro _ w7 ⟨q4,⟨⟩,h5,x6⟩;revert X hs Z;refine eY x6 ?_;intro z8 X hs Z;refine eK ?_;refine Ay rfl (λc9=>?_) (λc9=>?_);refine eK ?_;refine xR ?_;rotate_left;refine Ao (Ai ?_);rotate_left
 . exact ⟨rfl,X⟩
 obtain ⟨bs,cu,al,a4⟩:=(h5.resolve_left c9).2;have hw:∀e∈l,e.wf/\e.fuel<=400:=λe he=>⟨⟨(hl e he).1,(hl e he).2,by have:=(al e he).1;omega⟩,(al e he).2⟩
 clear hl al h5 HM;rcases Decidable.em (E8 l=0) with h0|h0
 case inr=>
  have HN:=gp (λw1 h=>TJ l (λe he=>(hw e he).1) Ab rfl h0 (· < w.heap.size) a c w1 h);refine eK ?_;refine cC rfl (HN.out _ Af) ?_;rintro _ cv ⟨⟨⟩,bt⟩;revert X hs Z;refine eY bt ?_;intro cw X hs Z;refine eK ?_;refine xR ?_;all_goals exact ⟨rfl,X⟩
 have HN:=gp (λw1 h=>Rd l (λe he=>(hw e he).1) Ab h0 (· < w.heap.size) a c w1 h);refine eK ?_;refine eQ rfl (HN.out _ Af) ?_;rintro _ bu ⟨V,bb,ab,⟨⟩,a5,bc,bv⟩;revert X hs Z;refine eY bv ?_;intro bw X hs Z;refine eK ?_;refine C1 (Ee Ac rfl rfl) (C1 XZ (cT (AY rfl (Ao (Ai (Aj (cS (C1 Pa (cT ?_)))))))));have cx:=X.size;have bd:∀k,ab k\/bb k->w.heap.size<=k:=λk hk=>by have:=bc k hk;omega
 have hp:∀e∈l,0<=e.points/\e.points<=1000:=λe he=>by have:=((Kr h0).1 e he).1.2.1;omega
 have bx:∀k,ab k->k<bu.heap.size:=by obtain ⟨_,_,_,-,-,-,-,h,-⟩:=a5;exact λk hk=>(h k hk).2
 clear HN bc z3 z8 bw hs h0;refine As ?_;refine AG (ι:=Nat×(nP)) (λx=>[(1,.slice a' G.length c'),(5,.pointer (some ⟨V,0,none⟩)),(7,.int .i64 x.1)])
  (λx w'=>x.1<=G.length/\BkAt x.2 ab w' V l (Hx l [] (G.take x.1))/\(∀k,x.2 k->w.heap.size<=k)/\SBs (· < w.heap.size) w' G a'/\Ext w w') (λx=>G.length-x.1) (0,bb) sB ⟨gC _,a5,λk hk=>bd k (gt hk),Z,X⟩ ?_
 clear a5 Z X;rintro ⟨j,M⟩ w1 ⟨hj,U,hM,hs,X⟩;simp only at hj U hM;have cy:=X.size;refine CW.sub (m:=[(1,.slice a' G.length c'),(5,.pointer (some ⟨V,0,none⟩)),(7,.int .i64 j)]) ?_ sB;by_cases ae:j<G.length
 . have a6:=Ks l (G.take j) [];have bz:Hx l [] (G.take (j+1))=(Bz l (Hx l [] (G.take j)) G[j].stu G[j].name G[j].ans).2:=by rw [gx ae,SI]
   have be:=ar _ (gA ae);have b0:=a4 _ (gA ae);obtain ⟨kb,ko,rfl,-,hk⟩:=Arr.get hs Ab;obtain ⟨va,vc,pa,pc,ma,mc,rx,sx⟩:=hk j G[j] (gm ae);rw [hH,ij,iu] at a6;clear hk ar a4 hp;generalize Hx l [] (G.take j)=L at *;generalize G[j]=x at *;have b1:=gp (λw1 h1 h2 h3=>MQ M ab V l bs hw L Ab x.stu x.name be.stu x.ans be.ans b0 (· < w.heap.size) va vc pa pc ma mc w1 h1 h2 h3 sx.room);have q1:=sx.g;have q2:=sx.p;clear sx hw;refine eK ?_;refine Aq (λY=>Ext w1 Y) 16 (.pure 0 (.pure 1 (.pure 2 (.pure 3 (.pure 4 (.pure 5 (.pure 6 (.pure 7 (.pure 8 (.pure 9 (.pure 10 (.pure 11 (.pure 12 (.pure 13 (.pure 14 (.pure 15 .tail)))))))))))))))) mixed AT (Ae (Aa (Aa (Ae (Aa Ag))))) ?_;intro b2 bf _;have ax:(λY=>Ext w1 Y) b2:=bf;simp only at ax;have ce:=hs;have af:=U;have am:=rx;have cf:=q1;have cg:=q2;revert X hs U rx q1 q2;refine eY bf ?_;intro b3 X hs U rx q1 q2;refine ⟨ax,?_⟩;refine eT ?_;refine Tq rfl (Ap Ac rfl rfl rfl (λY hz=>iT (iO am hz) rfl)) ?_;refine eT ?_;refine Tq rfl (Dr am) ?_;refine eT ?_;refine Tq rfl (CK [_,_,_,_,_,_] Ac rfl rfl rfl (λY hz=>(iO am hz)) rfl rfl) ?_;refine At rfl (eQ rfl (b1.out _ Af Af Af) ?_);rintro _ ch ⟨cz,c0,ci,cj,ck,b4,⟨⟩,cl,cm,a7,cn,bg,co,ag⟩;have cp:=ag.size;have X:=Ext.fr X ag (λk hk=>hM k hk);have hs:=SBs.fr hs ag (λb U hT=>by have:=hM _ hT;(try dsimp only at U);omega);clear U rx;have q1:=PG.sits.fr q1 ag (λb U hT=>by have:=hM _ hT;(try dsimp only at U);omega);have q2:=PDsC.fr q2 ag (λb U hT=>by have:=hM _ hT;(try dsimp only at U);omega)
   refine Ak (Ah (Ai (Al (C1 Mv (C1 V7 (C1 Pa (Ak ?_)))))));all_goals exact Aw (j+1,a7) sB ⟨ae,by rw [bz];assumption,λk hk=>(bg k hk).elim (hM k) (λh=>by have:=b3;omega),Af,X⟩ (by simp only;omega)
 . obtain rfl:j=G.length:=by omega
   rw [gF] at U;have a6:=Ks l G [];rw [hH,iu] at a6;generalize Hx l [] G=L at *;obtain ⟨g1,g2,g3,g4⟩:=Rm L (Ir l);have bh:=gp (λw1 h=>I4 M ab V l L Ab w1 h);have bi:=gp (λw1 h=>Ko M ab V l Ab hp L Ab w1 h);have a8:=gp (λs w1 h=>Fw M ab V l Ab hp L s w1 h);have c1:(Ek G0 L).length<=8:=by have:=JM G0 L [];simp only [hH] at this;unfold Ek;omega
   generalize Ek G0 L=xs at *;generalize Ek (MX L (Ir l)) L=ys at *;clear ar a4 hw hp hs bd bx;have HX:=gp X;refine eK ?_;refine eQ rfl (bh.out _ Af) ?_;rintro _ au ⟨an,a9,⟨⟩,ak,b5⟩;revert X U;refine eY b5 ?_;intro c2 X U;refine C1 Mv (eQ rfl (bi.out _ Af) ?_);rintro _ ay ⟨ao,ba,⟨⟩,av,bj⟩;revert ak X U;refine eY bj ?_;intro cq ak X U;refine C1 Pa (C1 Pa (cT (Aj (cS (C1 Mv (C1 Pz (C1 Mv (C1 Pz (C1 V2 (cT (C6 ?_)))))))))));refine Ao (Ai (Aj (cS (C1 Pa (cT ?_)))));have ak:=ak.rows;have av:=av.rows;refine As ?_;refine AG (ι:=Nat) (λi=>[(5,.pointer (some ⟨V,0,none⟩)),(8,.slice an xs.length a9),(9,.slice ao ys.length ba),(10,.int .i64 i)])
    (λi w'=>i<=xs.length/\Rows (λb=>w1.heap.size<=b/\b<au.heap.size) w' (xs.map str) an/\Rows (λb=>au.heap.size<=b/\b<ay.heap.size) w' (ys.map str) ao/\BkAt M ab w' V l L/\Ext w w') (λi=>xs.length-i) 0 sB ⟨gC _,ak,av,Af,X⟩ ?_
   clear ak av X HX bh bi U;rintro i w3 ⟨hi,O,N,U,X⟩;by_cases ap:i<xs.length
   . have ai:=g2 _ (gA ap);obtain ⟨x,hx⟩:∃x,x=xs[i]:=⟨_,rfl⟩
     rw [<-hx] at ai;refine Aj (cS (C1 Mv (C1 Mv (C1 Pz (C1 V3 (cT (O8 (Ao (Ai (Aj (As ?_)))))))))));refine cS (C1 Pa (cT (Aj (cS (C1 Pa (cT ?_))))));refine As ?_;refine AG (ι:=Nat×Bool) (λz=>[(5,.pointer (some ⟨V,0,none⟩)),(8,.slice an xs.length a9),(9,.slice ao ys.length ba),(10,.int .i64 i),(11,.bool z.2),(12,.int .i64 z.1)])
      (λz w'=>z.1<=ys.length/\(ys.take z.1).any (λy=>decide (y=x))=z.2/\Rows (λb=>w1.heap.size<=b/\b<au.heap.size) w' (xs.map str) an/\Rows (λb=>au.heap.size<=b/\b<ay.heap.size) w' (ys.map str) ao/\BkAt M ab w' V l L/\Ext w w') (λz=>ys.length-z.1) (0,false) sB ⟨gC _,rfl,O,N,U,X⟩ ?_
     clear O N U X;rintro ⟨k,q⟩ w4 ⟨hk,hq,O,N,U,X⟩;simp only at hk hq;refine CW.sub (m:=[(5,.pointer (some ⟨V,0,none⟩)),(8,.slice an xs.length a9),(9,.slice ao ys.length ba),(10,.int .i64 i),(11,.bool q),(12,.int .i64 k)]) ?_ sB;obtain ⟨g,o,rfl,-,ri⟩:=O.at1 (i:=i) (u:=str x) (by rw [hx,gV,gm ap];rfl);by_cases aq:k<ys.length
     . have aw:=XX (x:=x) aq;rw [hq] at aw;obtain ⟨g',o',rfl,-,rk⟩:=N.at1 (i:=k) (u:=str ys[k]) (by rw [gV,gm aq];rfl);clear hq ai;generalize ys[k]=y at *;cases q
       . by_cases hy:y=x
         . focus
            refine eK ?_;refine Aq (λY=>Ext w4 Y) 10 (.pure 0 (.pure 1 (.pure 2 (.pure 3 (.pure 4 (.pure 5 (.pure 6 (.pure 7 (.pure 8 (.pure 9 .tail)))))))))) mixed AT (Ae (Aa (Aa (Ae (Aa (Ae (Aa (Aa (Ae (Aa Ag)))))))))) ?_;intro b6 bk _;have az:(λY=>Ext w4 Y) b6:=bk;simp only at az;have af:=U;have ac:=O;have aa:=ri;have ad:=N;have aj:=rk;revert U X O ri N rk;refine eY bk ?_;intro c3 U X O ri N rk;refine ⟨az,?_⟩;refine Tq rfl Mv (Tq rfl Mv (eN rfl (Ar rfl) (eN rfl (Ar rfl) (eN rfl (AC Ac rfl rfl rfl rfl Ab Ab) (eN rfl (Ap Ac rfl rfl rfl (λY hz=>iT (iO aj hz) rfl)) (eN rfl (Ar rfl) (eN rfl (Ar rfl) (eN rfl (AC Ac rfl rfl rfl rfl Ab Ab) (eN rfl (Ap Ac rfl rfl rfl (λY hz=>iT (iO aa hz) rfl)) ?_)))))))));refine At rfl (A1 rfl rfl rfl (rfl) (C1 V8 (C1 (Bm rfl rfl rfl) (C1 Pa (Ak (Ah (Ai (Al (C1 Mv (C1 V7 (C1 Pa ?_)))))))))));refine Ak ?_;rotate_left
           all_goals exact Aw (k+1,true) (by (refine Am rfl ?_;refine Am rfl ?_;refine Am rfl ?_;refine Am rfl ?_;refine BL rfl (by go_num) ?_;refine Am rfl ?_;exact BB)) ⟨aq,aw.trans (by simp [hy]),O,N,U,X⟩ (by simp only;omega)
         . focus
            refine eK ?_;refine Aq (λY=>Ext w4 Y) 10 (.pure 0 (.pure 1 (.pure 2 (.pure 3 (.pure 4 (.pure 5 (.pure 6 (.pure 7 (.pure 8 (.pure 9 .tail)))))))))) mixed AT (Ae (Aa (Aa (Ae (Aa (Ae (Aa (Aa (Ae (Aa Ag)))))))))) ?_;intro b7 bl _;have a0:(λY=>Ext w4 Y) b7:=bl;simp only at a0;have af:=U;have ac:=O;have aa:=ri;have ad:=N;have aj:=rk;revert U X O ri N rk;refine eY bl ?_;intro c4 U X O ri N rk;refine ⟨a0,?_⟩;refine Tq rfl Mv (Tq rfl Mv (eN rfl (Ar rfl) (eN rfl (Ar rfl) (eN rfl (AC Ac rfl rfl rfl rfl Ab Ab) (eN rfl (Ap Ac rfl rfl rfl (λY hz=>iT (iO aj hz) rfl)) (eN rfl (Ar rfl) (eN rfl (Ar rfl) (eN rfl (AC Ac rfl rfl rfl rfl Ab Ab) (eN rfl (Ap Ac rfl rfl rfl (λY hz=>iT (iO aa hz) rfl)) ?_)))))))));refine At rfl (A1 rfl rfl rfl (rfl) (C1 V8 (C1 (Bm rfl rfl rfl) (C1 Pa (Ak (Ah (Ai (Al (C1 Mv (C1 V7 (C1 Pa ?_)))))))))));refine Ak ?_;rotate_left
           all_goals exact Aw (k+1,false) (by (refine Am rfl ?_;refine Am rfl ?_;refine Am rfl ?_;refine Am rfl ?_;refine BL rfl (by go_num) ?_;refine Am rfl ?_;exact BB)) ⟨aq,aw.trans (by simp [hy]),O,N,U,X⟩ (by simp only;omega)
       . refine eK ?_;refine Aq (λY=>Ext w4 Y) 10 (.pure 0 (.pure 1 (.pure 2 (.pure 3 (.pure 4 (.pure 5 (.pure 6 (.pure 7 (.pure 8 (.pure 9 .tail)))))))))) mixed AT (Ae (Aa (Aa (Ae (Aa (Ae (Aa (Aa (Ae (Aa Ag)))))))))) ?_;intro b8 bm _;have a1:(λY=>Ext w4 Y) b8:=bm;simp only at a1;have af:=U;have ac:=O;have aa:=ri;have ad:=N;have aj:=rk;revert U X O ri N rk;refine eY bm ?_;intro c5 U X O ri N rk;refine ⟨a1,?_⟩;refine Tq rfl Mv (Tq rfl Mv (eM rfl (eM rfl (eM rfl (eM rfl (eM rfl (eM rfl (eM rfl (eM rfl ?_)))))))));refine At rfl (Be rfl rfl rfl (rfl) rfl (C1 (BM rfl rfl rfl) (C1 Pa (Ak (Ah (Ai (Al (C1 Mv (C1 V7 (C1 Pa (Ak ?_)))))))))));all_goals exact Aw (k+1,true) sB ⟨aq,aw.trans AN,O,N,U,X⟩ (by simp only;omega)
     . obtain rfl:k=ys.length:=by omega
       rw [gF] at hq;obtain rfl:q=true:=by rw [<-hq];simp only [List.any_eq_true,decide_eq_true_eq];exact ⟨_,ai,rfl⟩
       clear hq ai;by_cases c6:i=0
       . have c7:¬(0:Int)<(i:Int):=by omega
         refine eK ?_;refine Aq (λY=>Ext w4 Y) 29 (.pure 0 (.pure 1 (.pure 2 (.pure 3 (.pure 4 (.pure 5 (.pure 6 (.pure 7 (.pure 8 (.pure 9 (.pure 10 (.pure 11 (.pure 12 (.pure 13 (.pure 14 (.pure 15 (.pure 16 (.pure 17 (.pure 18 (.pure 19 (.pure 20 (.pure 21 (.pure 22 (.pure 24 (.pure 25 (.pure 26 (.pure 27 (.pure 28 (.fork 23 .tail .none))))))))))))))))))))))))))))) mixed AT (Aa (Ae (Aa (Aa (Ae (Aa Ag)))))) ?_;intro b9 bn _;have a2:(λY=>Ext w4 Y) b9:=bn;simp only at a2;have ad:=N;have af:=U;have ac:=O;have aa:=ri;revert N U X O ri;refine eY bn ?_;intro c8 N U X O ri;refine ⟨a2,?_⟩;refine Tq rfl Mv (Tq rfl Pt (Tq rfl Mv (eN rfl (Ar rfl) (eN rfl (NY rfl rfl) (eN rfl (Ar rfl) (DH rfl rfl rfl rfl (DN Af) rfl (DH rfl rfl rfl rfl (DN Af) rfl (DH rfl rfl rfl rfl (DN Af) rfl (DH rfl rfl rfl rfl (DN Af) rfl (DH rfl rfl rfl rfl (DN Af) rfl (DH rfl rfl rfl rfl (DN Af) rfl ?_)))))))))));refine DH rfl rfl rfl rfl (DN Af) rfl (DH rfl rfl rfl rfl (DN Af) rfl (DH rfl rfl rfl rfl (DN Af) rfl (DH rfl rfl rfl rfl (DN Af) rfl (DH rfl rfl rfl rfl (DN Af) rfl (Ds rfl rfl rfl rfl rfl (Ds rfl rfl rfl rfl rfl (Ds rfl rfl rfl rfl rfl (Ds rfl rfl rfl rfl rfl (Ds rfl rfl rfl rfl rfl (Ds rfl rfl rfl rfl rfl (Ds rfl rfl rfl rfl rfl ?_)))))))))))
         refine Ds rfl rfl rfl rfl rfl (Ds rfl rfl rfl rfl rfl (Ds rfl rfl rfl rfl rfl (Ds rfl rfl rfl rfl rfl ?_)));refine M5 rfl rfl rfl rfl rfl Af ?_ AD;refine At rfl (Hb rfl rfl rfl rfl (Hb rfl rfl rfl rfl (O2 (A1 rfl rfl rfl (rfl) (C1 O1 (C1 (Bm rfl rfl rfl) (cT (AY rfl (Ao (Ah (Ai ?_)))))))))));refine Al (C1 Mv (C1 V7 (C1 Pa (Ak ?_))));all_goals exact Aw (i+1) sB ⟨ap,O,N,U,X⟩ Ab
       . obtain ⟨i,rfl⟩:∃m,i=m+1:=⟨i-1,Ab⟩;have ae:=TK g3 ap;have da:=TK g4 (i:=i) Ab;obtain ⟨_,_,e1,-,rp⟩:=O.at1 (i:=i) (u:=str xs[i]) (by rw [gV,gm Ab];rfl);cases e1;obtain ⟨g',o',rfl,-,rq⟩:=N.at1 (i:=i) (u:=str ys[i]) (by rw [gV,gm Ab];rfl);obtain ⟨_,_,e1,-,rs⟩:=N.at1 (i:=i+1) (u:=str ys[i+1]) (by rw [gV,gm Ab];rfl);cases e1;have H1:=gp (a8.out ys[i]);have H2:=gp (a8.out ys[i+1]);clear a8 g2;generalize xs[i]=x0 at *;rw [<-hx] at ae;generalize ys[i]=y0 at *;generalize ys[i+1]=y1 at *;generalize Cf L y0 (Ir l)=p0 at *;generalize Cf L y1 (Ir l)=p1 at *;have ca:¬x<=x0:=List.not_le.2 ae;rw [show ((i+1:Nat):Int)=(i:Int)+1 from by omega];have a3:iG .i64 ((i:Int)+1-1)=(i:Int):=by rw [Int.add_sub_cancel];exact gz _ Ab
         refine eK ?_;refine Aq (λY=>Ext w4 Y) 29 (.pure 0 (.pure 1 (.pure 2 (.pure 3 (.pure 4 (.pure 5 (.pure 6 (.pure 7 (.pure 8 (.pure 9 (.pure 10 (.pure 11 (.pure 12 (.pure 13 (.pure 14 (.pure 15 (.pure 16 (.pure 17 (.pure 18 (.pure 19 (.pure 20 (.pure 21 (.pure 22 (.pure 24 (.pure 25 (.pure 26 (.pure 27 (.pure 28 (.fork 23 .tail .none))))))))))))))))))))))))))))) mixed AT (Aa (Ae (Aa (Aa (Ae (Aa Ag)))))) ?_;intro cb bo _;have ah:(λY=>Ext w4 Y) cb:=bo;simp only at ah;have af:=U;have ac:=O;have aa:=ri;have ad:=N;have bp:=rp;have bq:=rq;have br:=rs;revert U X O ri N rp rq rs;refine eY bo ?_;intro db U X O ri N rp rq rs;refine ⟨ah,?_⟩;refine Tq rfl Mv (Tq rfl Pt (Tq rfl Mv (eN rfl (Ar rfl) (eN rfl (NY rfl rfl) (eN rfl (Ar rfl) (eN rfl (Ar rfl) (eN rfl (Ar rfl) (eN rfl (AK rfl rfl a3) (eN rfl (AC Ac rfl rfl rfl rfl Ab Ab) (eN rfl (Ap Ac rfl rfl rfl (λY hz=>iT (iO bp hz) rfl)) (eN rfl (Ar rfl) ?_)))))))))));refine eN rfl (Ar rfl) (eN rfl (AC Ac rfl rfl rfl rfl Ab Ab) (eN rfl (Ap Ac rfl rfl rfl (λY hz=>iT (iO aa hz) rfl)) (eN rfl (Vr rfl rfl ca) (eN rfl (Ar rfl) (eN rfl (Ar rfl) (eN rfl (Ar rfl) (eN rfl (Ar rfl) (eN rfl (AK rfl rfl a3) (eN rfl (AC Ac rfl rfl rfl rfl Ab Ab) (eN rfl (Ap Ac rfl rfl rfl (λY hz=>iT (iO bq hz) rfl)) (eN rfl (Ar rfl) ?_)))))))))));refine eN rfl (Ar rfl) (eN rfl (Ar rfl) (eN rfl (AC Ac rfl rfl rfl rfl Ab Ab) (eN rfl (Ap Ac rfl rfl rfl (λY hz=>iT (iO br hz) rfl)) ?_)));refine Lm rfl rfl rfl rfl (rfl) (AR AT rfl (H1.out _ Af) (λ_ _ h=>⟨_,h.1⟩)) rfl ?_ aFh AD;rintro _ dc ⟨⟨⟩,cc⟩;revert ah U X O ri N rp rq rs;refine eY cc ?_;intro dd ah U X O ri N rp rq rs;refine ⟨ah,?_⟩
         refine At rfl (A1 rfl rfl rfl (rfl) (cC rfl (H2.out _ Af) ?_));rintro _ cr ⟨⟨⟩,cd⟩;revert U X O ri N rp rq rs;refine eY cd ?_;intro ct U X O ri N rp rq rs;refine A1 rfl rfl rfl (rfl) (C1 V3 (TV (C1 (Bm rfl rfl rfl) (A1 rfl rfl rfl (rfl) (C1 TU (C1 (Bm rfl rfl rfl) (cT (C6 (Ao (Ah (Ai ?_)))))))))));refine Al (C1 Mv (C1 V7 (C1 Pa (Ak ?_))));all_goals exact Aw (i+1+1) sB ⟨ap,O,N,U,X⟩ Ab
   . obtain rfl:i=xs.length:=by omega
     refine eK ?_;refine xR ?_;exact ⟨rfl,X⟩
end Bk
namespace Bk
open Go Go.RowKit Go.Proofs
def Ranks_d (l:List EX) (a:oA) (c:Nat) (h:List SB) (G:oA) (M:Nat) (w:wD) (_:l.length<=9223372036854775807) (_:l.length<=c) (O:∀e∈l,e.name.length<=9223372036854775807/\e.g.wf) (U:EXs DF w l a) (_:h.length<=9223372036854775807) (_:h.length<=M) (V:∀s∈h,s.wf) (N:SBs DF w h G) :
 Calls prog 8 #[.slice a l.length c,.slice G h.length M] w λe w'=>e = .returned (.bool true)/\Ext w w':=Vs l h O V DF DF a G c M w U N
end Bk
