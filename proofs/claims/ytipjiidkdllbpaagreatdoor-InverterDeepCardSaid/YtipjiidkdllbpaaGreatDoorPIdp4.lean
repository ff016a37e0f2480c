/- Texts that the proofs of InverterDeep need. No condition. (Part 4 of 8.) -/
import Derived.Test.YtipjiidkdllbpaaGreatDoorPIdp3
set_option linter.unusedSimpArgs false
set_option linter.unusedVariables false
set_option maxRecDepth 100000
set_option maxHeartbeats 4000000
open Go.Proofs.Tryz
namespace Bk
open Go Go.RowKit Go.Proofs
attribute [local irreducible] Go.Calls
theorem St (t:List UInt8):Ii binMap t=(Lz t).map fun k=>.int .u8 k:=by
 unfold binMap Lz
 generalize hL:[(8:Int),9,10,11,12,13,14,15,16,17,18,19,20,21,22,23]=L
 clear hL
 induction L with
 | nil=>rfl
 | cons k r ih=>
  simp only [List.map_cons,Ii,List.find?_cons]
  by_cases h:Fh k=t
  · simp [h]
  · rw [if_neg (fun e=>h e.symm),ih];simp [h]
theorem Mq (k:Int) (h0:8≤k) (h1:k≤23):1≤Dz k∧Dz k≤8:=by
 have:k=8∨k=9∨k=10∨k=11∨k=12∨k=13∨k=14∨k=15∨k=16∨k=17∨k=18∨k=19∨k=20∨k=21∨k=22∨k=23:=by omega
 rcases this with rfl|rfl|rfl|rfl|rfl|rfl|rfl|rfl|rfl|rfl|rfl|rfl|rfl|rfl|rfl|rfl<;>decide
theorem Vm (c:PC) (k:Nat) (IH : ∀j,j≤k→ExprsC c j):UX c (k+1):=by
 intro lv σ w hP hk a0 a1;have X:=Fr.refl (· = c.pb) w;have hpb:=hP.pbB;have hB:=hP.B;have hlen:=hP.len;rw [show Cl c.ts c.n (k+1) lv σ=Dd c.ts c.n k lv (BL c.ts c.n k σ).1 (BL c.ts c.n k σ).2 from by rw [Cl]];have hu:=((GJ (ts:=c.ts) (n:=c.n) k).2.2.1 σ hP.at_).1
 have hf:4*mS c.ts σ+3≤k:=by omega
 have D:4*mS c.ts (BL c.ts c.n k σ).2+1≤k:=by have:=DS hu;omega
 refine Ad func117 ntmps117 rfl rfl ?_
 focus
  refine cS (eA [_,_,_,_] ?_);intro b1 w2 h5 x6 p7 z8;revert hP X;refine eE x6 ?_;intro hP X;refine eK ?_;refine eQ rfl ((IH k (Nat.le_refl _)).unary _ _ ‹_› hf) ?_;rintro _ a2 ⟨a9,⟨R,⟨⟨⟩,⟨q,⟨z,A⟩⟩⟩⟩⟩;have a3:=A.size;replace h5:=h5.fr A (by omega);clear hP;replace X:=X.fr A (by omega);refine AB [_,_,_,_] Bj rfl rfl ?_;intro C a4 S;refine eI [_,_,_,_] S ?_;intro T E U a5 a6;revert q z h5 X;refine eE U ?_;intro q z h5 X;refine cT (AK ?_);rotate_left
 refine Bn (ι:=Nat×Nd×Option Addr×Nat×PS) (fun _=>[(0,.pointer (some ⟨c.pb,0,none⟩)),(1,.int .i64 lv),(4,.pointer (some ⟨b1,0,none⟩)),(5,.pointer (some ⟨C,0,none⟩))])
  (fun x w'=>PP c x.2.2.2.2 w'∧Blk w' C (x.2.1.cells x.2.2.1 x.2.2.2.1)∧x.2.1.sits (fun b=>w.heap.size≤b∧b≠b1∧b≠C) w' x.2.2.1∧Blk w' b1 [.int .u8 0,.int .i64 0,.string ⟨#[]⟩,.slice none 0 0]∧Fr (· = c.pb) w w'∧T.heap.size≤w'.heap.size ∧
   Dd c.ts c.n k lv (BL c.ts c.n k σ).1 (BL c.ts c.n k σ).2=Dd c.ts c.n x.1 lv x.2.1 x.2.2.2.2∧4*mS c.ts x.2.2.2.2+1≤x.1∧x.1≤k) (fun x=>x.1) (k,(BL c.ts c.n k σ).1,a9,R,(BL c.ts c.n k σ).2) sB
  ⟨z,E,q.wide (fun b h=>⟨by omega,by omega,by omega⟩),h5,X,Nat.le_refl _,rfl,D,Nat.le_refl _⟩ ?_
 rintro ⟨j,x,xa,xc,σ'⟩ w1 ⟨hP,h5,hs,h4,X,hz,he,hfj,hjk⟩;simp only at hP h5 hs he hfj hjk;rw [he];clear he hu hf D E q;obtain ⟨j,rfl⟩ : ∃i,j=i+1:=⟨j-1,by omega⟩;have hg:=St (AN c.ts σ').text
 cases hb:Lz (AN c.ts σ').text with
 | none=>
  rw [show Dd c.ts c.n (j+1) lv x σ'=(x,σ') from by rw [Dd];simp [hb]];rw [hb] at hg;simp only [Option.map_none] at hg
  focus
   refine eK ?_;refine Ax (fun wz=>Ext w1 wz) 12 (.pure 0 (.pure 1 (.pure 2 (.pure 3 (.pure 4 (.fork 5 (.pure 6 (.pure 7 (.pure 8 (.pure 9 (.pure 10 (.pure 11 .tail)))))) .none)))))) mixed (by kernel_rfl) (Ac (Ao (Ac (Ao Ak)))) ?_;intro V F _;have f:(fun wz=>Ext w1 wz) V:=F;simp only at f;have a:=hP;have r:=h5;have s:=hs;have t:=h4;revert hP h5 hs h4 X;refine eY F ?_;intro a7 hP h5 hs h4 X;refine ⟨f,?_⟩;refine Tq rfl Mv (Tq rfl Pn (Tq rfl Pf (Tq rfl (Al Aa rfl rfl rfl (fun wz hz=>Blk.cell (Blk.ext (PP.blk a) hz) rfl)) (Tq rfl Mv ?_))));refine At rfl (Av (by kernel_rfl) rfl (BD _ _ _ ‹_›) (fun _ _ h=>⟨_,h.1⟩)) rfl ?_ (fun _ h=>h) As;rintro _ a8 ⟨⟨⟩,W⟩;revert f hP h5 hs h4 X;refine eY W ?_;intro ba f hP h5 hs h4 X;refine ⟨f,?_⟩;refine Tq rfl (Bq Aa rfl rfl rfl rfl rfl rfl) (Tq rfl (Lh Aa rfl rfl rfl rfl rfl (fun wz hz=>MapIs.ext (PP.map a) hz) ‹_›) (Tq rfl Mv (Tq rfl Px (Tq rfl Px (Tq rfl Pa ?_)))));refine Az rfl ?_;refine eK ?_;refine C1 (A0 rfl rfl rfl) ?_;refine eK ?_;refine Ae [_,_,_,_] Aa rfl rfl rfl h5 rfl rfl rfl (eS [_,_,_,_] h4 ?_);intro bb G H ac;revert hP h5 hs X;refine eF H ?_;intro hP h5 hs X
   refine eK ?_;refine AZ rfl Aa rfl rfl rfl G rfl ?_;rotate_left
  exact Ba (Nd.sits.wide hs (fun b h=>h.1)) ‹_› X
 | some op=>
  rw [hb] at hg;simp only [Option.map_some] at hg;obtain ⟨hne,o1,o2,-⟩:=Kn hb;obtain ⟨hin,p⟩:=Du hP.at_ (Or.inl hne);have hm:=EG (ts:=c.ts) (σ:=σ') ⟨hin,p⟩;have hlv:=Mq op o1 o2
  by_cases hl:Dz op<lv
  · rw [show Dd c.ts c.n (j+1) lv x σ'=(x,σ') from by rw [Dd];simp [hb,hl]]
    focus
     refine eK ?_;refine Ax (fun wz=>Ext w1 wz) 12 (.pure 0 (.pure 1 (.pure 2 (.pure 3 (.pure 4 (.fork 5 (.pure 6 (.pure 7 (.pure 8 (.pure 9 (.pure 10 (.pure 11 .tail)))))) .none)))))) mixed (by kernel_rfl) (Ac (Ao (Ac (Ao Ak)))) ?_;intro Y I _;have g:(fun wz=>Ext w1 wz) Y:=I;simp only at g;have a:=hP;have r:=h5;have s:=hs;have t:=h4;revert hP h5 hs h4 X;refine eY I ?_;intro bc hP h5 hs h4 X;refine ⟨g,?_⟩;refine Tq rfl Mv (Tq rfl Pn (Tq rfl Pf (Tq rfl (Al Aa rfl rfl rfl (fun wz hz=>Blk.cell (Blk.ext (PP.blk a) hz) rfl)) (Tq rfl Mv ?_))));refine At rfl (Av (by kernel_rfl) rfl (BD _ _ _ ‹_›) (fun _ _ h=>⟨_,h.1⟩)) rfl ?_ (fun _ h=>h) As;rintro _ bd ⟨⟨⟩,Z⟩;revert g hP h5 hs h4 X;refine eY Z ?_;intro be g hP h5 hs h4 X;refine ⟨g,?_⟩;refine Tq rfl (Bq Aa rfl rfl rfl rfl rfl rfl) (Tq rfl (G9 Aa rfl rfl rfl rfl rfl (fun wz hz=>MapIs.ext (PP.map a) hz) ‹_›) (Tq rfl Mv (Tq rfl Px (Tq rfl Px (Tq rfl Pa ?_)))));refine Az rfl ?_;refine eK ?_;refine cC rfl (FJ _ _ (by omega) (by omega)) ?_;rintro _ bf ⟨⟨⟩,rfl⟩;refine eK ?_;refine C1 (Bh rfl rfl rfl) ?_;refine eK ?_;refine Ae [_,_,_,_] Aa rfl rfl rfl h5 rfl rfl rfl (eS [_,_,_,_] h4 ?_)
     intro bg J K ad;revert hP h5 hs X;refine eF K ?_;intro hP h5 hs X;refine eK ?_;refine AZ rfl Aa rfl rfl rfl J rfl ?_;rotate_left
    exact Ba (Nd.sits.wide hs (fun b h=>h.1)) ‹_› X
  · rw [show Dd c.ts c.n (j+1) lv x σ'=Dd c.ts c.n j lv (.mk op 0 [] [x,(Cl c.ts c.n j (Dz op+1) (AD σ')).1]) (Cl c.ts c.n j (Dz op+1) (AD σ')).2 from by rw [Dd];simp [hb,hl]]
    have hfe:4*mS c.ts (AD σ')+4≤j:=by omega
    have hle:=((GJ (ts:=c.ts) (n:=c.n) j).1 (Dz op+1) (AD σ') p).1;have hml:=DS hle
    focus
     refine eK ?_;refine Ax (fun wz=>Ext w1 wz) 12 (.pure 0 (.pure 1 (.pure 2 (.pure 3 (.pure 4 (.fork 5 (.pure 6 (.pure 7 (.pure 8 (.pure 9 (.pure 10 (.pure 11 .tail)))))) .none)))))) mixed (by kernel_rfl) (Ac (Ao (Ac (Ao Ak)))) ?_;intro aa L _;have l:(fun wz=>Ext w1 wz) aa:=L;simp only at l;have a:=hP;have r:=h5;have s:=hs;have t:=h4;revert hP h5 hs h4 X;refine eY L ?_;intro bh hP h5 hs h4 X;refine ⟨l,?_⟩;refine Tq rfl Mv (Tq rfl Pn (Tq rfl Pf (Tq rfl (Al Aa rfl rfl rfl (fun wz hz=>Blk.cell (Blk.ext (PP.blk a) hz) rfl)) (Tq rfl Mv ?_))));refine At rfl (Av (by kernel_rfl) rfl (BD _ _ _ ‹_›) (fun _ _ h=>⟨_,h.1⟩)) rfl ?_ (fun _ h=>h) As;rintro _ bi ⟨⟨⟩,ab⟩;revert l hP h5 hs h4 X;refine eY ab ?_;intro bj l hP h5 hs h4 X;refine ⟨l,?_⟩;refine Tq rfl (Bq Aa rfl rfl rfl rfl rfl rfl) (Tq rfl (G9 Aa rfl rfl rfl rfl rfl (fun wz hz=>MapIs.ext (PP.map a) hz) ‹_›) (Tq rfl Mv (Tq rfl Px (Tq rfl Px (Tq rfl Pa ?_)))));refine Az rfl ?_;refine eK ?_;refine cC rfl (FJ _ _ (by omega) (by omega)) ?_;rintro _ bk ⟨⟨⟩,rfl⟩;refine eK ?_;refine C1 (Bh rfl rfl rfl) ?_;refine eK ?_;refine A2 Aa rfl rfl rfl (PP.blk hP) rfl rfl ?_;refine eK ?_;refine Cd Aa rfl rfl rfl rfl ‹_› p ?_
     rintro bl ae u;have af:=u.size;clear hP;revert h5 hs h4 X;refine eF u ?_;intro h5 hs h4 X;refine eK ?_;refine cC rfl (FJ _ _ (by omega) (by omega)) ?_;rintro _ ag ⟨⟨⟩,rfl⟩;refine C1 V7 (eQ rfl ((IH j (by omega)).expr _ _ _ ‹_› hfe (by omega) (by omega)) ?_);rintro _ ah ⟨ai,⟨aj,⟨⟨⟩,⟨d,⟨e,v⟩⟩⟩⟩⟩;have ak:=v.size;revert h5 hs h4 X;refine eF v ?_;intro h5 hs h4 X;refine AB [_,_,_,_] Bj rfl rfl ?_;intro al am M;refine eI [_,_,_,_] M ?_;intro an m N ao ap;revert d e h5 hs h4 X;refine eE N ?_;intro d e h5 hs h4 X;refine eK ?_;refine Ae [_,_,_,_] Aa rfl rfl rfl h5 rfl rfl rfl (Ae [_,_,_,_] Aa rfl rfl rfl m rfl rfl rfl ?_);refine AQ (AM [_,_,_,_,_,_,_,_] Aa Bj rfl rfl rfl rfl rfl rfl rfl rfl rfl) rfl ?_ (fun _ h=>h);rintro _ aq ⟨ar,rfl,o,au⟩;have y:=o.blk;have O:=o.ext;have av:=o.pos;have aw:=o.size;revert m d e h5 hs h4 X;refine eE O ?_;intro m d e h5 hs h4 X;refine C1 (AC [_,_,_,_] Aa Bj rfl rfl rfl rfl) (eS [_,_,_,_] h5 ?_);intro ax ay Q az;revert y m d e hs h4 X;refine eF Q ?_;intro y m d e hs h4 X;refine Aj (An ?_)
     rotate_left
    refine AW (j,.mk op 0 [] [x,(Cl c.ts c.n j (Dz op+1) (AD σ')).1],some ⟨_,0,none⟩,2,(Cl c.ts c.n j (Dz op+1) (AD σ')).2) sB ⟨by assumption,by assumption,I6 ‹_› ⟨by omega,by omega,by omega⟩ hs (fun b h=>h) ‹_› (fun b h=>⟨by omega,by omega,by omega⟩),by assumption,X,by omega,rfl,by simp only;omega,by simp only;omega⟩ (by simp)
theorem DV (c:PC) (k:Nat):ExprsC c k:=by
 induction k using Nat.strongRecOn with
 | _ k ih=>
  cases k with
  | zero=>exact ⟨fun _ _ _ _ h=>by omega,fun _ _ _ h=>by omega,fun _ _ _ h=>by omega,fun _ _ _ h=>by omega⟩
  | succ k=>
   have IH : ∀j,j≤k→ExprsC c j:=fun j hj=>ih j (by omega)
   exact ⟨Vm c k IH,T7 c k IH,Q7 c k IH,T6 c k IH⟩
def GL (s:List UInt8):Bool:=match s with
 | []=>false
 | c::_=>C8 c
section
variable (ts:List Tok) (n:Int)
end
section
variable {ts:List Tok} {n:Int}
structure REq {α:Type} (a b:α×PS):Prop where
 err:a.2.err=b.2.err
 off:a.2.off=b.2.off
 ok:a.2.err=0→a.2.at_=b.2.at_∧a.1=b.1
theorem REq.refl {α:Type} (a:α×PS):REq a a:=⟨rfl,rfl,fun _=>⟨rfl,rfl⟩⟩
theorem REq.same {α:Type} {a b:α×PS} (h:REq a b) (e:a.2.err=0):a=b:=by
 obtain ⟨x,σ⟩:=a;obtain ⟨y,ρ⟩:=b;obtain ⟨h1,h2,h3⟩:=h;obtain ⟨h4,h5⟩:=h3 e
 cases σ;cases ρ
 simp_all
theorem REq.trans {α:Type} {a b c:α×PS} (h:REq a b) (k:REq b c):REq a c:=
 ⟨h.err.trans k.err,h.off.trans k.off,fun e=>⟨(h.ok e).1.trans (k.ok (h.err▸e)).1,(h.ok e).2.trans (k.ok (h.err▸e)).2⟩⟩
theorem REq.bind {α β:Type} {a b:α×PS} (h:REq a b) {f g:α×PS→β×PS} (hf:a.2.err≠0→(f a).2=a.2) (hg:b.2.err≠0→(g b).2=b.2) (hok:a.2.err=0→a=b→REq (f a) (g b)):REq (f a) (g b):=by
 by_cases e:a.2.err=0
 · exact hok e (h.same e)
 · have e':b.2.err≠0:=h.err▸e
   refine ⟨by rw [hf e,hg e',h.err],by rw [hf e,hg e',h.off],fun z=>?_⟩
   rw [hf e] at z;exact absurd z e
end
section
variable {ts:List Tok} {n:Int}
end
section
variable (ts:List Tok) (n:Int)
end
section
variable {ts:List Tok} {n:Int}
theorem Kq {σ:PS} (h:σ.at_≤ts.length):Le ts σ (Eb ts n σ).2:=BT h
theorem Mr (k:Nat) : ∀acc σ,σ.at_≤ts.length→Le ts σ (DO ts n k acc σ).2:=by
 induction k with
 | zero=>intro acc σ h;rw [DO];exact Le.refl h
 | succ k ih=>
  intro acc σ h;rw [DO]
  split
  · rename_i hh
    have h1:=Bm (Co h hh (by decide))
    split
    · have h2:=h1.trans (Iz (off:=(AN ts (AD σ)).pos) (e:=5) h1.wf)
      exact (h2.trans (Kq h2.wf)).trans (ih _ _ (Kq h2.wf).wf)
    · exact (h1.trans (Kq h1.wf)).trans (ih _ _ (Kq h1.wf).wf)
  · exact Le.refl h
end
section
variable {ts:List Tok} {n:Int}
abbrev In (ts:List Tok) (σ:PS):Prop:=σ.err=0∧σ.at_<ts.length
theorem E4 {k:Nat} {lv:Int} {σ:PS} (h:σ.at_≤ts.length):Le ts σ (Cl ts n k lv σ).2:=((GJ k).1 lv σ h).1
theorem Fq {k:Nat} {σ:PS} (h:σ.at_≤ts.length):Le ts σ (Cq ts n k σ).2:=((GJ k).2.2.2.2 σ h).1
theorem Ny {k:Nat} {kind:Int} {σ:PS} (hn:In ts σ):Le ts σ (GC ts n k kind σ).2:=by
 unfold GC
 have h1:=Bm hn;have h2:=h1.trans (Fq (n:=n) (k:=k) h1.wf);have h3:=h2.trans (A3 (n:=n) (t:=[44]) h2.wf (by decide))
 exact h3.trans (BT h3.wf)
theorem JM {k:Nat} {kind:Int} {σ:PS} (hn:In ts σ):Le ts σ (He ts n k kind σ).2:=by
 unfold He
 have h1:=Bm hn
 exact h1.trans (Fq (n:=n) (k:=k) h1.wf)
theorem PO {k:Nat} {kind:Int} {σ:PS} (hn:In ts σ):Le ts σ (Ip ts n k kind σ).2:=by
 unfold Ip
 have h1:=Bm hn;have h2:=h1.trans (BT (n:=n) h1.wf);have h3:=h2.trans (A3 (n:=n) (t:=[40]) h2.wf (by decide));simp only
 split
 · rename_i hh;exact h3.trans (Bm (Co h3.wf hh (by decide)))
 · have h4:=h3.trans (Kq (n:=n) h3.wf)
   exact (h4.trans (Mr (n:=n) k _ _ h4.wf)).trans (A3 (Mr (n:=n) k _ _ h4.wf).wf (by decide))
theorem OR {t:List UInt8} (h : ¬EY t=0):t≠[]:=by rintro rfl;exact h (by decide)
theorem Q8 {k:Nat} {σ:PS} (h:σ.at_≤ts.length):Le ts σ (FB ts n k σ).2:=by
 unfold FB
 have h1:=Fq (n:=n) (k:=k) h;simp only
 split
 · rename_i hh
   have h2:=h1.trans (Bm (Co h1.wf hh (by decide)))
   exact h2.trans (Fq h2.wf)
 · split
   · exact h1.trans (GI h1.wf)
   · rename_i hh
     have h2:=h1.trans (Bm (Du h1.wf (Or.inl (OR hh))))
     exact h2.trans (E4 h2.wf)
theorem EP (k:Nat):(∀ σ,σ.at_≤ts.length→Le ts σ (Cx ts n k σ).2)∧(∀kind mid last σ,In ts σ→mid≠[]→last≠[]→Le ts σ (CH ts n k kind mid last σ).2)∧(∀ σ,In ts σ→Le ts σ (Fi ts n k σ).2) ∧
 (∀ σ,σ.at_≤ts.length→Le ts σ (Ej ts n k σ).2)∧(∀acc σ,σ.at_≤ts.length→Le ts σ (Dp ts n k acc σ).2):=by
 induction k with
 | zero=>
  refine ⟨fun σ h=>?_,fun kind mid last σ h _ _=>?_,fun σ h=>?_,fun σ h=>?_,fun acc σ h=>?_⟩
  · rw [Cx];exact Le.refl h
  · rw [CH];exact Le.refl (Nat.le_of_lt h.2)
  · rw [Fi];exact Le.refl (Nat.le_of_lt h.2)
  · rw [Ej];exact Le.refl h
  · rw [Dp];exact Le.refl h
 | succ k ih=>
  obtain ⟨iS,iB,iL,iK,iT⟩:=ih;refine ⟨fun σ h=>?_,fun kind mid last σ hn hmid hlast=>?_,fun σ hn=>?_,fun σ h=>?_,fun acc σ h=>?_⟩
  · rw [Cx]
    have hin : ∀t:List UInt8,t≠[]→(AN ts σ).text=t→In ts σ:=fun t ht e=>Du h (Or.inl (by rw [e];exact ht))
    by_cases c:(AN ts σ).text=[112,117,115,104]
    · rw [if_pos c];exact Ny (hin _ (by decide) c)
    rw [if_neg c];clear c
    by_cases c:(AN ts σ).text=[112,111,112]
    · rw [if_pos c];exact Ny (hin _ (by decide) c)
    rw [if_neg c];clear c
    by_cases c:(AN ts σ).text=[114,101,97,100]
    · rw [if_pos c];exact JM (hin _ (by decide) c)
    rw [if_neg c];clear c
    by_cases c:(AN ts σ).text=[117,110,114,101,97,100]
    · rw [if_pos c];exact JM (hin _ (by decide) c)
    rw [if_neg c];clear c
    by_cases c:(AN ts σ).text=[119,114,105,116,101]
    · rw [if_pos c];exact JM (hin _ (by decide) c)
    rw [if_neg c];clear c
    by_cases c:(AN ts σ).text=[117,110,119,114,105,116,101]
    · rw [if_pos c];exact JM (hin _ (by decide) c)
    rw [if_neg c];clear c
    by_cases c:(AN ts σ).text=[99,97,108,108]
    · rw [if_pos c];exact PO (hin _ (by decide) c)
    rw [if_neg c];clear c
    by_cases c:(AN ts σ).text=[117,110,99,97,108,108]
    · rw [if_pos c];exact PO (hin _ (by decide) c)
    rw [if_neg c];clear c
    by_cases c:(AN ts σ).text=[105,102]
    · rw [if_pos c];exact iB _ _ _ _ (hin _ (by decide) c) (by decide) (by decide)
    rw [if_neg c];clear c
    by_cases c:(AN ts σ).text=[102,114,111,109]
    · rw [if_pos c];exact iB _ _ _ _ (hin _ (by decide) c) (by decide) (by decide)
    rw [if_neg c];clear c
    by_cases c:(AN ts σ).text=[108,111,99,97,108]
    · rw [if_pos c];exact iL _ (hin _ (by decide) c)
    rw [if_neg c];clear c
    exact Q8 h
  · rw [CH]
    have h1:=Bm hn;have h2:=h1.trans (E4 (n:=n) (k:=k) (lv:=1) h1.wf);have h3:=h2.trans (iK _ h2.wf);have h4:=h3.trans (A3 (n:=n) (t:=mid) h3.wf hmid);have h5:=h4.trans (iK _ h4.wf);have h6:=h5.trans (A3 (n:=n) (t:=last) h5.wf hlast)
    exact h6.trans (E4 h6.wf)
  · rw [Fi]
    have h1:=Bm hn
    split
    · rename_i hh
      have h2:=h1.trans (Bm (Co h1.wf hh (by decide)));have h3:=h2.trans (BT (n:=n) h2.wf)
      exact h3.trans (iK _ h3.wf)
    · have h2:=h1.trans (BT (n:=n) h1.wf)
      have h3:=h2.trans (A3 (n:=n) (t:=[61]) h2.wf (by decide));have h4:=h3.trans (E4 (n:=n) (k:=k) (lv:=1) h3.wf);have h5:=h4.trans (iK _ h4.wf);have h6:=h5.trans (A3 (n:=n) (t:=[100,101,108,111,99,97,108]) h5.wf (by decide))
      exact h6.trans (E4 h6.wf)
  · rw [Ej]
    have h1:=A3 (n:=n) (t:=[123]) h (by decide)
    exact h1.trans (iT [] _ h1.wf)
  · rw [Dp]
    split
    · exact Le.refl h
    · split
      · rename_i hh;exact Bm (Co h hh (by decide))
      · have h1:=iS σ h
        have h2:=h1.trans (A3 (n:=n) (t:=[59]) h1.wf (by decide))
        exact h2.trans (iT _ _ h2.wf)
end
theorem Ju (c:PC) (k:Nat) (kind:Int) (σ:PS) (w:World) (hP:PP c σ w) (hi:In c.ts σ) (hk:4*mS c.ts σ≤k) :
 Calls prog 76 #[.pointer (some ⟨c.pb,0,none⟩),.int .u8 kind] w (TreeR c w (GC c.ts c.n k kind σ)):=by
 have X:=Fr.refl (· = c.pb) w;have hpb:=hP.pbB;have hB:=hP.B;have hlen:=hP.len;have h2:=hi.2;have hm:=EG hi
 have hf:4*mS c.ts (AD σ)+1≤k:=by omega
 refine Ad func76 ntmps76 rfl rfl ?_
 focus
  refine cS (eA [_,_,_,_] ?_);intro b1 w2 h5 x6 p7 z8;revert hP X;refine eE x6 ?_;intro hP X;refine eK ?_;refine A2 Aa rfl rfl rfl (PP.blk hP) rfl rfl ?_;refine eK ?_;refine Cd Aa rfl rfl rfl rfl ‹_› h2 ?_;rintro w9 M m;have N:=m.size;replace h5:=h5.fr m (by omega);clear hP;replace X:=X.fr m (by omega);refine eK ?_;refine eQ rfl ((DV c k).place _ _ ‹_› hf) ?_;rintro _ O ⟨Q,⟨R,⟨⟨⟩,⟨d,⟨r,s⟩⟩⟩⟩⟩;have S:=s.size;revert h5 X;refine eF s ?_;intro h5 X;refine AB [_,_,_,_] Bj rfl rfl ?_;intro T U z;refine eI [_,_,_,_] z ?_;intro V e A W Y;revert d r h5 X;refine eE A ?_;intro d r h5 X;refine eK ?_;refine cC rfl (CE _ _ _ _ ‹_› (by decide)) ?_;rintro _ t ⟨⟨⟩,⟨f,u⟩⟩;revert e d;refine eZ u ?_;intro Z e d;revert h5 X;refine eF u ?_;intro h5 X;refine eK ?_;refine Ax (fun wz=>Fr (· = c.pb) t wz) 5 (.pure 0 (.pure 1 (.pure 3 (.fork 2 (.fork 4 .tail .none) (.fork 4 (.fork 2 .tail .none) .none))))) mixed (by kernel_rfl) (Ac Ak) ?_;intro C o _;have a:(fun wz=>Fr (· = c.pb) t wz) C:=Fr.of_ext o;simp only at a;have D:=f;have p:=e;have E:=d;have L:=h5;have aa:=o.size;revert f e d h5 X
  refine eE o ?_;intro f e d h5 X;refine ⟨a,?_⟩;refine Tq rfl Mv (Tq rfl Mv (Tq rfl (Aw [_,_,_,_] Aa rfl rfl rfl (fun wz hz=>(Blk.fr p hz (by omega))) rfl rfl) ?_));refine At rfl (Av (by kernel_rfl) rfl (Gn _ _ _ ‹_›) (fun _ _ h=>⟨_,h.1⟩)) rfl ?_ (fun _ h=>h) ?kr;rintro _ ab ⟨⟨⟩,⟨g,q⟩⟩;have ac:=q.size;replace a:=a.fr q (by omega);revert e d h5 X;refine eF q ?_;intro e d h5 X;refine ⟨a,?_⟩;refine At rfl (AM [_,_,_,_] Aa Bj rfl rfl rfl rfl rfl rfl rfl rfl rfl) rfl ?_ (fun _ h=>h) As;rintro _ ad ⟨ae,rfl,i,af⟩;have v:=i.blk;have F:=i.ext;have ag:=i.pos;have ah:=i.size;revert g a e d h5 X;refine eE F ?_;intro g a e d h5 X;refine ⟨a,?_⟩;refine Az rfl (C1 (AC [_,_,_,_] Aa Bj rfl rfl rfl rfl) (eS [_,_,_,_] h5 ?_));intro ai G H aj;revert v g e d X;refine eF H ?_;intro v g e d X;refine eK ?_;refine AZ rfl Aa rfl rfl rfl G rfl ?_;rotate_left;refine At rfl (AM [_,_,_,_] Aa Bj rfl rfl rfl rfl rfl rfl rfl rfl rfl) rfl ?_ (fun _ h=>h) As;rintro _ ak ⟨al,rfl,j,am⟩;have l:=j.blk;have I:=j.ext;have an:=j.pos;have ao:=j.size
  revert a f e d h5 X;refine eE I ?_;intro a f e d h5 X;refine ⟨a,?_⟩;refine At rfl (Av (by kernel_rfl) rfl (Gn _ _ _ ‹_›) (fun _ _ h=>⟨_,h.1⟩)) rfl ?_ (fun _ h=>h) As;rintro _ ap ⟨⟨⟩,⟨x,y⟩⟩;revert l a;refine eZ y ?_;intro aq l a;revert e d h5 X;refine eF y ?_;intro e d h5 X;refine ⟨a,?_⟩;refine Az rfl (C1 (AC [_,_,_,_] Aa Bj rfl rfl rfl rfl) (eS [_,_,_,_] h5 ?_));intro ar J K au;revert x l e d X;refine eF K ?_;intro x l e d X;refine eK ?_;refine AZ rfl Aa rfl rfl rfl J rfl ?_;rotate_left
 all_goals exact Ba (I5 ‹_› (by omega) ‹_› (fun b h=>by omega)) ‹_› X
theorem Gq (c:PC) (k:Nat) (kind:Int) (σ:PS) (w:World) (hP:PP c σ w) (hi:In c.ts σ) (hk:4*mS c.ts σ≤k) :
 Calls prog 77 #[.pointer (some ⟨c.pb,0,none⟩),.int .u8 kind] w (TreeR c w (He c.ts c.n k kind σ)):=by
 have X:=Fr.refl (· = c.pb) w;have hpb:=hP.pbB;have hB:=hP.B;have hlen:=hP.len;have h2:=hi.2;have hm:=EG hi
 have hf:4*mS c.ts (AD σ)+1≤k:=by omega
 refine Ad func77 ntmps77 rfl rfl ?_
 focus
  refine cS (eA [_,_,_,_] ?_);intro b1 w2 h5 x6 p7 z8;revert hP X;refine eE x6 ?_;intro hP X;refine eK ?_;refine A2 Aa rfl rfl rfl (PP.blk hP) rfl rfl ?_;refine eK ?_;refine Cd Aa rfl rfl rfl rfl ‹_› h2 ?_;rintro w9 o f;have p:=f.size;replace h5:=h5.fr f (by omega);clear hP;replace X:=X.fr f (by omega);refine eK ?_;refine eQ rfl ((DV c k).place _ _ ‹_› hf) ?_;rintro _ q ⟨r,⟨s,⟨⟨⟩,⟨a,⟨d,g⟩⟩⟩⟩⟩;have t:=g.size;revert h5 X;refine eF g ?_;intro h5 X;refine AQ (AM [_,_,_,_] Aa Bj rfl rfl rfl rfl rfl rfl rfl rfl rfl) rfl ?_ (fun _ h=>h);rintro _ u ⟨v,rfl,e,x⟩;have i:=e.blk;have j:=e.ext;have y:=e.pos;have z:=e.size;revert a d h5 X;refine eE j ?_;intro a d h5 X;refine C1 (AC [_,_,_,_] Aa Bj rfl rfl rfl rfl) (eS [_,_,_,_] h5 ?_);intro A l m C;revert i a d X;refine eF m ?_;intro i a d X;refine eK ?_;refine AZ rfl Aa rfl rfl rfl l rfl ?_;rotate_left
 all_goals exact Ba (I5 ‹_› (by omega) ‹_› (fun b h=>by omega)) ‹_› X
theorem Su (c:PC) (k:Nat) (σ:PS) (w:World) (hP:PP c σ w) (hk:4*mS c.ts σ+1≤k) :
 Calls prog 81 #[.pointer (some ⟨c.pb,0,none⟩)] w (TreeR c w (FB c.ts c.n k σ)):=by
 have X:=Fr.refl (· = c.pb) w;have hpb:=hP.pbB;have hB:=hP.B;have hlen:=hP.len;have hl:=Fq (n:=c.n) (k:=k) hP.at_;have hm:=DS hl;have hwf:=hl.wf
 unfold FB
 generalize hp:Cq c.ts c.n k σ=p at *
 have Y : ∀ {w':World},PP c σ w'→Calls prog 113 #[.pointer (some ⟨c.pb,0,none⟩)] w' (TreeR c w' p):=fun h=>hp▸(DV c k).place _ _ h hk
 clear hl
 by_cases hsw:(AN c.ts p.2).text=[60,61,62]
 · have hh:Dh c.ts p.2 [60,61,62]=true:=by simp [Dh,hsw]
   simp only [hh,if_true];have hin:=Co hwf hh (by decide);have b7:=EG hin;have h2:=hin.2
   have hf:4*mS c.ts (AD p.2)+1≤k:=by omega
   refine Ad func81 ntmps81 rfl rfl ?_
   focus
    refine cS (eA [_,_,_,_] ?_);intro b1 w2 h5 x6 p7 z8;revert hP X;refine eE x6 ?_;intro hP X;refine eK ?_;refine eQ rfl (Y ‹_›) ?_;rintro _ gd ⟨a9,⟨ge,⟨⟨⟩,⟨u,⟨ab,az⟩⟩⟩⟩⟩;have gf:=az.size;replace h5:=h5.fr az (by omega);clear hP;replace X:=X.fr az (by omega);refine AB [_,_,_,_] Bj rfl rfl ?_;intro gg gh b8;refine eI [_,_,_,_] b8 ?_;intro gi v b9 gj gk;revert u ab h5 X;refine eE b9 ?_;intro u ab h5 X;refine eK ?_;refine cC rfl (BD _ _ _ ‹_›) ?_;rintro _ gl ⟨⟨⟩,ca⟩;revert v u ab h5 X;refine eY ca ?_;intro gm v u ab h5 X;refine C1 (Bq Aa rfl rfl rfl rfl rfl rfl) (cT (AK (cS (C1 V8 (C1 Pa (cT (Cb rfl (fun o=>absurd (hsw.symm.trans o) (by decide)) (cS (C1 V8 (C1 Pa (cT ?_)))))))))));refine Cb rfl (fun o=>absurd (hsw.symm.trans o) (by decide)) (cS (C1 V8 (C1 Pa (cT (Cb rfl (fun o=>absurd (hsw.symm.trans o) (by decide)) (cS (C1 V8 (C1 Pa (cT (Cb rfl (fun o=>absurd (hsw.symm.trans o) (by decide)) ?_))))))))));refine eK ?_;refine A2 Aa rfl rfl rfl (PP.blk ab) rfl rfl ?_;refine eK ?_;refine Cd Aa rfl rfl rfl rfl ‹_› h2 ?_;rintro gn go a0;revert v u;refine eZ a0 ?_;intro gp v u;revert h5 X;refine eF a0 ?_;intro h5 X;refine eK ?_;refine eQ rfl ((DV c k).place _ _ ‹_› hf) ?_
    rintro _ gq ⟨gr,⟨gs,⟨⟨⟩,⟨Z,⟨aa,a1⟩⟩⟩⟩⟩;have gt:=a1.size;revert v u h5 X;refine eF a1 ?_;intro v u h5 X;refine AB [_,_,_,_] Bj rfl rfl ?_;intro gu gv cb;refine eI [_,_,_,_] cb ?_;intro gw ac cc gx gy;revert Z aa v u h5 X;refine eE cc ?_;intro Z aa v u h5 X;refine cN (Ae [_,_,_,_] Aa rfl rfl rfl v rfl rfl rfl (Ae [_,_,_,_] Aa rfl rfl rfl ac rfl rfl rfl ?_));refine AQ (AM [_,_,_,_,_,_,_,_] Aa Bj rfl rfl rfl rfl rfl rfl rfl rfl rfl) rfl ?_ (fun _ h=>h);rintro _ gz ⟨g0,rfl,ai,g1⟩;have a2:=ai.blk;have cd:=ai.ext;have g2:=ai.pos;have g3:=ai.size;revert ac Z aa v u h5 X;refine eE cd ?_;intro ac Z aa v u h5 X;refine C1 (AC [_,_,_,_] Aa Bj rfl rfl rfl rfl) (eS [_,_,_,_] h5 ?_);intro g4 ce cf g5;revert a2 ac Z aa v u X;refine eF cf ?_;intro a2 ac Z aa v u X;refine eK ?_;refine AZ rfl Aa rfl rfl rfl ce rfl ?_;rotate_left
   all_goals exact Ba (I6 ‹_› (by omega) ‹_› (fun b h=>by omega) ‹_› (fun b h=>by omega)) ‹_› X
 · have hh:Dh c.ts p.2 [60,61,62]=false:=by simp [Dh,hsw]
   simp only [hh,Bool.false_eq_true,if_false]
   by_cases hu:EY (AN c.ts p.2).text=0
   · rw [if_pos hu]
     have n1:(AN c.ts p.2).text≠[43,61]:=fun e=>by rw [e] at hu;exact absurd hu (by decide)
     have n2:(AN c.ts p.2).text≠[45,61]:=fun e=>by rw [e] at hu;exact absurd hu (by decide)
     have n3:(AN c.ts p.2).text≠[94,61]:=fun e=>by rw [e] at hu;exact absurd hu (by decide)
     have n4:(AN c.ts p.2).text≠[58,61]:=fun e=>by rw [e] at hu;exact absurd hu (by decide)
     refine Ad func81 ntmps81 rfl rfl ?_
     focus
      refine cS (eA [_,_,_,_] ?_);intro g6 g7 I cg g8 g9;revert hP X;refine eE cg ?_;intro hP X;refine eK ?_;refine eQ rfl (Y ‹_›) ?_;rintro _ cl ⟨ha,⟨cm,⟨⟨⟩,⟨x,⟨S,ad⟩⟩⟩⟩⟩;have cn:=ad.size;replace I:=I.fr ad (by omega);clear hP;replace X:=X.fr ad (by omega);refine AB [_,_,_,_] Bj rfl rfl ?_;intro co cp a3;refine eI [_,_,_,_] a3 ?_;intro cq y a4 cr cs;revert x S I X;refine eE a4 ?_;intro x S I X;refine eK ?_;refine cC rfl (BD _ _ _ ‹_›) ?_;rintro _ ct ⟨⟨⟩,a5⟩;revert y x S I X;refine eY a5 ?_;intro cu y x S I X;refine C1 (Bq Aa rfl rfl rfl rfl rfl rfl) ?_;refine eK ?_;refine cC rfl (E2 _ _ _ ‹_›) ?_;rintro _ cv ⟨⟨⟩,⟨aj,ak⟩⟩;revert y x;refine eZ ak ?_;intro cw y x;revert I X;refine eF ak ?_;intro I X;refine cN (C1 (AC [_,_,_,_] Aa Bj rfl rfl rfl rfl) (eS [_,_,_,_] I ?_));intro cx a6 a7 cy;revert aj y x X;refine eF a7 ?_;intro aj y x X;refine eK ?_;refine AZ rfl Aa rfl rfl rfl a6 rfl ?_;rotate_left
     all_goals exact Ba CK ‹_› X
   · rw [if_neg hu];have hin:=Du hwf (Or.inl (OR hu));have b7:=EG hin;have h2:=hin.2
     have hf:4*mS c.ts (AD p.2)+4≤k:=by omega
     have hcase:(AN c.ts p.2).text=[43,61]∨(AN c.ts p.2).text=[45,61]∨(AN c.ts p.2).text=[94,61]∨(AN c.ts p.2).text=[58,61]:=by
      unfold EY at hu
      by_cases e1:(AN c.ts p.2).text=[43,61]
      · exact Or.inl e1
      by_cases e2:(AN c.ts p.2).text=[45,61]
      · exact Or.inr (Or.inl e2)
      by_cases e3:(AN c.ts p.2).text=[94,61]
      · exact Or.inr (Or.inr (Or.inl e3))
      by_cases e4:(AN c.ts p.2).text=[58,61]
      · exact Or.inr (Or.inr (Or.inr e4))
      · simp [e1,e2,e3,e4] at hu
     rcases hcase with e|e|e|e
     · rw [show EY (AN c.ts p.2).text=40 from by rw [e];decide];refine Ad func81 ntmps81 rfl rfl ?_
       focus
        refine cS (eA [_,_,_,_] ?_);intro hb hc q ch hd he;revert hP X;refine eE ch ?_;intro hP X;refine eK ?_;refine eQ rfl (Y ‹_›) ?_;rintro _ cz ⟨hg,⟨c0,⟨⟨⟩,⟨a,⟨J,ae⟩⟩⟩⟩⟩;have c1:=ae.size;replace q:=q.fr ae (by omega);clear hP;replace X:=X.fr ae (by omega);refine AB [_,_,_,_] Bj rfl rfl ?_;intro c2 c3 a8;refine eI [_,_,_,_] a8 ?_;intro c4 i ba c5 c6;revert a J q X;refine eE ba ?_;intro a J q X;refine eK ?_;refine cC rfl (BD _ _ _ ‹_›) ?_;rintro _ c7 ⟨⟨⟩,bb⟩;revert i a J q X;refine eY bb ?_;intro c8 i a J q X;refine C1 (Bq Aa rfl rfl rfl rfl rfl rfl) ?_;refine eK ?_;refine A2 Aa rfl rfl rfl (PP.blk J) rfl rfl ?_;refine eK ?_;refine Cd Aa rfl rfl rfl rfl ‹_› h2 ?_;rintro c9 da al;revert i a;refine eZ al ?_;intro db i a;revert q X;refine eF al ?_;intro q X;refine eK ?_;refine eQ rfl ((DV c k).expr _ _ _ ‹_› hf (by decide) (by decide)) ?_;rintro _ dc ⟨dd,⟨de,⟨⟨⟩,⟨z,⟨A,am⟩⟩⟩⟩⟩;have df:=am.size;revert i a q X;refine eF am ?_;intro i a q X;refine AB [_,_,_,_] Bj rfl rfl ?_;intro dg dh bc;refine eI [_,_,_,_] bc ?_
        intro di K bd dj dk;revert z A i a q X;refine eE bd ?_;intro z A i a q X;refine eK ?_;refine Ae [_,_,_,_] Aa rfl rfl rfl i rfl rfl rfl (Ae [_,_,_,_] Aa rfl rfl rfl K rfl rfl rfl ?_);refine AQ (AM [_,_,_,_,_,_,_,_] Aa Bj rfl rfl rfl rfl rfl rfl rfl rfl rfl) rfl ?_ (fun _ h=>h);rintro _ dl ⟨dm,rfl,T,dn⟩;have an:=T.blk;have be:=T.ext;have dp:=T.pos;have dq:=T.size;revert K z A i a q X;refine eE be ?_;intro K z A i a q X;refine C1 (AC [_,_,_,_] Aa Bj rfl rfl rfl rfl) (eS [_,_,_,_] q ?_);intro dr bf bg ds;revert an K z A i a X;refine eF bg ?_;intro an K z A i a X;refine eK ?_;refine AZ rfl Aa rfl rfl rfl bf rfl ?_;rotate_left
       all_goals exact Ba (I6 ‹_› (by omega) ‹_› (fun b h=>by omega) ‹_› (fun b h=>by omega)) ‹_› X
     · rw [show EY (AN c.ts p.2).text=41 from by rw [e];decide];refine Ad func81 ntmps81 rfl rfl ?_
       focus
        refine cS (eA [_,_,_,_] ?_);intro hi hj r ci hn ho;revert hP X;refine eE ci ?_;intro hP X;refine eK ?_;refine eQ rfl (Y ‹_›) ?_;rintro _ dt ⟨hq,⟨du,⟨⟨⟩,⟨d,⟨L,af⟩⟩⟩⟩⟩;have dv:=af.size;replace r:=r.fr af (by omega);clear hP;replace X:=X.fr af (by omega);refine AB [_,_,_,_] Bj rfl rfl ?_;intro dw dx bh;refine eI [_,_,_,_] bh ?_;intro dy j bi dz d0;revert d L r X;refine eE bi ?_;intro d L r X;refine eK ?_;refine cC rfl (BD _ _ _ ‹_›) ?_;rintro _ d1 ⟨⟨⟩,bj⟩;revert j d L r X;refine eY bj ?_;intro d2 j d L r X;refine C1 (Bq Aa rfl rfl rfl rfl rfl rfl) (cT (AK (cS (C1 V8 (C1 Pa (cT (Cb rfl (fun o=>absurd (e.symm.trans o) (by decide)) ?_)))))));refine eK ?_;refine A2 Aa rfl rfl rfl (PP.blk L) rfl rfl ?_;refine eK ?_;refine Cd Aa rfl rfl rfl rfl ‹_› h2 ?_;rintro d3 d4 ao;revert j d;refine eZ ao ?_;intro d5 j d;revert r X;refine eF ao ?_;intro r X;refine eK ?_;refine eQ rfl ((DV c k).expr _ _ _ ‹_› hf (by decide) (by decide)) ?_;rintro _ d6 ⟨d7,⟨d8,⟨⟨⟩,⟨C,⟨D,ap⟩⟩⟩⟩⟩;have d9:=ap.size;revert j d r X;refine eF ap ?_;intro j d r X
        refine AB [_,_,_,_] Bj rfl rfl ?_;intro ea eb bk;refine eI [_,_,_,_] bk ?_;intro ec M bl ed ee;revert C D j d r X;refine eE bl ?_;intro C D j d r X;refine eK ?_;refine Ae [_,_,_,_] Aa rfl rfl rfl j rfl rfl rfl (Ae [_,_,_,_] Aa rfl rfl rfl M rfl rfl rfl ?_);refine AQ (AM [_,_,_,_,_,_,_,_] Aa Bj rfl rfl rfl rfl rfl rfl rfl rfl rfl) rfl ?_ (fun _ h=>h);rintro _ ef ⟨eg,rfl,U,eh⟩;have aq:=U.blk;have bm:=U.ext;have ei:=U.pos;have ej:=U.size;revert M C D j d r X;refine eE bm ?_;intro M C D j d r X;refine C1 (AC [_,_,_,_] Aa Bj rfl rfl rfl rfl) (eS [_,_,_,_] r ?_);intro ek bn bo el;revert aq M C D j d X;refine eF bo ?_;intro aq M C D j d X;refine eK ?_;refine AZ rfl Aa rfl rfl rfl bn rfl ?_;rotate_left
       all_goals exact Ba (I6 ‹_› (by omega) ‹_› (fun b h=>by omega) ‹_› (fun b h=>by omega)) ‹_› X
     · rw [show EY (AN c.ts p.2).text=42 from by rw [e];decide];refine Ad func81 ntmps81 rfl rfl ?_
       focus
        refine cS (eA [_,_,_,_] ?_);intro hr hs s cj ht hv;revert hP X;refine eE cj ?_;intro hP X;refine eK ?_;refine eQ rfl (Y ‹_›) ?_;rintro _ em ⟨hw,⟨en,⟨⟨⟩,⟨f,⟨N,ag⟩⟩⟩⟩⟩;have eo:=ag.size;replace s:=s.fr ag (by omega);clear hP;replace X:=X.fr ag (by omega);refine AB [_,_,_,_] Bj rfl rfl ?_;intro ep eq bp;refine eI [_,_,_,_] bp ?_;intro er l bq es et;revert f N s X;refine eE bq ?_;intro f N s X;refine eK ?_;refine cC rfl (BD _ _ _ ‹_›) ?_;rintro _ eu ⟨⟨⟩,br⟩;revert l f N s X;refine eY br ?_;intro ev l f N s X;refine C1 (Bq Aa rfl rfl rfl rfl rfl rfl) (cT (AK (cS (C1 V8 (C1 Pa (cT (Cb rfl (fun o=>absurd (e.symm.trans o) (by decide)) (cS (C1 V8 (C1 Pa (cT ?_)))))))))));refine Cb rfl (fun o=>absurd (e.symm.trans o) (by decide)) ?_;refine eK ?_;refine A2 Aa rfl rfl rfl (PP.blk N) rfl rfl ?_;refine eK ?_;refine Cd Aa rfl rfl rfl rfl ‹_› h2 ?_;rintro ew ex ar;revert l f;refine eZ ar ?_;intro ey l f;revert s X;refine eF ar ?_;intro s X;refine eK ?_;refine eQ rfl ((DV c k).expr _ _ _ ‹_› hf (by decide) (by decide)) ?_;rintro _ ez ⟨e0,⟨e5,⟨⟨⟩,⟨E,⟨F,au⟩⟩⟩⟩⟩
        have e6:=au.size;revert l f s X;refine eF au ?_;intro l f s X;refine AB [_,_,_,_] Bj rfl rfl ?_;intro e7 e8 bs;refine eI [_,_,_,_] bs ?_;intro e9 O bt fa fb;revert E F l f s X;refine eE bt ?_;intro E F l f s X;refine eK ?_;refine Ae [_,_,_,_] Aa rfl rfl rfl l rfl rfl rfl (Ae [_,_,_,_] Aa rfl rfl rfl O rfl rfl rfl ?_);refine AQ (AM [_,_,_,_,_,_,_,_] Aa Bj rfl rfl rfl rfl rfl rfl rfl rfl rfl) rfl ?_ (fun _ h=>h);rintro _ fc ⟨fd,rfl,V,fe⟩;have av:=V.blk;have bu:=V.ext;have ff:=V.pos;have fg:=V.size;revert O E F l f s X;refine eE bu ?_;intro O E F l f s X;refine C1 (AC [_,_,_,_] Aa Bj rfl rfl rfl rfl) (eS [_,_,_,_] s ?_);intro fh bv bw fi;revert av O E F l f X;refine eF bw ?_;intro av O E F l f X;refine eK ?_;refine AZ rfl Aa rfl rfl rfl bv rfl ?_;rotate_left
       all_goals exact Ba (I6 ‹_› (by omega) ‹_› (fun b h=>by omega) ‹_› (fun b h=>by omega)) ‹_› X
     · rw [show EY (AN c.ts p.2).text=56 from by rw [e];decide];refine Ad func81 ntmps81 rfl rfl ?_
       focus
        refine cS (eA [_,_,_,_] ?_);intro hx hy t ck hz h0;revert hP X;refine eE ck ?_;intro hP X;refine eK ?_;refine eQ rfl (Y ‹_›) ?_;rintro _ fj ⟨h1,⟨fk,⟨⟨⟩,⟨g,⟨Q,ah⟩⟩⟩⟩⟩;have fl:=ah.size;replace t:=t.fr ah (by omega);clear hP;replace X:=X.fr ah (by omega);refine AB [_,_,_,_] Bj rfl rfl ?_;intro fm fn bx;refine eI [_,_,_,_] bx ?_;intro fo m bz fp fq;revert g Q t X;refine eE bz ?_;intro g Q t X;refine eK ?_;refine cC rfl (BD _ _ _ ‹_›) ?_;rintro _ fs ⟨⟨⟩,b0⟩;revert m g Q t X;refine eY b0 ?_;intro ft m g Q t X;refine C1 (Bq Aa rfl rfl rfl rfl rfl rfl) (cT (AK (cS (C1 V8 (C1 Pa (cT (Cb rfl (fun o=>absurd (e.symm.trans o) (by decide)) (cS (C1 V8 (C1 Pa (cT ?_)))))))))));refine Cb rfl (fun o=>absurd (e.symm.trans o) (by decide)) (cS (C1 V8 (C1 Pa (cT (Cb rfl (fun o=>absurd (e.symm.trans o) (by decide)) ?_)))));refine eK ?_;refine A2 Aa rfl rfl rfl (PP.blk Q) rfl rfl ?_;refine eK ?_;refine Cd Aa rfl rfl rfl rfl ‹_› h2 ?_;rintro fu fv aw;revert m g;refine eZ aw ?_;intro fw m g;revert t X;refine eF aw ?_;intro t X;refine eK ?_;refine eQ rfl ((DV c k).expr _ _ _ ‹_› hf (by decide) (by decide)) ?_
        rintro _ fx ⟨fy,⟨fz,⟨⟨⟩,⟨G,⟨H,ax⟩⟩⟩⟩⟩;have f0:=ax.size;revert m g t X;refine eF ax ?_;intro m g t X;refine AB [_,_,_,_] Bj rfl rfl ?_;intro f1 f2 b2;refine eI [_,_,_,_] b2 ?_;intro f3 R b3 f4 f5;revert G H m g t X;refine eE b3 ?_;intro G H m g t X;refine eK ?_;refine Ae [_,_,_,_] Aa rfl rfl rfl m rfl rfl rfl (Ae [_,_,_,_] Aa rfl rfl rfl R rfl rfl rfl ?_);refine AQ (AM [_,_,_,_,_,_,_,_] Aa Bj rfl rfl rfl rfl rfl rfl rfl rfl rfl) rfl ?_ (fun _ h=>h);rintro _ f6 ⟨f7,rfl,W,f8⟩;have ay:=W.blk;have b4:=W.ext;have f9:=W.pos;have ga:=W.size;revert R G H m g t X;refine eE b4 ?_;intro R G H m g t X;refine C1 (AC [_,_,_,_] Aa Bj rfl rfl rfl rfl) (eS [_,_,_,_] t ?_);intro gb b5 b6 gc;revert ay R G H m g X;refine eF b6 ?_;intro ay R G H m g X;refine eK ?_;refine AZ rfl Aa rfl rfl rfl b5 rfl ?_;rotate_left
       all_goals exact Ba (I6 ‹_› (by omega) ‹_› (fun b h=>by omega) ‹_› (fun b h=>by omega)) ‹_› X
theorem Nz {c:PC} {σ:PS} {w:World} (hP:PP c σ w) (ρ:PS):(AN c.ts ρ).text.length≤1000000:=by
 unfold AN
 split
 · simp [Tok.zero]
 · rw [List.getD_eq_getElem?_getD]
   rcases Nat.lt_or_ge ρ.at_ c.ts.length with h|h
   · rw [List.getElem?_eq_getElem h];exact hP.tok _ (List.getElem_mem h)
   · rw [List.getElem?_eq_none h];simp [Tok.zero]
theorem Kr (c:PC) (k:Nat) (kind:Int) (σ:PS) (w:World) (hP:PP c σ w) (hi:In c.ts σ) (hk:4*mS c.ts σ≤k) :
 Calls prog 78 #[.pointer (some ⟨c.pb,0,none⟩),.int .u8 kind] w (TreeR c w (Ip c.ts c.n k kind σ)):=by
 have X:=Fr.refl (· = c.pb) w;have hpb:=hP.pbB;have hB:=hP.B;have hlen:=hP.len;have h2:=hi.2;have hm:=EG hi;have a1:=Bm hi;have a2:=a1.trans (BT (n:=c.n) a1.wf);have a3:=a2.trans (A3 (n:=c.n) (t:=[40]) a2.wf (by decide))
 unfold Ip
 dsimp only
 generalize hM:BJ c.ts c.n (AD σ)=M at *
 have hname : ∀ {w':World},PP c (AD σ) w'→Calls prog 114 #[.pointer (some ⟨c.pb,0,none⟩)] w' fun r w''=>r = .returned (str M.1)∧PP c M.2 w''∧Fr (· = c.pb) w' w'':=fun h=>hM▸Gn c _ _ h
 cases hh:Dh c.ts (A1 c.ts c.n M.2 [40]) [41]
 case true=>
  simp only [if_true];refine Ad func78 ntmps78 rfl rfl ?_
  focus
   refine cS (eA [_,_,_,_] ?_);intro b1 w2 h5 x6 p7 z8;revert hP X;refine eE x6 ?_;intro hP X;refine eK ?_;refine A2 Aa rfl rfl rfl (PP.blk hP) rfl rfl ?_;refine eK ?_;refine Cd Aa rfl rfl rfl rfl ‹_› h2 ?_;rintro w9 e5 az;have e6:=az.size;replace h5:=h5.fr az (by omega);clear hP;replace X:=X.fr az (by omega);refine eK ?_;refine cC rfl (hname ‹_›) ?_;rintro _ e7 ⟨⟨⟩,⟨a4,a5⟩⟩;have e8:=a5.size;revert h5 X;refine eF a5 ?_;intro h5 X;refine C1 (AC [_,_,_,_] Aa Bj rfl rfl rfl rfl) (AB [_,_,_,_] Bj rfl rfl ?_);intro e9 fa cd;refine eI [_,_,_,_] cd ?_;intro fb D ce fc fd;revert a4 h5 X;refine eE ce ?_;intro a4 h5 X;refine eK ?_;refine cC rfl (CE _ _ _ _ ‹_› (by decide)) ?_;rintro _ fe ⟨⟨⟩,⟨ff,a0⟩⟩;have fg:=a0.size;replace D:=D.fr a0 (by omega);revert h5 X;refine eF a0 ?_;intro h5 X;refine eK ?_;refine cC rfl (Dj _ _ _ _ ‹_› (by decide) ‹_›) ?_;rintro _ fh ⟨⟨⟩,⟨a6,a7⟩⟩;have fi:=a7.size;revert D h5 X;refine eF a7 ?_;intro D h5 X;refine eK ?_;refine Ae [_,_,_,_] Aa rfl rfl rfl D rfl rfl rfl (eS [_,_,_,_] h5 ?_);intro fj cf cg fk;revert a6 D X;refine eF cg ?_;intro a6 D X;refine eK ?_;refine AZ rfl Aa rfl rfl rfl cf rfl ?_
   rotate_left
  exact Ba CK ‹_› X
 simp only [Bool.false_eq_true,if_false];refine Ad func78 ntmps78 rfl rfl ?_
 focus
  refine cS (eA [_,_,_,_] ?_);intro a8 fl d ch fm fn;revert hP X;refine eE ch ?_;intro hP X;refine eK ?_;refine A2 Aa rfl rfl rfl (PP.blk hP) rfl rfl ?_;refine eK ?_;refine Cd Aa rfl rfl rfl rfl ‹_› h2 ?_;rintro fo cq R;have cr:=R.size;replace d:=d.fr R (by omega);clear hP;replace X:=X.fr R (by omega);refine eK ?_;refine cC rfl (hname ‹_›) ?_;rintro _ cs ⟨⟨⟩,⟨ac,ad⟩⟩;have ct:=ad.size;revert d X;refine eF ad ?_;intro d X;refine C1 (AC [_,_,_,_] Aa Bj rfl rfl rfl rfl) (AB [_,_,_,_] Bj rfl rfl ?_);intro F cu a9;refine eI [_,_,_,_] a9 ?_;intro cv a ba cw cx;revert ac d X;refine eE ba ?_;intro ac d X;refine eK ?_;refine cC rfl (CE _ _ _ _ ‹_› (by decide)) ?_;rintro _ cy ⟨⟨⟩,⟨cz,S⟩⟩;have c0:=S.size;replace a:=a.fr S (by omega);revert d X;refine eF S ?_;intro d X;refine eK ?_;refine cC rfl (CL _ _ _ _ ‹_› (by decide) ‹_›) ?_;rintro _ ae ⟨⟨⟩,⟨T,af⟩⟩;have c1:=af.size;revert a d X;refine eF af ?_;intro a d X;refine eK ?_;refine Ax (fun wz=>Fr (· = c.pb) ae wz) 5 (.pure 0 (.pure 1 (.pure 2 (.fork 3 (.fork 4 .tail .none) .none)))) mixed (by kernel_rfl) (Ac Ak) ?_
  intro bb ag _;have e:(fun wz=>Fr (· = c.pb) ae wz) bb:=Fr.of_ext ag;simp only at e;have b8:=T;have ab:=a;have ci:=d;revert T a d X;refine eY ag ?_;intro c2 T a d X;refine ⟨e,?_⟩;refine Tq rfl Pf (Tq rfl (Al Aa rfl rfl rfl (fun wz hz=>Blk.cell (Blk.fr ab hz (by omega)) rfl)) (Tq rfl Mv ?_));refine At rfl (Av (by kernel_rfl) rfl (Gp _ _ _ ‹_›) (fun _ _ h=>h.ret)) rfl ?_ (fun _ h=>h) As;rintro _ c3 ⟨c4,⟨c5,⟨⟨⟩,⟨U,⟨u,V⟩⟩⟩⟩⟩;have c6:=V.size;replace e:=e.fr V (by omega);revert a d X;refine eF V ?_;intro a d X;refine ⟨e,?_⟩;refine At rfl (AM [_,_,_,_] Aa Bj rfl rfl rfl rfl rfl rfl rfl rfl rfl) rfl ?_ (fun _ h=>h) As;rintro _ c7 ⟨c8,rfl,G,c9⟩;have ah:=G.blk;have bc:=G.ext;have da:=G.pos;have db:=G.size;revert U u e a d X;refine eE bc ?_;intro U u e a d X;refine ⟨e,?_⟩;refine Az rfl ?_;rotate_left
 refine CQ (sh:=ndShape) (B:=F+1) Aa Bj rfl rfl rfl rfl (by kernel_rfl) rfl rfl rfl OwnL.nil (Blk.row ah) ⟨_,_,rfl,CK⟩ (by simp) (by omega) rfl ?_;intro g cap wA hown fA;have zA:=fA.size;replace u:=u.fr fA (fun k hk=>by omega);revert a d;refine eF fA ?_;intro a d;replace X:=X.fr fA (fun k hk=>Or.inr (by omega));clear fA ah U
 focus
  refine C1 Pf (eV [_] [_,_,_,_] a ?_);intro cj bd ck fp;revert hown u d X;refine eF ck ?_;intro hown u d X;refine cT (Am (AK ?_));rotate_left
 generalize ha:Eb c.ts c.n (A1 c.ts c.n M.2 [40])=A at *
 have hA:Le c.ts σ A.2:=by rw [←ha];exact a3.trans (BT (n:=c.n) a3.wf)
 have fq:=DS hA
 have hmt:mS c.ts σ≤c.ts.length:=by unfold mS;split<;>omega
 refine Bn (ι:=Nat×List Nd×Nat×Nat×PS) (fun _=>[(0,.pointer (some ⟨c.pb,0,none⟩)),(4,.pointer (some ⟨a8,0,none⟩)),(5,.pointer (some ⟨F,0,none⟩))])
  (fun x w'=>PP c x.2.2.2.2 w'∧Blk w' F [.int .u8 kind,.int .i64 0,str M.1,.slice (some ⟨x.2.2.1,0,none⟩) x.2.1.length x.2.2.2.1]∧OwnL ndShape w' (F+1) 26 (.slice (some ⟨x.2.2.1,0,none⟩) x.2.1.length x.2.2.2.1) x.2.1 ∧
   Blk w' a8 [.int .u8 0,.int .i64 0,.string ⟨#[]⟩,.slice none 0 0]∧Fr (· = c.pb) w w'∧cj.heap.size≤w'.heap.size ∧
   DO c.ts c.n k [A.1] A.2=DO c.ts c.n x.1 x.2.1 x.2.2.2.2∧mS c.ts x.2.2.2.2+1≤x.1∧x.2.1.length+mS c.ts x.2.2.2.2≤1000001) (fun x=>x.1) (k,[A.1],g,cap,A.2) sB
  ⟨by assumption,bd,hown,by assumption,X,Nat.le_refl _,rfl,by simp only;omega,by simp only [List.length_cons,List.length_nil];omega⟩ ?_
 rintro ⟨j,acc,g,cap,σ'⟩ w1 ⟨hP,hbn,hown,hbr,X,hz,he,hfj,hacc⟩;simp only at hP hbn hown he hfj hacc;clear bd hM hname;rw [he];obtain ⟨j,rfl⟩ : ∃i,j=i+1:=⟨j-1,by omega⟩
 cases hc:Dh c.ts σ' [44]
 case false=>
  rw [show DO c.ts c.n (j+1) acc σ'=(acc,σ') from by rw [DO];simp [hc]]
  focus
   refine eK ?_;refine cC rfl (CL _ _ _ _ ‹_› (by decide) ‹_›) ?_;rintro _ fs ⟨⟨⟩,⟨ft,be⟩⟩;have fu:=be.size;clear hP;revert hbn hown hbr X;refine eF be ?_;intro hbn hown hbr X;refine eK ?_;refine cC rfl (CE _ _ _ _ ‹_› (by decide)) ?_;rintro _ fv ⟨⟨⟩,⟨bf,bg⟩⟩;have fw:=bg.size;revert hbn hown hbr X;refine eF bg ?_;intro hbn hown hbr X;refine cN (Ae [_,_,_,_] Aa rfl rfl rfl hbn rfl rfl rfl (eS [_,_,_,_] hbr ?_));intro fx bh bi dc;clear hbr;revert bf hbn hown X;refine eF bi ?_;intro bf hbn hown X;refine eK ?_;refine AZ rfl Aa rfl rfl rfl bh rfl ?_;rotate_left
  exact Ba (GZ (hown.sits (fun b h=>by omega))) ‹_› X
 have hin:=Co hP.at_ hc (by decide);have hmn:=EG hin;have hnl:=Nz hP (AD σ')
 by_cases h8:acc.length=8
 · cases hnm:Cu (AN c.ts (AD σ')).text
   · rw [show DO c.ts c.n (j+1) acc σ'=DO c.ts c.n j (acc++[(Eb c.ts c.n (AD σ')).1]) (Eb c.ts c.n (AD σ')).2 from by rw [DO];simp [hc,h8,hnm]];have hml:=DS (BT (n:=c.n) (show (AD σ').at_≤c.ts.length from hin.2));have ai:mS c.ts (Eb c.ts c.n (AD σ')).2≤mS c.ts (AD σ'):=hml
     focus
      refine eK ?_;refine cC rfl (Dj _ _ _ _ ‹_› (by decide) ‹_›) ?_;rintro _ fy ⟨⟨⟩,⟨C,bj⟩⟩;have fz:=bj.size;clear hP;revert hbn hown hbr X;refine eF bj ?_;intro hbn hown hbr X;refine eK ?_;refine cC rfl (BD _ _ _ ‹_›) ?_;rintro _ f0 ⟨⟨⟩,cl⟩;revert C hbn hown hbr X;refine eY cl ?_;intro f1 C hbn hown hbr X;refine AB [_,_,_] Bj rfl rfl ?_;intro f2 f3 bk;refine eI [_,_,_] bk ?_;intro dd p bl de df;revert C hbn hown hbr X;refine eE bl ?_;intro C hbn hown hbr X;refine eK ?_;refine cC rfl (Hx _ _ (by omega)) ?_;rintro _ aj ⟨⟨⟩,bm⟩;revert p C hbn hown hbr X;refine eY bm ?_;intro dg p C hbn hown hbr X;refine C1 VR (cT (Fa rfl ‹_› ?_));refine eK ?_;refine Ax (fun wz=>Fr (· = c.pb) aj wz) 5 (.pure 0 (.pure 1 (.pure 2 (.fork 3 (.fork 4 .tail .none) .none)))) mixed (by kernel_rfl) (Ao (Ac (Ao (Ac Ak)))) ?_;intro bn ak _;have f:(fun wz=>Fr (· = c.pb) aj wz) bn:=Fr.of_ext ak;simp only at f;have b9:=p;have cm:=C;have q:=hbn;have H:=hown;have W:=hbr;revert p C hbn hown hbr X;refine eY ak ?_;intro dh p C hbn hown hbr X;refine ⟨f,?_⟩;refine Tq rfl Pf (Tq rfl (Al Aa rfl rfl rfl (fun wz hz=>Blk.cell (Blk.fr q hz (by omega)) rfl)) (Tq rfl Mv ?_))
      refine At rfl (Av (by kernel_rfl) rfl (Gp _ _ _ ‹_›) (fun _ _ h=>h.ret)) rfl ?_ (fun _ h=>h) As;rintro _ di ⟨dj,⟨dk,⟨⟨⟩,⟨al,⟨v,am⟩⟩⟩⟩⟩;revert f p;refine eZ am ?_;intro dl f p;revert hbn hown hbr X;refine eF am ?_;intro hbn hown hbr X;refine ⟨f,?_⟩;refine At rfl (AM [_,_,_,_] Aa Bj rfl rfl rfl rfl rfl rfl rfl rfl rfl) rfl ?_ (fun _ h=>h) As;rintro _ dm ⟨dn,rfl,I,dp⟩;have dq:=I.blk;have bo:=I.ext;have dr:=I.pos;have ds:=I.size;revert al v f p hbn hown hbr X;refine eE bo ?_;intro al v f p hbn hown hbr X;refine ⟨f,?_⟩;refine Az rfl (CQ (sh:=ndShape) Aa Bj rfl rfl rfl rfl (by kernel_rfl) rfl rfl rfl hown (Blk.row ‹_›) ⟨_,_,rfl,CK⟩ (by omega) (by omega) rfl ?_);rintro dt bp du an J;have dv:=J.size;replace v:=v.fr J (by omega);replace hbn:=hbn.fr J (by omega);clear hown;revert hbr X;refine eF J ?_;intro hbr X;refine C1 Pf (eV [_] [_,_,_,_] hbn ?_);intro dw dx bq dy;clear hbn;revert an v hbr X;refine eF bq ?_;intro an v hbr X;refine Aj (An ?_);rotate_left
     refine AW (j,acc++[(Eb c.ts c.n (AD σ')).1],_,_,(Eb c.ts c.n (AD σ')).2) sB ⟨by assumption,by assumption,by assumption,by assumption,X,by omega,rfl,by simp only;omega,by simp only [List.length_append,List.length_cons,List.length_nil];omega⟩ (by simp)
   · rw [show DO c.ts c.n (j+1) acc σ'=DO c.ts c.n j (acc++[(Eb c.ts c.n (CT (AD σ') (AN c.ts (AD σ')).pos 5)).1]) (Eb c.ts c.n (CT (AD σ') (AN c.ts (AD σ')).pos 5)).2 from by rw [DO];simp [hc,h8,hnm]];have hfl:=Iz (show (AD σ').at_≤c.ts.length from hin.2) (AN c.ts (AD σ')).pos 5;have hml:=DS (hfl.trans (BT (n:=c.n) hfl.wf));have ai:mS c.ts (Eb c.ts c.n (CT (AD σ') (AN c.ts (AD σ')).pos 5)).2≤mS c.ts (AD σ'):=hml
     focus
      refine eK ?_;refine cC rfl (Dj _ _ _ _ ‹_› (by decide) ‹_›) ?_;rintro _ f4 ⟨⟨⟩,⟨Q,br⟩⟩;have f5:=br.size;clear hP;revert hbn hown hbr X;refine eF br ?_;intro hbn hown hbr X;refine eK ?_;refine cC rfl (BD _ _ _ ‹_›) ?_;rintro _ f6 ⟨⟨⟩,cn⟩;revert Q hbn hown hbr X;refine eY cn ?_;intro f7 Q hbn hown hbr X;refine AB [_,_,_] Bj rfl rfl ?_;intro f8 f9 bs;refine eI [_,_,_] bs ?_;intro dz l bt d0 d1;revert Q hbn hown hbr X;refine eE bt ?_;intro Q hbn hown hbr X;refine eK ?_;refine cC rfl (Hx _ _ (by omega)) ?_;rintro _ d2 ⟨⟨⟩,bu⟩;revert l Q hbn hown hbr X;refine eY bu ?_;intro d3 l Q hbn hown hbr X;refine C1 VR (cT (Ec rfl ‹_› ?_));refine eK ?_;refine cC rfl (GK _ _ _ _ _ ‹_›) ?_;rintro _ ao ⟨⟨⟩,⟨Y,Z⟩⟩;have d4:=Z.size;replace l:=l.fr Z (by omega);revert hbn hown hbr X;refine eF Z ?_;intro hbn hown hbr X;refine cT (Ax (fun wz=>Fr (· = c.pb) ao wz) 5 (.pure 0 (.pure 1 (.pure 2 (.fork 3 (.fork 4 .tail .none) .none)))) mixed (by kernel_rfl) (Ao (Ac (Ao (Ac Ak)))) ?_);intro bv ap _;have m:(fun wz=>Fr (· = c.pb) ao wz) bv:=Fr.of_ext ap;simp only at m;have ca:=Y
      have cb:=l;have q:=hbn;have H:=hown;have W:=hbr;revert Y l hbn hown hbr X;refine eY ap ?_;intro d5 Y l hbn hown hbr X;refine ⟨m,?_⟩;refine Tq rfl Pf (Tq rfl (Al Aa rfl rfl rfl (fun wz hz=>Blk.cell (Blk.fr q hz (by omega)) rfl)) (Tq rfl Mv ?_));refine At rfl (Av (by kernel_rfl) rfl (Gp _ _ _ ‹_›) (fun _ _ h=>h.ret)) rfl ?_ (fun _ h=>h) As;rintro _ d6 ⟨d7,⟨d8,⟨⟨⟩,⟨aq,⟨y,aa⟩⟩⟩⟩⟩;have d9:=aa.size;replace m:=m.fr aa (by omega);revert l hbn hown hbr X;refine eF aa ?_;intro l hbn hown hbr X;refine ⟨m,?_⟩;refine At rfl (AM [_,_,_,_] Aa Bj rfl rfl rfl rfl rfl rfl rfl rfl rfl) rfl ?_ (fun _ h=>h) As;rintro _ ea ⟨eb,rfl,K,ec⟩;have ed:=K.blk;have bw:=K.ext;have ee:=K.pos;have ef:=K.size;revert aq y m l hbn hown hbr X;refine eE bw ?_;intro aq y m l hbn hown hbr X;refine ⟨m,?_⟩;refine Az rfl (CQ (sh:=ndShape) Aa Bj rfl rfl rfl rfl (by kernel_rfl) rfl rfl rfl hown (Blk.row ‹_›) ⟨_,_,rfl,CK⟩ (by omega) (by omega) rfl ?_);rintro eg bx eh ar L;have ei:=L.size;replace y:=y.fr L (by omega)
      replace hbn:=hbn.fr L (by omega);clear hown;revert hbr X;refine eF L ?_;intro hbr X;refine C1 Pf (eV [_] [_,_,_,_] hbn ?_);intro ej ek bz el;clear hbn;revert ar y hbr X;refine eF bz ?_;intro ar y hbr X;refine Aj (An ?_);rotate_left
     refine AW (j,acc++[(Eb c.ts c.n (CT (AD σ') (AN c.ts (AD σ')).pos 5)).1],_,_,(Eb c.ts c.n (CT (AD σ') (AN c.ts (AD σ')).pos 5)).2) sB ⟨by assumption,by assumption,by assumption,by assumption,X,by omega,rfl,by simp only;omega,by simp only [List.length_append,List.length_cons,List.length_nil];omega⟩ (by simp)
 · rw [show DO c.ts c.n (j+1) acc σ'=DO c.ts c.n j (acc++[(Eb c.ts c.n (AD σ')).1]) (Eb c.ts c.n (AD σ')).2 from by rw [DO];simp [hc,h8]];have hml:=DS (BT (n:=c.n) (show (AD σ').at_≤c.ts.length from hin.2));have ai:mS c.ts (Eb c.ts c.n (AD σ')).2≤mS c.ts (AD σ'):=hml
   focus
    refine eK ?_;refine cC rfl (Dj _ _ _ _ ‹_› (by decide) ‹_›) ?_;rintro _ ga ⟨⟨⟩,⟨E,b0⟩⟩;have gb:=b0.size;clear hP;revert hbn hown hbr X;refine eF b0 ?_;intro hbn hown hbr X;refine eK ?_;refine cC rfl (BD _ _ _ ‹_›) ?_;rintro _ gc ⟨⟨⟩,co⟩;revert E hbn hown hbr X;refine eY co ?_;intro gd E hbn hown hbr X;refine AB [_,_,_] Bj rfl rfl ?_;intro ge gf b2;refine eI [_,_,_] b2 ?_;intro au s b3 em en;revert E hbn hown hbr X;refine eE b3 ?_;intro E hbn hown hbr X;refine eK ?_;refine Ax (fun wz=>Fr (· = c.pb) au wz) 5 (.pure 0 (.pure 1 (.pure 2 (.fork 3 (.fork 4 .tail .none) .none)))) mixed (by kernel_rfl) (Ao (Ac (Ao (Ac Ak)))) ?_;intro b4 av _;have o:(fun wz=>Fr (· = c.pb) au wz) b4:=Fr.of_ext av;simp only at o;have cc:=s;have cp:=E;have q:=hbn;have H:=hown;have W:=hbr;revert s E hbn hown hbr X;refine eY av ?_;intro eo s E hbn hown hbr X;refine ⟨o,?_⟩;refine Tq rfl Pf (Tq rfl (Al Aa rfl rfl rfl (fun wz hz=>Blk.cell (Blk.fr q hz (by omega)) rfl)) (Tq rfl Mv ?_));refine At rfl (Av (by kernel_rfl) rfl (Gp _ _ _ ‹_›) (fun _ _ h=>h.ret)) rfl ?_ (fun _ h=>h) As;rintro _ ep ⟨eq,⟨er,⟨⟨⟩,⟨aw,⟨z,ax⟩⟩⟩⟩⟩
    revert o s;refine eZ ax ?_;intro es o s;revert hbn hown hbr X;refine eF ax ?_;intro hbn hown hbr X;refine ⟨o,?_⟩;refine At rfl (AM [_,_,_,_] Aa Bj rfl rfl rfl rfl rfl rfl rfl rfl rfl) rfl ?_ (fun _ h=>h) As;rintro _ et ⟨eu,rfl,N,ev⟩;have ew:=N.blk;have b5:=N.ext;have ex:=N.pos;have ey:=N.size;revert aw z o s hbn hown hbr X;refine eE b5 ?_;intro aw z o s hbn hown hbr X;refine ⟨o,?_⟩;refine Az rfl (CQ (sh:=ndShape) Aa Bj rfl rfl rfl rfl (by kernel_rfl) rfl rfl rfl hown (Blk.row ‹_›) ⟨_,_,rfl,CK⟩ (by omega) (by omega) rfl ?_);rintro ez b6 e0 ay O;have e1:=O.size;replace z:=z.fr O (by omega);replace hbn:=hbn.fr O (by omega);clear hown;revert hbr X;refine eF O ?_;intro hbr X;refine C1 Pf (eV [_] [_,_,_,_] hbn ?_);intro e2 e3 b7 e4;clear hbn;revert ay z hbr X;refine eF b7 ?_;intro ay z hbr X;refine Aj (An ?_);rotate_left
   refine AW (j,acc++[(Eb c.ts c.n (AD σ')).1],_,_,(Eb c.ts c.n (AD σ')).2) sB ⟨by assumption,by assumption,by assumption,by assumption,X,by omega,rfl,by simp only;omega,by simp only [List.length_append,List.length_cons,List.length_nil];omega⟩ (by simp)
structure StmtsC (c:PC) (k:Nat):Prop where
 stmt : ∀(σ:PS) (w:World),PP c σ w→4*mS c.ts σ+6≤k→Calls prog 44 #[.pointer (some ⟨c.pb,0,none⟩)] w (TreeR c w (Cx c.ts c.n k σ))
 branches : ∀(kind:Int) (mid last:List UInt8) (σ:PS) (w:World),PP c σ w→In c.ts σ→mid≠[]→last≠[]→4*mS c.ts σ+5≤k→Calls prog 79 #[.pointer (some ⟨c.pb,0,none⟩),.int .u8 kind,str mid,str last] w (TreeR c w (CH c.ts c.n k kind mid last σ))
 local_ : ∀(σ:PS) (w:World),PP c σ w→In c.ts σ→4*mS c.ts σ+5≤k→Calls prog 80 #[.pointer (some ⟨c.pb,0,none⟩)] w (TreeR c w (Fi c.ts c.n k σ))
 block : ∀(σ:PS) (w:World),PP c σ w→4*mS c.ts σ+8≤k→Calls prog 118 #[.pointer (some ⟨c.pb,0,none⟩)] w (TreeR c w (Ej c.ts c.n k σ))
theorem OS (c:PC) (k:Nat) (IH : ∀j,j≤k→StmtsC c j) (kind:Int) (mid last:List UInt8) (σ:PS) (w:World) (hP:PP c σ w) (hi:In c.ts σ) (hmid:mid≠[]) (hlast:last≠[]) (hk:4*mS c.ts σ+5≤k+1) :
 Calls prog 79 #[.pointer (some ⟨c.pb,0,none⟩),.int .u8 kind,str mid,str last] w (TreeR c w (CH c.ts c.n (k+1) kind mid last σ)):=by
 have X:=Fr.refl (· = c.pb) w;have hpb:=hP.pbB;have hB:=hP.B;have hlen:=hP.len;have h2:=hi.2;have hm:=EG hi;rw [CH]
 (try dsimp only)
 have l1:=Bm hi;have l2:=E4 (n:=c.n) (k:=k) (lv:=1) l1.wf;have l3:=(EP (ts:=c.ts) (n:=c.n) k).2.2.2.1 _ l2.wf;have l4:=A3 (n:=c.n) l3.wf hmid;have l5:=(EP (ts:=c.ts) (n:=c.n) k).2.2.2.1 _ l4.wf;have l6:=A3 (n:=c.n) l5.wf hlast;have m2:=DS l2;have m3:=DS l3;have m4:=DS l4;have m5:=DS l5;have m6:=DS l6;refine Ad func79 ntmps79 rfl rfl ?_
 focus
  refine cS (eA [_,_,_,_] ?_);intro b1 w2 h5 x6 p7 z8;revert hP X;refine eE x6 ?_;intro hP X;refine eK ?_;refine A2 Aa rfl rfl rfl (PP.blk hP) rfl rfl ?_;refine eK ?_;refine Cd Aa rfl rfl rfl rfl ‹_› h2 ?_;rintro w9 O q;have Q:=q.size;replace h5:=h5.fr q (by omega);clear hP;replace X:=X.fr q (by omega);refine eK ?_;refine eQ rfl ((DV c k).expr _ _ _ ‹_› (by omega) (by decide) (by decide)) ?_;rintro _ R ⟨S,⟨T,⟨⟨⟩,⟨a,⟨s,t⟩⟩⟩⟩⟩;have U:=t.size;revert h5 X;refine eF t ?_;intro h5 X;refine AB [_,_,_,_] Bj rfl rfl ?_;intro V W D;refine eI [_,_,_,_] D ?_;intro Y d E Z aa;revert a s h5 X;refine eE E ?_;intro a s h5 X;refine eK ?_;refine eQ rfl ((IH k (Nat.le_refl _)).block _ _ ‹_› (by omega)) ?_;rintro _ ab ⟨ac,⟨ad,⟨⟨⟩,⟨e,⟨u,v⟩⟩⟩⟩⟩;revert d a;refine eZ v ?_;intro ae d a;revert h5 X;refine eF v ?_;intro h5 X;refine AB [_,_,_,_] Bj rfl rfl ?_;intro af ag F;refine eI [_,_,_,_] F ?_;intro ah f G ai aj;revert e u d a h5 X;refine eE G ?_;intro e u d a h5 X;refine eK ?_;refine cC rfl (CE _ _ _ _ ‹_› ‹_›) ?_;rintro _ ak ⟨⟨⟩,⟨al,r⟩⟩;have am:=r.size;revert f e
  refine eF r ?_;intro f e;revert d a h5 X;refine eF r ?_;intro d a h5 X;refine eK ?_;refine eQ rfl ((IH k (Nat.le_refl _)).block _ _ ‹_› (by omega)) ?_;rintro _ an ⟨ao,⟨ap,⟨⟨⟩,⟨g,⟨x,y⟩⟩⟩⟩⟩;have aq:=y.size;revert f e d a h5 X;refine eF y ?_;intro f e d a h5 X;refine AB [_,_,_,_] Bj rfl rfl ?_;intro ar au H;refine eI [_,_,_,_] H ?_;intro av i I aw ax;revert g x f e d a h5 X;refine eE I ?_;intro g x f e d a h5 X;refine eK ?_;refine cC rfl (CE _ _ _ _ ‹_› ‹_›) ?_;rintro _ MQ ⟨⟨⟩,⟨ay,z⟩⟩;revert i g;refine eZ z ?_;intro az i g;revert f e d a h5 X;refine eF z ?_;intro f e d a h5 X;refine eK ?_;refine eQ rfl ((DV c k).expr _ _ _ ‹_› (by omega) (by decide) (by decide)) ?_;rintro _ a0 ⟨a1,⟨a2,⟨⟨⟩,⟨l,⟨m,A⟩⟩⟩⟩⟩;have a3:=A.size;revert i g f e d a h5 X;refine eF A ?_;intro i g f e d a h5 X;refine AB [_,_,_,_] Bj rfl rfl ?_;intro a4 a5 J;refine eI [_,_,_,_] J ?_;intro a6 o K a7 a8;revert l m i g f e d a h5 X;refine eE K ?_;intro l m i g f e d a h5 X;refine eK ?_;refine Ae [_,_,_,_] Aa rfl rfl rfl d rfl rfl rfl (Ae [_,_,_,_] Aa rfl rfl rfl f rfl rfl rfl (Ae [_,_,_,_] Aa rfl rfl rfl i rfl rfl rfl (Ae [_,_,_,_] Aa rfl rfl rfl o rfl rfl rfl ?_)))
  refine AQ (AM [_,_,_,_,_,_,_,_,_,_,_,_,_,_,_,_] Aa Bj rfl rfl rfl rfl rfl rfl rfl rfl rfl) rfl ?_ (fun _ h=>h);rintro _ a9 ⟨ba,rfl,p,bb⟩;have C:=p.blk;have L:=p.ext;have bc:=p.pos;have bd:=p.size;revert o l m i g f e d a h5 X;refine eE L ?_;intro o l m i g f e d a h5 X;refine C1 (AC [_,_,_,_] Aa Bj rfl rfl rfl rfl) (eS [_,_,_,_] h5 ?_);intro be M N bf;revert C o l m i g f e d a X;refine eF N ?_;intro C o l m i g f e d a X;refine eK ?_;refine AZ rfl Aa rfl rfl rfl M rfl ?_;rotate_left
 exact Ba (Ve ‹_› (by omega) ‹_› (fun b h=>by omega) ‹_› (fun b h=>by omega) ‹_› (fun b h=>by omega) ‹_› (fun b h=>by omega)) ‹_› X
theorem T8 (c:PC) (k:Nat) (IH : ∀j,j≤k→StmtsC c j) (σ:PS) (w:World) (hP:PP c σ w) (hi:In c.ts σ) (hk:4*mS c.ts σ+5≤k+1) :
 Calls prog 80 #[.pointer (some ⟨c.pb,0,none⟩)] w (TreeR c w (Fi c.ts c.n (k+1) σ)):=by
 have X:=Fr.refl (· = c.pb) w;have hpb:=hP.pbB;have hB:=hP.B;have hlen:=hP.len;have h2:=hi.2;have hm:=EG hi;have l1:=Bm hi;rw [Fi]
 (try dsimp only)
 cases hs:Dh c.ts (AD σ) [115,116,97,99,107]
 case true=>
  simp only [if_true];have l2:=Bm (Co l1.wf hs (by decide));have l3:=BT (n:=c.n) l2.wf;have m2:=DS l2;have m3:=DS l3;refine Ad func80 ntmps80 rfl rfl ?_
  focus
   refine cS (eA [_,_,_,_] ?_);intro b1 w2 h5 x6 p7 z8;revert hP X;refine eE x6 ?_;intro hP X;refine eK ?_;refine A2 Aa rfl rfl rfl (PP.blk hP) rfl rfl ?_;refine eK ?_;refine Cd Aa rfl rfl rfl rfl ‹_› h2 ?_;rintro w9 bo G;have bp:=G.size;replace h5:=h5.fr G (by omega);clear hP;replace X:=X.fr G (by omega);refine eK ?_;refine cC rfl (Dj _ _ _ _ ‹_› (by decide) ‹_›) ?_;rintro _ bq ⟨⟨⟩,⟨br,H⟩⟩;have bs:=H.size;revert h5 X;refine eF H ?_;intro h5 X;refine eK ?_;refine cC rfl (Gn _ _ _ ‹_›) ?_;rintro _ bt ⟨⟨⟩,⟨bu,I⟩⟩;have bv:=I.size;revert h5 X;refine eF I ?_;intro h5 X;refine eK ?_;refine eQ rfl ((IH k (Nat.le_refl _)).block _ _ ‹_› (by omega)) ?_;rintro _ bw ⟨bx,⟨bz,⟨⟨⟩,⟨q,⟨r,J⟩⟩⟩⟩⟩;have b0:=J.size;revert h5 X;refine eF J ?_;intro h5 X;refine AQ (AM [_,_,_,_] Aa Bj rfl rfl rfl rfl rfl rfl rfl rfl rfl) rfl ?_ (fun _ h=>h);rintro _ b2 ⟨b3,rfl,s,b4⟩;have K:=s.blk;have V:=s.ext;have b5:=s.pos;have b6:=s.size;revert q r h5 X;refine eE V ?_;intro q r h5 X;refine C1 (AC [_,_,_,_] Aa Bj rfl rfl rfl rfl) (eS [_,_,_,_] h5 ?_);intro b7 W Y b8;revert K q r X;refine eF Y ?_;intro K q r X
   refine eK ?_;refine AZ rfl Aa rfl rfl rfl W rfl ?_;rotate_left
  exact Ba (I5 ‹_› (by omega) ‹_› (fun b h=>by omega)) ‹_› X
 simp only [Bool.false_eq_true,if_false];have l2:=BT (n:=c.n) l1.wf;have l3:=A3 (n:=c.n) (t:=[61]) l2.wf (by decide);have l4:=E4 (n:=c.n) (k:=k) (lv:=1) l3.wf;have l5:=(EP (ts:=c.ts) (n:=c.n) k).2.2.2.1 _ l4.wf;have l6:=A3 (n:=c.n) (t:=[100,101,108,111,99,97,108]) l5.wf (by decide);have m2:=DS l2;have m3:=DS l3;have m4:=DS l4;have m5:=DS l5;have m6:=DS l6;refine Ad func80 ntmps80 rfl rfl ?_
 focus
  refine cS (eA [_,_,_,_] ?_);intro b9 ca a Z cb cc;revert hP X;refine eE Z ?_;intro hP X;refine eK ?_;refine A2 Aa rfl rfl rfl (PP.blk hP) rfl rfl ?_;refine eK ?_;refine Cd Aa rfl rfl rfl rfl ‹_› h2 ?_;rintro cd aa p;have ab:=p.size;replace a:=a.fr p (by omega);clear hP;replace X:=X.fr p (by omega);refine eK ?_;refine cC rfl (CL _ _ _ _ ‹_› (by decide) ‹_›) ?_;rintro _ ac ⟨⟨⟩,⟨ad,u⟩⟩;have ae:=u.size;revert a X;refine eF u ?_;intro a X;refine eK ?_;refine cC rfl (Gn _ _ _ ‹_›) ?_;rintro _ af ⟨⟨⟩,⟨ag,v⟩⟩;have ah:=v.size;revert a X;refine eF v ?_;intro a X;refine eK ?_;refine cC rfl (CE _ _ _ _ ‹_› (by decide)) ?_;rintro _ ai ⟨⟨⟩,⟨aj,x⟩⟩;have ak:=x.size;revert a X;refine eF x ?_;intro a X;refine eK ?_;refine eQ rfl ((DV c k).expr _ _ _ ‹_› (by omega) (by decide) (by decide)) ?_;rintro _ al ⟨am,⟨an,⟨⟨⟩,⟨d,⟨y,z⟩⟩⟩⟩⟩;have ao:=z.size;revert a X;refine eF z ?_;intro a X;refine AB [_,_,_,_] Bj rfl rfl ?_;intro ap aq L;refine eI [_,_,_,_] L ?_;intro ar e M au av;revert d y a X;refine eE M ?_;intro d y a X
  refine eK ?_;refine eQ rfl ((IH k (Nat.le_refl _)).block _ _ ‹_› (by omega)) ?_;rintro _ aw ⟨ax,⟨ay,⟨⟨⟩,⟨f,⟨A,C⟩⟩⟩⟩⟩;revert e d;refine eZ C ?_;intro az e d;revert a X;refine eF C ?_;intro a X;refine AB [_,_,_,_] Bj rfl rfl ?_;intro a0 a1 N;refine eI [_,_,_,_] N ?_;intro a2 g O a3 a4;revert f A e d a X;refine eE O ?_;intro f A e d a X;refine eK ?_;refine cC rfl (CE _ _ _ _ ‹_› (by decide)) ?_;rintro _ a5 ⟨⟨⟩,⟨a6,D⟩⟩;revert g f;refine eZ D ?_;intro a7 g f;revert e d a X;refine eF D ?_;intro e d a X;refine eK ?_;refine eQ rfl ((DV c k).expr _ _ _ ‹_› (by omega) (by decide) (by decide)) ?_;rintro _ a8 ⟨a9,⟨ba,⟨⟨⟩,⟨i,⟨l,E⟩⟩⟩⟩⟩;have bb:=E.size;revert g f e d a X;refine eF E ?_;intro g f e d a X;refine AB [_,_,_,_] Bj rfl rfl ?_;intro bc bd Q;refine eI [_,_,_,_] Q ?_;intro be m R bf bg;revert i l g f e d a X;refine eE R ?_;intro i l g f e d a X;refine eK ?_;refine Ae [_,_,_,_] Aa rfl rfl rfl e rfl rfl rfl (Ae [_,_,_,_] Aa rfl rfl rfl g rfl rfl rfl (Ae [_,_,_,_] Aa rfl rfl rfl m rfl rfl rfl ?_))
  refine AQ (AM [_,_,_,_,_,_,_,_,_,_,_,_] Aa Bj rfl rfl rfl rfl rfl rfl rfl rfl rfl) rfl ?_ (fun _ h=>h);rintro _ bh ⟨bi,rfl,o,bj⟩;have F:=o.blk;have S:=o.ext;have bk:=o.pos;have bl:=o.size;revert m i l g f e d a X;refine eE S ?_;intro m i l g f e d a X;refine C1 (AC [_,_,_,_] Aa Bj rfl rfl rfl rfl) (eS [_,_,_,_] a ?_);intro bm T U bn;revert F m i l g f e d X;refine eF U ?_;intro F m i l g f e d X;refine eK ?_;refine AZ rfl Aa rfl rfl rfl T rfl ?_;rotate_left
 exact Ba (Vd ‹_› (by omega) ‹_› (fun b h=>by omega) ‹_› (fun b h=>by omega) ‹_› (fun b h=>by omega)) ‹_› X
theorem Vn (c:PC) (k:Nat) (IH : ∀j,j≤k→StmtsC c j) (σ:PS) (w:World) (hP:PP c σ w) (hk:4*mS c.ts σ+6≤k+1) :
 Calls prog 44 #[.pointer (some ⟨c.pb,0,none⟩)] w (TreeR c w (Cx c.ts c.n (k+1) σ)):=by
 have X:=Fr.refl (· = c.pb) w;have hpb:=hP.pbB;have hB:=hP.B
 have hin : ∀t:List UInt8,(AN c.ts σ).text=t→t≠[]→In c.ts σ:=fun t h ht=>Du hP.at_ (Or.inl (by rw [h];exact ht))
 have HIN:=Lib.hid hin;clear hin;rw [Cx]
 by_cases e0:(AN c.ts σ).text=[112,117,115,104]
 · rw [if_pos e0];have hin:=HIN.out _ e0 (by decide);refine Ad func44 ntmps44 rfl rfl ?_
   focus
    refine cS (eA [_,_,_,_] ?_);intro b1 w2 h5 x6 p7 z8;revert hP X;refine eE x6 ?_;intro hP X;refine eK ?_;refine cC rfl (BD _ _ _ ‹_›) ?_;rintro _ ec ⟨⟨⟩,x9⟩;revert h5 hP X;refine eY x9 ?_;intro ed h5 hP X;refine C1 (Bq Aa rfl rfl rfl rfl rfl rfl) ?_;refine eK ?_;refine eQ rfl (Ju c k 44 _ _ ‹_› hin (by omega)) ?_;rintro _ ee ⟨ef,⟨eg,⟨⟨⟩,⟨af,⟨ag,ad⟩⟩⟩⟩⟩;have eh:=ad.size;replace h5:=h5.fr ad (by omega);clear hP;replace X:=X.fr ad (by omega);refine eS [_,_,_,_] h5 ?_;intro ei a5 a6 ej;revert af ag X;refine eF a6 ?_;intro af ag X;refine eK ?_;refine AZ rfl Aa rfl rfl rfl a5 rfl ?_;rotate_left
   exact Ba (Nd.sits.wide ‹_› (fun b h=>by omega)) ‹_› X
 rw [if_neg e0]
 by_cases e1:(AN c.ts σ).text=[112,111,112]
 · rw [if_pos e1];have hin:=HIN.out _ e1 (by decide);refine Ad func44 ntmps44 rfl rfl ?_
   focus
    refine cS (eA [_,_,_,_] ?_);intro ek el a a7 em en;revert hP X;refine eE a7 ?_;intro hP X;refine eK ?_;refine cC rfl (BD _ _ _ ‹_›) ?_;rintro _ bt ⟨⟨⟩,a8⟩;revert a hP X;refine eY a8 ?_;intro bu a hP X;refine C1 (Bq Aa rfl rfl rfl rfl rfl rfl) ?_;refine eK ?_;refine eQ rfl (Ju c k 45 _ _ ‹_› hin (by omega)) ?_;rintro _ bv ⟨bw,⟨bx,⟨⟨⟩,⟨F,⟨G,d⟩⟩⟩⟩⟩;have bz:=d.size;replace a:=a.fr d (by omega);clear hP;replace X:=X.fr d (by omega);refine eS [_,_,_,_] a ?_;intro b0 ah ai b2;revert F G X;refine eF ai ?_;intro F G X;refine eK ?_;refine AZ rfl Aa rfl rfl rfl ah rfl ?_;rotate_left
   exact Ba (Nd.sits.wide ‹_› (fun b h=>by omega)) ‹_› X
 rw [if_neg e1]
 by_cases e2:(AN c.ts σ).text=[114,101,97,100]
 · rw [if_pos e2];have hin:=HIN.out _ e2 (by decide);refine Ad func44 ntmps44 rfl rfl ?_
   focus
    refine cS (eA [_,_,_,_] ?_);intro eo ep e a9 eq er;revert hP X;refine eE a9 ?_;intro hP X;refine eK ?_;refine cC rfl (BD _ _ _ ‹_›) ?_;rintro _ b3 ⟨⟨⟩,ba⟩;revert e hP X;refine eY ba ?_;intro b4 e hP X;refine C1 (Bq Aa rfl rfl rfl rfl rfl rfl) ?_;refine eK ?_;refine eQ rfl (Gq c k 46 _ _ ‹_› hin (by omega)) ?_;rintro _ b5 ⟨b6,⟨b7,⟨⟨⟩,⟨H,⟨I,f⟩⟩⟩⟩⟩;have b8:=f.size;replace e:=e.fr f (by omega);clear hP;replace X:=X.fr f (by omega);refine eS [_,_,_,_] e ?_;intro b9 aj ak ca;revert H I X;refine eF ak ?_;intro H I X;refine eK ?_;refine AZ rfl Aa rfl rfl rfl aj rfl ?_;rotate_left
   exact Ba (Nd.sits.wide ‹_› (fun b h=>by omega)) ‹_› X
 rw [if_neg e2]
 by_cases e3:(AN c.ts σ).text=[117,110,114,101,97,100]
 · rw [if_pos e3];have hin:=HIN.out _ e3 (by decide);refine Ad func44 ntmps44 rfl rfl ?_
   focus
    refine cS (eA [_,_,_,_] ?_);intro es et g bb eu ev;revert hP X;refine eE bb ?_;intro hP X;refine eK ?_;refine cC rfl (BD _ _ _ ‹_›) ?_;rintro _ cb ⟨⟨⟩,bc⟩;revert g hP X;refine eY bc ?_;intro cc g hP X;refine C1 (Bq Aa rfl rfl rfl rfl rfl rfl) ?_;refine eK ?_;refine eQ rfl (Gq c k 47 _ _ ‹_› hin (by omega)) ?_;rintro _ cd ⟨ce,⟨cf,⟨⟨⟩,⟨J,⟨K,i⟩⟩⟩⟩⟩;have cg:=i.size;replace g:=g.fr i (by omega);clear hP;replace X:=X.fr i (by omega);refine eS [_,_,_,_] g ?_;intro ch al am ci;revert J K X;refine eF am ?_;intro J K X;refine eK ?_;refine AZ rfl Aa rfl rfl rfl al rfl ?_;rotate_left
   exact Ba (Nd.sits.wide ‹_› (fun b h=>by omega)) ‹_› X
 rw [if_neg e3]
 by_cases e4:(AN c.ts σ).text=[119,114,105,116,101]
 · rw [if_pos e4];have hin:=HIN.out _ e4 (by decide);refine Ad func44 ntmps44 rfl rfl ?_
   focus
    refine cS (eA [_,_,_,_] ?_);intro ew ex l bd ey ez;revert hP X;refine eE bd ?_;intro hP X;refine eK ?_;refine cC rfl (BD _ _ _ ‹_›) ?_;rintro _ cj ⟨⟨⟩,be⟩;revert l hP X;refine eY be ?_;intro ck l hP X;refine C1 (Bq Aa rfl rfl rfl rfl rfl rfl) ?_;refine eK ?_;refine eQ rfl (Gq c k 48 _ _ ‹_› hin (by omega)) ?_;rintro _ cl ⟨cm,⟨cn,⟨⟨⟩,⟨L,⟨M,m⟩⟩⟩⟩⟩;have co:=m.size;replace l:=l.fr m (by omega);clear hP;replace X:=X.fr m (by omega);refine eS [_,_,_,_] l ?_;intro cp an ao cq;revert L M X;refine eF ao ?_;intro L M X;refine eK ?_;refine AZ rfl Aa rfl rfl rfl an rfl ?_;rotate_left
   exact Ba (Nd.sits.wide ‹_› (fun b h=>by omega)) ‹_› X
 rw [if_neg e4]
 by_cases e5:(AN c.ts σ).text=[117,110,119,114,105,116,101]
 · rw [if_pos e5];have hin:=HIN.out _ e5 (by decide);refine Ad func44 ntmps44 rfl rfl ?_
   focus
    refine cS (eA [_,_,_,_] ?_);intro fa fb o bf fc fd;revert hP X;refine eE bf ?_;intro hP X;refine eK ?_;refine cC rfl (BD _ _ _ ‹_›) ?_;rintro _ cr ⟨⟨⟩,bg⟩;revert o hP X;refine eY bg ?_;intro cs o hP X;refine C1 (Bq Aa rfl rfl rfl rfl rfl rfl) ?_;refine eK ?_;refine eQ rfl (Gq c k 49 _ _ ‹_› hin (by omega)) ?_;rintro _ ct ⟨cu,⟨cv,⟨⟨⟩,⟨N,⟨O,p⟩⟩⟩⟩⟩;have cw:=p.size;replace o:=o.fr p (by omega);clear hP;replace X:=X.fr p (by omega);refine eS [_,_,_,_] o ?_;intro cx ap aq cy;revert N O X;refine eF aq ?_;intro N O X;refine eK ?_;refine AZ rfl Aa rfl rfl rfl ap rfl ?_;rotate_left
   exact Ba (Nd.sits.wide ‹_› (fun b h=>by omega)) ‹_› X
 rw [if_neg e5]
 by_cases e6:(AN c.ts σ).text=[99,97,108,108]
 · rw [if_pos e6];have hin:=HIN.out _ e6 (by decide);refine Ad func44 ntmps44 rfl rfl ?_
   focus
    refine cS (eA [_,_,_,_] ?_);intro fe ff q bh fg fh;revert hP X;refine eE bh ?_;intro hP X;refine eK ?_;refine cC rfl (BD _ _ _ ‹_›) ?_;rintro _ cz ⟨⟨⟩,bi⟩;revert q hP X;refine eY bi ?_;intro c0 q hP X;refine C1 (Bq Aa rfl rfl rfl rfl rfl rfl) ?_;refine eK ?_;refine eQ rfl (Kr c k 50 _ _ ‹_› hin (by omega)) ?_;rintro _ c1 ⟨c2,⟨c3,⟨⟨⟩,⟨Q,⟨R,r⟩⟩⟩⟩⟩;have c4:=r.size;replace q:=q.fr r (by omega);clear hP;replace X:=X.fr r (by omega);refine eS [_,_,_,_] q ?_;intro c5 ar au c6;revert Q R X;refine eF au ?_;intro Q R X;refine eK ?_;refine AZ rfl Aa rfl rfl rfl ar rfl ?_;rotate_left
   exact Ba (Nd.sits.wide ‹_› (fun b h=>by omega)) ‹_› X
 rw [if_neg e6]
 by_cases e7:(AN c.ts σ).text=[117,110,99,97,108,108]
 · rw [if_pos e7];have hin:=HIN.out _ e7 (by decide);refine Ad func44 ntmps44 rfl rfl ?_
   focus
    refine cS (eA [_,_,_,_] ?_);intro fi fj s bj fk fl;revert hP X;refine eE bj ?_;intro hP X;refine eK ?_;refine cC rfl (BD _ _ _ ‹_›) ?_;rintro _ c7 ⟨⟨⟩,bk⟩;revert s hP X;refine eY bk ?_;intro c8 s hP X;refine C1 (Bq Aa rfl rfl rfl rfl rfl rfl) ?_;refine eK ?_;refine eQ rfl (Kr c k 51 _ _ ‹_› hin (by omega)) ?_;rintro _ c9 ⟨da,⟨db,⟨⟨⟩,⟨S,⟨T,u⟩⟩⟩⟩⟩;have dc:=u.size;replace s:=s.fr u (by omega);clear hP;replace X:=X.fr u (by omega);refine eS [_,_,_,_] s ?_;intro dd av aw de;revert S T X;refine eF aw ?_;intro S T X;refine eK ?_;refine AZ rfl Aa rfl rfl rfl av rfl ?_;rotate_left
   exact Ba (Nd.sits.wide ‹_› (fun b h=>by omega)) ‹_› X
 rw [if_neg e7]
 by_cases e8:(AN c.ts σ).text=[105,102]
 · rw [if_pos e8];have hin:=HIN.out _ e8 (by decide);refine Ad func44 ntmps44 rfl rfl ?_
   focus
    refine cS (eA [_,_,_,_] ?_);intro fm fn v bl fo fp;revert hP X;refine eE bl ?_;intro hP X;refine eK ?_;refine cC rfl (BD _ _ _ ‹_›) ?_;rintro _ df ⟨⟨⟩,bm⟩;revert v hP X;refine eY bm ?_;intro dg v hP X;refine C1 (Bq Aa rfl rfl rfl rfl rfl rfl) ?_;refine eK ?_;refine eQ rfl ((IH k (Nat.le_refl _)).branches 52 _ _ _ _ ‹_› hin (by decide) (by decide) (by omega)) ?_;rintro _ dh ⟨di,⟨dj,⟨⟨⟩,⟨U,⟨V,x⟩⟩⟩⟩⟩;have dk:=x.size;replace v:=v.fr x (by omega);clear hP;replace X:=X.fr x (by omega);refine eS [_,_,_,_] v ?_;intro dl ax ay dm;revert U V X;refine eF ay ?_;intro U V X;refine eK ?_;refine AZ rfl Aa rfl rfl rfl ax rfl ?_;rotate_left
   exact Ba (Nd.sits.wide ‹_› (fun b h=>by omega)) ‹_› X
 rw [if_neg e8]
 by_cases e9:(AN c.ts σ).text=[102,114,111,109]
 · rw [if_pos e9];have hin:=HIN.out _ e9 (by decide);refine Ad func44 ntmps44 rfl rfl ?_
   focus
    refine cS (eA [_,_,_,_] ?_);intro fq fs y bn ft fu;revert hP X;refine eE bn ?_;intro hP X;refine eK ?_;refine cC rfl (BD _ _ _ ‹_›) ?_;rintro _ dn ⟨⟨⟩,bo⟩;revert y hP X;refine eY bo ?_;intro dp y hP X;refine C1 (Bq Aa rfl rfl rfl rfl rfl rfl) ?_;refine eK ?_;refine eQ rfl ((IH k (Nat.le_refl _)).branches 53 _ _ _ _ ‹_› hin (by decide) (by decide) (by omega)) ?_;rintro _ dq ⟨dr,⟨ds,⟨⟨⟩,⟨W,⟨Y,z⟩⟩⟩⟩⟩;have dt:=z.size;replace y:=y.fr z (by omega);clear hP;replace X:=X.fr z (by omega);refine eS [_,_,_,_] y ?_;intro du az a0 dv;revert W Y X;refine eF a0 ?_;intro W Y X;refine eK ?_;refine AZ rfl Aa rfl rfl rfl az rfl ?_;rotate_left
   exact Ba (Nd.sits.wide ‹_› (fun b h=>by omega)) ‹_› X
 rw [if_neg e9]
 by_cases ae:(AN c.ts σ).text=[108,111,99,97,108]
 · rw [if_pos ae];have hin:=HIN.out _ ae (by decide);refine Ad func44 ntmps44 rfl rfl ?_
   focus
    refine cS (eA [_,_,_,_] ?_);intro fv fw A bp fx fy;revert hP X;refine eE bp ?_;intro hP X;refine eK ?_;refine cC rfl (BD _ _ _ ‹_›) ?_;rintro _ dw ⟨⟨⟩,bq⟩;revert A hP X;refine eY bq ?_;intro dx A hP X;refine C1 (Bq Aa rfl rfl rfl rfl rfl rfl) ?_;refine eK ?_;refine eQ rfl ((IH k (Nat.le_refl _)).local_ _ _ ‹_› hin (by omega)) ?_;rintro _ dy ⟨dz,⟨d0,⟨⟨⟩,⟨Z,⟨aa,C⟩⟩⟩⟩⟩;have d1:=C.size;replace A:=A.fr C (by omega);clear hP;replace X:=X.fr C (by omega);refine eS [_,_,_,_] A ?_;intro d2 a1 a2 d3;revert Z aa X;refine eF a2 ?_;intro Z aa X;refine eK ?_;refine AZ rfl Aa rfl rfl rfl a1 rfl ?_;rotate_left
   exact Ba (Nd.sits.wide ‹_› (fun b h=>by omega)) ‹_› X
 rw [if_neg ae];refine Ad func44 ntmps44 rfl rfl ?_
 focus
  refine cS (eA [_,_,_,_] ?_);intro fz f0 D br f1 f2;revert hP X;refine eE br ?_;intro hP X;refine eK ?_;refine cC rfl (BD _ _ _ ‹_›) ?_;rintro _ d4 ⟨⟨⟩,bs⟩;revert D hP X;refine eY bs ?_;intro d5 D hP X;refine C1 (Bq Aa rfl rfl rfl rfl rfl rfl) ?_;refine eK ?_;refine eQ rfl (Su c k _ _ ‹_› (by omega)) ?_;rintro _ d6 ⟨d7,⟨d8,⟨⟨⟩,⟨ab,⟨ac,E⟩⟩⟩⟩⟩;have d9:=E.size;replace D:=D.fr E (by omega);clear hP;replace X:=X.fr E (by omega);refine eS [_,_,_,_] D ?_;intro ea a3 a4 eb;revert ab ac X;refine eF a4 ?_;intro ab ac X;refine eK ?_;refine AZ rfl Aa rfl rfl rfl a3 rfl ?_;rotate_left
 exact Ba (Nd.sits.wide ‹_› (fun b h=>by omega)) ‹_› X
theorem PQ {ts:List Tok} {σ σ':PS} (h:Le ts σ σ') (k:Lt σ σ') (e:σ'.err=0):mS ts σ'+1≤mS ts σ:=by
 have h1:=h.ok e;have h2:=k e;have h3:=h.wf
 unfold mS
 rw [if_pos e,if_pos h1]
 omega
theorem T9 (c:PC) (k:Nat) (IH : ∀j,j≤k→StmtsC c j) (σ:PS) (w:World) (hP:PP c σ w) (hk:4*mS c.ts σ+8≤k+1) :
 Calls prog 118 #[.pointer (some ⟨c.pb,0,none⟩)] w (TreeR c w (Ej c.ts c.n (k+1) σ)):=by
 have X:=Fr.refl (· = c.pb) w;have hpb:=hP.pbB;have hB:=hP.B;have hlen:=hP.len;rw [Ej]
 (try dsimp only)
 have l1:=A3 (n:=c.n) (t:=[123]) hP.at_ (by decide);have m1:=DS l1
 have hmt:mS c.ts σ≤c.ts.length:=by unfold mS;split<;>omega
 refine Ad func118 ntmps118 rfl rfl ?_
 focus
  refine cS (eA [_,_,_,_] ?_);intro b1 w2 h5 x6 p7 z8;revert hP X;refine eE x6 ?_;intro hP X;refine cN (C1 (AC [_,_,_,_] Aa Bj rfl rfl rfl rfl) (AB [_,_,_,_] Bj rfl rfl ?_));intro b9 ar K;refine eI [_,_,_,_] K ?_;intro au u L av aw;revert h5 hP X;refine eE L ?_;intro h5 hP X;refine eK ?_;refine cC rfl (CE _ _ _ _ ‹_› (by decide)) ?_;rintro _ M ⟨⟨⟩,⟨N,z⟩⟩;revert u h5;refine eZ z ?_;intro ax u h5;clear hP;replace X:=X.fr z (by omega);refine cT (Am (AK ?_));rotate_left
 generalize A1 c.ts c.n σ [123]=ρ at *
 refine Bn (ι:=Nat×List Nd×Option Addr×Nat×PS) (fun _=>[(0,.pointer (some ⟨c.pb,0,none⟩)),(2,.pointer (some ⟨b1,0,none⟩)),(3,.pointer (some ⟨b9,0,none⟩))])
  (fun x w'=>PP c x.2.2.2.2 w'∧Blk w' b9 [.int .u8 57,.int .i64 0,str [],.slice x.2.2.1 x.2.1.length x.2.2.2.1]∧OwnL ndShape w' (b9+1) 26 (.slice x.2.2.1 x.2.1.length x.2.2.2.1) x.2.1 ∧
   Blk w' b1 [.int .u8 0,.int .i64 0,.string ⟨#[]⟩,.slice none 0 0]∧Fr (· = c.pb) w w'∧M.heap.size≤w'.heap.size ∧
   Dp c.ts c.n k [] ρ=Dp c.ts c.n x.1 x.2.1 x.2.2.2.2∧(x.2.2.2.2.err=0→4*mS c.ts x.2.2.2.2+7≤x.1)∧1≤x.1∧x.1≤k∧(x.2.2.2.2.err=0→x.2.1.length+mS c.ts x.2.2.2.2≤1000001)) (fun x=>x.1) (k,[],none,0,ρ) sB
  ⟨N,u,OwnL.nil,h5,X,Nat.le_refl _,rfl,fun _=>by simp only;omega,by simp only;omega,Nat.le_refl _,fun _=>by simp only [List.length_nil];omega⟩ ?_
 rintro ⟨j,acc,a,cap,σ'⟩ w1 ⟨hP,hbn,hown,hbr,X,hz,he,hfj,O,hjk,hacc⟩;simp only at hP hbn hown he hfj O hjk hacc;rw [he];obtain ⟨j,rfl⟩ : ∃i,j=i+1:=⟨j-1,by omega⟩
 have hob : ∀g,(Value.slice a acc.length cap).ownBlock=some g→g<w1.heap.size:=fun g h=>hown.lt h
 by_cases h0:σ'.err=0
 case neg=>
  rw [show Dp c.ts c.n (j+1) acc σ'=(acc,σ') from by rw [Dp];simp [h0]]
  focus
   refine eK ?_;refine A2 Aa rfl rfl rfl (PP.blk hP) rfl rfl ?_;refine eK ?_;refine Ae [_,_,_,_] Aa rfl rfl rfl hbn rfl rfl rfl (eS [_,_,_,_] hbr ?_);intro ay Q R az;clear hbr;revert hP hbn hown X;refine eF R ?_;intro hP hbn hown X;refine eK ?_;refine AZ rfl Aa rfl rfl rfl Q rfl ?_;rotate_left
  exact Ba (GZ (hown.sits (fun b h=>by omega))) ‹_› X
 cases hc:Dh c.ts σ' [125]
 case true=>
  rw [show Dp c.ts c.n (j+1) acc σ'=(acc,AD σ') from by rw [Dp];simp [h0,hc]]
  focus
   refine eK ?_;refine A2 Aa rfl rfl rfl (PP.blk hP) rfl rfl ?_;refine eK ?_;refine cC rfl (Dj _ _ _ _ ‹_› (by decide) ‹_›) ?_;rintro _ a0 ⟨⟨⟩,⟨A,C⟩⟩;have a1:=C.size;clear hP;revert hbn hown hbr X;refine eF C ?_;intro hbn hown hbr X;refine eK ?_;refine Ae [_,_,_,_] Aa rfl rfl rfl hbn rfl rfl rfl (eS [_,_,_,_] hbr ?_);intro a2 S T a3;clear hbr;revert A hbn hown X;refine eF T ?_;intro A hbn hown X;refine eK ?_;refine AZ rfl Aa rfl rfl rfl S rfl ?_;rotate_left
  exact Ba (GZ (hown.sits (fun b h=>by omega))) ‹_› X
 rw [show Dp c.ts c.n (j+1) acc σ'=Dp c.ts c.n j (acc++[(Cx c.ts c.n j σ').1]) (A1 c.ts c.n (Cx c.ts c.n j σ').2 [59]) from by rw [Dp];simp [h0,hc]];have l1:=(EP (ts:=c.ts) (n:=c.n) j).1 σ' hP.at_;have l2:=A3 (n:=c.n) (t:=[59]) l1.wf (by decide);have hlt:Lt σ' (A1 c.ts c.n (Cx c.ts c.n j σ').2 [59]):=Lt.of_le l1 D5;have hdrop:=PQ (l1.trans l2) hlt;have hmv:=VX (l1.trans l2) hlt;have U:=hacc h0;have Z:=hfj h0
 focus
  refine eK ?_;refine A2 Aa rfl rfl rfl (PP.blk hP) rfl rfl ?_;refine eK ?_;refine cC rfl (CL _ _ _ _ ‹_› (by decide) ‹_›) ?_;rintro _ D ⟨⟨⟩,⟨v,E⟩⟩;have a4:=E.size;clear hP;revert hbn hown hbr X;refine eF E ?_;intro hbn hown hbr X;refine eK ?_;refine Ax (fun wz=>Fr (· = c.pb) D wz) 5 (.pure 0 (.pure 1 (.pure 2 (.fork 3 (.fork 4 .tail .none) .none)))) mixed (by kernel_rfl) (Ac (Ao (Ac (Ao (Ac Ak))))) ?_;intro V F _;have d:(fun wz=>Fr (· = c.pb) D wz) V:=Fr.of_ext F;simp only at d;have W:=v;have y:=hbn;have J:=hown;have Y:=hbr;revert v hbn hown hbr X;refine eY F ?_;intro a5 v hbn hown hbr X;refine ⟨d,?_⟩;refine Tq rfl Pf (Tq rfl (Al Aa rfl rfl rfl (fun wz hz=>Blk.cell (Blk.fr y hz (by omega)) rfl)) (Tq rfl Mv ?_));refine At rfl (Av (by kernel_rfl) rfl ((IH j (by omega)).stmt _ _ ‹_› (by omega)) (fun _ _ h=>h.ret)) rfl ?_ (fun _ h=>h) As;rintro _ aa ⟨a6,⟨ab,⟨⟨⟩,⟨q,⟨f,o⟩⟩⟩⟩⟩;have ac:=o.size;replace d:=d.fr o (by omega);revert hbn hown hbr X;refine eF o ?_;intro hbn hown hbr X;refine ⟨d,?_⟩;refine At rfl (AM [_,_,_,_] Aa Bj rfl rfl rfl rfl rfl rfl rfl rfl rfl) rfl ?_ (fun _ h=>h) As;rintro _ ad ⟨ae,rfl,l,af⟩
  have ag:=l.blk;have G:=l.ext;have ah:=l.pos;have ai:=l.size;revert q f d hbn hown hbr X;refine eE G ?_;intro q f d hbn hown hbr X;refine ⟨d,?_⟩;refine Az rfl (CQ (sh:=ndShape) Aa Bj rfl rfl rfl rfl (by kernel_rfl) rfl rfl rfl hown (Blk.row ‹_›) ⟨_,_,rfl,Nd.sits.wide ‹_› (fun b h=>⟨by omega,fun e=>by have:=hob _ e;omega⟩)⟩ (by omega) (by omega) rfl ?_);rintro aj H ak m p;have al:=p.size;revert f hbn;refine eF p ?_;intro f hbn;clear hown;revert hbr X;refine eF p ?_;intro hbr X;refine C1 Pf (eV [_] [_,_,_,_] hbn ?_);intro am r I an;clear hbn;revert m f hbr X;refine eF I ?_;intro m f hbr X;refine eK ?_;refine cC rfl (CE _ _ _ _ ‹_› (by decide)) ?_;rintro _ ao ⟨⟨⟩,⟨ap,s⟩⟩;revert r m;refine eZ s ?_;intro aq r m;revert hbr X;refine eF s ?_;intro hbr X;refine Aj (An ?_);rotate_left
 refine AW (j,acc++[(Cx c.ts c.n j σ').1],some ⟨_,0,none⟩,_,A1 c.ts c.n (Cx c.ts c.n j σ').2 [59]) sB ⟨by assumption,by assumption,by assumption,by assumption,X,by omega,rfl,fun e=>by have:=hdrop e;simp only;omega,by simp only;omega,by simp only;omega,fun e=>?_⟩ (by simp);have:=hdrop e;simp only [List.length_append,List.length_cons,List.length_nil]
 omega
theorem Ua (c:PC) (k:Nat):StmtsC c k:=by
 induction k using Nat.strongRecOn with
 | _ k ih=>
  cases k with
  | zero=>exact ⟨fun _ _ _ h=>by omega,fun _ _ _ _ _ _ _ _ _ h=>by omega,fun _ _ _ _ h=>by omega,fun _ _ _ h=>by omega⟩
  | succ k=>
   have IH : ∀j,j≤k→StmtsC c j:=fun j hj=>ih j (by omega)
   exact ⟨Vn c k IH,OS c k IH,T8 c k IH,T9 c k IH⟩
theorem Ll (l:List Nd) (x:Nd):Bg (l++[x])=max (Bg l) x.depth:=by
 induction l with
 | nil=>simp only [List.nil_append,Bg];omega
 | cons y r ih=>simp only [List.cons_append,Bg,ih];omega
mutual
theorem Ks : ∀t:Nd,1≤t.depth∧t.depth≤t.size
 | .mk _ _ _ l=>by
  have:=D6 l
  simp only [Nd.depth,Nd.size];omega
theorem D6 : ∀l:List Nd,0≤Bg l∧Bg l≤Au l
 | []=>by simp [Bg,Au]
 | t::r=>by
  have h1:=Ks t;have h2:=D6 r
  simp only [Bg,Au];omega
end
theorem Gr (l:List Nd) (x:Nd):Au (l++[x])=Au l+x.size:=by
 induction l with
 | nil=>simp [Au]
 | cons y r ih=>simp only [List.cons_append,Au,ih];omega
theorem E5 (l:List Nd) (j:Nat):Au (l.take j)≤Au l:=by
 induction l generalizing j with
 | nil=>simp
 | cons x r ih=>
  cases j with
  | zero=>simp [Au]
  | succ j=>simp only [List.take_succ_cons,Au];have:=ih j;omega
theorem Em (l:List Nd):l.length≤Au l:=by
 induction l with
 | nil=>simp [Au]
 | cons x r ih=>have:=Nd.size_pos x;simp only [Au,List.length_cons];omega
theorem Ms (N:Nat) : ∀(t:Nd) (S:Nat→Prop) (a:Option Addr) (c:Nat) (w:World),t.size<N→t.size≤1000000000→t.sits S w a →
 Calls prog 119 #[t.val a c] w fun e w'=>e = .returned (.int .i64 t.depth)∧Ext w w':=by
 induction N with
 | zero=>intro t S a c w h;omega
 | succ N ih=>
  rintro ⟨k,n,s,l⟩ S a c w hN hM hs;have IH:=Lib.hid ih;clear ih;simp only [Nd.sits] at hs;simp only [Nd.size] at hN hM;have X:=Ext.refl w;have hl:=Em l;rw [show (Nd.mk k n s l).depth=Bg l+1 from by simp only [Nd.depth]];refine Ad func119 ntmps119 rfl rfl ?_
  focus
   refine cS (eB [_,_,_,_] ?_);intro b1 w2 h4 x5 p6 z7;revert hs X;refine eE x5 ?_;intro hs X;refine C1 Pa (cN (C1 Pa (cT (Am (cS (C1 Pf (C1 (Pl h4) (C1 Pz (C1 Mv (cT (AK ?_)))))))))));rotate_left
  refine Bn (ι:=Nat) (fun j=>[(9,.int .i64 j),(8,.int .i64 l.length),(7,.slice a l.length c),(3,.int .i64 (Bg (l.take j)))]) (fun j w'=>rowSits S w' l a∧Ext w w'∧j≤l.length) (fun j=>l.length-j) 0 sB ⟨hs,X,Nat.zero_le _⟩ ?_;rintro j w1 ⟨hs,X,hj⟩
  by_cases hlt:j<l.length
  · obtain ⟨kb,ko,rfl,hkS,hkid⟩:=Cv hs (by intro e;subst e;simp at hlt);obtain ⟨xa,xc,rx,sx⟩:=hkid j l[j] (List.getElem?_eq_getElem hlt);have hsz:=Dw (List.getElem_mem hlt)
    have ht:l.take (j+1)=l.take j++[l[j]]:=by rw [List.take_add_one,List.getElem?_eq_getElem hlt];rfl
    have d:=D6 (l.take j);have q:=E5 l j;have f:=E5 l (j+1);have r:=Ks l[j];rw [ht,Gr] at f;clear hkid
    generalize l[j]=x at *
    focus
     refine eK ?_;refine C1 (Gb rx) (AB [_,_,_,_] Bj rfl rfl ?_);intro u v g;refine eI [_,_,_,_] g ?_;intro y b i z A;revert X hs rx sx;refine eE i ?_;intro X hs rx sx;refine eK ?_;refine Ae [_,_,_,_] Aa rfl rfl rfl b rfl rfl rfl (cC rfl (IH.out _ S _ _ _ (by omega) (by omega) ‹_›) ?_);rintro _ o ⟨⟨⟩,m⟩;revert b X hs rx sx;refine eY m ?_;intro p b X hs rx sx;refine C1 (TC rfl rfl rfl) (C1 Pa (Aj (An (Ai (Ah (C1 V7 (C1 Mv (Aj ?_))))))));rotate_left
    refine AW (j+1) ?_ ⟨hs,X,by omega⟩ (by omega);refine Be rfl (Be rfl (Be rfl (BZ rfl ?_ Dq)));rw [ht,Ll]
  · have:j=l.length:=by omega
    subst this;have d:=D6 l;rw [List.take_length]
    focus
     refine eK ?_;refine Af rfl rfl ?_;rotate_left
    exact ⟨rfl,X⟩
theorem Sw (N:Nat) : ∀(t:Nd) (S:Nat→Prop) (a:Option Addr) (c:Nat) (w:World),t.size<N→t.size≤1000000000→t.sits S w a →
 Calls prog 120 #[t.val a c] w fun e w'=>e = .returned (.int .i64 t.size)∧Ext w w':=by
 induction N with
 | zero=>intro t S a c w h;omega
 | succ N ih=>
  rintro ⟨k,n,s,l⟩ S a c w hN hM hs;have IH:=Lib.hid ih;clear ih;simp only [Nd.sits] at hs;simp only [Nd.size] at hN hM;have X:=Ext.refl w;have hl:=Em l;rw [show ((Nd.mk k n s l).size:Int)=((Au l:Nat):Int)+1 from by simp only [Nd.size];omega];refine Ad func120 ntmps120 rfl rfl ?_
  focus
   refine cS (eB [_,_,_,_] ?_);intro b1 w2 h4 x5 p6 z7;revert hs X;refine eE x5 ?_;intro hs X;refine C1 Pa (cN (C1 Pa (cT (Am (cS (C1 Pf (C1 (Pl h4) (C1 Pz (C1 Mv (cT (AK ?_)))))))))));rotate_left
  refine Bn (ι:=Nat) (fun j=>[(9,.int .i64 j),(8,.int .i64 l.length),(7,.slice a l.length c),(3,.int .i64 (((Au (l.take j):Nat):Int)+1))]) (fun j w'=>rowSits S w' l a∧Ext w w'∧j≤l.length) (fun j=>l.length-j) 0 sB ⟨hs,X,Nat.zero_le _⟩ ?_;rintro j w1 ⟨hs,X,hj⟩
  by_cases hlt:j<l.length
  · obtain ⟨kb,ko,rfl,hkS,hkid⟩:=Cv hs (by intro e;subst e;simp at hlt);obtain ⟨xa,xc,rx,sx⟩:=hkid j l[j] (List.getElem?_eq_getElem hlt);have hsz:=Dw (List.getElem_mem hlt)
    have ht:l.take (j+1)=l.take j++[l[j]]:=by rw [List.take_add_one,List.getElem?_eq_getElem hlt];rfl
    have d:=D6 (l.take j);have q:=E5 l j;have f:=E5 l (j+1);have r:=Ks l[j];rw [ht,Gr] at f;clear hkid
    generalize l[j]=x at *
    focus
     refine eK ?_;refine C1 (Gb rx) (AB [_,_,_,_] Bj rfl rfl ?_);intro u v g;refine eI [_,_,_,_] g ?_;intro y b i z A;revert X hs rx sx;refine eE i ?_;intro X hs rx sx;refine eK ?_;refine Ae [_,_,_,_] Aa rfl rfl rfl b rfl rfl rfl (cC rfl (IH.out _ S _ _ _ (by omega) (by omega) ‹_›) ?_);rintro _ o ⟨⟨⟩,m⟩;revert b X hs rx sx;refine eY m ?_;intro p b X hs rx sx;refine C1 V7 (C1 Pa (Aj (An (Ai (Ah (C1 V7 (C1 Mv (Aj ?_))))))));rotate_left
    refine AW (j+1) ?_ ⟨hs,X,by omega⟩ (by omega);refine Be rfl (Be rfl (Be rfl (BZ rfl ?_ Dq)));rw [ht,Gr]
    congr 1;omega
  · have:j=l.length:=by omega
    subst this;have d:=D6 l;rw [List.take_length]
    focus
     refine eK ?_;refine Af rfl rfl ?_;rotate_left
    exact ⟨rfl,X⟩
section
variable {ts:List Tok} {n:Int}
theorem CM (σ:PS):(AD σ).at_=σ.at_+1:=rfl
theorem LO (k:Nat):(∀lv σ,σ.at_≤ts.length→(Cl ts n k lv σ).1.size+8*σ.at_≤8*(Cl ts n k lv σ).2.at_+1)∧(∀lv x σ,σ.at_≤ts.length→(Dd ts n k lv x σ).1.size+8*σ.at_≤8*(Dd ts n k lv x σ).2.at_+x.size) ∧
 (∀ σ,σ.at_≤ts.length→(BL ts n k σ).1.size+8*σ.at_≤8*(BL ts n k σ).2.at_+1)∧(∀ σ,σ.at_≤ts.length→(BV ts n k σ).1.size+8*σ.at_≤8*(BV ts n k σ).2.at_+1) ∧
 (∀ σ,σ.at_≤ts.length→(Cq ts n k σ).1.size+8*σ.at_≤8*(Cq ts n k σ).2.at_+1):=by
 induction k with
 | zero=>
  refine ⟨fun lv σ h=>?_,fun lv x σ h=>?_,fun σ h=>?_,fun σ h=>?_,fun σ h=>?_⟩
  · rw [Cl];simp [Nd.size,Au];omega
  · rw [Dd];simp;omega
  · rw [BL];simp [Nd.size,Au];omega
  · rw [BV];simp [Nd.size,Au];omega
  · rw [Cq];simp [Nd.size,Au];omega
 | succ k ih=>
  obtain ⟨iE,iC,iU,iP,iL⟩:=ih;obtain ⟨lE,lC,lU,lP,lL⟩:=GJ (ts:=ts) (n:=n) k;refine ⟨fun lv σ h=>?_,fun lv x σ h=>?_,fun σ h=>?_,fun σ h=>?_,fun σ h=>?_⟩
  · rw [Cl]
    have h1:=iU σ h;have h2:=iC lv (BL ts n k σ).1 (BL ts n k σ).2 (lU σ h).1.wf
    omega
  · rw [Dd]
    split
    · simp;omega
    · rename_i op hop
      obtain ⟨hne,-⟩:=Kn hop;have hn:=Bm (Du h (Or.inl hne))
      split
      · simp;omega
      · have h1:=iE (Dz op+1) (AD σ) hn.wf
        have h2:=iC lv (.mk op 0 [] [x,(Cl ts n k (Dz op+1) (AD σ)).1]) (Cl ts n k (Dz op+1) (AD σ)).2 (lE (Dz op+1) (AD σ) hn.wf).1.wf;have h3:=(lE (Dz op+1) (AD σ) hn.wf).1.le;rw [CM] at h1 h3;simp only [Nd.size,Au] at h2
        omega
  · rw [BL]
    split
    · rename_i hh
      have hn:=Bm (Co h hh (by decide));have h1:=iU (AD σ) hn.wf;rw [CM] at h1
      simp only [Nd.size,Au];omega
    · split
      · rename_i hh
        have hn:=Bm (Co h hh (by decide));have h1:=iU (AD σ) hn.wf;rw [CM] at h1
        simp only [Nd.size,Au];omega
      · exact iP σ h
  · rw [BV]
    split
    · have:=(LN (n:=n) (a:=0) (b:=9223372036854775807) h).le
      simp only [Nd.size,Au];omega
    · split
      · rename_i hh
        have h1:=Bm (Co h hh (by decide));have h2:=h1.trans (A3 (n:=n) (t:=[40]) h1.wf (by decide));have h3:=h2.trans (BT (n:=n) h2.wf);have h4:=(h3.trans (A3 (n:=n) (t:=[41]) h3.wf (by decide))).le
        simp only [Nd.size,Au];omega
      · split
        · rename_i hh
          have h1:=Bm (Co h hh (by decide));have h2:=h1.trans (A3 (n:=n) (t:=[40]) h1.wf (by decide));have h3:=h2.trans (BT (n:=n) h2.wf);have h4:=(h3.trans (A3 (n:=n) (t:=[41]) h3.wf (by decide))).le
          simp only [Nd.size,Au];omega
        · split
          · rename_i hh
            have hn:=Bm (Co h hh (by decide));have h1:=iE 1 (AD σ) hn.wf;have h2:=(A3 (n:=n) (t:=[41]) (lE 1 (AD σ) hn.wf).1.wf (by decide)).le;rw [CM] at h1
            simp only;omega
          · exact iL σ h
  · rw [Cq]
    have h0:=BT (n:=n) h;have h0':=h0.le
    split
    · rename_i hh
      have hn:=Bm (Co h0.wf hh (by decide));have h1:=iE 1 (AD (BJ ts n σ).2) hn.wf;have h2:=(A3 (n:=n) (t:=[93]) (lE 1 _ hn.wf).1.wf (by decide)).le;rw [CM] at h1
      simp only [Nd.size,Au];omega
    · simp only [Nd.size,Au];omega
theorem Fs (l m:List Nd):Au (l++m)=Au l+Au m:=by
 induction l with
 | nil=>simp [Au]
 | cons x r ih=>simp only [List.cons_append,Au,ih];omega
theorem NA (σ:PS):(Eb ts n σ).1.size=1:=rfl
theorem LP : ∀(k:Nat) (acc:List Nd) (σ:PS),σ.at_≤ts.length→Au (DO ts n k acc σ).1+8*σ.at_≤8*(DO ts n k acc σ).2.at_+Au acc
 | 0,acc,σ,h=>by rw [DO];simp;omega
 | k+1,acc,σ,h=>by
  rw [DO]
  split
  · rename_i hh
    have h1:=Bm (Co h hh (by decide))
    generalize hS:(if acc.length=8∧Cu (AN ts (AD σ)).text=true then CT (AD σ) (AN ts (AD σ)).pos 5 else AD σ)=ρ
    have h2:Le ts (AD σ) ρ:=by
     rw [←hS]
     split
     · exact Iz h1.wf _ _
     · exact Le.refl h1.wf
    have h3:=BT (n:=n) h2.wf;have h4:=LP k (acc++[(Eb ts n ρ).1]) (Eb ts n ρ).2 h3.wf;rw [Fs] at h4
    have h5:(Eb ts n ρ).2.at_≥σ.at_+1:=by
     have e1:=h2.le;have e2:=h3.le
     rw [CM] at e1
     show (BJ ts n ρ).2.at_≥σ.at_+1
     omega
    simp only [Au,NA] at h4
    omega
  · simp;omega
theorem LQ {k:Nat} {kind:Int} {σ:PS} (hn:In ts σ):(Ip ts n k kind σ).1.size+8*σ.at_≤8*(Ip ts n k kind σ).2.at_+1:=by
 unfold Ip
 dsimp only;have h1:=Bm hn;have h2:=h1.trans (BT (n:=n) h1.wf);have h3:=h2.trans (A3 (n:=n) (t:=[40]) h2.wf (by decide));have e1:=(BT (n:=n) h1.wf).le;have e2:=(A3 (n:=n) (t:=[40]) h2.wf (by decide)).le;rw [CM] at e1
 split
 · have:=CM (A1 ts n (BJ ts n (AD σ)).2 [40])
   simp only [Nd.size,Au];omega
 · have h4:=BT (n:=n) h3.wf
   have e3:=h4.le;have h5:=LP (ts:=ts) (n:=n) k [(Eb ts n (A1 ts n (BJ ts n (AD σ)).2 [40])).1] (Eb ts n (A1 ts n (BJ ts n (AD σ)).2 [40])).2 h4.wf;have h6:=Mr (n:=n) k [(Eb ts n (A1 ts n (BJ ts n (AD σ)).2 [40])).1] (Eb ts n (A1 ts n (BJ ts n (AD σ)).2 [40])).2 h4.wf;have e4:=(A3 (n:=n) (t:=[41]) h6.wf (by decide)).le;have e5:(Eb ts n (A1 ts n (BJ ts n (AD σ)).2 [40])).2.at_≥(A1 ts n (BJ ts n (AD σ)).2 [40]).at_:=e3;simp only [Au,NA] at h5
   simp only [Nd.size];omega
theorem Gs {k:Nat} {σ:PS} (h:σ.at_≤ts.length):(Cq ts n k σ).1.size+8*σ.at_≤8*(Cq ts n k σ).2.at_+1:=(LO k).2.2.2.2 σ h
theorem Ft {k:Nat} {lv:Int} {σ:PS} (h:σ.at_≤ts.length):(Cl ts n k lv σ).1.size+8*σ.at_≤8*(Cl ts n k lv σ).2.at_+1:=(LO k).1 lv σ h
theorem NB {k:Nat} {σ:PS} (h:σ.at_≤ts.length):(FB ts n k σ).1.size+8*σ.at_≤8*(FB ts n k σ).2.at_+1:=by
 unfold FB
 dsimp only;have h1:=Gs (n:=n) (k:=k) h;have l1:=Fq (n:=n) (k:=k) h
 split
 · rename_i hh
   have l2:=Bm (Co l1.wf hh (by decide));have h2:=Gs (n:=n) (k:=k) l2.wf;rw [CM] at h2
   simp only [Nd.size,Au];omega
 · split
   · have:=(GI (n:=n) l1.wf).le
     have:=l1.le
     simp only [Nd.size,Au];omega
   · rename_i hh
     have l2:=Bm (Du l1.wf (Or.inl (OR hh)));have h2:=Ft (n:=n) (k:=k) (lv:=1) l2.wf;rw [CM] at h2
     simp only [Nd.size,Au];omega
theorem Kt {k:Nat} {kind:Int} {σ:PS} (hn:In ts σ):(GC ts n k kind σ).1.size+8*σ.at_≤8*(GC ts n k kind σ).2.at_+1:=by
 unfold GC
 dsimp only;have h1:=Bm hn;have h2:=Gs (n:=n) (k:=k) h1.wf;have l2:=Fq (n:=n) (k:=k) h1.wf;have l3:=A3 (n:=n) (t:=[44]) l2.wf (by decide);have l4:=(BT (n:=n) l3.wf).le;have l3':=l3.le;rw [CM] at h2
 simp only [Nd.size,Au];omega
theorem G2 {k:Nat} {kind:Int} {σ:PS} (hn:In ts σ):(He ts n k kind σ).1.size+8*σ.at_≤8*(He ts n k kind σ).2.at_+1:=by
 unfold He
 have h1:=Bm hn;have h2:=Gs (n:=n) (k:=k) h1.wf;rw [CM] at h2
 simp only [Nd.size,Au];omega
theorem Q9 (k:Nat):(∀ σ,σ.at_≤ts.length→(Cx ts n k σ).1.size+8*σ.at_≤8*(Cx ts n k σ).2.at_+1)∧(∀kind mid last σ,In ts σ→mid≠[]→last≠[]→(CH ts n k kind mid last σ).1.size+8*σ.at_≤8*(CH ts n k kind mid last σ).2.at_+1)∧(∀ σ,In ts σ→(Fi ts n k σ).1.size+8*σ.at_≤8*(Fi ts n k σ).2.at_+1) ∧
 (∀ σ,σ.at_≤ts.length→(Ej ts n k σ).1.size+8*σ.at_≤8*(Ej ts n k σ).2.at_+2)∧(∀acc σ,σ.at_≤ts.length→Au (Dp ts n k acc σ).1+8*σ.at_≤8*(Dp ts n k acc σ).2.at_+Au acc+(if σ.err=0 then 1 else 0)):=by
 induction k with
 | zero=>
  refine ⟨fun σ h=>?_,fun kind mid last σ h _ _=>?_,fun σ h=>?_,fun σ h=>?_,fun acc σ h=>?_⟩
  · rw [Cx];simp [Nd.size,Au];omega
  · rw [CH];simp [Nd.size,Au];omega
  · rw [Fi];simp [Nd.size,Au];omega
  · rw [Ej];simp [Nd.size,Au];omega
  · rw [Dp];simp only;split<;>omega
 | succ k ih=>
  obtain ⟨iS,iB,iL,iK,iT⟩:=ih;obtain ⟨lS,lB,lL,lK,lT⟩:=EP (ts:=ts) (n:=n) k;refine ⟨fun σ h=>?_,fun kind mid last σ hn hmid hlast=>?_,fun σ hn=>?_,fun σ h=>?_,fun acc σ h=>?_⟩
  · have hin : ∀t:List UInt8,(AN ts σ).text=t→t≠[]→In ts σ:=fun t e ht=>Du h (Or.inl (by rw [e];exact ht))
    rw [Cx]
    by_cases e:(AN ts σ).text=[112,117,115,104]
    · rw [if_pos e];exact Kt (hin _ e (by decide))
    rw [if_neg e];clear e
    by_cases e:(AN ts σ).text=[112,111,112]
    · rw [if_pos e];exact Kt (hin _ e (by decide))
    rw [if_neg e];clear e
    by_cases e:(AN ts σ).text=[114,101,97,100]
    · rw [if_pos e];exact G2 (hin _ e (by decide))
    rw [if_neg e];clear e
    by_cases e:(AN ts σ).text=[117,110,114,101,97,100]
    · rw [if_pos e];exact G2 (hin _ e (by decide))
    rw [if_neg e];clear e
    by_cases e:(AN ts σ).text=[119,114,105,116,101]
    · rw [if_pos e];exact G2 (hin _ e (by decide))
    rw [if_neg e];clear e
    by_cases e:(AN ts σ).text=[117,110,119,114,105,116,101]
    · rw [if_pos e];exact G2 (hin _ e (by decide))
    rw [if_neg e];clear e
    by_cases e:(AN ts σ).text=[99,97,108,108]
    · rw [if_pos e];exact LQ (hin _ e (by decide))
    rw [if_neg e];clear e
    by_cases e:(AN ts σ).text=[117,110,99,97,108,108]
    · rw [if_pos e];exact LQ (hin _ e (by decide))
    rw [if_neg e];clear e
    by_cases e:(AN ts σ).text=[105,102]
    · rw [if_pos e];exact iB _ _ _ σ (hin _ e (by decide)) (by decide) (by decide)
    rw [if_neg e];clear e
    by_cases e:(AN ts σ).text=[102,114,111,109]
    · rw [if_pos e];exact iB _ _ _ σ (hin _ e (by decide)) (by decide) (by decide)
    rw [if_neg e];clear e
    by_cases e:(AN ts σ).text=[108,111,99,97,108]
    · rw [if_pos e];exact iL σ (hin _ e (by decide))
    rw [if_neg e];clear e
    exact NB h
  · rw [CH]
    (try dsimp only);have l1:=Bm hn;have s2:=Ft (n:=n) (k:=k) (lv:=1) l1.wf;have l2:=E4 (n:=n) (k:=k) (lv:=1) l1.wf;have s3:=iK _ l2.wf;have l3:=lK _ l2.wf;have l4:=A3 (n:=n) l3.wf hmid;have s5:=iK _ l4.wf;have l5:=lK _ l4.wf;have l6:=A3 (n:=n) l5.wf hlast;have s7:=Ft (n:=n) (k:=k) (lv:=1) l6.wf;have e4:=l4.le;have e6:=l6.le;rw [CM] at s2
    simp only [Nd.size,Au];omega
  · rw [Fi]
    (try dsimp only);have l1:=Bm hn
    split
    · rename_i hh
      have l2:=Bm (Co l1.wf hh (by decide));have l3:=BT (n:=n) l2.wf;have s4:=iK _ l3.wf;have e3:=l3.le;rw [CM,CM] at e3
      simp only [Nd.size,Au];omega
    · have l2:=BT (n:=n) l1.wf
      have l3:=A3 (n:=n) (t:=[61]) l2.wf (by decide);have s4:=Ft (n:=n) (k:=k) (lv:=1) l3.wf;have l4:=E4 (n:=n) (k:=k) (lv:=1) l3.wf;have s5:=iK _ l4.wf;have l5:=lK _ l4.wf;have l6:=A3 (n:=n) (t:=[100,101,108,111,99,97,108]) l5.wf (by decide);have s7:=Ft (n:=n) (k:=k) (lv:=1) l6.wf;have e2:=l2.le;have e3:=l3.le;have e6:=l6.le;rw [CM] at e2
      simp only [Nd.size,Au];omega
  · rw [Ej]
    (try dsimp only);have l1:=A3 (n:=n) (t:=[123]) h (by decide);have s2:=iT [] _ l1.wf;have e1:=l1.le;simp only [Au] at s2;simp only [Nd.size]
    split at s2<;>omega
  · rw [Dp]
    split
    · simp only;(try split)<;>omega
    · rename_i he
      have h0:σ.err=0:=Decidable.byContradiction he
      split
      · rename_i hh
        have:=CM σ
        simp only;(try split)<;>omega
      · have s1:=iS σ h
        have l1:=lS σ h;have l2:=A3 (n:=n) (t:=[59]) l1.wf (by decide);have s3:=iT (acc++[(Cx ts n k σ).1]) _ l2.wf;rw [Fs] at s3;simp only [Au] at s3;have e2:=l2.le
        have e3:(A1 ts n (Cx ts n k σ).2 [59]).err=0→(Cx ts n k σ).2.at_+1≤(A1 ts n (Cx ts n k σ).2 [59]).at_:=fun e=>D5 (n:=n) e
        (try rw [if_pos h0])
        split at s3
        · rename_i e;have:=e3 e;omega
        · omega
end
theorem PR (c:PC) (σ:PS) (t:Nd) (S:Nat→Prop) (a:Option Addr) (k:Nat) (off:Int) (w:World) (hP:PP c σ w) (hz:t.size≤1000000000) (hs:t.sits S w a) :
 Calls prog 84 #[.pointer (some ⟨c.pb,0,none⟩),t.val a k,.int .i64 off] w fun r w'=>r = .returned (.tuple #[])∧PP c (DB t off σ) w'∧Fr (· = c.pb) w w':=by
 have X:=Fr.refl (· = c.pb) w;have hpb:=hP.pbB;have hB:=hP.B
 by_cases h0:σ.err=0
 · by_cases hd:80<t.depth
   · rw [show DB t off σ=CT σ off 19 from by simp [DB,h0,hd]];refine Ad func84 ntmps84 rfl rfl ?_
     focus
      refine cS (eB [_,_,_,_] ?_);intro b1 w2 h4 x5 p6 z7;revert hP hs X;refine eE x5 ?_;intro hP hs X;refine eK ?_;refine A2 Aa rfl rfl rfl (PP.blk hP) rfl rfl ?_;refine eK ?_;refine Ae [_,_,_,_] Aa rfl rfl rfl h4 rfl rfl rfl (cC rfl (Ms _ _ _ _ _ _ (Nat.lt_succ_self _) (by omega) ‹_›) ?_);rintro _ w9 ⟨⟨⟩,x8⟩;revert h4 hP hs X;refine eY x8 ?_;intro A h4 hP hs X;refine eK ?_;refine cC rfl (GK _ _ _ _ _ ‹_›) ?_;rintro _ C ⟨⟨⟩,⟨D,f⟩⟩;have E:=f.size;replace h4:=h4.fr f (by omega);clear hP hs;replace X:=X.fr f (by omega);refine Aj (An (Bt rfl ?_));rotate_left
     exact ⟨rfl,by assumption,X⟩
   · by_cases h2:2000<t.size
     · rw [show DB t off σ=CT σ off 5 from by simp [DB,h0,hd,h2]];refine Ad func84 ntmps84 rfl rfl ?_
       focus
        refine cS (eB [_,_,_,_] ?_);intro F G b i H I;revert hP hs X;refine eE i ?_;intro hP hs X;refine eK ?_;refine A2 Aa rfl rfl rfl (PP.blk hP) rfl rfl ?_;refine eK ?_;refine Ae [_,_,_,_] Aa rfl rfl rfl b rfl rfl rfl (cC rfl (Ms _ _ _ _ _ _ (Nat.lt_succ_self _) (by omega) ‹_›) ?_);rintro _ J ⟨⟨⟩,j⟩;revert b hP hs X;refine eY j ?_;intro o b hP hs X;refine eK ?_;refine Ae [_,_,_,_] Aa rfl rfl rfl b rfl rfl rfl (cC rfl (Sw _ _ _ _ _ _ (Nat.lt_succ_self _) (by omega) ‹_›) ?_);rintro _ p ⟨⟨⟩,g⟩;revert b hP hs X;refine eY g ?_;intro q b hP hs X;refine eK ?_;refine cC rfl (GK _ _ _ _ _ ‹_›) ?_;rintro _ s ⟨⟨⟩,⟨u,e⟩⟩;have v:=e.size;replace b:=b.fr e (by omega);clear hP hs;replace X:=X.fr e (by omega);refine Aj (An (Bt rfl ?_));rotate_left
       exact ⟨rfl,by assumption,X⟩
     · rw [show DB t off σ=σ from by simp [DB,h0,hd,h2]];refine Ad func84 ntmps84 rfl rfl ?_
       focus
        refine cS (eB [_,_,_,_] ?_);intro K L d l M N;revert hP hs X;refine eE l ?_;intro hP hs X;refine eK ?_;refine A2 Aa rfl rfl rfl (PP.blk hP) rfl rfl ?_;refine eK ?_;refine Ae [_,_,_,_] Aa rfl rfl rfl d rfl rfl rfl (cC rfl (Ms _ _ _ _ _ _ (Nat.lt_succ_self _) (by omega) ‹_›) ?_);rintro _ O ⟨⟨⟩,m⟩;revert d hP hs X;refine eY m ?_;intro x d hP hs X;refine eK ?_;refine Ae [_,_,_,_] Aa rfl rfl rfl d rfl rfl rfl (cC rfl (Sw _ _ _ _ _ _ (Nat.lt_succ_self _) (by omega) ‹_›) ?_);rintro _ y ⟨⟨⟩,h⟩;revert d hP hs X;refine eY h ?_;intro z d hP hs X;refine C1 V5 (C1 Pa (cT (Hn (AH (An (Bt rfl ?_))))));rotate_left
       exact ⟨rfl,by assumption,X⟩
 · rw [show DB t off σ=σ from by simp [DB,h0]];refine Ad func84 ntmps84 rfl rfl ?_
   focus
    refine cS (eB [_,_,_,_] ?_);intro Q R T n U V;revert hP hs X;refine eE n ?_;intro hP hs X;refine eK ?_;refine A2 Aa rfl rfl rfl (PP.blk hP) rfl rfl (C1 V2 (C1 Pa (cT (Wv (AH (An (Bt rfl ?_)))))));rotate_left
   exact ⟨rfl,by assumption,X⟩
section
variable {ts:List Tok} {n:Int}
end
section
variable {ts:List Tok} {n:Int}
end
section
variable (ts:List Tok) (n:Int)
end
section
variable {ts:List Tok} {n:Int}
end
section
variable (ts:List Tok) (n:Int)
end
section
variable {ts:List Tok} {n:Int}
end
section
variable (ts:List Tok) (n:Int)
end
section
variable {ts:List Tok} {n:Int}
end
section
variable (ts:List Tok) (n:Int)
end
section
variable {ts:List Tok} {n:Int}
end
section
variable {ts:List Tok} {n:Int}
end
def VdsR (c:PC) (w:World) (r:List VD×PS):Ending→World→Prop:=fun e w'=> ∃a k,e = .returned (.slice a r.1.length k)∧VDs (fun b=>w.heap.size≤b∧b<w'.heap.size) w' r.1 a∧PP c r.2 w'∧Fr (· = c.pb) w w'
theorem VdsR.ret {c:PC} {w:World} {r:List VD×PS} {e:Ending} {w':World} (h:VdsR c w r e w') : ∃v,e = .returned v:=by
 obtain ⟨_,_,h,-⟩:=h
 exact ⟨_,h⟩
def PdR (c:PC) (w:World) (r:PD×PS):Ending→World→Prop:=fun e w'=> ∃pa pc ba bc,e = .returned (.agg (r.1.cells pa pc ba bc).toArray)∧VDs (fun b=>w.heap.size≤b∧b<w'.heap.size) w' r.1.params pa∧r.1.body.sits (fun b=>w.heap.size≤b∧b<w'.heap.size) w' ba∧PP c r.2 w'∧Fr (· = c.pb) w w'
theorem PdR.ret {c:PC} {w:World} {r:PD×PS} {e:Ending} {w':World} (h:PdR c w r e w') : ∃v,e = .returned v:=by
 obtain ⟨_,_,_,_,h,-⟩:=h
 exact ⟨_,h⟩
def PgR (c:PC) (w:World) (r:PG×PS):Ending→World→Prop:=fun e w'=> ∃va vc pa pc ma mc,e = .returned (.agg (r.1.cells va vc pa pc ma mc).toArray)∧r.1.sits (w.heap.size ≤ ·) w' va pa ma∧PP c r.2 w'∧Fr (· = c.pb) w w'
theorem PgR.ret {c:PC} {w:World} {r:PG×PS} {e:Ending} {w':World} (h:PgR c w r e w') : ∃v,e = .returned v:=by
 obtain ⟨_,_,_,_,_,_,h,-⟩:=h
 exact ⟨_,h⟩
theorem PDs.wide {S S':Nat→Prop} {w:World} {l:List PD} {a:Option Addr} (h:PDs S w l a) (hs : ∀b,S b→S' b):PDs S' w l a:=
 h.mono hs (fun _ _ _ _ _ ⟨pa,pc,ba,bc,h1,h2,h3⟩=>⟨pa,pc,ba,bc,h1,h2.wide hs,h3.wide hs⟩)
theorem EH {α:Type} (p:α→Bool) (l:List α):(l.takeWhile p).length≤l.length:=by
 induction l with
 | nil=>simp
 | cons x r ih=>simp only [List.takeWhile_cons];split<;>simp;exact ih
theorem OT (s:List UInt8):GX s≤s.length:=by
 unfold GX
 split
 · rename_i h
   rw [List.isPrefixOf_iff_prefix] at h
   exact h.length_le
 · split
   · rename_i h
     rcases s with _|⟨a,_|⟨b,r⟩⟩
     · exact absurd h (by decide)
     · exfalso
       simp [pairs] at h
     · simp
   · split
     · rename_i h
       cases s with
       | nil=>simp at h
       | cons a r=>simp
     · omega
theorem Jv (s:List UInt8):(Bf s).2≤s.length:=by
 cases s with
 | nil=>simp [Bf]
 | cons c r=>
  simp only [Bf,GB]
  split
  · exact EH _ _
  · split
    · exact EH _ _
    · split
      · exact EH _ _
      · split
        · exact EH _ _
        · exact OT _
theorem Ku {α:Type} (p:α→Bool) (l:List α):l.take (l.takeWhile p).length=l.takeWhile p:=by
 induction l with
 | nil=>simp
 | cons x r ih=>simp only [List.takeWhile_cons];split<;>simp [ih]
theorem Lm {α:Type} (p:α→Bool) (l:List α) : ∀x∈l.takeWhile p,p x=true:=by
 induction l with
 | nil=>simp
 | cons y r ih=>
  simp only [List.takeWhile_cons]
  split
  · rename_i h
    intro x hx
    rcases List.mem_cons.1 hx with rfl|hx
    · exact h
    · exact ih x hx
  · simp
theorem Mt (c:UInt8) (h:Fg c=true):C8 c=false:=by
 simp only [Fg,C8,Bool.and_eq_true,decide_eq_true_eq,Bool.and_eq_false_iff,decide_eq_false_iff_not] at h ⊢
 omega
theorem Mu (s:List UInt8) (h:(Bf s).1=2):s.take (Bf s).2≠[] ∧ ∀x∈s.take (Bf s).2,C8 x=true:=by
 cases s with
 | nil=>simp [Bf] at h
 | cons c r=>
  simp only [Bf] at h ⊢
  by_cases h1:Fg c=true
  · simp [h1] at h
  · by_cases h2:C8 c=true
    · simp only [h1,h2,if_true,Bool.false_eq_true,if_false,GB]
      rw [Ku];refine ⟨by simp [List.takeWhile_cons,h2],Lm _ _⟩
    · exfalso
      simp only [h1,h2,Bool.false_eq_true,if_false] at h
      by_cases h3:Hc c=true
      · simp [h3] at h
      · by_cases h4:c=35
        · subst h4;simp [h3] at h
        · simp [h3,h4] at h
theorem Ln (s:List UInt8) (hs:s≠[]) (h0:(Bf s).2≠0):(Bf s).1=2↔GL (s.take (Bf s).2)=true:=by
 cases s with
 | nil=>exact absurd rfl hs
 | cons c r=>
  obtain ⟨m,hm⟩ : ∃m,(Bf (c::r)).2=m+1:=⟨(Bf (c::r)).2-1,by omega⟩;rw [hm];simp only [List.take_succ_cons,GL,Bf]
  by_cases h1:Fg c=true
  · simp [h1,Mt c h1]
  · by_cases h2:C8 c=true
    · simp [h1,h2]
    · simp only [h1,h2,Bool.false_eq_true,if_false,iff_false]
      by_cases h3:Hc c=true
      · simp [h3]
      · by_cases h4:c=35
        · subst h4;simp [h3]
        · simp [h3,h4]
structure TokOk (n:Nat) (t:Tok):Prop where
 len:t.text.length≤n
 num:t.kind=2→t.text≠[] ∧ ∀x∈t.text,C8 x=true
 dig:t.kind=2↔GL t.text=true
 pos:0≤t.pos∧t.pos≤n
theorem NC (s:List UInt8) : ∀(k p:Nat) (acc:List Tok),(∀t∈acc,TokOk s.length t) → ∀t∈(EW k s p acc).1,TokOk s.length t
 | 0,p,acc,h=>by rw [EW];exact h
 | k+1,p,acc,h=>by
  rw [EW]
  split
  · rename_i hp
    split
    · simp
    · rename_i h0
      refine NC s k _ _ ?_;intro t ht
      rcases List.mem_append.1 ht with ht|ht
      · exact h t ht
      · simp only [List.mem_singleton] at ht
        subst ht
        have hne:s.drop p≠[]:=by
         intro e;have:=congrArg List.length e
         simp at this;omega
        refine ⟨?_,?_,?_,?_⟩
        · simp only [List.length_take,List.length_drop];omega
        · intro hk
          have hk':(Bf (s.drop p)).1=2:=by simp only at hk;omega
          exact Mu _ hk'
        · have:=Ln (s.drop p) hne h0
          simp only;rw [←this]
          omega
        · simp only;omega
  · exact h
theorem Ub (s:List UInt8) : ∀t∈(GD s).1,TokOk s.length t:=by
 unfold GD
 split
 · simp
 · have:=NC s (s.length+1) 0 [] (by simp)
   split
   · rename_i l h;rw [h] at this;exact this
   · simp
theorem ND (s:List UInt8) : ∀t∈(DQ s).1,TokOk s.length t:=fun t ht=>Ub s t (List.mem_filter.1 ht).1
theorem LR (s:List UInt8) : ∀(k p:Nat) (acc:List Tok),acc.length≤p→p≤s.length→(EW k s p acc).1.length≤s.length
 | 0,p,acc,h,hp=>by rw [EW];simp;omega
 | k+1,p,acc,h,hp=>by
  rw [EW]
  split
  · split
    · simp
    · rename_i h0
      have:=Jv (s.drop p);rw [List.length_drop] at this
      exact LR s k _ _ (by simp;omega) (by omega)
  · simp only;omega
theorem NE (s:List UInt8):(GD s).1.length≤s.length:=by
 unfold GD
 split
 · simp
 · have:=LR s (s.length+1) 0 [] (by simp) (by omega)
   split
   · rename_i l h;rw [h] at this;exact this
   · simp
theorem LS (s:List UInt8):(DQ s).1.length≤s.length:=Nat.le_trans (List.length_filter_le _ _) (NE s)
def Toks (S:Nat→Prop) (w:World) (l:List Tok) (a:Option Addr):Prop:=Arr S 3 Sm w l a
theorem Toks.ext {S:Nat→Prop} {w w':World} {l:List Tok} {a:Option Addr} (h:Toks S w l a) (x:Ext w w'):Toks S w' l a:=h.mono (fun _ h=>h) (fun _ _ _ _ _ h=>Row.ext h x)
instance {S:Nat→Prop} {w w':World} {l:List Tok} {a:Option Addr}:LfE w w' (Toks S w l a) (Toks S w' l a):=⟨fun x h=>Bk.Toks.ext h x⟩
theorem Toks.fr {S T:Nat→Prop} {w w':World} {l:List Tok} {a:Option Addr} (h:Toks S w l a) (x:Fr T w w') (hs : ∀b,S b → ¬T b):Toks S w' l a:=h.mono (fun _ h=>h) (fun b _ _ _ hb h=>Row.fr h x (hs b hb))
instance {S T:Nat→Prop} {w w':World} {l:List Tok} {a:Option Addr}:LfF T w w' (Toks S w l a) (∀b,S b → ¬T b) (Toks S w' l a):=⟨fun x s h=>Bk.Toks.fr h x s⟩
theorem Toks.wide {S S':Nat→Prop} {w:World} {l:List Tok} {a:Option Addr} (h:Toks S w l a) (hs : ∀b,S b→S' b):Toks S' w l a:=h.mono hs (fun _ _ _ _ _ h=>h)
theorem Toks.lt2 {S:Nat→Prop} {w:World} {l:List Tok} {a:Option Addr} (h:Toks S w l a):Toks (fun b=>S b∧b<w.heap.size) w l a:=by
 rcases h with h|⟨b,o,h1,h2,h3⟩
 · exact Or.inl h
 · cases l with
   | nil=>exact Or.inl rfl
   | cons v r=>exact Or.inr ⟨b,o,h1,⟨h2,Ca (Row.at0 (h3 0 v rfl) rfl)⟩,h3⟩
def FY:Shape Tok where
 sz:=3
 rep:=fun _ _ v cs=>cs=v.cells
 len:=fun h=>by rw [h];rfl
 one:=fun h=>by rw [h];rfl
 mono:=fun h _ _=>h
 lt:=fun h=>h
theorem OwnL.toks {w:World} {B e:Nat} {a:Option Addr} {len cap:Nat} {xs:List Tok} {S:Nat→Prop} (h:OwnL FY w B e (.slice a len cap) xs) (hS : ∀b,B≤b→S b):Toks S w xs a:=by
 by_cases hx:xs=[]
 · exact Or.inl hx
 · obtain ⟨g,cap',hv,hg,hall⟩:=h.rows hx
   simp only [Value.slice.injEq] at hv;obtain ⟨rfl,-,-⟩:=hv;refine Or.inr ⟨g,0,rfl,hS g hg,fun i x hi=>?_⟩;obtain ⟨cs,hr,rfl⟩:=hall i x hi
   simpa [FY,Sm] using hr
theorem PT (t:List UInt8) (w:World) (ht:t≠[]) (hl:t.length≤9223372036854775807):Calls prog 51 #[str t] w fun e w'=>e = .returned (.tuple #[.int .u8 (Bf t).1,.int .i64 (Bf t).2])∧w=w':=by
 cases t with
 | nil=>exact absurd rfl ht
 | cons c r=>exact PJ c r w hl
def LexR (w:World) (r:List Tok×Int×Int):Ending→World→Prop:=fun e w'=> ∃a k,e = .returned (.tuple #[.slice a r.1.length k,.int .i64 r.2.1,.int .i64 r.2.2])∧Toks (fun b=>w.heap.size≤b∧b<w'.heap.size) w' r.1 a∧Ext w w'
theorem LexR.ret {w:World} {r:List Tok×Int×Int} {e:Ending} {w':World} (h:LexR w r e w') : ∃v,e = .returned v:=by
 obtain ⟨_,_,h,-⟩:=h
 exact ⟨_,h⟩
theorem VY (s:List UInt8) (w:World) (hs:s.length≤1000000):Calls prog 71 #[str s] w (LexR w (GD s)):=by
 have X:=Ext.refl w
 by_cases h0:65536<s.length
 · rw [show GD s=([],0,5) from by simp [GD,h0]];refine Ad func71 ntmps71 rfl rfl ?_
   focus
    refine eK ?_;refine Mb rfl rfl rfl rfl ?_;rotate_left
   exact ⟨_,_,rfl,Or.inl rfl,X⟩
 have hun : ∀r,EW (s.length+1) s 0 []=r→GD s=match r with|(l,none)=>(l,0,0)|(_,some p)=>([],(p:Int),3):=fun r hr=>by
  obtain ⟨l,o⟩:=r
  cases o<;>simp [GD,h0,hr]
 have HU:=Lib.hid hun;clear hun;refine Ad func71 ntmps71 rfl rfl ?_
 focus
  refine cS (C1 Pa (C1 Pa (C1 Pa (cT (Am (cS (C1 Mv (C1 Py (C1 V5 (cT (Hn ?_)))))))))));refine AH (Ai (cS (C1 Pa (cT (Am (cS (C1 Pa (cT (AK ?_)))))))));rotate_left
 refine Bn (ι:=Nat×Nat×List Tok×Option Addr×Nat) (fun x=>[(0,str s),(5,.slice x.2.2.2.1 x.2.2.1.length x.2.2.2.2),(6,.int .i64 x.2.1)])
  (fun x w'=>OwnL FY w' w.heap.size 128 (.slice x.2.2.2.1 x.2.2.1.length x.2.2.2.2) x.2.2.1∧Ext w w'∧x.2.1≤s.length∧x.2.2.1.length≤x.2.1∧s.length+1≤x.1+x.2.1 ∧
   EW (s.length+1) s 0 []=EW x.1 s x.2.1 x.2.2.1) (fun x=>x.1) (s.length+1,0,[],none,0) sB ⟨OwnL.nil,X,Nat.zero_le _,Nat.le_refl _,Nat.le_refl _,rfl⟩ ?_
 rintro ⟨j,p,acc,a,cap⟩ w1 ⟨hown,X,hp,hacc,hj,he⟩;simp only at hown hp hacc hj he;refine CW.sub (m:=[(0,str s),(5,.slice a acc.length cap),(6,.int .i64 p)]) ?_ sB;obtain ⟨j,rfl⟩ : ∃i,j=i+1:=⟨j-1,by omega⟩
 by_cases hlt:p<s.length
 · have hne:s.drop p≠[]:=by
    intro e;have:=congrArg List.length e
    simp at this
    omega
   have hdl:(s.drop p).length=s.length-p:=List.length_drop;have hfl:=Jv (s.drop p);rw [hdl] at hfl
   by_cases hz:(Bf (s.drop p)).2=0
   · rw [HU.out ([],some p) (by rw [he,EW];simp [hlt,hz])]
     focus
      refine eK ?_;refine C1 (JZ Aa rfl rfl rfl (by omega)) (cC rfl (PT _ _ hne (by omega)) ?_);rintro _ y ⟨⟨⟩,rfl⟩;refine eK ?_;refine Mb rfl rfl rfl rfl ?_;rotate_left
     exact ⟨_,_,rfl,Or.inl rfl,X⟩
   · have g:EW (s.length+1) s 0 []=EW j s (p+(Bf (s.drop p)).2) (acc++[⟨((Bf (s.drop p)).1:Nat),(s.drop p).take (Bf (s.drop p)).2,(p:Int)⟩]):=by rw [he,EW];simp [hlt,hz]
     focus
      refine eK ?_;refine C1 (JZ Aa rfl rfl rfl (by omega)) (cC rfl (PT _ _ hne (by omega)) ?_);rintro _ A ⟨⟨⟩,rfl⟩;refine eK ?_;refine C1 (Ox Aa rfl rfl rfl rfl (by omega)) (C1 Mv (C1 (AC [_,_,_] Aa Bj rfl rfl rfl rfl) ?_));refine AQ (AM [_,_,_] Aa Bj rfl rfl rfl rfl rfl rfl rfl rfl rfl) rfl ?_ (fun _ h=>h);rintro _ B ⟨C,rfl,c,D⟩;have k:=c.blk;have n:=c.ext;have E:=c.pos;have F:=c.size;revert hown X;refine eE n ?_;intro hown X;refine CQ (sh:=FY) (z:=⟨((Bf (s.drop p)).1:Nat),(s.drop p).take (Bf (s.drop p)).2,(p:Int)⟩) Aa Bj rfl rfl rfl rfl (by kernel_rfl) rfl rfl rfl hown (Blk.row ‹_›) rfl (by omega) (by have:=Ext.size X;omega) rfl ?_;rintro q f t u d;have v:=d.size;clear k hown;replace X:=X.fr d (by omega);refine C1 Pa (cT (Ah (C1 Mv (C1 Mv (C1 V7 (C1 Pa (Aj (An ?_))))))));rotate_left
     refine AW (j,p+(Bf (s.drop p)).2,acc++[⟨((Bf (s.drop p)).1:Nat),(s.drop p).take (Bf (s.drop p)).2,(p:Int)⟩],some ⟨_,0,none⟩,_) sB ⟨by assumption,X,by simp only;omega,by simp only [List.length_append,List.length_cons,List.length_nil];omega,by simp only;omega,g⟩ (by simp)
 · rw [HU.out (acc,none) (by rw [he,EW];simp [hlt])]
   focus
    refine eK ?_;refine Mb rfl rfl rfl rfl ?_;rotate_left
   exact ⟨_,_,rfl,Toks.lt2 (S:=(w.heap.size ≤ ·)) (OwnL.toks hown (fun b h=>h)),X⟩
theorem OU (l:List Tok) (t:Tok):DY (l++[t])=DY l++(if t.kind≠4∧t.kind≠5 then [t] else []):=by
 unfold DY
 rw [List.filter_append]
 congr 1
 by_cases h4:t.kind=4<;>by_cases h5:t.kind=5<;>simp [h4,h5]
def SolidR (w:World) (r:List Tok):Ending→World→Prop:=fun e w'=> ∃a k,e = .returned (.slice a r.length k)∧Toks (fun b=>w.heap.size≤b∧b<w'.heap.size) w' r a∧Ext w w'
theorem SolidR.ret {w:World} {r:List Tok} {e:Ending} {w':World} (h:SolidR w r e w') : ∃v,e = .returned v:=by
 obtain ⟨_,_,h,-⟩:=h
 exact ⟨_,h⟩
theorem Uc (ts:List Tok) (S:Nat→Prop) (b0:Option Addr) (k0:Nat) (w:World) (hl:ts.length≤1000000) (hT:Toks S w ts b0) (hS : ∀b,S b→b<w.heap.size):Calls prog 72 #[.slice b0 ts.length k0] w (SolidR w (DY ts)):=by
 have X:=Ext.refl w;refine Ad func72 ntmps72 rfl rfl ?_
 focus
  refine cS (C1 Pa (cN (C1 Pa (cT (Am (cS (C1 Mv (C1 Pz (C1 Mv (cT (AK ?_)))))))))));rotate_left
 refine Bn (ι:=Nat×Option Addr×Nat) (fun x=>[(3,.slice x.2.1 (DY (ts.take x.1)).length x.2.2),(6,.slice b0 ts.length k0),(7,.int .i64 ts.length),(8,.int .i64 x.1)])
  (fun x w'=>OwnL FY w' w.heap.size 128 (.slice x.2.1 (DY (ts.take x.1)).length x.2.2) (DY (ts.take x.1))∧Ext w w'∧x.1≤ts.length∧Toks S w' ts b0) (fun x=>ts.length-x.1) (0,none,0) sB ⟨OwnL.nil,X,Nat.zero_le _,hT⟩ ?_
 rintro ⟨j,a,cap⟩ w1 ⟨hown,X,hj,hT⟩;simp only at hown hj hT;have hsz:=X.size;refine CW.sub (m:=[(3,.slice a (DY (ts.take j)).length cap),(6,.slice b0 ts.length k0),(7,.int .i64 ts.length),(8,.int .i64 j)]) ?_ sB
 by_cases hlt:j<ts.length
 · have htk:ts.take (j+1)=ts.take j++[ts[j]]:=by rw [List.take_add_one,List.getElem?_eq_getElem hlt];rfl
   have hsn:DY (ts.take (j+1))=DY (ts.take j)++(if ts[j].kind≠4∧ts[j].kind≠5 then [ts[j]] else []):=by rw [htk,OU]
   have hbd:(DY (ts.take j)).length≤1000000:=Nat.le_trans (List.length_filter_le _ _) (by rw [List.length_take];omega);obtain ⟨tb,tof,rfl,hkS,hrow⟩:=hT.get (by omega);have hr:Row w1 ⟨tb,tof+j*3,none⟩ ts[j].cells:=hrow j _ (List.getElem?_eq_getElem hlt);have htb:=hS tb hkS;clear hrow htk
   generalize ts[j]=t at *
   by_cases h4:t.kind=4
   · rw [show (if t.kind≠4∧t.kind≠5 then [t] else [])=[] from by simp [h4],List.append_nil] at hsn
     focus
      refine eK ?_;refine C1 (Gb hr) (AB [_,_,_] Bj rfl rfl ?_);intro H I o;refine eI [_,_,_] o ?_;intro J p q K L;revert hown X hT hr;refine eE q ?_;intro hown X hT hr;refine cN (C1 Pg (C1 (Pl p) (C1 V2 (C1 Mv (Wy (Wy (Wy (C1 TF (cT (Ep rfl (AH ?_)))))))))));refine An (Ai (Ah (C1 V7 (C1 Mv (Aj ?_)))));rotate_left
     refine AW (j+1,a,cap) ?_ ⟨by rw [hsn];exact hown,X,by simp only;omega,hT⟩ (by simp only;omega);refine BZ rfl (by rw [hsn]) sB
   by_cases h5:t.kind=5
   · rw [show (if t.kind≠4∧t.kind≠5 then [t] else [])=[] from by simp [h5],List.append_nil] at hsn
     focus
      refine eK ?_;refine C1 (Gb hr) (AB [_,_,_] Bj rfl rfl ?_);intro M N r;refine eI [_,_,_] r ?_;intro O g s Q R;revert hown X hT hr;refine eE s ?_;intro hown X hT hr;refine cN (C1 Pg (C1 (Pl g) (C1 V2 (C1 Mv (Ww (C1 Pg (Ww (C1 (Pl g) (Ww (C1 V2 (C1 WA ?_)))))))))));refine cT (Hn (AH (An (Ai (Ah (C1 V7 (C1 Mv (Aj ?_))))))));rotate_left
     refine AW (j+1,a,cap) ?_ ⟨by rw [hsn];exact hown,X,by simp only;omega,hT⟩ (by simp only;omega);refine BZ rfl (by rw [hsn]) sB
   · rw [show (if t.kind≠4∧t.kind≠5 then [t] else [])=[t] from by simp [h4,h5]] at hsn
     focus
      refine eK ?_;refine C1 (Gb hr) (AB [_,_,_] Bj rfl rfl ?_);intro T U u;refine eI [_,_,_] u ?_;intro V f v W Y;revert hown X hT hr;refine eE v ?_;intro hown X hT hr;refine eK ?_;refine Ae [_,_,_] Aa rfl rfl rfl f rfl rfl rfl ?_;refine AQ (AM [_,_,_] Aa Bj rfl rfl rfl rfl rfl rfl rfl rfl rfl) rfl ?_ (fun _ h=>h);rintro _ y ⟨Z,rfl,c,A⟩;have i:=c.blk;have l:=c.ext;have B:=c.pos;have C:=c.size;revert f hown X hT hr;refine eE l ?_;intro f hown X hT hr;refine CQ (sh:=FY) (z:=t) Aa Bj rfl rfl rfl rfl (by kernel_rfl) rfl rfl rfl hown (Blk.row ‹_›) rfl (by omega) (by omega) rfl ?_;rintro D n E F d;have G:=d.size;clear i f hown;replace X:=X.fr d (by omega);replace hT:=Toks.fr hT d (fun k hk e=>by have:=hS k hk;omega);replace hr:=Row.fr hr d (by simp only;omega);refine C1 Pa (Aj (An (Ai (Ah (C1 V7 (C1 Mv (Aj ?_)))))));rotate_left
     refine AW (j+1,some ⟨_,0,none⟩,_) ?_ ⟨by rw [hsn];assumption,X,by simp only;omega,hT⟩ (by simp only;omega);refine BZ rfl (by rw [hsn]) sB
 · have:j=ts.length:=by omega
   subst this;rw [List.take_length] at hown
   focus
    refine eK ?_;refine Af rfl rfl ?_;rotate_left
   rw [List.take_length]
   exact ⟨_,_,rfl,Toks.lt2 (S:=(w.heap.size ≤ ·)) (OwnL.toks hown (fun b h=>h)),X⟩
section
variable {P:Program} {n:Nat} {ops:Array Oper} {Q:Exit→Act→World→Prop} {rest:List Oper} {l:Sl} {w:World} {tab:Tab} {ty:TypeId} {pos:String} {after:Array Edge}
theorem Ra {x y z:Operand} {t kt e sz1 sz2 r:Nat} {k:List UInt8} {v:Value} {kvs:List (List UInt8×Value)} (T:TabOk P tab) (ht:AL tab t=some (.map kt e,sz1)) (hkt:AL tab kt=some (.str,sz2)) (hx:ev l x=some (.map (some r))) (hy:ev l y=some (str k)) (hz:ev l z=some v) (hm:MapIs w r kvs)
 (kk : ∀w1,MapIs w1 r (JC kvs k v)→Fr (· = r) w w1→LW P n ops Q rest l w1):LW P n ops Q (⟨none,.mapUpdate t x y z,ty,pos,after,none⟩::rest) l w:=by
 refine Br (K:=U6 w r (JC kvs k v)) ?_ (fun v w1 h=>by cases v with|none=>exact kk w1 h.1 h.2.1|some _=>exact h.elim)
 unfold Cj
 intro a dst pos after g next Q ha _ hn;obtain ⟨w1,h1,h2,h3,h4⟩:=Lg (P:=P) (k:=k) (v:=v) T ht hkt hm
 have e1:(execOp a.eval ⟨dst,.mapUpdate t x y z,ty,pos,after,g⟩).run P w = .ok .skip w1:=by
  simp only [execOp,ha.ev hx,ha.ev hy,ha.ev hz,Sem.run_bind,h1,Result.andThen,Sem.run_pure]
 unfold Oper.wp
 rw [e1]
 exact hn w1 ⟨h2,h3,h4⟩
theorem OV {t d:Nat} (hd:Nat.blt d n=true) (k : ∀r w1,r=w.heap.size→MapIs w1 r []→Ext w w1→w1.heap.size=r+1→LW P n ops Q rest ((d,.map (some r))::l) w1):LW P n ops Q (⟨some d,.makeMap t none,ty,pos,after,none⟩::rest) l w:=
 AQ Ma hd (fun v w1 ⟨r,h1,h2,h3,h4,h5⟩=>by subst h1;exact k r w1 h2 h3 h4 h5) (fun _ h=>h)
end
def u8Shape:Shape Int where
 sz:=1
 rep:=fun _ _ v cs=>cs=[.int .u8 v]
 len:=fun h=>by rw [h];rfl
 one:=fun h=>by rw [h];rfl
 mono:=fun h _ _=>h
 lt:=fun h=>h
def I9 (j:Nat):List Int:=(List.range j).map fun (i:Nat)=>(8:Int)+(i:Int)
theorem Rb (j:Nat):I9 (j+1)=I9 j++[8+(j:Int)]:=by simp [I9,List.range_succ]
theorem NF (j:Nat):(I9 j).length=j:=by simp [I9]
def OpsR (w:World):Ending→World→Prop:=fun e w'=> ∃b k,e = .returned (.slice (some ⟨b,0,none⟩) 16 k)∧w.heap.size≤b∧b<w'.heap.size∧Row w' ⟨b,0,none⟩ ((I9 16).map (.int .u8 ·))∧Ext w w'
theorem OpsR.ret {w:World} {e:Ending} {w':World} (h:OpsR w e w') : ∃v,e = .returned v:=by
 obtain ⟨_,_,h,-⟩:=h
 exact ⟨_,h⟩
theorem NG (w:World):Calls prog 73 #[] w (OpsR w):=by
 have X:=Ext.refl w;refine Ad (args:=[]) func73 ntmps73 rfl rfl ?_
 focus
  refine cS (C1 Pa (cN (C1 Pa (cT (Am (cS (C1 Pa (cT (AK ?_)))))))));rotate_left
 refine Bn (ι:=Nat×Option Addr×Nat) (fun x=>[(1,.slice x.2.1 (I9 x.1).length x.2.2),(2,.int .u8 (8+(x.1:Int)))])
  (fun x w'=>OwnL u8Shape w' w.heap.size 5 (.slice x.2.1 (I9 x.1).length x.2.2) (I9 x.1)∧Ext w w'∧x.1≤16) (fun x=>16-x.1) (0,none,0) sB ⟨OwnL.nil,X,Nat.zero_le _⟩ ?_
 rintro ⟨j,a,cap⟩ w1 ⟨hown,X,hj⟩;simp only at hown hj;have hsz:=X.size;have hl:=NF j;refine CW.sub (m:=[(1,.slice a (I9 j).length cap),(2,.int .u8 (8+(j:Int)))]) ?_ sB
 by_cases hlt:j<16
 · have hsn:=Rb j
   focus
    refine eK ?_;refine AQ (AM [_] Aa Bj rfl rfl rfl rfl rfl rfl rfl rfl rfl) rfl ?_ (fun _ h=>h);rintro _ p ⟨q,rfl,b,r⟩;have f:=b.blk;have k:=b.ext;have s:=b.pos;have t:=b.size;revert hown X;refine eE k ?_;intro hown X;refine CQ (sh:=u8Shape) (z:=8+(j:Int)) Aa Bj rfl rfl rfl rfl (by kernel_rfl) rfl rfl rfl hown (Blk.row ‹_›) rfl (by omega) (by omega) rfl ?_;rintro u d l n c;have o:=c.size;clear f hown;replace X:=X.fr c (by omega);refine eK ?_;refine C1 (Ed rfl rfl (Tz _ (by omega) (by omega))) (C1 Pa (Aj ?_));rotate_left
   refine AW (j+1,some ⟨_,0,none⟩,_) ?_ ⟨by rw [hsn];assumption,X,by simp only;omega⟩ (by simp only;omega);refine BZ rfl (by rw [hsn]) (BZ rfl ?_ Dq);simp only [Value.int.injEq,true_and]
   omega
 · have:j=16:=by omega
   subst this
   focus
    refine eK ?_;refine Af rfl rfl ?_;rotate_left
   obtain ⟨g,cap',hv,hg,hall⟩:=hown.rows (by decide);simp only [Value.slice.injEq] at hv;obtain ⟨rfl,-,-⟩:=hv
   have hrow:Row w1 ⟨g,0,none⟩ ((I9 16).map (.int .u8 ·)):=fun i v hi=>by
    rw [List.getElem?_map,Option.map_eq_some_iff] at hi;obtain ⟨x,hx,rfl⟩:=hi;obtain ⟨cs,hr,rfl⟩:=hall i x hx;have:=hr.at0 rfl
    have e:(⟨g,0,none⟩:Addr).add i=⟨g,i*u8Shape.sz,none⟩:=by
     have:u8Shape.sz=1:=rfl
     unfold Addr.add;by_cases h0:i=0<;>simp [h0,this]
    rw [e]
    exact this
   exact ⟨g,cap,by rw [NF],hg,hown.lt rfl,hrow,X⟩
def Hz (t:Nd) (σ:PS):Nd×Int×Int:=if σ.err≠0 then (Ge,σ.off,σ.err) else (t,0,0)
def WholeR (w:World) (pb:Nat) (S:Nat→Prop) (r:Nd×Int×Int):Ending→World→Prop:=fun e w'=> ∃a k,e = .returned (.tuple #[r.1.val a k,.int .i64 r.2.1,.int .i64 r.2.2])∧r.1.sits S w' a∧Fr (· = pb) w w'
theorem WholeR.ret {w:World} {pb:Nat} {S:Nat→Prop} {r:Nd×Int×Int} {e:Ending} {w':World} (h:WholeR w pb S r e w') : ∃v,e = .returned v:=by
 obtain ⟨_,_,h,-⟩:=h
 exact ⟨_,h⟩
theorem PU (c:PC) (σ:PS) (t:Nd) (S:Nat→Prop) (a:Option Addr) (k:Nat) (w:World) (hP:PP c σ w) (hz:t.size≤1000000000) (hs:t.sits S w a) (hS : ∀b,S b→b≠c.pb∧b<w.heap.size) :
 Calls prog 46 #[.pointer (some ⟨c.pb,0,none⟩),t.val a k] w (WholeR w c.pb S (Hz t (DB t 0 σ))):=by
 have X:=Fr.refl (· = c.pb) w;have hpb:=hP.pbB;have hB:=hP.B
 by_cases h:(DB t 0 σ).err=0
 · rw [show Hz t (DB t 0 σ)=(t,0,0) from by simp [Hz,h]];refine Ad func46 ntmps46 rfl rfl ?_
   focus
    refine cS (eB [_,_,_,_] ?_);intro b1 w2 h4 x5 p6 z7;revert hP hs X;refine eE x5 ?_;intro hP hs X;refine eA [_,_,_,_] ?_;intro b8 w9 q D O Q;revert h4 hP hs X;refine eE D ?_;intro h4 hP hs X;refine eK ?_;refine Ae [_,_,_,_] Aa rfl rfl rfl h4 rfl rfl rfl (cC rfl (PR _ _ _ _ _ _ _ _ ‹_› (by omega) ‹_›) ?_);rintro _ R ⟨⟨⟩,⟨r,s⟩⟩;revert q h4;refine eZ s ?_;intro T q h4;clear hP;replace hs:=Nd.sits.fr hs s (fun k hk e=>by have:=hS k hk;omega);replace X:=X.fr s (by omega);refine eK ?_;refine A2 Aa rfl rfl rfl (PP.blk r) rfl rfl ?_;refine eK ?_;refine Ae [_,_,_,_] Aa rfl rfl rfl h4 rfl rfl rfl (eS [_,_,_,_] q ?_);intro U E u V;revert r h4;refine eF u ?_;intro r h4;replace hs:=Nd.sits.fr hs u (fun k hk e=>by have:=hS k hk;omega);replace X:=X.fr u (by omega);refine eK ?_;refine Ik rfl Aa rfl rfl rfl E rfl rfl rfl ?_;rotate_left
   exact ⟨_,_,rfl,by assumption,X⟩
 · rw [show Hz t (DB t 0 σ)=(Ge,(DB t 0 σ).off,(DB t 0 σ).err) from by simp [Hz,h]];refine Ad func46 ntmps46 rfl rfl ?_
   focus
    refine cS (eB [_,_,_,_] ?_);intro W Y f F Z aa;revert hP hs X;refine eE F ?_;intro hP hs X;refine eA [_,_,_,_] ?_;intro v ab g y H I;revert f hP hs X;refine eE y ?_;intro f hP hs X;refine eK ?_;refine Ae [_,_,_,_] Aa rfl rfl rfl f rfl rfl rfl (cC rfl (PR _ _ _ _ _ _ _ _ ‹_› (by omega) ‹_›) ?_);rintro _ o ⟨⟨⟩,⟨i,l⟩⟩;revert g f;refine eZ l ?_;intro J g f;clear hP;replace hs:=Nd.sits.fr hs l (fun k hk e=>by have:=hS k hk;omega);replace X:=X.fr l (by omega);refine eK ?_;refine A2 Aa rfl rfl rfl (PP.blk i) rfl rfl ?_;refine eK ?_;refine Ax (fun wz=>Fr (fun x=>x=v) o wz) 11 (.pure 0 (.pure 1 (.pure 2 (.pure 3 (.pure 4 (.pure 5 (.pure 6 (.pure 7 (.pure 8 (.fork 9 (.pure 10 .tail) .none)))))))))) mixed (by kernel_rfl) (Ac (Ac Ak)) ?_;intro z p _;have d:(fun wz=>Fr (fun x=>x=v) o wz) z:=Fr.of_ext p;simp only at d;have j:=i;have C:=g;have G:=f;have K:=hs;revert i g f hs X;refine eY p ?_;intro L i g f hs X;refine ⟨d,?_⟩;refine Tq rfl (AC [_,_,_,_] Aa Bj rfl rfl rfl rfl) (Tq rfl Mv (Tq rfl Pn (Tq rfl Pf (Tq rfl (Al Aa rfl rfl rfl (fun wz hz=>Blk.cell (Blk.fr (PP.blk j) hz (by first|omega|(dsimp only;omega))) rfl)) (Tq rfl Mv (Tq rfl Pn (Tq rfl Pf (Tq rfl (Al Aa rfl rfl rfl (fun wz hz=>Blk.cell (Blk.fr (PP.blk j) hz (by first|omega|(dsimp only;omega))) rfl)) ?_))))))))
    refine Eg [_,_,_,_] [_,_,_,_] rfl Aa rfl rfl rfl rfl rfl rfl g rfl rfl ?_ As;intro M m;have A:=m.blk;have n:=m.fr;have N:=m.size;revert d i f;refine eF n ?_;intro d i f;replace hs:=Nd.sits.fr hs n (fun k hk e=>by have:=hS k hk;omega);replace X:=X.fr n (by omega);refine ⟨d,?_⟩;refine Tq rfl Pa ?_;refine Az rfl ?_;refine eK ?_;refine Ik rfl Aa rfl rfl rfl A rfl rfl rfl ?_;rotate_left
   exact ⟨_,_,rfl,CK,X⟩
theorem Sx (j:Nat) (h:j<16):JC (binMap.take j) (Fh (8+(j:Int))) (.int .u8 (8+(j:Int)))=binMap.take (j+1):=by
 have:j=0∨j=1∨j=2∨j=3∨j=4∨j=5∨j=6∨j=7∨j=8∨j=9∨j=10∨j=11∨j=12∨j=13∨j=14∨j=15:=by omega
 rcases this with rfl|rfl|rfl|rfl|rfl|rfl|rfl|rfl|rfl|rfl|rfl|rfl|rfl|rfl|rfl|rfl<;>rfl
def StartR (s:List UInt8) (w:World):Ending→World→Prop:=fun e w'=> ∃c:PC,e = .returned (.pointer (some ⟨c.pb,0,none⟩))∧(c.ts=(DQ s).1∧c.n=s.length∧w.heap.size≤c.pb)∧PP c (DQ s).2 w'∧Ext w w'∧c.B≤w'.heap.size
theorem StartR.ret {s:List UInt8} {w:World} {e:Ending} {w':World} (h:StartR s w e w') : ∃v,e = .returned v:=by
 obtain ⟨_,h,-⟩:=h
 exact ⟨_,h⟩
theorem Syms.lt {w:World} (h:Syms w):0<w.heap.size:=Ca (h.sym 0 (by omega))
theorem Errs.lt {w:World} (h:Errs w):3<w.heap.size:=by
 obtain ⟨te,pe,h⟩:=h.ex
 exact Ca h
theorem Ud (s:List UInt8) (w:World) (hs:s.length≤1000000) (hS:Syms w) (hE:Errs w):Calls prog 43 #[str s] w (StartR s w):=by
 have X:=Ext.refl w;have G:=hS.lt;have H:=hE.lt;have I:=NE s;refine Ad func43 ntmps43 rfl rfl ?_
 focus
  refine eK ?_;refine eQ rfl (VY _ _ (by omega)) ?_;rintro _ w5 ⟨a1,⟨k2,⟨⟨⟩,⟨h3,x4⟩⟩⟩⟩;revert hS hE X;refine eY x4 ?_;intro z6 hS hE X;refine eK ?_;refine eQ rfl (Uc _ _ _ _ _ (by omega) ‹_› (by intro b h;exact h.2)) ?_;rintro _ o ⟨a7,⟨k8,⟨⟨⟩,⟨h9,p⟩⟩⟩⟩;revert h3 hS hE X;refine eY p ?_;intro J h3 hS hE X;refine C1 Mv (C1 Py (OV rfl ?_));rintro K L rfl c q M;revert h9 h3 hS hE X;refine eY q ?_;intro N h9 h3 hS hE X;refine eK ?_;refine C1 (AC [_,_,_,_,_,_] Aa Bj rfl rfl rfl rfl) (eB [_,_,_,_,_,_] ?_);intro f O g u Q R;revert c h9 h3 hS hE X;refine eE u ?_;intro c h9 h3 hS hE X;refine eK ?_;refine eQ rfl (NG _) ?_;rintro _ v ⟨i,⟨x,⟨⟨⟩,⟨S,⟨T,⟨y,z⟩⟩⟩⟩⟩⟩;revert g c h9 h3 hS hE X;refine eY z ?_;intro U g c h9 h3 hS hE X;refine C1 Pz (C1 Mv (cT (AK ?_)));rotate_left
 generalize hr:o.heap.size=r at *
 refine Bn (ι:=Nat) (fun j=>[(6,.pointer (some ⟨f,0,none⟩)),(24,.slice (some ⟨i,0,none⟩) 16 x),(25,.int .i64 16),(26,.int .i64 j)])
  (fun j w'=>j≤16∧MapIs w' r (binMap.take j)∧Row w' ⟨i,0,none⟩ ((I9 16).map (.int .u8 ·))∧Blk w' f [.slice a7 (DY (GD s).1).length k8,.int .i64 0,.int .i64 s.length,.map (some r),.int .i64 (GD s).2.1,.int .i64 (GD s).2.2] ∧
   Toks (fun b=>w5.heap.size≤b∧b<r) w' (DY (GD s).1) a7∧Syms w'∧Errs w'∧Ext w w'∧v.heap.size≤w'.heap.size) (fun j=>16-j) 0 sB ⟨Nat.zero_le _,c,y,g,h9,hS,hE,X,Nat.le_refl _⟩ ?_
 rintro j w1 ⟨hj,hM,hrow,hb,hT,hS,hE,X,hz⟩
 by_cases hlt:j<16
 · have a:Row w1 ⟨i,0+j*1,none⟩ [.int .u8 (8+(j:Int))]:=by
    have h1:=hrow.sub j 1
    have e:(((I9 16).map (.int .u8 ·)).drop j).take 1=[Value.int .u8 (8+(j:Int))]:=by
     have:j=0∨j=1∨j=2∨j=3∨j=4∨j=5∨j=6∨j=7∨j=8∨j=9∨j=10∨j=11∨j=12∨j=13∨j=14∨j=15:=by omega
     rcases this with rfl|rfl|rfl|rfl|rfl|rfl|rfl|rfl|rfl|rfl|rfl|rfl|rfl|rfl|rfl|rfl<;>rfl
    rw [e] at h1;rw [Nat.mul_one]
    exact h1
   have hset:=Sx j hlt
   focus
    refine eK ?_;refine C1 (G6 a) ?_;refine eK ?_;refine Ax (fun wz=>Ext w1 wz) 7 (.pure 0 (.pure 1 (.pure 2 (.pure 3 (.pure 4 (.pure 6 (.fork 5 .tail .none))))))) mixed (by kernel_rfl) (Ao (Ac (Ac (Ao (Ac Ak))))) ?_;intro A k _;have d:(fun wz=>Ext w1 wz) A:=k;simp only at d;have C:=hM;have n:=hrow;have l:=hb;have D:=hT;have E:=hS;have F:=hE;have B:=a;revert hM hrow hb hT hS hE X a;refine eY k ?_;intro V hM hrow hb hT hS hE X a;refine ⟨d,?_⟩;refine Tq rfl Mv (Tq rfl Pn (Tq rfl Pf (Tq rfl (Db l) (Tq rfl Mv (Tq rfl Mv ?_)))));refine At rfl (Av (by kernel_rfl) rfl (Kb _ _ (by omega) (by omega) ‹_›) (fun _ _ h=>⟨_,h.1⟩)) rfl ?_ (fun _ h=>h) As;rintro _ W ⟨⟨⟩,rfl⟩;refine ⟨d,?_⟩;refine Az rfl (Ra Aa rfl rfl rfl rfl rfl hM ?_);rintro Y Z m;have aa:=m.size;clear hM;revert hrow hb hT hS hE X a;refine eF m ?_;intro hrow hb hT hS hE X a;refine Aj (An (Ai (Ah (C1 V7 (C1 Mv (Aj ?_))))));rotate_left
   refine AW (j+1) sB ⟨by omega,by rw [←hset];assumption,hrow,hb,hT,hS,hE,X,by omega⟩ (by omega)
 · have:j=16:=by omega
   subst this
   focus
    refine eK ?_;refine Af rfl rfl ?_;rotate_left
   have hsz:=X.size;refine ⟨⟨f,w1.heap.size,DY (GD s).1,s.length,a7,k8,r⟩,rfl,⟨rfl,rfl,by simp only;omega⟩,?_,X,Nat.le_refl _⟩;refine ⟨hb,hT.wide (fun b h=>⟨by simp only;omega,by simp only;omega⟩),hM,by simp only;omega,by simp only;omega,by simp only;omega,Nat.le_refl _,Nat.zero_le _,?_,fun t ht=>?_,fun t ht=>(ND s t ht).num,hE,by simp only;omega⟩
   · exact Nat.le_trans (LS s) hs
   · exact Nat.le_trans (ND s t ht).len hs
theorem Ue {c:PC} {s:List UInt8} (h:c.ts=(DQ s).1) (σ:PS):4*mS c.ts σ+20≤GE s:=by
 have h1:=LS s
 have h2:mS c.ts σ≤c.ts.length:=by unfold mS;split<;>omega
 rw [h] at h2
 unfold GE
 rw [h]
 omega
def ParseR (w:World) (r:Nd×Int×Int):Ending→World→Prop:=fun e w'=> ∃a k,e = .returned (.tuple #[r.1.val a k,.int .i64 r.2.1,.int .i64 r.2.2])∧r.1.sits (w.heap.size ≤ ·) w' a∧Ext w w'
theorem ParseR.ret {w:World} {r:Nd×Int×Int} {e:Ending} {w':World} (h:ParseR w r e w') : ∃v,e = .returned v:=by
 obtain ⟨_,_,h,-⟩:=h
 exact ⟨_,h⟩
def ParsePR (w:World) (r:PG×Int×Int):Ending→World→Prop:=fun e w'=> ∃va vc pa pc ma mc,e = .returned (.tuple #[.agg (r.1.cells va vc pa pc ma mc).toArray,.int .i64 r.2.1,.int .i64 r.2.2])∧r.1.sits (w.heap.size ≤ ·) w' va pa ma∧Ext w w'
theorem ParsePR.ret {w:World} {r:PG×Int×Int} {e:Ending} {w':World} (h:ParsePR w r e w') : ∃v,e = .returned v:=by
 obtain ⟨_,_,_,_,_,_,h,-⟩:=h
 exact ⟨_,h⟩
theorem PG.sits.wide {S S':Nat→Prop} {w:World} {g:PG} {va pa ma:Option Addr} (h:g.sits S w va pa ma) (hs : ∀b,S b→S' b):g.sits S' w va pa ma:=⟨h.vars.wide hs,h.procs.wide hs,h.main.wide hs⟩
section
variable {ts:List Tok} {n:Int}
theorem Sy (k:Nat) : ∀acc σ,σ.at_≤ts.length→Le ts σ (C0 ts n k acc σ).2:=by
 induction k with
 | zero=>intro acc σ h;rw [C0];exact Le.refl h
 | succ k ih=>
  intro acc σ h;rw [C0]
  split
  · have l1:=(EP (ts:=ts) (n:=n) k).1 σ h
    have l2:=A3 (n:=n) (t:=[59]) l1.wf (by decide)
    exact (l1.trans l2).trans (ih _ _ l2.wf)
  · exact Le.refl h
theorem OW (k:Nat) : ∀acc σ,σ.at_≤ts.length→Au (C0 ts n k acc σ).1+8*σ.at_≤8*(C0 ts n k acc σ).2.at_+Au acc+(if σ.err=0 then 1 else 0):=by
 induction k with
 | zero=>intro acc σ h;rw [C0];simp only;split<;>omega
 | succ k ih=>
  intro acc σ h;rw [C0]
  split
  · rename_i h0
    have s1:=(Q9 (ts:=ts) (n:=n) k).1 σ h;have l1:=(EP (ts:=ts) (n:=n) k).1 σ h;have l2:=A3 (n:=n) (t:=[59]) l1.wf (by decide);have s3:=ih (acc++[(Cx ts n k σ).1]) _ l2.wf;rw [Fs] at s3;simp only [Au] at s3;have e2:=l2.le
    have e3:(A1 ts n (Cx ts n k σ).2 [59]).err=0→(Cx ts n k σ).2.at_+1≤(A1 ts n (Cx ts n k σ).2 [59]).at_:=fun e=>D5 (n:=n) e
    rw [if_pos h0.1]
    split at s3
    · rename_i e;have:=e3 e;omega
    · omega
  · simp only;split<;>omega
end
theorem Ja (s:List UInt8) (c:PC) (h1:c.ts=(DQ s).1) (h2:c.n=s.length):Ew s=Hz (.mk 57 0 [] (C0 c.ts c.n (GE s) [] (DQ s).2).1) (DB (.mk 57 0 [] (C0 c.ts c.n (GE s) [] (DQ s).2).1) 0 (C0 c.ts c.n (GE s) [] (DQ s).2).2):=by
 unfold Ew Hz
 rw [h1,h2]
theorem Mw (s:List UInt8) (w:World) (hs:s.length≤1000000) (hS:Syms w) (hE:Errs w):Calls prog 18 #[str s] w (ParseR w (Ew s)):=by
 have X:=Ext.refl w;refine Ad func18 ntmps18 rfl rfl ?_
 focus
  refine cS (eA [_,_,_,_] ?_);intro b1 w2 h5 x6 p7 z8;revert hS hE X;refine eE x6 ?_;intro hS hE X;refine eK ?_;refine eQ rfl (Ud s _ hs ‹_› ‹_›) ?_;rintro _ bb ⟨c9,⟨⟨⟩,⟨⟨H,⟨ab,bc⟩⟩,⟨m,⟨ac,bd⟩⟩⟩⟩⟩;revert h5 hS hE X;refine eY ac ?_;intro be h5 hS hE X;refine eK ?_;refine C1 (AC [_,_,_,_] Aa Bj rfl rfl rfl rfl) (AB [_,_,_,_] Bj rfl rfl ?_);intro v bf ad;refine eI [_,_,_,_] ad ?_;intro ae I af bg bh;revert m h5 hS hE X;refine eE af ?_;intro m h5 hS hE X;refine cT (Am (AK ?_));rotate_left
 have hf:=Ue H (DQ s).2;have hat:=m.at_;have hlen:=m.len;have hpb:=m.pbB;have hB:=m.B;rw [Ja s c9 H ab];have hbs:=OW (n:=c9.n) (GE s) [] _ hat;have hbw:=(Sy (n:=c9.n) (GE s) [] _ hat).wf
 have hsz:(Nd.mk 57 0 [] (C0 c9.ts c9.n (GE s) [] (DQ s).2).1).size≤1000000000:=by
  simp only [Nd.size,Au] at hbs ⊢
  split at hbs<;>omega
 have hmt:mS c9.ts (DQ s).2≤c9.ts.length:=by unfold mS;split<;>omega
 clear hbs hbw;refine Bn (ι:=Nat×List Nd×Option Addr×Nat×PS) (fun _=>[(2,.pointer (some ⟨b1,0,none⟩)),(3,.int .i64 0),(4,.int .i64 0),(5,.pointer (some ⟨c9.pb,0,none⟩)),(6,.pointer (some ⟨v,0,none⟩))])
  (fun x w'=>PP c9 x.2.2.2.2 w'∧Blk w' v [.int .u8 57,.int .i64 0,str [],.slice x.2.2.1 x.2.1.length x.2.2.2.1]∧OwnL ndShape w' (v+1) 26 (.slice x.2.2.1 x.2.1.length x.2.2.2.1) x.2.1 ∧
   Blk w' b1 [.int .u8 0,.int .i64 0,.string ⟨#[]⟩,.slice none 0 0]∧Ext w w'∧ae.heap.size≤w'.heap.size ∧
   C0 c9.ts c9.n (GE s) [] (DQ s).2=C0 c9.ts c9.n x.1 x.2.1 x.2.2.2.2∧(x.2.2.2.2.err=0→4*mS c9.ts x.2.2.2.2+7≤x.1)∧1≤x.1∧(x.2.2.2.2.err=0→x.2.1.length+mS c9.ts x.2.2.2.2≤1000001)) (fun x=>x.1) (GE s,[],none,0,(DQ s).2) sB
  ⟨m,I,OwnL.nil,h5,X,Nat.le_refl _,rfl,fun _=>by simp only;omega,by simp only;omega,fun _=>by simp only [List.length_nil];omega⟩ ?_
 rintro ⟨j,acc,a,cap,σ'⟩ w1 ⟨hP,hbn,hown,hbr,X,hz,he,hfj,ag,hacc⟩;simp only at hP hbn hown he hfj ag hacc;clear m I h5 hS hE;rw [he] at hsz ⊢;obtain ⟨j,rfl⟩ : ∃i,j=i+1:=⟨j-1,by omega⟩
 have hob : ∀g,(Value.slice a acc.length cap).ownBlock=some g→g<w1.heap.size:=fun g h=>hown.lt h
 by_cases hc:σ'.err=0∧σ'.at_<c9.ts.length
 case neg=>
  rw [show C0 c9.ts c9.n (j+1) acc σ'=(acc,σ') from by rw [C0];simp [hc]] at hsz ⊢;have hst:(Nd.mk 57 0 [] acc).sits (fun b=>w.heap.size≤b∧b≠c9.pb∧b≠b1∧b<w1.heap.size) w1 a:=Nd.sits.wide (EN _ _ (GZ (hown.sits (S:=(v < ·)) (fun b h=>h)))) (fun b h=>⟨by omega,by omega,by omega,h.2⟩)
  by_cases h0:σ'.err=0
  · have h1 : ¬ σ'.at_<c9.ts.length:=fun h=>hc ⟨h0,h⟩
    focus
     refine eK ?_;refine Ax (fun wz=>Ext w1 wz) 15 (.pure 0 (.pure 1 (.pure 2 (.pure 3 (.pure 4 (.pure 5 (.pure 6 (.pure 7 (.pure 8 (.pure 9 (.pure 10 (.pure 11 (.pure 12 (.pure 13 (.pure 14 .tail))))))))))))))) mixed (by kernel_rfl) (Ac (Ac (Ac (Ao (Ac Ak))))) ?_;intro ah J _;have y:(fun wz=>Ext w1 wz) ah:=J;simp only at y;have c:=hP;have k:=hbn;have l:=hown;have o:=hbr;have F:=hst;revert hP hbn hown hbr X hst;refine eY J ?_;intro bi hP hbn hown hbr X hst;refine ⟨y,?_⟩;refine Tq rfl Mv (Tq rfl Pn (Tq rfl Pf (Tq rfl (Al Aa rfl rfl rfl (fun wz hz=>Blk.cell (Blk.ext (PP.blk c) hz) rfl)) (Tq rfl V1 (Tq rfl Mv (Bb rfl rfl rfl rfl (B0 ‹_›) (Ap rfl) rfl (Bb rfl rfl rfl rfl (B0 ‹_›) (A6 rfl) rfl (Bb rfl rfl rfl rfl (B0 ‹_›) (Aq Aa rfl rfl rfl) rfl (Bb rfl rfl rfl rfl (B0 ‹_›) (Al Aa rfl rfl rfl (fun wz hz=>Blk.cell (Blk.ext (PP.blk c) hz) rfl)) rfl (Bb rfl rfl rfl rfl (B0 ‹_›) (Ap rfl) rfl (Bb rfl rfl rfl rfl (B0 ‹_›) (A6 rfl) rfl ?_)))))))))));refine Bb rfl rfl rfl rfl (B0 ‹_›) (AR Aa rfl rfl rfl) rfl (Bb rfl rfl rfl rfl (B0 ‹_›) (Al Aa rfl rfl rfl (fun wz hz=>Blk.cell (Blk.ext (PP.blk c) hz) rfl)) rfl (Bb rfl rfl rfl rfl (B0 ‹_›) (AS Aa rfl rfl) rfl ?_))
     refine Az rfl ?_;refine eK ?_;refine Ae [_,_,_,_] Aa rfl rfl rfl hbn rfl rfl rfl (eQ rfl (PU _ _ (.mk 57 0 [] acc) _ _ _ _ ‹_› hsz ‹_› (by intro b h;exact ⟨by omega,by omega⟩)) ?_);rintro _ bj ⟨bk,⟨bl,⟨⟨⟩,⟨K,L⟩⟩⟩⟩;have al:=L.size;clear hP;revert hbn hown hbr X hst;refine eF L ?_;intro hbn hown hbr X hst;refine eK ?_;refine eS [_,_,_,_] hbr ?_;intro am M N an;clear hbr;revert K hbn hown X hst;refine eF N ?_;intro K hbn hown X hst;refine eK ?_;refine Ik rfl Aa rfl rfl rfl M rfl rfl rfl ?_;rotate_left
    exact ⟨_,_,rfl,Nd.sits.wide ‹_› (fun b h=>by omega),X⟩
  · focus
     refine eK ?_;refine Ax (fun wz=>Ext w1 wz) 15 (.pure 0 (.pure 1 (.pure 2 (.pure 3 (.pure 4 (.pure 5 (.pure 6 (.pure 7 (.pure 8 (.pure 9 (.pure 10 (.pure 11 (.pure 12 (.pure 13 (.pure 14 .tail))))))))))))))) mixed (by kernel_rfl) (Ac (Ac (Ac (Ao (Ac Ak))))) ?_;intro ai O _;have z:(fun wz=>Ext w1 wz) ai:=O;simp only at z;have c:=hP;have k:=hbn;have l:=hown;have o:=hbr;have F:=hst;revert hP hbn hown hbr X hst;refine eY O ?_;intro bm hP hbn hown hbr X hst;refine ⟨z,?_⟩;refine Tq rfl Mv (Tq rfl Pn (Tq rfl Pf (Tq rfl (Al Aa rfl rfl rfl (fun wz hz=>Blk.cell (Blk.ext (PP.blk c) hz) rfl)) (Tq rfl V1 (Tq rfl Mv (BC rfl rfl rfl rfl (Gw ‹_›) rfl (BC rfl rfl rfl rfl (Gw ‹_›) rfl (BC rfl rfl rfl rfl (Gw ‹_›) rfl (BC rfl rfl rfl rfl (Gw ‹_›) rfl (BC rfl rfl rfl rfl (Gw ‹_›) rfl (BC rfl rfl rfl rfl (Gw ‹_›) rfl ?_)))))))))));refine BC rfl rfl rfl rfl (Gw ‹_›) rfl (BC rfl rfl rfl rfl (Gw ‹_›) rfl (BC rfl rfl rfl rfl (Gw ‹_›) rfl ?_));refine Az rfl ?_;refine eK ?_;refine Ae [_,_,_,_] Aa rfl rfl rfl hbn rfl rfl rfl (eQ rfl (PU _ _ (.mk 57 0 [] acc) _ _ _ _ ‹_› hsz ‹_› (by intro b h;exact ⟨by omega,by omega⟩)) ?_)
     rintro _ bn ⟨bo,⟨bp,⟨⟨⟩,⟨Q,R⟩⟩⟩⟩;have ao:=R.size;clear hP;revert hbn hown hbr X hst;refine eF R ?_;intro hbn hown hbr X hst;refine eK ?_;refine eS [_,_,_,_] hbr ?_;intro ap T U aq;clear hbr;revert Q hbn hown X hst;refine eF U ?_;intro Q hbn hown X hst;refine eK ?_;refine Ik rfl Aa rfl rfl rfl T rfl rfl rfl ?_;rotate_left
    exact ⟨_,_,rfl,Nd.sits.wide ‹_› (fun b h=>by omega),X⟩
 rw [show C0 c9.ts c9.n (j+1) acc σ'=C0 c9.ts c9.n j (acc++[(Cx c9.ts c9.n j σ').1]) (A1 c9.ts c9.n (Cx c9.ts c9.n j σ').2 [59]) from by rw [C0];simp [hc]] at hsz ⊢;obtain ⟨h0,h1⟩:=hc;have l1:=(EP (ts:=c9.ts) (n:=c9.n) j).1 σ' hP.at_;have l2:=A3 (n:=c9.n) (t:=[59]) l1.wf (by decide);have hlt:Lt σ' (A1 c9.ts c9.n (Cx c9.ts c9.n j σ').2 [59]):=Lt.of_le l1 D5;have hdrop:=PQ (l1.trans l2) hlt;have aj:=hacc h0;have ar:=hfj h0
 focus
  refine eK ?_;refine Ax (fun wz=>Ext w1 wz) 15 (.pure 0 (.pure 1 (.pure 2 (.pure 3 (.pure 4 (.pure 5 (.pure 6 (.pure 7 (.pure 8 (.pure 9 (.pure 10 (.pure 11 (.pure 12 (.pure 13 (.pure 14 .tail))))))))))))))) mixed (by kernel_rfl) (Ac (Ac (Ac (Ao (Ac Ak))))) ?_;intro G V _;have A:(fun wz=>Ext w1 wz) G:=V;simp only at A;have c:=hP;have k:=hbn;have l:=hown;have o:=hbr;revert hP hbn hown hbr X;refine eY V ?_;intro bq hP hbn hown hbr X;refine ⟨A,?_⟩;refine Tq rfl Mv (Tq rfl Pn (Tq rfl Pf (Tq rfl (Al Aa rfl rfl rfl (fun wz hz=>Blk.cell (Blk.ext (PP.blk c) hz) rfl)) (Tq rfl V1 (Tq rfl Mv (Bb rfl rfl rfl rfl (B0 ‹_›) (Ap rfl) rfl (Bb rfl rfl rfl rfl (B0 ‹_›) (A6 rfl) rfl (Bb rfl rfl rfl rfl (B0 ‹_›) (Aq Aa rfl rfl rfl) rfl (Bb rfl rfl rfl rfl (B0 ‹_›) (Al Aa rfl rfl rfl (fun wz hz=>Blk.cell (Blk.ext (PP.blk c) hz) rfl)) rfl (Bb rfl rfl rfl rfl (B0 ‹_›) (Ap rfl) rfl (Bb rfl rfl rfl rfl (B0 ‹_›) (A6 rfl) rfl ?_)))))))))));refine Bb rfl rfl rfl rfl (B0 ‹_›) (AR Aa rfl rfl rfl) rfl (Bb rfl rfl rfl rfl (B0 ‹_›) (Al Aa rfl rfl rfl (fun wz hz=>Blk.cell (Blk.ext (PP.blk c) hz) rfl)) rfl (Bb rfl rfl rfl rfl (B0 ‹_›) (AS Aa rfl rfl) rfl ?_))
  refine Az rfl ?_;refine eK ?_;refine Ax (fun wz=>Fr (· = c9.pb) G wz) 5 (.pure 0 (.pure 1 (.pure 2 (.fork 3 (.fork 4 .tail .none) .none)))) mixed (by kernel_rfl) (Ac (Ao (Ac (Ao (Ac Ak))))) ?_;intro ak W _;have d:(fun wz=>Fr (· = c9.pb) G wz) ak:=Fr.of_ext W;simp only at d;have c:=hP;have k:=hbn;have l:=hown;have o:=hbr;revert hP hbn hown hbr X;refine eY W ?_;intro br hP hbn hown hbr X;refine ⟨d,?_⟩;refine Tq rfl Pf (Tq rfl (Al Aa rfl rfl rfl (fun wz hz=>Blk.cell (Blk.fr k hz (by omega)) rfl)) (Tq rfl Mv ?_));refine At rfl (Av (by kernel_rfl) rfl ((Ua c9 j).stmt _ _ ‹_› (by omega)) (fun _ _ h=>h.ret)) rfl ?_ (fun _ h=>h) As;rintro _ au ⟨bs,⟨av,⟨⟨⟩,⟨C,⟨f,r⟩⟩⟩⟩⟩;have aw:=r.size;replace d:=d.fr r (by omega);clear hP;revert hbn hown hbr X;refine eF r ?_;intro hbn hown hbr X;refine ⟨d,?_⟩;refine At rfl (AM [_,_,_,_] Aa Bj rfl rfl rfl rfl rfl rfl rfl rfl rfl) rfl ?_ (fun _ h=>h) As;rintro _ ax ⟨ay,rfl,p,az⟩;have a0:=p.blk;have Y:=p.ext;have a1:=p.pos;have a2:=p.size;revert C f d hbn hown hbr X;refine eE Y ?_;intro C f d hbn hown hbr X
  refine ⟨d,?_⟩;refine Az rfl (CQ (sh:=ndShape) Aa Bj rfl rfl rfl rfl (by kernel_rfl) rfl rfl rfl hown (Blk.row ‹_›) ⟨_,_,rfl,Nd.sits.wide ‹_› (fun b h=>⟨by omega,fun e=>by have:=hob _ e;omega⟩)⟩ (by omega) (by omega) rfl ?_);rintro a3 Z a4 q u;have a5:=u.size;revert f hbn;refine eF u ?_;intro f hbn;clear hown;revert hbr X;refine eF u ?_;intro hbr X;refine C1 Pf (eV [_] [_,_,_,_] hbn ?_);intro a6 D aa a7;clear hbn;revert q f hbr X;refine eF aa ?_;intro q f hbr X;refine eK ?_;refine cC rfl (CE _ _ _ _ ‹_› (by decide)) ?_;rintro _ a8 ⟨⟨⟩,⟨a9,E⟩⟩;revert D q;refine eZ E ?_;intro ba D q;revert hbr X;refine eF E ?_;intro hbr X;refine Aj (An ?_);rotate_left
 refine AW (j,acc++[(Cx c9.ts c9.n j σ').1],some ⟨_,0,none⟩,_,A1 c9.ts c9.n (Cx c9.ts c9.n j σ').2 [59]) sB ⟨by assumption,by assumption,by assumption,by assumption,X,by omega,rfl,fun e=>by have:=hdrop e;simp only;omega,by simp only;omega,fun e=>?_⟩ (by simp);have:=hdrop e;simp only [List.length_append,List.length_cons,List.length_nil]
 omega
theorem FZ {P:Program} {n:Nat} {l:Sl} {tab:Tab} {sz:Nat} {w:World} {fn:Func} {R:Ending→World→Prop} {ct cty b s:Nat} {sk:Sk} {vs:List Value} {v3:Value} (h:fn.results = #[.cell ct cty,.tmp s]) (T:TabOk P tab) (ht:AL tab cty=some (sk,sz)) (hs:sk.agg=true) (hv:look l ct=some (.pointer (some ⟨b,0,none⟩))) (hb:Blk w b vs) (hl:vs.length=sz)
 (hz:look l s=some v3) (hR:R (.returned (.tuple #[.agg vs.toArray,v3])) w):QW n (bodyPost P fn R) .ret l w:=by
 unfold QW
 intro a ha;refine ⟨ha.defers,.tuple #[.agg vs.toArray,v3],?_,hR⟩
 have e:(loadVar cty ⟨b,0,none⟩).run P w = .ok (.agg vs.toArray) w:=by
  simp only [Sem.run_bind,Sem.run_pure,Result.andThen,loadVar,Dl (T _ _ _ ht),hs,if_true,Ci (T _ _ _ ht)];rw [←hl,CC hb.row]
 have hv':=ha.has ct _ hv;have hz':=ha.has s _ hz;simp only [Array.getD_eq_getD_getElem?] at hv' hz'
 simp [results,h,hv',hz',e,asAddr]
theorem NH {t:Nd} (hwf:t.wf) {b:Bool} (h:t.isStmt=b) (S:Nat→Prop) (a:Option Addr) (c:Nat) (w:World) (hs:t.sits S w a):Calls prog 47 #[t.val a c] w fun e w'=>e = .returned (.bool b)∧Ext w w':=by
 have:=Ng S t hwf a c w hs
 rw [h] at this;exact this
theorem Kv {t:Nd} (hwf:t.wf) {b:Bool} (h:t.isBlock=b) (S:Nat→Prop) (a:Option Addr) (c:Nat) (w:World) (hs:t.sits S w a):Calls prog 48 #[t.val a c] w fun e w'=>e = .returned (.bool b)∧Ext w w':=by
 have:=LF S t hwf a c w hs
 rw [h] at this;exact this
def StmtR (u:Nd) (w:World):Ending→World→Prop:=fun e w'=> ∃a c,e = .returned (.tuple #[u.val a c,.int .i64 0])∧u.sits (fun b=>w.heap.size≤b∧b<w'.heap.size) w' a∧Ext w w'
theorem StmtR.ret {u:Nd} {w:World} {e:Ending} {w':World} (h:StmtR u w e w') : ∃v,e = .returned v:=by
 obtain ⟨_,_,h,-⟩:=h
 exact ⟨_,h⟩
theorem IB (q:Bool) (t:Nd) (hz:t.size≤1000000) (hv:t.isStmt=true∨t.isBlock=true) (S:Nat→Prop) (a:Option Addr) (c:Nat) (w:World) (hs:t.sits S w a):Calls prog 39 #[t.val a c,.bool q] w (CopyR (t.inv q) w):=Sh q (t.size+1) t S a c w (by omega) hz hv hs
theorem Uf {t:Nd} (hwf:t.wf) (hz:t.size≤1000000) (hv:t.isStmt=true∨t.isBlock=true) (S:Nat→Prop) (a:Option Addr) (c:Nat) (w:World) (hs:t.sits S w a):Calls prog 19 #[t.val a c] w (StmtR (t.inv false) w):=by
 have X:=Ext.refl w;replace hs:=BP _ _ hs;have HI:=Lib.hid (IB false t hz hv)
 by_cases h:t.isStmt=true
 · have HS:=Lib.hid (NH hwf h);clear hwf hv h;refine Ad func19 ntmps19 rfl rfl ?_
   focus
    refine cS (eB [_,_,_,_] ?_);intro b1 w2 h4 x5 p6 z7;revert X hs;refine eE x5 ?_;intro X hs;refine eA [_,_,_,_] ?_;intro b8 w9 f o J K;revert h4 X hs;refine eE o ?_;intro h4 X hs;refine eK ?_;refine Ae [_,_,_,_] Aa rfl rfl rfl h4 rfl rfl rfl (cC rfl (HS.out _ _ _ _ ‹_›) ?_);rintro _ L ⟨⟨⟩,p⟩;revert f h4 X hs;refine eY p ?_;intro M f h4 X hs;refine eK ?_;refine C1 (Bh rfl rfl rfl) ?_;refine eK ?_;refine Ae [_,_,_,_] Aa rfl rfl rfl h4 rfl rfl rfl (eQ rfl (HI.out _ _ _ _ ‹_›) ?_);rintro _ N ⟨O,⟨Q,⟨⟨⟩,⟨i,q⟩⟩⟩⟩;revert f h4 X hs;refine eY q ?_;intro R f h4 X hs;refine eS [_,_,_,_] f ?_;intro T r s U;revert i h4 X hs;refine eF s ?_;intro i h4 X hs;refine C1 Pa (cT (B6 ?_));rotate_left
   refine FZ rfl Aa rfl rfl rfl r rfl rfl ?_
   exact ⟨_,_,rfl,Nd.sits.wide ‹_› (fun b h=>by omega),X⟩
 · have HS:=Lib.hid (NH hwf (show t.isStmt=false by simpa using h));have HB:=Lib.hid (Kv hwf (hv.resolve_left h));clear hwf hv h;refine Ad func19 ntmps19 rfl rfl ?_
   focus
    refine cS (eB [_,_,_,_] ?_);intro V W d u Y Z;revert X hs;refine eE u ?_;intro X hs;refine eA [_,_,_,_] ?_;intro aa ab e j v x;revert d X hs;refine eE j ?_;intro d X hs;refine eK ?_;refine Ae [_,_,_,_] Aa rfl rfl rfl d rfl rfl rfl (cC rfl (HS.out _ _ _ _ ‹_›) ?_);rintro _ y ⟨⟨⟩,k⟩;revert e d X hs;refine eY k ?_;intro z e d X hs;refine eK ?_;refine Ae [_,_,_,_] Aa rfl rfl rfl d rfl rfl rfl (BR rfl rfl rfl (rfl) (cC rfl (HB.out _ _ _ _ ‹_›) ?_));rintro _ A ⟨⟨⟩,l⟩;revert e d X hs;refine eY l ?_;intro B e d X hs;refine eK ?_;refine C1 (A0 rfl rfl rfl) ?_;refine eK ?_;refine Ae [_,_,_,_] Aa rfl rfl rfl d rfl rfl rfl (eQ rfl (HI.out _ _ _ _ ‹_›) ?_);rintro _ C ⟨D,⟨E,⟨⟨⟩,⟨g,m⟩⟩⟩⟩;revert e d X hs;refine eY m ?_;intro F e d X hs;refine eS [_,_,_,_] e ?_;intro G H n I;revert g d X hs;refine eF n ?_;intro g d X hs;refine C1 Pa (cT (B6 ?_));rotate_left
   refine FZ rfl Aa rfl rfl rfl ‹_› rfl rfl ?_
   exact ⟨_,_,rfl,Nd.sits.wide ‹_› (fun b h=>by omega),X⟩
theorem NI (t:Nd) (hz:t.size≤1000000) (u:Nd) (S S':Nat→Prop) (a a':Option Addr) (c c':Nat) (w:World) (hs:t.sits S w a) (hs':u.sits S' w a'):Calls prog 20 #[t.val a c,u.val a' c'] w fun e w'=>e = .returned (.bool (t.eqb u))∧Ext w w':=
 TO (t.size+1) t u S S' a a' c c' w (by omega) (by omega) hs hs'
theorem PV {t:Nd} (hwf:t.wf) (hz:t.size≤1000000) (hb:t.isBlock=true) (S:Nat→Prop) (a:Option Addr) (c:Nat) (w:World) (hs:t.sits S w a):Calls prog 21 #[t.val a c] w fun e w'=>e = .returned (.bool (t.eqb (t.inv false)))∧Ext w w':=by
 have X:=Ext.refl w;replace hs:=BP _ _ hs;have HI:=Lib.hid (IB false t hz (Or.inr hb));have HB:=Lib.hid (Kv hwf hb);have HE:=Lib.hid (NI t hz);clear hwf hb;refine Ad func21 ntmps21 rfl rfl ?_
 focus
  refine cS (eB [_,_,_,_] ?_);intro b1 w2 h4 x5 p6 z7;revert X hs;refine eE x5 ?_;intro X hs;refine eK ?_;refine Ax (fun wz=>Ext w2 wz) 6 (.pure 0 (.fork 1 (.pure 2 (.pure 3 (.pure 4 (.fork 5 .tail .none)))) .none)) mixed (by kernel_rfl) (Ac Ak) ?_;intro w8 x9 _;have b:(fun wz=>Ext w2 wz) w8:=x9;simp only at b;have d:=h4;have k:=hs;revert h4 X hs;refine eY x9 ?_;intro l h4 X hs;refine ⟨b,?_⟩;refine Tq rfl (Aw [_,_,_,_] Aa rfl rfl rfl (fun wz hz=>(Blk.ext d hz)) rfl rfl) ?_;refine At rfl (Av (by kernel_rfl) rfl (HB.out _ _ _ _ ‹_›) (fun _ _ h=>⟨_,h.1⟩)) rfl ?_ (fun _ h=>h) As;rintro _ m ⟨⟨⟩,g⟩;revert b h4 X hs;refine eY g ?_;intro n b h4 X hs;refine ⟨b,?_⟩;refine Tq rfl Mv (Bb rfl rfl rfl rfl (rfl) (Aw [_,_,_,_] Aa rfl rfl rfl (fun wz hz=>(Blk.ext d hz)) rfl rfl) rfl (Bb rfl rfl rfl rfl (rfl) (Aw [_,_,_,_] Aa rfl rfl rfl (fun wz hz=>(Blk.ext d hz)) rfl rfl) rfl ?_));refine Fe rfl rfl rfl rfl (rfl) (Av (by kernel_rfl) rfl (HI.out _ _ _ _ ‹_›) (fun _ _ h=>h.ret)) rfl ?_ (fun _ h=>h) As;rintro _ o ⟨p,⟨q,⟨⟨⟩,⟨f,i⟩⟩⟩⟩;revert b h4 X hs;refine eY i ?_;intro r b h4 X hs;refine ⟨b,?_⟩;refine Az rfl (BR rfl rfl rfl (rfl) (cC rfl (HE.out _ _ _ _ _ _ _ _ ‹_› ‹_›) ?_))
  rintro _ s ⟨⟨⟩,j⟩;revert f h4 X hs;refine eY j ?_;intro u f h4 X hs;refine C1 (A0 rfl rfl rfl) ?_;refine eK ?_;refine Af rfl rfl ?_;rotate_left
 exact ⟨rfl,X⟩
def Sz:VD:=⟨[],0,0⟩
theorem OX {l:List VD} {j:Nat} (h:j<l.length) (s:List UInt8):D0 (l.take (j+1)) s=if l[j].name=s then some l[j] else D0 (l.take j) s:=by
 unfold D0
 rw [List.take_succ_eq_append_getElem h,List.reverse_append,List.reverse_singleton,List.singleton_append,List.find?_cons]
 by_cases hn:l[j].name=s
 · simp [hn]
 · simp [hn]
theorem VDs.get {S:Nat→Prop} {w:World} {l:List VD} {a:Option Addr} (h:VDs S w l a) (hl:l≠[]) : ∃b o,a=some ⟨b,o,none⟩∧S b ∧ ∀i v,l[i]? = some v→Row w ⟨b,o+i*3,none⟩ v.cells:=by
 rcases h with h|⟨b,o,h1,h2,h3⟩
 · exact absurd h hl
 · exact ⟨b,o,h1,h2,fun i v hi=>h3 i v hi⟩
theorem VDs.ltV {S:Nat→Prop} {w:World} {l:List VD} {a:Option Addr} (h:VDs S w l a):VDs (· < w.heap.size) w l a:=h.lt2.wide fun _ h=>h.2
theorem Mx (l:List VD) (hl:l.length≤1000000) (s:List UInt8) (S:Nat→Prop) (a:Option Addr) (c:Nat) (w:World) (hs:VDs S w l a) :
 Calls prog 54 #[.slice a l.length c,str s] w fun e w'=>e = .returned (.tuple #[((D0 l s).getD Sz).val,.bool (D0 l s).isSome])∧Ext w w':=by
 have X:=Ext.refl w;replace hs:=hs.ltV;refine Ad func54 ntmps54 rfl rfl ?_
 focus
  refine cS (eA [_,_,_] ?_);intro b1 w2 h5 x6 p7 z8;revert X hs;refine eE x6 ?_;intro X hs;refine eK ?_;refine C1 (Bs rfl rfl (IntWalk.i64_in _ (by omega))) (C1 Pa (cT ?_));rotate_left
 refine AK ?_;refine Bn (ι:=Nat) (fun j=>[(0,.slice a l.length c),(1,str s),(4,.pointer (some ⟨b1,0,none⟩)),(6,.int .i64 ((j:Int)-1))])
  (fun j w'=>j≤l.length∧VDs (· < w.heap.size) w' l a∧Blk w' b1 [.string ⟨#[]⟩,.int .u8 0,.int .i64 0]∧Ext w w'∧D0 l s=D0 (l.take j) s)
  (fun j=>j) l.length sB ⟨Nat.le_refl _,hs,h5,X,by rw [List.take_length]⟩ ?_
 clear hs h5 X;rintro j w1 ⟨hj,hs,hb,X,hf⟩
 cases j with
 | zero=>
  have e0:D0 l s=none:=by rw [hf];rfl
  rw [e0]
  focus
   refine eK ?_;refine C1 (AC [_,_,_] Aa Bj rfl rfl rfl rfl) (eS [_,_,_] hb ?_);intro h i b k;clear hb;revert hs X;refine eF b ?_;intro hs X;refine C1 Pa (cT (B6 ?_));rotate_left
  refine FZ rfl Aa rfl rfl rfl ‹_› rfl rfl ?_
  exact ⟨rfl,X⟩
 | succ j=>
  have hlt:j<l.length:=by omega
  obtain ⟨kb,ko,rfl,kS,hget⟩:=hs.get (by intro e;subst e;simp at hlt);have r0:=hget j l[j] (List.getElem?_eq_getElem hlt);have hn:=OX hlt s;rw [hn] at hf;clear hget hn
  generalize l[j]=v at *
  have d:(((j+1:Nat):Int)-1)=(j:Int):=by omega
  obtain ⟨vn,vk,vl⟩:=v;replace r0:Row w1 ⟨kb,ko+j*3,none⟩ [str vn,.int .u8 vk,.int .i64 vl]:=r0;dsimp only at hf;rw [d]
  focus
   refine eK ?_;refine C1 (G6 r0) ?_;refine eK ?_;refine AO rfl (fun f=>?_) (fun f=>?_);refine eK ?_;refine C1 (Gb r0) (eS [_,_,_] hb ?_);intro m n g o;clear hb;revert X hs r0;refine eF g ?_;intro X hs r0;refine C1 Pa (cT (B6 (Bc (AI (AI (Bc (AI ?_)))))));rotate_left;refine eK ?_;refine C1 (Bs rfl rfl (IntWalk.i64_in _ (by omega))) (C1 Pa (Aj ?_));rotate_left
  · refine FZ rfl Aa rfl rfl rfl ‹_› rfl rfl ?_;rw [if_pos ‹_›] at hf;rw [hf]
    exact ⟨rfl,X⟩
  · rw [if_neg ‹_›] at hf
    exact AW j sB ⟨by omega,hs,hb,X,hf⟩ (by omega)
def LeX {α β:Type} (f g:α→Except Int β):Prop:= ∀a,f a≠.error (-1)→g a=f a
theorem LeX.refl {α β:Type} (f:α→Except Int β):LeX f f:=fun _ _=>rfl
theorem LeX.trans {α β:Type} {f g h:α→Except Int β} (h1:LeX f g) (h2:LeX g h):LeX f h:=fun a ha=>by
 have e:=h1 a ha;rw [h2 a (by rw [e];exact ha),e]
theorem LeX.bind {α β γ:Type} {f f':α→Except Int β} {k k':β→Except Int γ} (h:LeX f f') (hk:LeX k k'):LeX (fun a=>(f a).bind k) (fun a=>(f' a).bind k'):=fun a ha=>by
 cases e:f a with
 | error x=>
  have ha':f a≠.error (-1):=fun h'=>by
   apply ha
   simp only [h',Except.bind]
  simp only [h a ha',e,Except.bind]
 | ok v=>
  have ha':f a≠.error (-1):=by rw [e];simp
  simp only [e,Except.bind] at ha;simp only [h a ha',e,Except.bind]
  exact hk v ha
theorem LeX.row {f g:Nd→Rn→Except Int Rn} : ∀(l:List Nd),(∀t∈l,LeX (f t) (g t))→LeX (FU f l) (FU g l)
 | [],_=>LeX.refl _
 | t::l,h=>LeX.bind (f:=f t) (h t (by simp)) (LeX.row l (fun x hx=>h x (by simp [hx])))
theorem LeX.loop {b1 b2 b1' b2':Rn→Except Int Rn} {test entry:Nd} (h1:LeX b1 b1') (h2:LeX b2 b2') : ∀(m m':Nat),m≤m'→LeX (C3 b1 b2 test entry m) (C3 b1' b2' test entry m')
 | 0,_,_=>fun a h=>absurd rfl h
 | m+1,0,h=>by omega
 | m+1,m'+1,h=>by
  refine LeX.bind (f:=b1) h1 (LeX.bind (f:=B8 test) (LeX.refl _) fun p hp=>?_)
  cases hq:p.1
  · simp only [hq,Bool.false_eq_true,if_false] at hp ⊢
    exact LeX.bind (f:=fun p:Bool×Rn=>b2 p.2) (f':=fun p:Bool×Rn=>b2' p.2) (fun p hp=>h2 p.2 hp) (LeX.bind (f:=BK entry false) (LeX.refl _) (LeX.loop h1 h2 m m' (by omega))) p hp
  · simp only [if_true]
theorem LeX.block {f g:Bool→Nd→Rn→Except Int Rn} (h : ∀b t,LeX (f b t) (g b t)) (b:Bool) (t:Nd):LeX (AT f b t) (AT g b t):=by
 unfold AT
 exact LeX.row _ (fun x _=>h b x)
theorem NJ (ps:List PD) : ∀(d:Nat) (b:Bool) (t:Nd),LeX (AF ps d b t) (AF ps (d+1) b t)
 | 0,b,t=>fun r h=>absurd (by simp [AF]) h
 | d+1,b,.mk k n s l=>by
  have IH:=NJ ps d
  have HB : ∀b t,LeX (AT (AF ps d) b t) (AT (AF ps (d+1)) b t):=fun b t=>LeX.block IH b t
  intro r
  conv=>lhs;unfold AF
  conv=>rhs;lhs;unfold AF
  conv=>rhs;rhs;unfold AF
  revert r
  by_cases c1:k=52
  · simp only [if_pos c1]
    refine LeX.bind (f:=B8 _) (LeX.refl _) fun p=>?_
    exact LeX.bind (f:=fun p:Bool×Rn=>AT (AF ps d) b (if p.1=true then BW l 1 else BW l 2) p.2) (f':=fun p:Bool×Rn=>AT (AF ps (d+1)) b (if p.1=true then BW l 1 else BW l 2) p.2) (fun p hp=>HB b _ p.2 hp) (LeX.refl (BK _ p.1)) p
  simp only [if_neg c1]
  by_cases c2:k=53
  · simp only [if_pos c2]
    exact LeX.bind (f:=BK _ true) (LeX.refl _) (LeX.loop (HB b _) (HB b _) d (d+1) (by omega))
  simp only [if_neg c2]
  by_cases c3:k=54
  · simp only [if_pos c3]
    refine LeX.bind (f:=Bu) (LeX.refl _) fun r=>?_
    refine LeX.bind (f:=fun r=>Cc _ r) (f':=fun r=>Cc _ r) (LeX.refl _) (fun v=>?_) r;refine LeX.bind (f:=fun v=>C9 (·.opens ⟨s,1,0⟩ v) r) (f':=fun v=>C9 (·.opens ⟨s,1,0⟩ v) r) (LeX.refl _) ?_ v
    exact LeX.bind (HB b _) (LeX.refl _)
  simp only [if_neg c3]
  by_cases c4:k=55
  · simp only [if_pos c4]
    exact LeX.bind (f:=Bu) (LeX.refl _) (LeX.bind (f:=C9 (·.opens ⟨s,3,0⟩ 0)) (LeX.refl _) (LeX.bind (HB b _) (LeX.refl _)))
  simp only [if_neg c4]
  by_cases c5:k=50∨k=51
  · simp only [if_pos c5]
    exact LeX.bind (f:=Bu) (LeX.refl _) (LeX.bind (f:=C9 _) (LeX.refl _) (LeX.bind (HB _ _) (LeX.refl _)))
  · simp only [if_neg c5]
    exact fun _ _=>trivial
theorem Jb (ps:List PD) (b:Bool) (t:Nd) {d d':Nat} (h:d≤d'):LeX (AF ps d b t) (AF ps d' b t):=by
 induction h with
 | refl=>exact LeX.refl _
 | step _ ih=>exact ih.trans (NJ ps _ b t)
theorem LeX.blockN {ps:List PD} {d d':Nat} (h:d≤d') (b:Bool) (t:Nd):LeX (AT (AF ps d) b t) (AT (AF ps d') b t):=LeX.block (fun b t=>Jb ps b t h) b t
def Dec (f:Rn→Except Int Rn):Prop:= ∀r r',f r = .ok r'→r'.rem≤r.rem
theorem BU {α β:Type} {x:Except Int α} {k:α→Except Int β} {v:β} (h:x.bind k = .ok v) : ∃a,x = .ok a∧k a = .ok v:=by
 cases x with
 | error e=>simp [Except.bind] at h
 | ok a=>exact ⟨a,rfl,h⟩
theorem EI {r r':Rn} (h:Bu r = .ok r'):0<r.rem∧r'=⟨r.st,r.rem-1⟩:=by
 unfold Bu at h
 split at h
 · cases h
 · cases h
   exact ⟨by omega,rfl⟩
theorem Hj {f:Stp→Int×Stp} {r r':Rn} (h:C9 f r = .ok r'):(f r.st).1=0∧r'=⟨(f r.st).2,r.rem⟩:=by
 unfold C9 at h
 split at h
 · cases h
 · cases h
   exact ⟨by omega,rfl⟩
theorem SA {t:Nd} {r:Rn} {v:Int} (h:Cc t r = .ok v):Bd r.st.look t=(v,0):=by
 unfold Cc at h
 split at h
 · cases h
 · cases h
   rename_i h
   exact Prod.ext rfl (by omega)
theorem GM {t:Nd} {r:Rn} {p:Bool×Rn} (h:B8 t r = .ok p):0<r.rem∧p.2=⟨r.st,r.rem-1⟩ ∧ ∃v,Bd r.st.look t=(v,0)∧p.1=decide (v≠0):=by
 obtain ⟨r1,h1,h⟩:=BU h;obtain ⟨v,h2,h⟩:=BU h
 cases h
 obtain ⟨h3,rfl⟩:=EI h1
 exact ⟨h3,rfl,v,SA h2,rfl⟩
theorem F0 {t:Nd} {q:Bool} {r r':Rn} (h:BK t q r = .ok r'):0<r.rem∧r'=⟨r.st,r.rem-1⟩ ∧ ∃v,Bd r.st.look t=(v,0)∧q=decide (v≠0):=by
 obtain ⟨p,h1,h⟩:=BU h;obtain ⟨h2,h3,v,h4,h5⟩:=GM h1
 split at h
 · cases h
 · cases h
   rename_i hq
   exact ⟨h2,h3,v,h4,by rw [←h5];simpa using (Decidable.not_not.1 hq).symm⟩
theorem Dec.row {f:Nd→Rn→Except Int Rn} : ∀(l:List Nd),(∀t,Dec (f t))→Dec (FU f l)
 | [],_,r,r',h=>by cases h;exact Nat.le_refl _
 | t::l,hf,r,r',h=>by
  obtain ⟨a,h1,h2⟩:=BU h;have:=hf t r a h1;have:=Dec.row l hf a r' h2
  omega
theorem Dec.block {f:Bool→Nd→Rn→Except Int Rn} (hf : ∀b t,Dec (f b t)) (b:Bool) (t:Nd):Dec (AT f b t):=Dec.row _ (hf b)
theorem Dec.loop {b1 b2:Rn→Except Int Rn} {test entry:Nd} (h1:Dec b1) (h2:Dec b2) : ∀m,Dec (C3 b1 b2 test entry m)
 | 0,r,r',h=>by cases h
 | m+1,r,r',h=>by
  obtain ⟨a,k1,h⟩:=BU h;obtain ⟨p,k2,h⟩:=BU h;have e1:=h1 r a k1;obtain ⟨e2,e3,-⟩:=GM k2
  split at h
  · cases h
    rw [e3];simp only
    omega
  · obtain ⟨c,k3,h⟩:=BU h
    obtain ⟨e,k4,h⟩:=BU h;have e4:=h2 _ _ k3;obtain ⟨e5,e6,-⟩:=F0 k4;have e7:=Dec.loop h1 h2 m _ _ h;rw [e3] at e4;rw [e6] at e7;simp only at e4 e7
    omega
theorem GN (ps:List PD) : ∀(d:Nat) (b:Bool) (t:Nd),Dec (AF ps d b t)
 | 0,b,t,r,r',h=>by simp [AF] at h
 | d+1,b,.mk k n s l,r,r',h=>by
  have HB : ∀b t,Dec (AT (AF ps d) b t):=Dec.block (GN ps d)
  unfold AF at h
  by_cases c1:k=52
  · simp only [if_pos c1] at h
    obtain ⟨p,k1,h⟩:=BU h;obtain ⟨c,k2,h⟩:=BU h;obtain ⟨e1,e2,-⟩:=GM k1;have e3:=HB _ _ _ _ k2;obtain ⟨e4,e5,-⟩:=F0 h;rw [e2] at e3;rw [e5];simp only at e3 ⊢
    omega
  simp only [if_neg c1] at h
  by_cases c2:k=53
  · simp only [if_pos c2] at h
    obtain ⟨c,k2,h⟩:=BU h;obtain ⟨e4,e5,-⟩:=F0 k2;have e6:=Dec.loop (HB b _) (HB b _) d _ _ h;rw [e5] at e6;simp only at e6
    omega
  simp only [if_neg c2] at h
  by_cases c3:k=54
  · simp only [if_pos c3] at h
    obtain ⟨a1,k1,h⟩:=BU h;obtain ⟨a2,k2,h⟩:=BU h;obtain ⟨a3,k3,h⟩:=BU h;obtain ⟨a4,k4,h⟩:=BU h;obtain ⟨a5,k5,h⟩:=BU h;obtain ⟨a6,k6,h⟩:=BU h;obtain ⟨e1,rfl⟩:=EI k1;obtain ⟨-,rfl⟩:=Hj k3;have e3:=HB _ _ _ _ k4;obtain ⟨e4,rfl⟩:=EI k5;obtain ⟨-,rfl⟩:=Hj h;simp only at e3 ⊢
    omega
  simp only [if_neg c3] at h
  by_cases c4:k=55
  · simp only [if_pos c4] at h
    obtain ⟨a1,k1,h⟩:=BU h;obtain ⟨a3,k3,h⟩:=BU h;obtain ⟨a4,k4,h⟩:=BU h;obtain ⟨a5,k5,h⟩:=BU h;obtain ⟨e1,rfl⟩:=EI k1;obtain ⟨-,rfl⟩:=Hj k3;have e3:=HB _ _ _ _ k4;obtain ⟨e4,rfl⟩:=EI k5;obtain ⟨-,rfl⟩:=Hj h;simp only at e3 ⊢
    omega
  simp only [if_neg c4] at h
  by_cases c5:k=50∨k=51
  · simp only [if_pos c5] at h
    obtain ⟨a1,k1,h⟩:=BU h;obtain ⟨a3,k3,h⟩:=BU h;obtain ⟨a4,k4,h⟩:=BU h;obtain ⟨a5,k5,h⟩:=BU h;obtain ⟨e1,rfl⟩:=EI k1;obtain ⟨-,rfl⟩:=Hj k3;have e3:=HB _ _ _ _ k4;obtain ⟨e4,rfl⟩:=EI k5;obtain ⟨-,rfl⟩:=Hj h;simp only at e3 ⊢
    omega
  · simp only [if_neg c5] at h
    obtain ⟨a1,k1,h⟩:=BU h;obtain ⟨e1,rfl⟩:=EI k1;obtain ⟨-,rfl⟩:=Hj h;simp only
    omega
theorem SB (k x y:Int):0≤(Gc k x y).2:=by
 have h : ∀(c:Prop) [Decidable c] (a b:Int×Int),0≤a.2→0≤b.2→0≤(if c then a else b).2:=fun c _ a b h1 h2=>by split<;>assumption
 unfold Gc R2
 repeat' (first|apply h|exact Int.le_refl _|decide)
theorem SC (k x:Int):0≤(Gd k x).2:=by
 unfold Gd
 repeat' split
 all_goals simp
theorem UY (at_:List UInt8→Option (List Int)) : ∀(N:Nat) (t:Nd),t.size<N→0≤(Bd at_ t).2
 | 0,_,h=>by omega
 | N+1,.mk k n s l,h=>by
  have IH : ∀x∈l,0≤(Bd at_ x).2:=fun x hx=>by
   have:=EZ hx;simp only [Nd.size] at h
   exact UY at_ N x (by omega)
  unfold Bd
  by_cases c1:k=1
  · simp [c1]
  rw [if_neg c1]
  by_cases c2:k=2
  · rw [if_pos c2]
    split
    · simp
    · split<;>simp
  rw [if_neg c2]
  by_cases c3:k=3
  · rw [if_pos c3]
    split
    · simp
    · split
      · have:=IH _ (List.mem_singleton.2 rfl)
        split
        · exact this
        · split<;>simp
      · simp
  rw [if_neg c3]
  by_cases c4:k=4
  · rw [if_pos c4]
    split
    · simp
    · split<;>simp
  rw [if_neg c4]
  by_cases c5:k=5
  · rw [if_pos c5]
    split<;>simp
  rw [if_neg c5]
  split
  · have:=IH _ (List.mem_singleton.2 rfl)
    split
    · exact this
    · exact SC _ _
  · rename_i x y
    have h1:=IH x (by simp);have h2:=IH y (by simp)
    split
    · exact h1
    · split
      · exact h2
      · exact SB _ _ _
  · simp
theorem OY (at_:List UInt8→Option (List Int)) (t:Nd):0≤(Bd at_ t).2:=UY at_ _ t (Nat.lt_succ_self _)
theorem NK (at_:List UInt8→Option (List Int)) (t:Nd):0≤(BA at_ t).2:=by
 unfold BA
 split
 · simp
 · split
   · exact OY _ _
   · simp
theorem Vo (v:List VD) (s:List UInt8) (k:Int):0≤Ff v s k:=by
 unfold Ff
 split
 · simp
 · split<;>simp
mutual
theorem SD (v:List VD) : ∀t:Nd,0≤t.bad v
 | .mk k n s l=>by
  unfold Nd.bad
  split
  · exact Vo _ _ _
  · exact LT v l
theorem LT (v:List VD) : ∀l:List Nd,0≤EU v l
 | []=>by simp [EU]
 | t::r=>by
  unfold EU
  split
  · exact SD v t
  · exact LT v r
end
theorem Ug (st:Stp) (k:Int) (s:List UInt8) (l:List Nd):0≤(st.exec k s l).1:=by
 unfold Stp.exec
 simp only;have h1:=NK st.look (l.getD 0 (.mk 0 0 [] []))
 have h2:0≤(if k=43 then BA st.look (l.getD 1 (.mk 0 0 [] [])) else if 40≤k∧k≤42 then Bd st.look (l.getD 1 (.mk 0 0 [] [])) else (0,0)).2:=by
  split
  · exact NK _ _
  · split
    · exact OY _ _
    · simp
 generalize (if k=43 then BA st.look (l.getD 1 (.mk 0 0 [] [])) else if 40≤k∧k≤42 then Bd st.look (l.getD 1 (.mk 0 0 [] [])) else (0,0))=r at *
 generalize BA st.look (l.getD 0 (.mk 0 0 [] []))=a at *
 split
 · exact h1
 split
 · exact h2
 unfold Stp.move Stp.transfer
 repeat' split
 all_goals simp
theorem Uh (st:Stp) (k n:Int) (s:List UInt8) (l:List Nd):0≤(st.run1 k n s l).1:=by
 unfold Stp.run1
 split
 · simp
 split
 · exact SD _ _
 · exact Ug _ _ _ _
theorem NL (st:Stp) (v:VD) (x:Int):0≤(st.opens v x).1:=by unfold Stp.opens;split<;>simp
theorem LU (st:Stp) (s:List UInt8) (x:Int):0≤(st.closes s x).1:=by
 unfold Stp.closes
 simp only
 repeat' split
 all_goals simp
theorem NM (f:Frm) : ∀(ps:List VD) (qs:List (List UInt8)),0≤(DP f ps qs).1
 | [],_=>by simp [DP]
 | _::_,[]=>by simp [DP]
 | v::r,s::q=>by
  unfold DP
  split
  · simp
  · split
    · simp
    · exact NM f r q
theorem Rc (st:Stp) (ps:List VD) (qs:List (List UInt8)):0≤(st.enters ps qs).1:=by
 unfold Stp.enters
 split
 · simp
 split
 · exact NM _ _ _
 · split<;>simp
theorem Rd (st:Stp):0≤(st.leaves).1:=by unfold Stp.leaves;split<;>simp
def Fine {α β:Type} (f:α→Except Int β):Prop:= ∀a,f a≠.error (-1)
theorem D7:Fine Bu:=fun r=>by unfold Bu;split<;>simp
theorem Gt {f:Stp→Int×Stp} (h : ∀st,0≤(f st).1):Fine (C9 f):=fun r=>by
 unfold C9
 have:=h r.st
 split
 · simp only [ne_eq,Except.error.injEq];omega
 · simp
theorem H0 (t:Nd):Fine (Cc t):=fun r=>by
 unfold Cc
 have:=OY r.st.look t
 split
 · simp only [ne_eq,Except.error.injEq];omega
 · simp
theorem Fine.bind {α β γ:Type} {f:α→Except Int β} {k:β→Except Int γ} (h:Fine f) (hk:Fine k):Fine (fun a=>(f a).bind k):=fun a=>by
 cases e:f a with
 | error x=>have:=h a;rw [e] at this;simpa [Except.bind,e] using this
 | ok v=>simpa [Except.bind,e] using hk v
theorem H4 (t:Nd):Fine (B8 t):=fun r=>by
 unfold B8
 exact Fine.bind D7 (fun r=>Fine.bind (H0 t) (fun v=>by simp) r) r
theorem GO (t:Nd) (q:Bool):Fine (BK t q):=Fine.bind (H4 t) (fun p=>by split<;>simp)
theorem DM {α β:Type} {x:Except Int α} {k:α→Except Int β} (h:x≠.error (-1)) (hk : ∀v,x = .ok v→k v≠.error (-1)):x.bind k≠.error (-1):=by
 cases x with
 | error e=>simpa [Except.bind] using h
 | ok v=>simpa [Except.bind] using hk v rfl
theorem LV {F:Nat→Nd→Rn→Except Int Rn} (hle : ∀d d' t,d≤d'→LeX (F d t) (F d' t)) (hdec : ∀d t,Dec (F d t)) (m:Nat) : ∀(l:List Nd),(∀t∈l,∀r,r.rem≤m → ∃d,F d t r≠.error (-1)) → ∀r:Rn,r.rem≤m → ∃d,FU (F d) l r≠.error (-1)
 | [],_,r,_=>⟨0,by simp [FU]⟩
 | t::l,h,r,hr=>by
  obtain ⟨d1,h1⟩:=h t (by simp) r hr
  cases e:F d1 t r with
  | error x=>
   refine ⟨d1,?_⟩;simp only [FU,e,Except.bind];rw [e] at h1
   simpa using h1
  | ok r1=>
   obtain ⟨d2,h2⟩:=LV hle hdec m l (fun x hx=>h x (by simp [hx])) r1 (by have:=hdec _ _ _ _ e;omega);refine ⟨max d1 d2,?_⟩;simp only [FU];rw [hle d1 (max d1 d2) t (by omega) r h1,e];simp only [Except.bind];rw [LeX.row l (fun x _=>hle d2 (max d1 d2) x (by omega)) r1 h2]
   exact h2
theorem Jw {F:Nat→Bool→Nd→Rn→Except Int Rn} (hle : ∀d d' b t,d≤d'→LeX (F d b t) (F d' b t)) (hdec : ∀d b t,Dec (F d b t)) (m:Nat) (b:Bool) (t:Nd) (h : ∀x∈t.kids,∀r,r.rem≤m → ∃d,F d b x r≠.error (-1)) (r:Rn) (hr:r.rem≤m) : ∃d,AT (F d) b t r≠.error (-1):=by
 unfold AT
 exact LV (F:=fun d=>F d b) (fun d d' t h=>hle d d' b t h) (fun d t=>hdec d b t) m _ (fun x hx=>h x (by split at hx<;>simpa using hx)) r hr
theorem Kw {B1 B2:Nat→Rn→Except Int Rn} {test entry:Nd} (hl1 : ∀d d',d≤d'→LeX (B1 d) (B1 d')) (hl2 : ∀d d',d≤d'→LeX (B2 d) (B2 d')) (hd1 : ∀d,Dec (B1 d)) (hd2 : ∀d,Dec (B2 d)) (m:Nat)
 (h1 : ∀r,r.rem≤m → ∃d,B1 d r≠.error (-1)) (h2 : ∀r,r.rem≤m → ∃d,B2 d r≠.error (-1)) : ∀(q:Nat) (r:Rn),r.rem≤q→r.rem≤m → ∃d,C3 (B1 d) (B2 d) test entry d r≠.error (-1)
 | q,r,hq,hr=>by
  obtain ⟨d1,k1⟩:=h1 r hr
  have key : ∀d,d1≤d→B1 d r=B1 d1 r:=fun d h=>hl1 d1 d h r k1
  cases e1:B1 d1 r with
  | error x=>
   refine ⟨d1+1,?_⟩;rw [e1] at k1;simp only [C3,key (d1+1) (by omega),e1,Except.bind]
   simpa using k1
  | ok a=>
   have s1:=hd1 _ _ _ e1
   cases e2:B8 test a with
   | error x=>
    refine ⟨d1+1,?_⟩;have:=H4 test a;rw [e2] at this;simp only [C3,key (d1+1) (by omega),e1,e2,Except.bind]
    simpa using this
   | ok p=>
    obtain ⟨s2,s3,-⟩:=GM e2
    have s4:p.2.rem<r.rem:=by rw [s3];simp only;omega
    cases hp:p.1 with
    | true=>
     refine ⟨d1+1,?_⟩;simp only [C3,key (d1+1) (by omega),e1,e2,Except.bind,hp,if_true]
     simp
    | false=>
     obtain ⟨d2,k2⟩:=h2 p.2 (by omega)
     have b : ∀d,d2≤d→B2 d p.2=B2 d2 p.2:=fun d h=>hl2 d2 d h _ k2
     cases e3:B2 d2 p.2 with
     | error x=>
      refine ⟨max d1 d2+1,?_⟩;rw [e3] at k2;simp only [C3,key (max d1 d2+1) (by omega),e1,e2,Except.bind,hp,b (max d1 d2+1) (by omega),e3]
      simpa using k2
     | ok c=>
      have s5:=hd2 _ _ _ e3
      cases e4:BK entry false c with
      | error x=>
       refine ⟨max d1 d2+1,?_⟩;have:=GO entry false c;rw [e4] at this;simp only [C3,key (max d1 d2+1) (by omega),e1,e2,Except.bind,hp,b (max d1 d2+1) (by omega),e3,e4]
       simpa using this
      | ok g=>
       obtain ⟨s6,s7,-⟩:=F0 e4
       have s8:g.rem<r.rem:=by rw [s7];simp only;omega
       match q,hq with
       | 0,hq=>omega
       | q+1,hq=>
        obtain ⟨d3,k3⟩:=Kw hl1 hl2 hd1 hd2 m h1 h2 q g (by omega) (by omega);refine ⟨max (max d1 d2) d3+1,?_⟩;simp only [C3,key (max (max d1 d2) d3+1) (by omega),e1,e2,Except.bind,hp,b (max (max d1 d2) d3+1) (by omega),e3,e4];have:=LeX.loop (test:=test) (entry:=entry) (hl1 d3 (max (max d1 d2) d3+1) (by omega)) (hl2 d3 (max (max d1 d2) d3+1) (by omega)) d3 (max (max d1 d2) d3) (by omega) g k3;simp only [Bool.false_eq_true,if_false];rw [this]
        exact k3
theorem DN {α:Type} {x:Except Int α} {K:Nat→α→Except Int Rn} (hx:x≠.error (-1)) (hk : ∀v,x = .ok v → ∃d,K d v≠.error (-1)) : ∃d,x.bind (K d)≠.error (-1):=by
 cases x with
 | error e=>exact ⟨0,by simpa [Except.bind] using hx⟩
 | ok v=>exact hk v rfl
theorem OZ (ps:List PD) : ∀(m:Nat) (b:Bool) (t:Nd) (r:Rn),r.rem≤m → ∃d,AF ps d b t r≠.error (-1):=by
 intro m
 induction m with
 | zero=>
  intro b t r h;refine ⟨1,?_⟩;obtain ⟨k,n,s,l⟩:=t
  have e:Bu r = .error 18:=by unfold Bu;rw [if_pos (by omega)]
  unfold AF
  simp only [B8,BK,e,Except.bind]
  repeat' split
  all_goals simp
 | succ m IH=>
  intro b t r h;obtain ⟨k,n,s,l⟩:=t
  have HB : ∀(b:Bool) (t:Nd) (r:Rn),r.rem≤m → ∃d,AT (AF ps d) b t r≠.error (-1):=fun b t r hr=>
   Jw (F:=fun d=>AF ps d) (fun d d' b t h=>Jb ps b t h) (fun d b t=>GN ps d b t) m b t (fun x _ r hr=>IH b x r hr) r hr
  have hst : ∀r1,Bu r = .ok r1→r1.rem≤m:=fun r1 h1=>by
   obtain ⟨-,rfl⟩:=EI h1;simp only
   omega
  by_cases c1:k=52
  · obtain ⟨d,hd⟩:=DN (K:=fun d (p:Bool×Rn)=>(AT (AF ps d) b (if p.1 then BW l 1 else BW l 2) p.2).bind (BK (if b then BW l 0 else BW l (l.length-1)) p.1)) (H4 (if b then BW l (l.length-1) else BW l 0) r) (fun p hp=>by
     obtain ⟨-,h2,-⟩:=GM hp;obtain ⟨d,hd⟩:=HB b (if p.1 then BW l 1 else BW l 2) p.2 (by rw [h2];simp only;omega)
     exact ⟨d,DM hd (fun v _=>GO _ _ v)⟩)
    exact ⟨d+1,by simp only [AF,if_pos c1];exact hd⟩
  by_cases c2:k=53
  · obtain ⟨d,hd⟩:=DN (K:=fun d (p:Rn)=>C3 (AT (AF ps d) b (BW l 1)) (AT (AF ps d) b (BW l 2)) (if b then BW l 0 else BW l (l.length-1)) (if b then BW l (l.length-1) else BW l 0) d p) (GO (if b then BW l (l.length-1) else BW l 0) true r) (fun p hp=>by
     obtain ⟨-,h2,-⟩:=F0 hp
     exact Kw (B1:=fun d=>AT (AF ps d) b (BW l 1)) (B2:=fun d=>AT (AF ps d) b (BW l 2)) (fun d d' h=>LeX.blockN h b _) (fun d d' h=>LeX.blockN h b _) (fun d=>Dec.block (GN ps d) b _) (fun d=>Dec.block (GN ps d) b _) m (fun r hr=>HB b _ r hr) (fun r hr=>HB b _ r hr) p.rem p (Nat.le_refl _) (by rw [h2];simp only;omega))
    exact ⟨d+1,by simp only [AF,if_neg c1,if_pos c2];exact hd⟩
  by_cases c3:k=54
  · obtain ⟨d,hd⟩:=DN (K:=fun d (r:Rn)=>(Cc (if b then BW l (l.length-1) else BW l 0) r).bind fun v=>(C9 (·.opens ⟨s,1,0⟩ v) r).bind fun r=>(AT (AF ps d) b (BW l 1) r).bind fun r=>
     (Bu r).bind fun r=>(Cc (if b then BW l 0 else BW l (l.length-1)) r).bind fun v=>C9 (·.closes s v) r) (D7 r) (fun r1 h1=>by
     have hm:=hst r1 h1
     refine DN (K:=fun d v=>(C9 (·.opens ⟨s,1,0⟩ v) r1).bind fun r=>(AT (AF ps d) b (BW l 1) r).bind fun r=>
      (Bu r).bind fun r=>(Cc (if b then BW l 0 else BW l (l.length-1)) r).bind fun v=>C9 (·.closes s v) r) (H0 _ r1) (fun v _=>?_)
     refine DN (K:=fun d r=>(AT (AF ps d) b (BW l 1) r).bind fun r=>(Bu r).bind fun r=>(Cc (if b then BW l 0 else BW l (l.length-1)) r).bind fun v=>C9 (·.closes s v) r) (Gt (fun st=>NL st _ _) r1) (fun r2 h2=>?_);obtain ⟨-,rfl⟩:=Hj h2;obtain ⟨d,hd⟩:=HB b (BW l 1) ⟨(r1.st.opens ⟨s,1,0⟩ v).2,r1.rem⟩ hm
     exact ⟨d,DM hd (fun v _=>DM (D7 v) (fun u _=>DM (H0 _ u) (fun x _=>Gt (fun st=>LU st _ _) u)))⟩)
    exact ⟨d+1,by simp only [AF,if_neg c1,if_neg c2,if_pos c3];exact hd⟩
  by_cases c4:k=55
  · obtain ⟨d,hd⟩:=DN (K:=fun d (r:Rn)=>(C9 (·.opens ⟨s,3,0⟩ 0) r).bind fun r=>(AT (AF ps d) b (BW l 0) r).bind fun r=>(Bu r).bind (C9 (·.closes s 0))) (D7 r) (fun r1 h1=>by
     have hm:=hst r1 h1;refine DN (K:=fun d r=>(AT (AF ps d) b (BW l 0) r).bind fun r=>(Bu r).bind (C9 (·.closes s 0))) (Gt (fun st=>NL st _ _) r1) (fun r2 h2=>?_);obtain ⟨-,rfl⟩:=Hj h2;obtain ⟨d,hd⟩:=HB b (BW l 0) ⟨(r1.st.opens ⟨s,3,0⟩ 0).2,r1.rem⟩ hm
     exact ⟨d,DM hd (fun v _=>DM (D7 v) (fun u _=>Gt (fun st=>LU st _ _) u))⟩)
    exact ⟨d+1,by simp only [AF,if_neg c1,if_neg c2,if_neg c3,if_pos c4];exact hd⟩
  by_cases c5:k=50∨k=51
  · obtain ⟨d,hd⟩:=DN (K:=fun d (r:Rn)=>(C9 (·.enters (ps.getD ((B9 ps s).getD 0) ⟨[],[],.mk 0 0 [] []⟩).params (l.map Nd.name)) r).bind fun r=>(AT (AF ps d) (b != decide (k=51)) (ps.getD ((B9 ps s).getD 0) ⟨[],[],.mk 0 0 [] []⟩).body r).bind fun r=>(Bu r).bind (C9 (·.leaves))) (D7 r) (fun r1 h1=>by
     have hm:=hst r1 h1;refine DN (K:=fun d r=>(AT (AF ps d) (b != decide (k=51)) (ps.getD ((B9 ps s).getD 0) ⟨[],[],.mk 0 0 [] []⟩).body r).bind fun r=>(Bu r).bind (C9 (·.leaves))) (Gt (fun st=>Rc st _ _) r1) (fun r2 h2=>?_);obtain ⟨-,rfl⟩:=Hj h2;obtain ⟨d,hd⟩:=HB (b != decide (k=51)) (ps.getD ((B9 ps s).getD 0) ⟨[],[],.mk 0 0 [] []⟩).body ⟨(r1.st.enters (ps.getD ((B9 ps s).getD 0) ⟨[],[],.mk 0 0 [] []⟩).params (l.map Nd.name)).2,r1.rem⟩ hm
     exact ⟨d,DM hd (fun v _=>DM (D7 v) (fun u _=>Gt Rd u))⟩)
    exact ⟨d+1,by simp only [AF,if_neg c1,if_neg c2,if_neg c3,if_neg c4,if_pos c5];exact hd⟩
  · refine ⟨1,?_⟩
    simp only [AF,if_neg c1,if_neg c2,if_neg c3,if_neg c4,if_neg c5]
    exact DM (D7 r) (fun u _=>Gt (fun st=>Uh st _ _ _ _) u)
def cellOk (x:Int×Int) (xs:List Int):Prop:=(x.1=1∧xs.length=1)∨(x.1=2∧(xs.length:Int)=x.2∧xs.length≤1000000)∨(x.1=3∧xs.length≤1000)
theorem cellOk.le {x:Int×Int} {xs:List Int} (h:cellOk x xs):xs.length≤1000000:=by
 rcases h with ⟨-,h⟩|⟨-,h⟩|⟨-,h⟩<;>omega
structure FrmWF (K:List (Int×Int)) (f:Frm):Prop where
 len:f.vars.length=f.cells.length
 loc:f.locals≤f.vars.length
 kind : ∀(i:Nat) (v:VD) (c:Nat),f.vars[i]? = some v→f.cells[i]? = some c→K[c]? = some (v.kind,v.len)
structure Stp.WF (K:List (Int×Int)) (m:Nat) (st:Stp):Prop where
 len:st.heap.length=K.length
 base:FrmWF K st.base
 calls : ∀f∈st.calls,FrmWF K f
 cell : ∀(c:Nat) (x:Int×Int),K[c]? = some x→cellOk x (st.items c)
 nc:st.calls.length≤100
 vb : ∀f∈st.base::st.calls,f.vars.length≤m
theorem FM {α:Type} {l:List α} {x:α} (h:x∈l.dropLast):x∈l:=(List.dropLast_sublist l).subset h
theorem My (st:Stp):st.cur∈st.base::st.calls:=by
 unfold Stp.cur
 rcases List.eq_nil_or_concat st.calls with hc|⟨l,f,hc⟩<;>rw [hc]<;>simp
theorem FrmWF.lt {K:List (Int×Int)} {f:Frm} (h:FrmWF K f) {c:Nat} (hc:c∈f.cells):c<K.length:=by
 obtain ⟨i,hi,rfl⟩:=List.getElem_of_mem hc;have:=h.kind i _ _ (List.getElem?_eq_getElem (by rw [h.len];exact hi)) (List.getElem?_eq_getElem hi)
 rcases Nat.lt_or_ge f.cells[i] K.length with h'|h'
 · exact h'
 · rw [List.getElem?_eq_none h'] at this;cases this
section
variable {K:List (Int×Int)} {m:Nat} {st:Stp}
theorem Stp.WF.all' (h:st.WF K m) : ∀f∈st.base::st.calls,FrmWF K f:=fun f hf=>by
 rcases List.mem_cons.1 hf with rfl|hf
 · exact h.base
 · exact h.calls f hf
theorem Stp.WF.cur (h:st.WF K m):FrmWF K st.cur:=h.all' _ (My st)
theorem Stp.WF.curm (h:st.WF K m):st.cur.vars.length≤m:=h.vb _ (My st)
theorem F4 {s:List UInt8} : ∀ {l:List VD} {i:Nat},CJ s l=some i→i<l.length
 | [],i,h=>by cases h
 | v::r,i,h=>by
  unfold CJ at h
  split at h
  · rename_i j hj
    cases h
    have:=F4 hj;simp only [List.length_cons]
    omega
  · split at h
    · cases h;simp
    · cases h
theorem Kx (s:List UInt8) : ∀l:List VD,D0 l s=(CJ s l).bind (l[·]?)
 | []=>rfl
 | v::r=>by
  have ih:=Kx s r
  unfold D0 at ih ⊢
  unfold CJ
  rw [List.reverse_cons,List.find?_append,ih]
  cases h:CJ s r with
  | none=>by_cases hn:v.name=s<;>simp [hn]
  | some i=>simp [List.getElem?_eq_getElem (F4 h)]
theorem Fu {s:List UInt8} : ∀ {l:List VD} {i:Nat},CJ s l=some i → ∃v,l[i]? = some v∧v.name=s
 | [],i,h=>by cases h
 | v::r,i,h=>by
  unfold CJ at h
  split at h
  · rename_i j hj
    cases h
    obtain ⟨x,h1,h2⟩:=Fu hj
    exact ⟨x,by simpa using h1,h2⟩
  · split at h
    · rename_i hn
      cases h
      exact ⟨v,rfl,hn⟩
    · cases h
theorem Vp {v:List VD} {s:List UInt8} {k:Int} (h:Ff v s k=0) : ∃i x,CJ s v=some i∧v[i]? = some x∧x.kind=k:=by
 unfold Ff at h
 rw [Kx] at h
 cases e:CJ s v with
 | none=>rw [e] at h;simp at h
 | some i=>
  rw [e] at h;obtain ⟨x,hx,-⟩:=Fu e;simp only [Option.bind_some,hx] at h;refine ⟨i,x,rfl,hx,?_⟩
  split at h
  · assumption
  · cases h
theorem Stp.WF.use (h:st.WF K m) {s:List UInt8} {k:Int} (hu:Ff st.cur.vars s k=0) : ∃i c x,CJ s st.cur.vars=some i∧st.cur.cells[i]? = some c∧st.cellD s=c∧st.look s=some (st.items c)∧c<st.heap.length∧K[c]? = some x∧x.1=k∧cellOk x (st.items c):=by
 obtain ⟨i,x,h1,h2,h3⟩:=Vp hu;have hi:=F4 h1;have hc:=h.cur
 have a:i<st.cur.cells.length:=by rw [←hc.len];exact hi
 have h4:=List.getElem?_eq_getElem a;have h5:=hc.kind i x _ h2 h4
 have h6:st.cur.cell s=some st.cur.cells[i]:=by unfold Frm.cell;rw [h1];simp [h2]
 refine ⟨i,st.cur.cells[i],(x.kind,x.len),h1,h4,?_,?_,?_,h5,h3,h.cell _ _ h5⟩
 · unfold Stp.cellD;rw [h6];rfl
 · unfold Stp.look;rw [h6];rfl
 · rw [h.len];exact hc.lt (List.getElem_mem a)
theorem Stp.WF.look_le (h:st.WF K m) {s:List UInt8} {xs:List Int} (hl:st.look s=some xs):xs.length≤1000000:=by
 unfold Stp.look at hl
 cases e:st.cur.cell s with
 | none=>rw [e] at hl;cases hl
 | some c=>
  rw [e] at hl
  cases hl
  unfold Frm.cell at e
  cases e1:CJ s st.cur.vars with
  | none=>rw [e1] at e;cases e
  | some i=>
   rw [e1] at e;simp only [Option.bind_some] at e;obtain ⟨x,hx,-⟩:=Fu e1
   exact (h.cell _ _ (h.cur.kind i x c hx e)).le
theorem Stp.WF.same {st':Stp} (h:st.WF K m) (h1:st'.heap.length=st.heap.length) (h2:st'.base=st.base) (h3:st'.calls=st.calls) (h4 : ∀c x,K[c]? = some x→cellOk x (st'.items c)):st'.WF K m:=
 ⟨h1.trans h.len,h2▸h.base,h3▸h.calls,h4,h3▸h.nc,by rw [h2,h3];exact h.vb⟩
theorem cellOk.len {x:Int×Int} {xs ys:List Int} (h:cellOk x xs) (e:ys.length=xs.length):cellOk x ys:=by unfold cellOk at h ⊢;rw [e];exact h
theorem F5 (st:Stp) (c:Nat) (xs:List Int) (c':Nat):(st.all c xs).items c'=if c'=c∧c<st.heap.length then xs else st.items c':=by
 unfold Stp.all Stp.items
 simp only [List.getD_eq_getElem?_getD]
 by_cases hc:c'=c
 · subst hc
   by_cases hl:c'<st.heap.length
   · simp [hl]
   · simp [hl]
 · simp [hc,List.getElem?_set_ne (Ne.symm hc)]
theorem Ui (st:Stp) (c i:Nat) (v:Int) (c':Nat):((st.put c i v).items c').length=(st.items c').length:=by
 unfold Stp.put
 rw [F5]
 split
 · rename_i h;rw [h.1];simp
 · rfl
theorem Stp.WF.put (h:st.WF K m) (c i:Nat) (v:Int):(st.put c i v).WF K m:=
 h.same (by simp [Stp.put,Stp.all]) rfl rfl (fun c' x hx=>(h.cell c' x hx).len (Ui st c i v c'))
theorem Stp.WF.tapes (h:st.WF K m) (a b:List Int):({ st with tin:=a,tout:=b }:Stp).WF K m:=h.same rfl rfl rfl h.cell
theorem Stp.WF.all (h:st.WF K m) {c:Nat} {x:Int×Int} {xs:List Int} (hc:K[c]? = some x) (hx:cellOk x xs):(st.all c xs).WF K m:=
 h.same (by simp [Stp.all]) rfl rfl (fun c' x' hx'=>by
  rw [F5]
  split
  · rename_i e
    rw [e.1,hc] at hx'
    cases hx'
    exact hx
  · exact h.cell c' x' hx')
theorem Stp.WF.transfer (h:st.WF K m) (k:Int) (c i:Nat):(st.transfer k c i).2.WF K m:=by
 have h1:=fun v=>h.put c i v
 unfold Stp.transfer
 repeat' split
 all_goals first|exact h|exact (h1 _).tapes _ _
theorem Stp.WF.move (h:st.WF K m) {d:Nat} {x:Int×Int} (hd:K[d]? = some x) (hx:x.1=3) (k:Int) (c i:Nat):(st.move k c i d).2.WF K m:=by
 have hc:=h.cell d x hd
 have hl:(st.items d).length≤1000:=by rcases hc with ⟨h1,-⟩|⟨h1,-⟩|⟨-,h1⟩<;>omega
 unfold Stp.move
 split
 · split
   · exact h
   · exact (h.all hd (Or.inr (Or.inr ⟨hx,by simp;omega⟩))).put _ _ _
 · split
   · exact h
   · split
     · exact h
     · exact (h.put _ _ _).all hd (Or.inr (Or.inr ⟨hx,by simp;omega⟩))
theorem Stp.WF.exec (h:st.WF K m) {k:Int} {s:List UInt8} (l:List Nd) (hu:(k=44∨k=45)→Ff st.cur.vars s 3=0):(st.exec k s l).2.WF K m:=by
 unfold Stp.exec
 simp only
 generalize (if k=43 then BA st.look (l.getD 1 (.mk 0 0 [] [])) else if 40≤k∧k≤42 then Bd st.look (l.getD 1 (.mk 0 0 [] [])) else (0,0))=r
 split
 · exact h
 split
 · exact h
 split
 · exact h
 split
 · exact h.put _ _ _
 split
 · split
   · exact h
   · exact (h.put _ _ _).put _ _ _
 split
 · rename_i hk
   obtain ⟨i,c,x,-,-,h3,-,-,h5,h6,-⟩:=h.use (hu hk);rw [h3]
   exact h.move h5 h6 _ _ _
 · exact h.transfer _ _ _
theorem Mz {v:List VD} {k n:Int} {s:List UInt8} {l:List Nd} (h:(Nd.mk k n s l).bad v=0):(C2 k≠0→Ff v s (C2 k)=0)∧EU v l=0:=by
 unfold Nd.bad at h
 by_cases h1:C2 k≠0∧Ff v s (C2 k)≠0
 · rw [if_pos h1] at h
   exact absurd h h1.2
 · rw [if_neg h1] at h
   exact ⟨fun h2=>by
    by_cases h3:Ff v s (C2 k)=0
    · exact h3
    · exact absurd ⟨h2,h3⟩ h1,h⟩
theorem D8 {v:List VD} {t:Nd} {l:List Nd} (h:EU v (t::l)=0):t.bad v=0∧EU v l=0:=by
 unfold EU at h
 by_cases h1:t.bad v≠0
 · rw [if_pos h1] at h;exact absurd h h1
 · rw [if_neg h1] at h;exact ⟨by omega,h⟩
theorem Stp.WF.run1 (h:st.WF K m) (k n:Int) (s:List UInt8) (l:List Nd):(st.run1 k n s l).2.WF K m:=by
 unfold Stp.run1
 split
 · exact h
 split
 · exact h
 · rename_i hb
   have:=(Mz (n:=n) (Decidable.not_not.1 hb)).1;refine h.exec l (fun hk=>?_)
   have e:C2 k=3:=by unfold C2;rcases hk with rfl|rfl<;>decide
   rw [e] at this
   exact this (by decide)
theorem O0 {st:Stp} {f g:Frm} (h:g∈(st.setCur f).base::(st.setCur f).calls):g=f∨g∈st.base::st.calls:=by
 unfold Stp.setCur at h
 split at h
 · rcases List.mem_cons.1 h with h|h
   · exact Or.inl h
   · exact Or.inr (List.mem_cons_of_mem _ h)
 · rcases List.mem_cons.1 h with h|h
   · exact Or.inr (by simp only at h;rw [h];simp)
   · rcases List.mem_append.1 h with h|h
     · exact Or.inr (List.mem_cons_of_mem _ (FM h))
     · exact Or.inl (by simpa using h)
theorem Stp.WF.setCur (h:st.WF K m) {f:Frm} (hf:FrmWF K f) {m':Nat} (hm:f.vars.length≤m') (hmm:m≤m'):(st.setCur f).WF K m':=by
 have key : ∀g∈(st.setCur f).base::(st.setCur f).calls,FrmWF K g∧g.vars.length≤m':=fun g hg=>by
  rcases O0 hg with rfl|hg
  · exact ⟨hf,hm⟩
  · exact ⟨h.all' g hg,Nat.le_trans (h.vb g hg) hmm⟩
 have hcl:(st.setCur f).calls.length=st.calls.length:=by
  unfold Stp.setCur
  split
  · rfl
  · rename_i hc
    have:=List.length_pos_iff.2 hc;simp only [List.length_append,List.length_dropLast,List.length_cons,List.length_nil]
    omega
 have hh:(st.setCur f).heap=st.heap:=by unfold Stp.setCur;split<;>rfl
 refine ⟨by rw [hh];exact h.len,(key _ (by simp)).1,fun g hg=>(key g (by simp [hg])).1,fun c x hx=>?_,by rw [hcl];exact h.nc,fun g hg=>(key g hg).2⟩
 have:(st.setCur f).items c=st.items c:=by unfold Stp.items;rw [hh]
 rw [this]
 exact h.cell c x hx
theorem FrmWF.more {f:Frm} (h:FrmWF K f) (x:Int×Int):FrmWF (K++[x]) f:=⟨h.len,h.loc,fun i v c h1 h2=>by
 have:=h.kind i v c h1 h2;have hl:c<K.length:=h.lt (List.mem_of_getElem? h2);rw [List.getElem?_append_left hl]
 exact this⟩
theorem Stp.WF.more (h:st.WF K m) {x:Int×Int} {xs:List Int} (hx:cellOk x xs):({ st with heap:=st.heap++[xs] }:Stp).WF (K++[x]) m:=by
 refine ⟨by simp [h.len],h.base.more x,fun f hf=>(h.calls f hf).more x,fun c y hy=>?_,h.nc,h.vb⟩
 unfold Stp.items
 simp only [List.getD_eq_getElem?_getD]
 rcases Nat.lt_trichotomy c K.length with hc|hc|hc
 · rw [List.getElem?_append_left hc] at hy
   rw [List.getElem?_append_left (by rw [h.len];exact hc)];have:=h.cell c y hy
   unfold Stp.items at this
   simpa only [List.getD_eq_getElem?_getD] using this
 · subst hc
   rw [List.getElem?_append_right (Nat.le_refl _)] at hy;rw [List.getElem?_append_right (by rw [h.len];exact Nat.le_refl _)];simp only [Nat.sub_self,List.getElem?_cons_zero,Option.some.injEq] at hy;subst hy;rw [h.len]
   simpa using hx
 · rw [List.getElem?_eq_none (by simp;omega)] at hy
   cases hy
theorem Stp.WF.opens (h:st.WF K m) {v:VD} (hv:v.kind=1∨v.kind=3) (x:Int) : ∃K',(st.opens v x).2.WF K' (m+1):=by
 unfold Stp.opens
 split
 · exact ⟨K,⟨h.len,h.base,h.calls,h.cell,h.nc,fun f hf=>Nat.le_succ_of_le (h.vb f hf)⟩⟩
 · have hc:=h.cur
   have hx:cellOk (v.kind,v.len) (if v.kind=1 then [x] else []):=by
    rcases hv with hv|hv
    · rw [if_pos hv];exact Or.inl ⟨hv,rfl⟩
    · rw [if_neg (by omega)];exact Or.inr (Or.inr ⟨hv,by simp⟩)
   have h1:=h.more hx
   have hf:FrmWF (K++[(v.kind,v.len)]) ⟨st.cur.vars++[v],st.cur.cells++[st.heap.length],st.cur.locals+1⟩:=by
    refine ⟨by simp [hc.len],by have:=hc.loc;simp;omega,fun i u c h2 h3=>?_⟩;simp only at h2 h3
    rcases Nat.lt_trichotomy i st.cur.vars.length with hi|hi|hi
    · rw [List.getElem?_append_left hi] at h2
      rw [List.getElem?_append_left (by rw [←hc.len];exact hi)] at h3
      exact (hc.more _).kind i u c h2 h3
    · subst hi
      rw [List.getElem?_append_right (Nat.le_refl _)] at h2;rw [List.getElem?_append_right (by rw [hc.len];exact Nat.le_refl _),hc.len] at h3;simp only [Nat.sub_self,List.getElem?_cons_zero,Option.some.injEq] at h2 h3;subst h2 h3;rw [h.len,List.getElem?_append_right (Nat.le_refl _)]
      simp
    · rw [List.getElem?_eq_none (by simp;omega)] at h2
      cases h2
   have h2:=h1.setCur hf (m':=m+1) (by have:=h.curm;simp;omega) (by omega);refine ⟨K++[(v.kind,v.len)],?_⟩
   have e:({ st.setCur ⟨st.cur.vars++[v],st.cur.cells++[st.heap.length],st.cur.locals+1⟩ with heap:=st.heap++[if v.kind=1 then [x] else []] }:Stp)=({ st with heap:=st.heap++[if v.kind=1 then [x] else []] }:Stp).setCur ⟨st.cur.vars++[v],st.cur.cells++[st.heap.length],st.cur.locals+1⟩:=by
    generalize (if v.kind=1 then [x] else [])=q
    unfold Stp.setCur
    by_cases hc:st.calls=[]<;>simp [hc]
   rw [e]
   exact h2
theorem Stp.WF.closes (h:st.WF K m) (s:List UInt8) (x:Int):(st.closes s x).2.WF K m:=by
 unfold Stp.closes
 simp only
 split
 · exact h
 split
 · exact h
 · rename_i h1 h2
   have hc:=h.cur;refine h.setCur ⟨by simp [hc.len],by have:=hc.loc;simp;omega,fun i v c h3 h4=>?_⟩ (by have:=h.curm;simp;omega) (Nat.le_refl _);simp only [List.getElem?_dropLast] at h3 h4
   split at h3
   · split at h4
     · exact hc.kind i v c h3 h4
     · cases h4
   · cases h3
theorem NN {f:Frm} : ∀(ps:List VD) (qs:List (List UInt8)),ps.length=qs.length→(DP f ps qs).1=0→(DP f ps qs).2.length=ps.length ∧ ∀(i:Nat) (v:VD) (c:Nat),ps[i]? = some v→(DP f ps qs).2[i]? = some c → ∃(j:Nat) (u:VD),f.vars[j]? = some u∧f.cells.getD j 0=c∧u.kind=v.kind∧u.len=v.len
 | [],_,_,_=>⟨by simp [DP],fun i v c h=>by simp at h⟩
 | _::_,[],h,_=>by cases h
 | v::r,s::q,hl,h=>by
  unfold DP at h ⊢
  cases e:CJ s f.vars with
  | none=>rw [e] at h;cases h
  | some j=>
   rw [e] at h;simp only at h ⊢
   by_cases hk:(f.vars.getD j ⟨[],0,0⟩).kind≠v.kind∨(f.vars.getD j ⟨[],0,0⟩).len≠v.len
   · rw [if_pos hk] at h;cases h
   · rw [if_neg hk] at h ⊢
     obtain ⟨k1,k2⟩:=NN r q (by simpa using hl) h;obtain ⟨u,hu,-⟩:=Fu e;refine ⟨by simp [k1],fun i w c h1 h2=>?_⟩
     cases i with
     | zero=>
      simp only [List.getElem?_cons_zero,Option.some.injEq] at h1 h2;subst h1 h2
      have e2:f.vars.getD j ⟨[],0,0⟩=u:=by rw [List.getD_eq_getElem?_getD,hu];rfl
      rw [e2] at hk
      refine ⟨j,u,hu,rfl,?_,?_⟩<;>omega
     | succ i=>exact k2 i w c (by simpa using h1) (by simpa using h2)
theorem Stp.WF.enters (h:st.WF K m) {ps:List VD} (hp:ps.length≤m) (qs:List (List UInt8)):(st.enters ps qs).2.WF K m:=by
 unfold Stp.enters
 split
 · exact h
 split
 · exact h
 split
 · exact h
 · rename_i h1 h2 h3
   obtain ⟨k1,k2⟩:=NN (f:=st.cur) ps qs (by omega) (by omega);have hc:=h.cur
   have hf:FrmWF K ⟨ps,(DP st.cur ps qs).2,0⟩:=⟨k1.symm,Nat.zero_le _,fun i v c h4 h5=>by
    obtain ⟨j,u,h6,h7,h8,h9⟩:=k2 i v c h4 h5
    have hj:j<st.cur.cells.length:=by
     rw [←hc.len]
     rcases Nat.lt_or_ge j st.cur.vars.length with h'|h'
     · exact h'
     · rw [List.getElem?_eq_none h'] at h6;cases h6
    have a:st.cur.cells[j]? = some c:=by rw [←h7,List.getD_eq_getElem?_getD,List.getElem?_eq_getElem hj];rfl
    rw [←h8,←h9]
    exact hc.kind j u c h6 a⟩
   refine ⟨h.len,h.base,fun f hf'=>?_,h.cell,by simp;omega,fun f hf'=>?_⟩
   · rcases List.mem_append.1 hf' with h4|h4
     · exact h.calls f h4
     · rw [List.mem_singleton.1 h4];exact hf
   · rcases List.mem_cons.1 hf' with h4|h4
     · exact h.vb f (by simp only at h4;rw [h4];simp)
     · rcases List.mem_append.1 h4 with h5|h5
       · exact h.vb f (by simp [h5])
       · rw [List.mem_singleton.1 h5];exact hp
theorem Stp.WF.leaves (h:st.WF K m):(st.leaves).2.WF K m:=by
 unfold Stp.leaves
 split
 · exact h
 · exact ⟨h.len,h.base,fun f hf=>h.calls f (FM hf),h.cell,by have:=h.nc;simp;omega,fun f hf=>h.vb f (by
    rcases List.mem_cons.1 hf with h4|h4
    · simp only at h4;rw [h4];simp
    · simp only at h4;simp [FM h4])⟩
end
end Bk
