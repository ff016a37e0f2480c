/- Texts that the proofs of InverterDeep need. No condition. (Part 8 of 8.) -/
import Derived.Test.YtipjiidkdllbpaaGreatDoorPIdp7
set_option linter.unusedSimpArgs false
set_option linter.unusedVariables false
set_option maxRecDepth 100000
set_option maxHeartbeats 4000000
open Go.Proofs.Tryz
namespace Bk
open Go Go.RowKit Go.Proofs
attribute [local irreducible] Go.Calls
theorem MN (e:Int):Mg e≤1:=by unfold Mg;split<;>omega
theorem K6 (ps:List PD) (v:List VD) (s:List UInt8) (m:Nat) : ∀(l:List Nd) (i:Nat),Eo ps v s m i l≤l.length
 | [],_=>by simp [Eo]
 | t::r,i=>by
  have:=MN (J3 ps v s m i t.name);have:=K6 ps v s m r (i+1)
  simp only [Eo,List.length_cons];omega
mutual
theorem Pp (ps:List PD) : ∀(t:Nd) (v:List VD),t.flt ps v≤t.size
 | .mk k n s l,v=>by
  have h1:=MN (B7 ps v k s l.length);have h2:=K6 ps v s l.length l 0;have h3:=EO l;have h4:=Jf ps l v k s 0;simp only [Nd.flt,Nd.size]
  split<;>omega
theorem Jf (ps:List PD) : ∀(l:List Nd) (v:List VD) (k:Int) (s:List UInt8) (i:Nat),Ck ps v k s i l≤Au l
 | [],_,_,_,_=>by simp [Ck]
 | t::r,v,k,s,i=>by
  have:=Pp ps t (Cn k s i v);have:=Jf ps r v k s (i+1)
  simp only [Ck,Au];omega
end
theorem Jz (ps:List PD) (v:List VD) (k:Int) (s:List UInt8) : ∀(l:List Nd) (j i:Nat) (h:j<l.length),Ck ps v k s i (l.take (j+1))=Ck ps v k s i (l.take j)+(l[j]).flt ps (Cn k s (i+j) v)
 | t::r,0,i,_=>by simp [Ck]
 | t::r,j+1,i,h=>by
  simp only [List.take_succ_cons,Ck,List.getElem_cons_succ];rw [Jz ps v k s r j (i+1) (by simpa using h)];rw [show i+1+j=i+(j+1) by omega]
  omega
theorem K7 (ps:List PD) (v:List VD) (s:List UInt8) (m:Nat) : ∀(l:List Nd) (j i:Nat) (h:j<l.length),Eo ps v s m i (l.take (j+1))=Eo ps v s m i (l.take j)+Mg (J3 ps v s m (i+j) (l[j]).name)
 | t::r,0,i,_=>by simp [Eo]
 | t::r,j+1,i,h=>by
  simp only [List.take_succ_cons,Eo,List.getElem_cons_succ];rw [K7 ps v s m r j (i+1) (by simpa using h)];rw [show i+1+j=i+(j+1) by omega]
  omega
theorem Hl : ∀(l:List Nd) {j:Nat} (h:j<l.length),Au (l.take j)+l[j].size≤Au l
 | t::r,0,_=>by simp [Au]
 | t::r,j+1,h=>by
  have:=Hl r (j:=j) (by simpa using h)
  simp only [List.take_succ_cons,Au,List.getElem_cons_succ];omega
set_option maxHeartbeats 8000000 in
theorem Ok (c fb:Nat) (hcf:c≤fb) (rf:FuncId) (ca:List Value) (hbd:CV prog rf=true) (E:World→Value→Prop) (hR:Ti c fb rf ca E) (g:PG) (hg:g.procs.length≤1000000) (va:Option Addr) (vc:Nat) (pa:Option Addr) (pc:Nat) (ma:Option Addr) (mc:Nat) (N:Nat) :
 ∀(t:Nd) (vs:List VD) (Sv Sp:Nat→Prop) (ta:Option Addr) (tc:Nat) (la:Option Addr) (lc:Nat) (qa:Option Addr) (qn qc:Nat) (w:World) (v:Value) (m:Nat),t.size<N→vs.length+t.size≤1000000→qn+t.size≤1000000→m+t.size≤1000000000→t.sits (· < c) w ta→PDs (· < c) w g.procs pa→VDs Sv w vs la→vs.length≤lc→PathAt Sp w qa qn qc→(∀b,Sv b→Kp fb w v b)→(∀b,Sp b→Kp fb w v b)→FS c fb m w v→E w v →
  Calls prog 30 #[.agg (g.cells va vc pa pc ma mc).toArray,t.val ta tc,.slice qa qn qc,.slice la vs.length lc,.func (.func rf) #[] ca.toArray] w (RepR c fb (m+t.flt g.procs vs) w v):=by
 induction N with
 | zero=>intro t vs Sv Sp ta tc la lc qa qn qc w v m h;omega
 | succ N ih=>
  rintro ⟨k,n,s,l⟩ vs Sv Sp ta tc la lc qa qn qc w v m hN ar au av hs hps hvs hlc hqp hSv hSp hF hE
  have hz:(Nd.mk k n s l).size=1+Au l:=by rw [Nd.size]
  have hlen:=EO l;rw [hz] at hN ar au av;have IH:=Lib.hid ih;have HR1:=Lib.hid hR.1;have HR2:=Lib.hid hR.2
  have hSv2 : ∀b,Sv b → ¬(b=fb∨v.ownBlock=some b):=fun b hb=>(hSv b hb).not
  have hSp2 : ∀b,Sp b → ¬(b=fb∨v.ownBlock=some b):=fun b hb=>(hSp b hb).not
  have hob : ∀g,v.ownBlock=some g→c≤g∧g<w.heap.size:=fun g hg=>⟨hF.own.ge hg,hF.own.lt hg⟩
  have hfb:=hF.cell.lt;have HSv:=Lib.hid hSv;have HSp:=Lib.hid hSp;have HFt:=Lib.hid (UN g hg k n s l ta tc vs (by omega) (· < c) Sv va vc pa pc ma mc la lc);have HRep:=Lib.hid (fun (w':World) (x:Ext w w') (p:PathAt Sp w' qa qn qc)=>HR2.out m v (B7 g.procs vs k s l.length) s Sp qa qn qc w' (by omega) (by omega) p (hF.ext x) (HR1.out _ _ _ _ hE (Eff.of_ext x)));have HE0:=Lib.hid hE;clear ih hR hSv hSp hE hF;have X:=Ext.refl w;have X2:=Fr.refl (fun k=>k=fb∨v.ownBlock=some k) w;replace hs:=I8 hs
  show Calls prog 30 #[.agg (g.cells va vc pa pc ma mc).toArray,.agg #[.int .u8 k,.int .i64 n,str s,.slice ta l.length tc],.slice qa qn qc,.slice la vs.length lc,.func (.func rf) #[] ca.toArray] w _
  refine Ad func30 ntmps30 rfl rfl ?_
  focus
   refine cS (eB [_,_,_,_,_,_] ?_);intro b1 w2 h4 x5 p6 z7;revert hps hvs hqp X X2 hs;refine eE x5 ?_;intro hps hvs hqp X X2 hs;refine eB [_,_,_,_] ?_;intro b8 w9 a aw bu bv;revert h4 hps hvs hqp X X2 hs;refine eE aw ?_;intro h4 hps hvs hqp X X2 hs;refine eK ?_;refine Ax (fun wz=>Ext w9 wz) 8 (.pure 0 (.pure 1 (.pure 2 (.pure 3 (.pure 4 (.pure 5 (.pure 6 (.fork 7 .tail .none)))))))) mixed (by kernel_rfl) (Ac Ak) ?_;intro ax aa _;have y:(fun wz=>Ext w9 wz) ax:=aa;simp only at y;have u:=a;have z:=h4;have H:=hps;have I:=hvs;have J:=hqp;have R:=hs;revert a h4 hps hvs hqp X X2 hs;refine eY aa ?_;intro bw a h4 hps hvs hqp X X2 hs;refine ⟨y,?_⟩;refine Tq rfl Mv (Tq rfl Mv (Tq rfl Pf (Tq rfl (Db u) (Tq rfl (Aw [_,_,_,_,_,_] Aa rfl rfl rfl (fun wz hz=>(Blk.ext z hz)) rfl rfl) (Tq rfl (Aw [_,_,_,_] Aa rfl rfl rfl (fun wz hz=>(Blk.ext u hz)) rfl rfl) (Tq rfl Mv ?_))))));refine At rfl (Av (by kernel_rfl) rfl (HFt.out _ ‹_› ‹_›) (fun _ _ h=>⟨_,h.1⟩)) rfl ?_ (fun _ h=>h) As;rintro _ bx ⟨⟨⟩,ay⟩;revert y a h4 hps hvs hqp X X2 hs;refine eY ay ?_;intro bz y a h4 hps hvs hqp X X2 hs;refine ⟨y,?_⟩;refine Az rfl ?_;refine AQ (BQ (fi:=[]) (ca:=ca) hbd rfl rfl (HRep.out _ ‹_› ‹_›) (fun _ _ h=>h.ret)) rfl ?_ (fun _ h=>h)
   rintro _ K ⟨⟨⟩,⟨B,⟨L,⟨A,M⟩⟩⟩⟩;have b0:=A.size;replace a:=Blk.fr a A (fun h=>by (rcases h with h|h;omega;have:=hob _ h;omega));replace h4:=Blk.fr h4 A (fun h=>by (rcases h with h|h;omega;have:=hob _ h;omega));replace hps:=PDs.fr hps A (fun b hb h=>by (rcases h with h|h;omega;have:=hob _ h;omega));replace hvs:=VDs.fr hvs A (hSv2);replace hqp:=PathAt.fr hqp A (hSp2);replace X2:=Fr.fr X2 A (fun k hk=>Or.inl hk);replace hs:=Bk.rowSits.fr hs A (fun b hb h=>by (rcases h with h|h;omega;have:=hob _ h;omega));refine cT (Am ?_);rotate_left
  have e1:Eff fb w v K B:=⟨X2,fun g hg=>(M g hg).imp id fun h=>by omega⟩;have k1:Kp fb K B b1:=⟨h4.lt,by omega,fun e=>by rcases M _ e with h|h;(have:=hob _ h;omega);omega⟩;have k8:Kp fb K B b8:=⟨a.lt,by omega,fun e=>by rcases M _ e with h|h;(have:=hob _ h;omega);omega⟩;have EE:=Lib.hid (HR1.out);have HE1:=Lib.hid (HR1.out _ _ _ _ HE0.out e1)
  have hflt:(Nd.mk k n s l).flt g.procs vs=Mg (B7 g.procs vs k s l.length)+(if k=50∨k=51 then Eo g.procs vs s l.length 0 l else Ck g.procs vs k s 0 l):=by rw [Nd.flt]
  rw [hflt];have hfl:=MN (B7 g.procs vs k s l.length);clear hflt
  generalize Mg (B7 g.procs vs k s l.length)=m0 at *
  clear HRep HFt hSv2 hSp2 hob M X2
  generalize B=v1 at *
  refine G1 (ι:=Unit) (fun _=>[(2,.slice qa qn qc),(3,.slice la vs.length lc),(4,.func (.func rf) #[] ca.toArray),(5,.pointer (some ⟨b1,0,none⟩)),(6,.pointer (some ⟨b8,0,none⟩)),(30,.bool (decide (k=50∨k=51)))]) (fun _ w'=>w'=K) ?_ ?_
  · focus
     refine eK ?_;refine CP rfl rfl rfl (fun az=>?_) (fun az=>?_);refine PE (PE (PE (C1 WA (Aj ?_))));rotate_left;refine RN (C1 Pg (RN (C1 (Pl a) (RN (C1 V1 (C1 WO (Aj ?_)))))));rotate_left
    all_goals exact CG () (Be rfl (Be rfl (Be rfl (Be rfl (Be rfl (BZ rfl (congrArg Value.bool (by first|exact (decide_eq_true (by omega)).symm|exact decide_eq_decide.2 (by omega))) Dq)))))) rfl
  rintro-w0 h;subst h
  by_cases hk:k=50∨k=51
  · rw [if_pos hk];clear IH
    focus
     refine Wv (Am (cS (C1 Pf (C1 (Pl a) (C1 Pz (C1 Mv (cT ?_)))))));rotate_left
    refine AK ?_;refine Bn (ι:=Nat×Value) (fun x=>[(2,.slice qa qn qc),(3,.slice la vs.length lc),(4,.func (.func rf) #[] ca.toArray),(5,.pointer (some ⟨b1,0,none⟩)),(6,.pointer (some ⟨b8,0,none⟩)),(32,.slice ta l.length tc),(33,.int .i64 l.length),(34,.int .i64 x.1)])
     (fun x w'=>x.1≤l.length∧FS c fb (m+m0+Eo g.procs vs s l.length 0 (l.take x.1)) w' x.2∧Eff fb w v w' x.2∧Kp fb w' x.2 b1∧Kp fb w' x.2 b8∧Blk w' b8 [.int .u8 k,.int .i64 n,str s,.slice ta l.length tc]∧Blk w' b1 (g.cells va vc pa pc ma mc)∧PDs (· < c) w' g.procs pa∧VDs Sv w' vs la∧PathAt Sp w' qa qn qc∧rowSits (· < c) w' l ta)
     (fun x=>l.length-x.1) (0,v1) sB ⟨Nat.zero_le _,L,e1,k1,k8,a,h4,hps,hvs,hqp,hs⟩ ?_
    clear L e1 k1 k8 a h4 hps hvs hqp hs HE1;rintro ⟨j,vj⟩ w3 ⟨hj,hF,e3,k1,k8,a,h4,hps,hvs,hqp,hs⟩;simp only at hj hF e3 k1 k8 a h4 hps hvs hqp hs
    by_cases hlt:j<l.length
    · have hown : ∀g,vj.ownBlock=some g→c≤g∧g<w3.heap.size∧g≠b1∧g≠b8:=fun g hg=>⟨hF.own.ge hg,hF.own.lt hg,fun e=>k1.2.2 (e▸hg),fun e=>k8.2.2 (e▸hg)⟩
      have hSvj : ∀b,Sv b → ¬(b=fb∨vj.ownBlock=some b):=fun b hb=>((HSv.out b hb).eff e3).not
      have hSpj : ∀b,Sp b → ¬(b=fb∨vj.ownBlock=some b):=fun b hb=>((HSp.out b hb).eff e3).not
      have hSvl : ∀b,Sv b→b<w3.heap.size:=fun b hb=>((HSv.out b hb).eff e3).1
      have hSpl : ∀b,Sp b→b<w3.heap.size:=fun b hb=>((HSp.out b hb).eff e3).1
      have V:=k1.not;have W:=k8.not;have a0:=k1.1;have a1:=k8.1;have ab:=hF.cell.lt;have HEj:=Lib.hid (EE.out _ _ _ _ HE0.out e3);have harg:=K6 g.procs vs s l.length (l.take j) 0;rw [List.length_take] at harg;have hnx:=K7 g.procs vs s l.length l j 0 hlt;rw [Nat.zero_add] at hnx;obtain ⟨kb,ko,rfl,kS,hkid⟩:=Cv hs (by intro e;subst e;simp at hlt);obtain ⟨xa,xc,rx,-⟩:=hkid j l[j] (List.getElem?_eq_getElem hlt);have HArg:=Lib.hid (Oj g hg k n s l (by omega) j hlt vs (by omega));have HRepj:=Lib.hid (fun (w':World) (x:Ext w3 w') (S:Nat→Prop) (pa:Option Addr) (pn pc:Nat) (hp:pn≤1000000) (p:PathAt S w' pa pn pc)=>HR2.out (m+m0+Eo g.procs vs s l.length 0 (l.take j)) vj (J3 g.procs vs s l.length j l[j].name) l[j].name S pa pn pc w' (by omega) hp p (hF.ext x) (HR1.out _ _ _ _ HEj.out (Eff.of_ext x)));have E3:=Lib.hid e3;clear hkid hF e3
      have hAj:m+m0+Eo g.procs vs s l.length 0 (l.take (j+1))=m+m0+Eo g.procs vs s l.length 0 (l.take j)+Mg (J3 g.procs vs s l.length j l[j].name):=by rw [hnx];omega
      rw [←hAj] at HRepj
      clear hnx hAj
      generalize l[j]=x at *
      generalize J3 g.procs vs s l.length j x.name=ex at *
      have X3:=Ext.refl w3;have X4:=Fr.refl (fun k=>k=fb∨vj.ownBlock=some k) w3
      focus
       refine eK ?_;refine C1 (Gb rx) (eA [_,_,_,_] ?_);intro b2 b3 a2 a3 b4 b5;revert h4 hps hvs hqp a hs rx X3 X4;refine eE a3 ?_;intro h4 hps hvs hqp a hs rx X3 X4;refine C1 Pa (eS [_,_,_,_] a2 ?_);intro ac q C a6;revert h4 hps;refine eF C ?_;intro h4 hps;replace hvs:=VDs.fr hvs C (fun b hb e=>by have:=hSvl b hb;omega);replace hqp:=PathAt.fr hqp C (fun b hb e=>by have:=hSpl b hb;omega);revert a hs rx X3 X4;refine eF C ?_;intro a hs rx X3 X4;refine cT (Ax (fun wz=>Ext ac wz) 11 (.pure 0 (.pure 1 (.pure 2 (.pure 4 (.pure 5 (.pure 6 (.pure 7 (.pure 8 (.pure 9 (.fork 3 (.fork 10 .tail .none) .none)))))))))) mixed (by kernel_rfl) (Ao (Ac (Ac (Ao (Ac (Ac Ak)))))) ?_);intro ad T _;have d:(fun wz=>Ext ac wz) ad:=T;simp only at d;have O:=q;have z:=h4;have H:=hps;have I:=hvs;have J:=hqp;have u:=a;have R:=hs;have ae:=rx;revert q h4 hps hvs hqp a hs rx X3 X4;refine eY T ?_;intro a7 q h4 hps hvs hqp a hs rx X3 X4;refine ⟨d,?_⟩;refine Tq rfl Mv (Tq rfl Mv (Tq rfl Mv (Tq rfl Pf (Tq rfl (Db O) (Tq rfl (Aw [_,_,_,_,_,_] Aa rfl rfl rfl (fun wz hz=>(Blk.ext z hz)) rfl rfl) (Tq rfl (Aw [_,_,_,_] Aa rfl rfl rfl (fun wz hz=>(Blk.ext u hz)) rfl rfl) (Tq rfl Mv (Tq rfl Mv ?_))))))))
       refine At rfl (Av (by kernel_rfl) rfl (Qe _ _ _ _ _ _ (by omega) ‹_›) (fun _ _ h=>h.ret)) rfl ?_ (fun _ h=>h) As;rintro _ a8 ⟨a9,⟨ba,⟨⟨⟩,⟨D,af⟩⟩⟩⟩;revert d q h4 hps hvs hqp a hs rx X3 X4;refine eY af ?_;intro bb d q h4 hps hvs hqp a hs rx X3 X4;refine ⟨d,?_⟩;refine At rfl (Av (by kernel_rfl) rfl (HArg.out _ _ _ _ _ _ _ _ _ _ _ _ _ _ ‹_› ‹_› ‹_›) (fun _ _ h=>⟨_,h.1⟩)) rfl ?_ (fun _ h=>h) As;rintro _ bc ⟨⟨⟩,ag⟩;revert D d q h4 hps hvs hqp a hs rx X3 X4;refine eY ag ?_;intro bd D d q h4 hps hvs hqp a hs rx X3 X4;refine ⟨d,?_⟩;refine Az rfl ?_;refine AQ (BQ (fi:=[]) (ca:=ca) hbd rfl rfl (HRepj.out _ ‹_› _ _ _ _ (by omega) ‹_›) (fun _ _ h=>h.ret)) rfl ?_ (fun _ h=>h);rintro _ ah ⟨⟨⟩,⟨Y,⟨ai,⟨o,aj⟩⟩⟩⟩;have be:=o.size;replace D:=PathAt.fr D o (fun b hb h=>by (rcases h with h|h;omega;have:=hown _ h;omega));replace q:=Blk.fr q o (fun h=>by (rcases h with h|h;omega;have:=hown _ h;omega));replace h4:=Blk.fr h4 o (V);replace hps:=PDs.fr hps o (fun b hb h=>by (rcases h with h|h;omega;have:=hown _ h;omega));replace hvs:=VDs.fr hvs o (hSvj);replace hqp:=PathAt.fr hqp o (hSpj)
       replace a:=Blk.fr a o (W);replace hs:=Bk.rowSits.fr hs o (fun b hb h=>by (rcases h with h|h;omega;have:=hown _ h;omega));clear rx;replace X4:=Fr.fr X4 o (fun k hk=>Or.inl hk);refine Aj (An (Ai (Ah (C1 V7 (C1 Mv (Aj ?_))))));rotate_left
      have e4:Eff fb w3 vj ah Y:=⟨X4,fun g hg=>(aj g hg).imp id fun h=>by omega⟩
      exact AW (j+1,_) sB ⟨by simp only;omega,ai,E3.out.trans e4,k1.eff e4,k8.eff e4,a,h4,hps,hvs,hqp,hs⟩ (by simp only;omega)
    · obtain rfl:j=l.length:=by omega
      rw [List.take_length] at hF
      focus
       refine eK ?_;refine L8 rfl ?_;rotate_left
      rw [←Nat.add_assoc]
      exact ⟨rfl,vj,hF,e3.fr,e3.new⟩
  · rw [if_neg hk]
    focus
     refine WB (AH (Ai (cS (C1 Pf (C1 (Pl a) (C1 Pz (C1 Mv (cT ?_))))))));rotate_left
    refine AK ?_;refine Bn (ι:=Nat×Value) (fun x=>[(2,.slice qa qn qc),(3,.slice la vs.length lc),(4,.func (.func rf) #[] ca.toArray),(5,.pointer (some ⟨b1,0,none⟩)),(6,.pointer (some ⟨b8,0,none⟩)),(53,.slice ta l.length tc),(54,.int .i64 l.length),(55,.int .i64 x.1)])
     (fun x w'=>x.1≤l.length∧FS c fb (m+m0+Ck g.procs vs k s 0 (l.take x.1)) w' x.2∧Eff fb w v w' x.2∧Kp fb w' x.2 b1∧Kp fb w' x.2 b8∧Blk w' b8 [.int .u8 k,.int .i64 n,str s,.slice ta l.length tc]∧Blk w' b1 (g.cells va vc pa pc ma mc)∧PDs (· < c) w' g.procs pa∧VDs Sv w' vs la∧PathAt Sp w' qa qn qc∧rowSits (· < c) w' l ta)
     (fun x=>l.length-x.1) (0,v1) sB ⟨Nat.zero_le _,L,e1,k1,k8,a,h4,hps,hvs,hqp,hs⟩ ?_
    clear L e1 k1 k8 a h4 hps hvs hqp hs HE1;rintro ⟨j,vj⟩ w3 ⟨hj,hF,e3,k1,k8,a,h4,hps,hvs,hqp,hs⟩;simp only at hj hF e3 k1 k8 a h4 hps hvs hqp hs
    by_cases hlt:j<l.length
    · have hown : ∀g,vj.ownBlock=some g→c≤g∧g<w3.heap.size∧g≠b1∧g≠b8:=fun g hg=>⟨hF.own.ge hg,hF.own.lt hg,fun e=>k1.2.2 (e▸hg),fun e=>k8.2.2 (e▸hg)⟩
      have hSvj : ∀b,Sv b → ¬(b=fb∨vj.ownBlock=some b):=fun b hb=>((HSv.out b hb).eff e3).not
      have hSpj : ∀b,Sp b → ¬(b=fb∨vj.ownBlock=some b):=fun b hb=>((HSp.out b hb).eff e3).not
      have hSvl : ∀b,Sv b→b<w3.heap.size:=fun b hb=>((HSv.out b hb).eff e3).1
      have hSpl : ∀b,Sp b→b<w3.heap.size:=fun b hb=>((HSp.out b hb).eff e3).1
      have V:=k1.not;have W:=k8.not;have a0:=k1.1;have a1:=k8.1;have ab:=hF.cell.lt;have bf:=hF.le;have HEj:=Lib.hid (EE.out _ _ _ _ HE0.out e3);have hrf:=Jf g.procs (l.take j) vs k s 0;have hnx:=Jz g.procs vs k s l j 0 hlt;rw [Nat.zero_add] at hnx;have hrs:=Hl l hlt;obtain ⟨kb,ko,rfl,kS,hkid⟩:=Cv hs (by intro e;subst e;simp at hlt);obtain ⟨xa,xc,rx,sx⟩:=hkid j l[j] (List.getElem?_eq_getElem hlt)
      have hinl:(Cn k s j vs).length≤vs.length+1:=by unfold Cn;split<;>(try split)<;>simp
      have HV:=Lib.hid (fun (w':World) (x:Ext w3 w') (Sv' Sp':Nat→Prop) (la':Option Addr) (lc':Nat) (qa':Option Addr) (qc':Nat) (hs:(l[j]).sits (· < c) w' xa) (hps:PDs (· < c) w' g.procs pa) (hvs:VDs Sv' w' (Cn k s j vs) la') (hlc:(Cn k s j vs).length≤lc') (hqp:PathAt Sp' w' qa' (qn+1) qc') (hsv : ∀b,Sv' b→Sv b∨(w3.heap.size≤b∧b<w'.heap.size)) (hsp : ∀b,Sp' b→w3.heap.size≤b∧b<w'.heap.size)=>
       IH.out l[j] (Cn k s j vs) Sv' Sp' xa xc la' lc' qa' (qn+1) qc' w' vj (m+m0+Ck g.procs vs k s 0 (l.take j)) (by omega) (by omega) (by omega) (by omega) hs hps hvs hlc hqp
        (fun b hb=>by
         rcases hsv b hb with h|h
         · exact ((HSv.out b h).eff e3).eff (Eff.of_ext x)
         · exact ⟨h.2,by omega,fun e=>by have:=hown _ e;omega⟩)
        (fun b hb=>by have h:=hsp b hb;exact ⟨h.2,by omega,fun e=>by have:=hown _ e;omega⟩) (hF.ext x) (HR1.out _ _ _ _ HEj.out (Eff.of_ext x)))
      have hAj:m+m0+Ck g.procs vs k s 0 (l.take (j+1))=m+m0+Ck g.procs vs k s 0 (l.take j)+(l[j]).flt g.procs (Cn k s j vs):=by rw [hnx];omega
      rw [←hAj] at HV
      have HIn:=Lib.hid (UM k n s l (some ⟨kb,ko,none⟩) tc j vs (by omega) Sv la lc);have E3:=Lib.hid e3;clear hkid hF e3 hnx hAj
      generalize Cn k s j vs=vs' at *
      generalize l[j]=x at *
      have X3:=Ext.refl w3;have X4:=Fr.refl (fun k=>k=fb∨vj.ownBlock=some k) w3
      focus
       refine eK ?_;refine C1 (Gb rx) (eA [_,_,_,_] ?_);intro b6 b7 a4 a5 b9 cb;revert h4 hps hvs hqp a hs rx sx X3 X4;refine eE a5 ?_;intro h4 hps hvs hqp a hs rx sx X3 X4;refine C1 Pa (eS [_,_,_,_] a4 ?_);intro ak r F bg;revert h4 hps;refine eF F ?_;intro h4 hps;replace hvs:=VDs.fr hvs F (fun b hb e=>by have:=hSvl b hb;omega);replace hqp:=PathAt.fr hqp F (fun b hb e=>by have:=hSpl b hb;omega);revert a hs rx sx X3 X4;refine eF F ?_;intro a hs rx sx X3 X4;refine cT (Ax (fun wz=>Ext ak wz) 10 (.pure 0 (.pure 1 (.pure 2 (.pure 3 (.pure 5 (.pure 6 (.pure 7 (.pure 9 (.fork 4 (.fork 8 .tail .none) .none))))))))) mixed (by kernel_rfl) (Ao (Ac (Ac (Ao Ak)))) ?_);intro al U _;have f:(fun wz=>Ext ak wz) al:=U;simp only at f;have Q:=r;have z:=h4;have H:=hps;have I:=hvs;have J:=hqp;have u:=a;have R:=hs;have ae:=rx;have bh:=sx;revert r h4 hps hvs hqp a hs rx sx X3 X4;refine eY U ?_;intro bi r h4 hps hvs hqp a hs rx sx X3 X4;refine ⟨f,?_⟩;refine Tq rfl (Aw [_,_,_,_,_,_] Aa rfl rfl rfl (fun wz hz=>(Blk.ext z hz)) rfl rfl) (Tq rfl (Aw [_,_,_,_] Aa rfl rfl rfl (fun wz hz=>(Blk.ext Q hz)) rfl rfl) (Tq rfl Mv (Tq rfl Mv (Tq rfl (Aw [_,_,_,_] Aa rfl rfl rfl (fun wz hz=>(Blk.ext u hz)) rfl rfl) (Tq rfl Mv (Tq rfl Mv (Tq rfl Mv ?_)))))))
       refine At rfl (Av (by kernel_rfl) rfl (Qe _ _ _ _ _ _ (by omega) ‹_›) (fun _ _ h=>h.ret)) rfl ?_ (fun _ h=>h) As;rintro _ bj ⟨bk,⟨bl,⟨⟨⟩,⟨G,am⟩⟩⟩⟩;revert f r h4 hps hvs hqp a hs rx sx X3 X4;refine eY am ?_;intro bm f r h4 hps hvs hqp a hs rx sx X3 X4;refine ⟨f,?_⟩;refine At rfl (Av (by kernel_rfl) rfl (HIn.out _ hlc ‹_›) (fun _ _ h=>h.ret)) rfl ?_ (fun _ h=>h) As;rintro _ bn ⟨bo,⟨bp,⟨⟨⟩,⟨bq,⟨br,an⟩⟩⟩⟩⟩;revert G f r h4 hps hvs hqp a hs rx sx X3 X4;refine eY an ?_;intro bs G f r h4 hps hvs hqp a hs rx sx X3 X4;refine ⟨f,?_⟩;refine Az rfl (cC rfl (HV.out _ ‹_› _ _ _ _ _ _ ‹_› ‹_› ‹_› (by omega) ‹_› (by (intro b hb;rcases hb with hb|hb;exact Or.inl hb;exact Or.inr ⟨by omega,by omega⟩)) (by (intro b hb;exact ⟨by omega,by omega⟩))) ?_);rintro _ ao ⟨⟨⟩,⟨Z,⟨ap,⟨i,aq⟩⟩⟩⟩;have bt:=i.size;replace G:=PathAt.fr G i (fun b hb h=>by (rcases h with h|h;omega;have:=hown _ h;omega));replace r:=Blk.fr r i (fun h=>by (rcases h with h|h;omega;have:=hown _ h;omega));replace h4:=Blk.fr h4 i (V);replace hps:=PDs.fr hps i (fun b hb h=>by (rcases h with h|h;omega;have:=hown _ h;omega))
       replace hvs:=VDs.fr hvs i (hSvj);replace hqp:=PathAt.fr hqp i (hSpj);replace a:=Blk.fr a i (W);replace hs:=Bk.rowSits.fr hs i (fun b hb h=>by (rcases h with h|h;omega;have:=hown _ h;omega));clear rx;replace sx:=Nd.sits.fr sx i (fun b hb h=>by (rcases h with h|h;omega;have:=hown _ h;omega));replace X4:=Fr.fr X4 i (fun k hk=>Or.inl hk);refine Aj (An (Ai (Ah (C1 V7 (C1 Mv (Aj ?_))))));rotate_left
      have e4:Eff fb w3 vj ao Z:=⟨X4,fun g hg=>(aq g hg).imp id fun h=>by omega⟩
      exact AW (j+1,_) sB ⟨by simp only;omega,ap,E3.out.trans e4,k1.eff e4,k8.eff e4,a,h4,hps,hvs,hqp,hs⟩ (by simp only;omega)
    · obtain rfl:j=l.length:=by omega
      rw [List.take_length] at hF
      focus
       refine cS (C1 V3 (cT (Am (Hn (Ds (A5 (A5 (Bw (Bt rfl ?_)))))))));rotate_left
      rw [←Nat.add_assoc]
      exact ⟨rfl,vj,hF,e3.fr,e3.new⟩
theorem GT : ∀(l acc:List VD) (i:Nat) (h:i<l.length),Ct acc (l.take (i+1))=Ct acc (l.take i)+Mg (ET (acc++l.take i) (l[i]).name)
 | v::r,acc,0,_=>by simp [Ct]
 | v::r,acc,i+1,h=>by
  simp only [List.take_succ_cons,Ct,List.getElem_cons_succ];rw [GT r (acc++[v]) i (by simpa using h)];simp only [List.append_assoc,List.singleton_append]
  omega
theorem E9 : ∀(l acc:List VD),Ct acc l≤l.length
 | [],_=>by simp [Ct]
 | v::r,acc=>by
  have:=MN (ET acc v.name);have:=E9 r (acc++[v])
  simp only [Ct,List.length_cons];omega
def K8 (ps:List PD) (i:Nat) (p:PD):Nat:=(if (B9 ps p.name).getD i<i then 1 else 0)+Ct [] p.params+p.body.flt ps p.params
theorem JA (ps:List PD) : ∀(l:List PD) (i j:Nat) (h:j<l.length),CZ ps i (l.take (j+1))=CZ ps i (l.take j)+K8 ps (i+j) l[j]
 | p::r,i,0,_=>by simp [CZ,K8]
 | p::r,i,j+1,h=>by
  simp only [List.take_succ_cons,CZ,List.getElem_cons_succ];rw [JA ps r (i+1) j (by simpa using h)];rw [show i+1+j=i+(j+1) by omega]
  omega
theorem Tj {ps:List PD} {i:Nat} (h:i<ps.length):decide (F7 ps (ps[i]).name<(i:Int))=decide ((B9 ps (ps[i]).name).getD i<i):=by
 unfold F7
 cases hq:B9 ps (ps[i]).name with
 | none=>
  exfalso
  unfold B9 at hq
  rw [List.findIdx?_eq_none_iff] at hq;have:=hq ps[i] (List.getElem_mem h)
  simp at this
 | some j=>simp
def LenR (n:Nat) (w:World):Ending→World→Prop:=fun e w'=> ∃a c,e = .returned (.slice a n c)∧Ext w w'
theorem LenR.ret {n:Nat} {w:World} {e:Ending} {w':World} (h:LenR n w e w') : ∃v,e = .returned v:=by
 obtain ⟨_,_,h,-⟩:=h
 exact ⟨_,h⟩
theorem VDs.take {S:Nat→Prop} {w:World} {l:List VD} {a:Option Addr} (h:VDs S w l a) (i:Nat):VDs S w (l.take i) a:=by
 rcases h with h|⟨b,o,h1,h2,h3⟩
 · exact Or.inl (by rw [h];simp)
 · refine Or.inr ⟨b,o,h1,h2,fun j v hj=>h3 j v ?_⟩
   rw [List.getElem?_take] at hj
   split at hj
   · exact hj
   · cases hj
theorem Jg (ps:List PD) (K:Nat) : ∀(l:List PD) (i:Nat),(∀(i:Nat) (p:PD),p∈l→K8 ps i p≤K)→CZ ps i l≤l.length*K
 | [],_,_=>by simp [CZ]
 | p::r,i,h=>by
  have h1:=h i p (by simp);have h2:=Jg ps K r (i+1) (fun i q hq=>h i q (by simp [hq]))
  unfold K8 at h1
  simp only [CZ,List.length_cons,Nat.add_mul];omega
theorem K9 {fb:Nat} {w w1 w':World} {v v':Value} (x:Fr (fun k=>k=fb∨v.ownBlock=some k) w w') (h : ∀g,v'.ownBlock=some g→v.ownBlock=some g∨w1.heap.size≤g) (hs:w.heap.size≤w1.heap.size):Eff fb w v w' v':=⟨x,fun g hg=>(h g hg).imp id fun h=>by omega⟩
theorem Ol {w:World} {b:Nat} {v:Value} (h:Blk w b [v]) (h1:Value.one v=true):PathAt (fun _=>True) w (some ⟨b,0,none⟩) 1 1:=⟨⟨Nat.le_refl _,fun e=>by cases e⟩,[v],rfl,by simp [h1],Or.inr ⟨b,0,rfl,trivial,h.row⟩⟩
set_option maxHeartbeats 8000000 in
theorem Om (g:PG) (hwf:g.wf) (hok:g.ok=true) (S:Nat→Prop) (va:Option Addr) (vc:Nat) (pa:Option Addr) (pc:Nat) (ma:Option Addr) (mc:Nat) (w:World) (hs:g.sits S w va pa ma) (hps:PDsC S w g.procs pa) (hvc:g.vars.length≤vc) :
 Calls prog 9 #[.agg (g.cells va vc pa pc ma mc).toArray] w (LenR g.flt w):=by
 have hfew:=ML hok;have HV:=Lib.hid (IQ hwf hok);have hvs:=hs.vars.ltV;have hms:=BP _ _ hs.main;replace hps:=hps.ltA;replace hs:=hs.ltA;have X:=Ext.refl w;refine Ad func9 ntmps9 rfl rfl ?_
 focus
  refine cS (eB [_,_,_,_,_,_] ?_);intro b1 w2 h4 x5 p6 z7;revert hvs hms hps hs X;refine eE x5 ?_;intro hvs hms hps hs X;refine eK ?_;refine Ae [_,_,_,_,_,_] Aa rfl rfl rfl h4 rfl rfl rfl (cC rfl (HV.out _ _ _ _ _ _ _ _ ‹_›) ?_);rintro _ w9 ⟨⟨⟩,x8⟩;revert h4 hvs hms hps hs X;refine eY x8 ?_;intro db h4 hvs hms hps hs X;refine eK ?_;refine eA [_] ?_;intro m dc ag be dd de;revert h4 hvs hms hps hs X;refine eE be ?_;intro h4 hvs hms hps hs X;refine cN (C1 (E8 rfl) (AB [_] Bj rfl rfl ?_));intro t df bf;refine eI [_] bf ?_;intro am d bg dg dh;revert ag h4 hvs hms hps hs X;refine eE bg ?_;intro ag h4 hvs hms hps hs X;refine cT (Am (cS (C1 Pg (C1 (Pl h4) (C1 Pz (C1 Mv (cT ?_)))))));rotate_left
 obtain ⟨o1,o2,-,o4,o5⟩:=DG hok;have hF0:FS w.heap.size m 0 am (.slice none 0 0):=⟨ag,OwnQ.nil,by simp [Value.ownBlock],by omega⟩;have k1:Kp m am (.slice none 0 0) b1:=⟨by omega,by omega,by simp [Value.ownBlock]⟩;have kR:Kp m am (.slice none 0 0) t:=⟨by omega,by omega,by simp [Value.ownBlock]⟩;refine AK ?_;refine Bn (ι:=Nat×Value) (fun x=>[(1,.pointer (some ⟨b1,0,none⟩)),(3,.pointer (some ⟨m,0,none⟩)),(4,.pointer (some ⟨t,0,none⟩)),(16,.slice va g.vars.length vc),(17,.int .i64 g.vars.length),(18,.int .i64 x.1)])
  (fun x w'=>x.1≤g.vars.length∧FS w.heap.size m (Ct [] (g.vars.take x.1)) w' x.2∧Kp m w' x.2 b1∧Kp m w' x.2 t∧Blk w' t [K5 m]∧Blk w' b1 (g.cells va vc pa pc ma mc)∧VDs (· < w.heap.size) w' g.vars va∧g.main.sits (· < w.heap.size) w' ma∧PDsC (· < w.heap.size) w' g.procs pa∧Ext w w')
  (fun x=>g.vars.length-x.1) (0,.slice none 0 0) sB ⟨Nat.zero_le _,hF0,k1,kR,d,h4,hvs,hms,hps,X⟩ ?_
 clear hF0 k1 kR d h4 hvs hms hps X ag hs;rintro ⟨j,vj⟩ w3 ⟨hj,hF,k1,kR,d,h4,hvs,hms,hps,X⟩;simp only at hj hF k1 kR d h4 hvs hms hps X
 by_cases hlt:j<g.vars.length
 · have hown : ∀q,vj.ownBlock=some q→w.heap.size≤q∧q<w3.heap.size∧q≠b1∧q≠t:=fun q hq=>⟨hF.own.ge hq,hF.own.lt hq,fun e=>k1.2.2 (e▸hq),fun e=>kR.2.2 (e▸hq)⟩
   have G:=k1.not;have hnR:=kR.not;have ah:=k1.1;have hbR:=kR.1;have Y:=hF.cell.lt;have hxs:=X.size;obtain ⟨kb,ko,rfl,kS,hget⟩:=hvs.get (by intro e;rw [e] at hlt;simp at hlt);have r0:=hget j g.vars[j] (List.getElem?_eq_getElem hlt)
   have htl:(g.vars.take j).length=j:=by simp;omega
   have htw:=E9 (g.vars.take j) [];have hvt:=hvs.take j;have HFr:=Lib.hid (MF (g.vars.take j) (by omega) g.vars[j].name);rw [htl] at HFr;have hnx:=GT g.vars [] j hlt;rw [List.nil_append] at hnx;have HRep:=Lib.hid (fun (w':World) (x:Ext w3 w') (S:Nat→Prop) (qa:Option Addr) (qn qc:Nat) (hq:qn≤1000000) (p:PathAt S w' qa qn qc)=>GS w.heap.size m (Ct [] (g.vars.take j)) vj (-1) (ET (g.vars.take j) g.vars[j].name) g.vars[j].name S qa qn qc w' (by omega) hq p (hF.ext x))
   rw [←hnx] at HRep
   clear hget hF hnx htw;have hm:(j:Int)=(j:Int):=rfl
   generalize g.vars[j]=x at *
   obtain ⟨xn,xk,xl⟩:=x;dsimp only at HFr HRep;replace r0:Row w3 ⟨kb,ko+j*3,none⟩ [str xn,.int .u8 xk,.int .i64 xl]:=r0
   generalize ET (g.vars.take j) xn=ex at *
   unfold K5 at d
   have X3:=Ext.refl w3;have X4:=Fr.refl (fun k=>k=m∨vj.ownBlock=some k) w3
   focus
    refine eK ?_;refine C1 (Gb r0) (eA [_,_,_] ?_);intro di dj bh bi dk dl;revert d hms hps X h4 hvs hvt r0 X3 X4;refine eE bi ?_;intro d hms hps X h4 hvs hvt r0 X3 X4;refine C1 Pa (eS [_,_,_] bh ?_);intro av r aw bv;revert d hms hps X h4 hvs hvt r0 X3 X4;refine eF aw ?_;intro d hms hps X h4 hvs hvt r0 X3 X4;refine cT (Ax (fun wz=>Ext av wz) 12 (.pure 0 (.pure 1 (.pure 3 (.pure 4 (.pure 5 (.pure 6 (.pure 7 (.pure 8 (.pure 9 (.pure 10 (.fork 2 (.fork 11 .tail .none) (.fork 11 (.fork 2 .tail .none) .none)))))))))))) mixed (by kernel_rfl) (Ao (Ac (Ac (Ao (Ac Ak))))) ?_);intro ax ai _;have o:(fun wz=>Ext av wz) ax:=ai;simp only at o;have R:=r;have I:=d;have Z:=hms;have aa:=hps;have T:=h4;have ab:=hvs;have an:=hvt;have aj:=r0;revert r d hms hps X h4 hvs hvt r0 X3 X4;refine eY ai ?_;intro bw r d hms hps X h4 hvs hvt r0 X3 X4;refine ⟨o,?_⟩;refine Tq rfl (Db I) (Tq rfl Mv (Tq rfl Pg (Tq rfl (Db R) (Tq rfl Pg (Tq rfl (Db T) (Tq rfl Mv (Tq rfl (EF Aa rfl rfl rfl rfl hm (by omega)) (Tq rfl Pg (Tq rfl (Db R) ?_)))))))));refine At rfl (AM [_] Aa Bj rfl rfl rfl rfl rfl rfl rfl rfl rfl) rfl ?_ (fun _ h=>h) ?kra18;rintro _ bx ⟨bz,rfl,U,b0⟩;have L:=U.blk
    dsimp only at L;have ay:=U.ext;have b2:=U.pos;have b3:=U.size;revert o r d hms hps X h4 hvs hvt r0 X3 X4;refine eE ay ?_;intro o r d hms hps X h4 hvs hvt r0 X3 X4;refine ⟨o,?_⟩;refine At rfl (Av (by kernel_rfl) rfl (HFr.out _ _ _ _ hvt) (fun _ _ h=>⟨_,h.1⟩)) rfl ?_ (fun _ h=>h) As;rintro _ b4 ⟨⟨⟩,az⟩;revert L o r d hms hps X h4 hvs hvt r0 X3 X4;refine eY az ?_;intro b5 L o r d hms hps X h4 hvs hvt r0 X3 X4;refine ⟨o,?_⟩;refine Az rfl ?_;refine AQ (BQ (fi:=[]) (ca:=[.pointer (some ⟨m,0,none⟩)]) (by kernel_rfl) rfl rfl (HRep.out _ ‹_› _ _ _ _ (by omega) (Ol ‹_› rfl)) (fun _ _ h=>h.ret)) rfl ?_ (fun _ h=>h);rintro _ b6 ⟨⟨⟩,⟨bj,⟨b7,⟨v,b8⟩⟩⟩⟩;have b9:=v.size;replace L:=Blk.fr L v (fun h=>by (rcases h with h|h;omega;have:=hown _ h;omega));replace r:=Blk.fr r v (fun h=>by (rcases h with h|h;omega;have:=hown _ h;omega));replace d:=Blk.fr d v (hnR);replace hms:=Nd.sits.fr hms v (fun b hb h=>by (rcases h with h|h;omega;have:=hown _ h;omega));replace hps:=PDsC.fr hps v (fun b hb h=>by (rcases h with h|h;omega;have:=hown _ h;omega));replace X:=Ext.fr X v (fun k hk=>by (rcases hk with h|h;omega;have:=hown _ h;omega))
    replace h4:=Blk.fr h4 v (G);replace hvs:=VDs.fr hvs v (fun b hb h=>by (rcases h with h|h;omega;have:=hown _ h;omega));replace hvt:=VDs.fr hvt v (fun b hb h=>by (rcases h with h|h;omega;have:=hown _ h;omega));replace X4:=Fr.fr X4 v (fun k hk=>Or.inl hk);refine Aj (An (Ai (Ah (C1 V7 (C1 Mv (Aj ?_))))));rotate_left;refine At rfl (Av (by kernel_rfl) rfl (HFr.out _ _ _ _ hvt) (fun _ _ h=>⟨_,h.1⟩)) rfl ?_ (fun _ h=>h) As;rintro _ cb ⟨⟨⟩,a0⟩;revert o r d hms hps X h4 hvs hvt r0 X3 X4;refine eY a0 ?_;intro cc o r d hms hps X h4 hvs hvt r0 X3 X4;refine ⟨o,?_⟩;refine At rfl (AM [_] Aa Bj rfl rfl rfl rfl rfl rfl rfl rfl rfl) rfl ?_ (fun _ h=>h) As;rintro _ cd ⟨ce,rfl,V,cf⟩;have ac:=V.blk;dsimp only at ac;have a1:=V.ext;have cg:=V.pos;have ch:=V.size;revert o r d hms hps X h4 hvs hvt r0 X3 X4;refine eE a1 ?_;intro o r d hms hps X h4 hvs hvt r0 X3 X4;refine ⟨o,?_⟩;refine Az rfl ?_;refine AQ (BQ (fi:=[]) (ca:=[.pointer (some ⟨m,0,none⟩)]) (by kernel_rfl) rfl rfl (HRep.out _ ‹_› _ _ _ _ (by omega) (Ol ‹_› rfl)) (fun _ _ h=>h.ret)) rfl ?_ (fun _ h=>h)
    rintro _ ci ⟨⟨⟩,⟨bk,⟨cj,⟨z,ck⟩⟩⟩⟩;have cl:=z.size;replace ac:=Blk.fr ac z (fun h=>by (rcases h with h|h;omega;have:=hown _ h;omega));replace r:=Blk.fr r z (fun h=>by (rcases h with h|h;omega;have:=hown _ h;omega));replace d:=Blk.fr d z (hnR);replace hms:=Nd.sits.fr hms z (fun b hb h=>by (rcases h with h|h;omega;have:=hown _ h;omega));replace hps:=PDsC.fr hps z (fun b hb h=>by (rcases h with h|h;omega;have:=hown _ h;omega));replace X:=Ext.fr X z (fun k hk=>by (rcases hk with h|h;omega;have:=hown _ h;omega));replace h4:=Blk.fr h4 z (G);replace hvs:=VDs.fr hvs z (fun b hb h=>by (rcases h with h|h;omega;have:=hown _ h;omega));replace hvt:=VDs.fr hvt z (fun b hb h=>by (rcases h with h|h;omega;have:=hown _ h;omega));replace X4:=Fr.fr X4 z (fun k hk=>Or.inl hk);refine Aj (An (Ai (Ah (C1 V7 (C1 Mv (Aj ?_))))));rotate_left
   · have e4:=K9 X4 ‹_› (by omega)
     exact AW (j+1,_) sB ⟨by simp only;omega,by assumption,k1.eff e4,kR.eff e4,d,h4,hvs,hms,hps,X⟩ (by simp only;omega)
   · have e4:=K9 X4 ‹_› (by omega)
     exact AW (j+1,_) sB ⟨by simp only;omega,by assumption,k1.eff e4,kR.eff e4,d,h4,hvs,hms,hps,X⟩ (by simp only;omega)
 · obtain rfl:j=g.vars.length:=by omega
   rw [List.take_length] at hF
   focus
    refine cS (C1 V3 (cT (Am (Hn (Ds (A5 (A5 (Bw (Ai (Am (cS ?_)))))))))));refine C1 Pf (C1 (Pl h4) (C1 Pz (C1 Mv (cT ?_))));rotate_left
   refine AK ?_;refine Bn (ι:=Nat×Value) (fun x=>[(1,.pointer (some ⟨b1,0,none⟩)),(3,.pointer (some ⟨m,0,none⟩)),(4,.pointer (some ⟨t,0,none⟩)),(38,.slice pa g.procs.length pc),(39,.int .i64 g.procs.length),(40,.int .i64 x.1)])
    (fun x w'=>x.1≤g.procs.length∧FS w.heap.size m (Ct [] g.vars+CZ g.procs 0 (g.procs.take x.1)) w' x.2∧Kp m w' x.2 b1∧Kp m w' x.2 t∧Blk w' t [K5 m]∧Blk w' b1 (g.cells va vc pa pc ma mc)∧VDs (· < w.heap.size) w' g.vars va∧g.main.sits (· < w.heap.size) w' ma∧PDsC (· < w.heap.size) w' g.procs pa∧Ext w w')
    (fun x=>g.procs.length-x.1) (0,vj) sB ⟨Nat.zero_le _,hF,k1,kR,d,h4,hvs,hms,hps,X⟩ ?_
   clear hF k1 kR d h4 hvs hms hps X hlt hj;rintro ⟨j,vj⟩ w3 ⟨hj,hF,k1,kR,d,h4,hvs,hms,hps,X⟩;simp only at hj hF k1 kR d h4 hvs hms hps X;have htw:=E9 g.vars []
   by_cases hlt:j<g.procs.length
   · have hown : ∀q,vj.ownBlock=some q→w.heap.size≤q∧q<w3.heap.size∧q≠b1∧q≠t:=fun q hq=>⟨hF.own.ge hq,hF.own.lt hq,fun e=>k1.2.2 (e▸hq),fun e=>kR.2.2 (e▸hq)⟩
     have G:=k1.not;have hnR:=kR.not;have ah:=k1.1;have hbR:=kR.1;have Y:=hF.cell.lt;have hxs:=X.size
     have hple:=Jg g.procs 2009 (g.procs.take j) 0 (fun i p hp=>by
      obtain ⟨c1,c2,-,c4⟩:=D9 (o4 p (List.mem_of_mem_take hp));obtain ⟨-,-,c3⟩:=body_iff.1 c4;have h1:=E9 p.params [];have h2:=Pp g.procs p.body p.params
      unfold K8
      split<;>omega)
     have hjm:(g.procs.take j).length*2009≤64*2009:=Nat.mul_le_mul_right _ (by simp;omega);have hnx:=JA g.procs g.procs 0 j hlt;rw [Nat.zero_add] at hnx;have hPL:=Tj hlt;obtain ⟨c1,c2,-,c4⟩:=D9 (o4 _ (List.getElem_mem hlt));obtain ⟨-,-,c3⟩:=body_iff.1 c4;have n:=hps.pds;obtain ⟨kb,ko,rfl,kS,hget⟩:=hps.get (by intro e;rw [e] at hlt;simp at hlt);obtain ⟨qa,qc,ba,bc,r0,hpv,hpb,hqc⟩:=hget j g.procs[j] (List.getElem?_eq_getElem hlt);clear hget c4;have HPr:=Lib.hid (MG g (by omega) g.procs[j].name (· < w.heap.size) va vc (some ⟨kb,ko,none⟩) pc ma mc)
     generalize hM:Ct [] g.vars+CZ g.procs 0 (g.procs.take j)=M at *
     have hMb:M≤1000000:=by omega
     generalize F7 g.procs g.procs[j].name=np at *
     generalize g.procs[j]=x at *
     focus
      refine eK ?_;refine C1 (Gb r0) (eA [_] ?_);intro H dm ao bl dn dp;revert d hvs hms X h4 hps n hF r0 hpv hpb;refine eE bl ?_;intro d hvs hms X h4 hps n hF r0 hpv hpb;refine eA [_,_,_,_,_,_] ?_;intro N cm ad a2 cn co;revert ao d hvs hms X h4 hps n hF r0 hpv hpb;refine eE a2 ?_;intro ao d hvs hms X h4 hps n hF r0 hpv hpb;refine eS [_] ao ?_;intro cp f ae cq;revert ad d hvs hms X h4 hps n;refine eF ae ?_;intro ad d hvs hms X h4 hps n;replace hF:=FS.fr hF ae (fun k hk=>⟨by omega,fun e=>by have:=hown _ e;omega⟩);revert r0 hpv hpb;refine eF ae ?_;intro r0 hpv hpb;refine eS [_,_,_,_,_,_] ad ?_;intro A l af cr;revert f d hvs hms X h4 hps n;refine eF af ?_;intro f d hvs hms X h4 hps n;replace hF:=FS.fr hF af (fun k hk=>⟨by omega,fun e=>by have:=hown _ e;omega⟩);revert r0 hpv hpb;refine eF af ?_;intro r0 hpv hpb;refine cT (Am ?_);rotate_left
     have B:Kp m A vj H:=⟨by omega,by omega,fun e=>by have:=hown _ e;omega⟩;have D:Kp m A vj N:=⟨by omega,by omega,fun e=>by have:=hown _ e;omega⟩;replace k1:=k1.grow (w':=A) (by omega);replace kR:=kR.grow (w':=A) (by omega);have HRep:=Lib.hid (fun (w':World) (x':Ext A w')=>GS w.heap.size m M vj j 22 x.name (fun _=>True) none 0 0 w' (by omega) (by omega) PathAt.nil (hF.ext x'));rw [show M+Mg 22=M+1 from rfl] at HRep;refine Fv (ι:=Value) (fun _=>[(1,.pointer (some ⟨b1,0,none⟩)),(3,.pointer (some ⟨m,0,none⟩)),(4,.pointer (some ⟨t,0,none⟩)),(38,.slice (some ⟨kb,ko,none⟩) g.procs.length pc),(39,.int .i64 g.procs.length),(40,.int .i64 j),(7,.pointer (some ⟨H,0,none⟩)),(8,.pointer (some ⟨N,0,none⟩))]) (fun v2 w'=>FS w.heap.size m (M+(if np<(j:Int) then 1 else 0)) w' v2∧Kp m w' v2 b1∧Kp m w' v2 t∧Kp m w' v2 H∧Kp m w' v2 N∧Blk w' t [K5 m]∧Blk w' b1 (g.cells va vc (some ⟨kb,ko,none⟩) pc ma mc)∧VDs (· < w.heap.size) w' g.vars va∧g.main.sits (· < w.heap.size) w' ma∧PDsC (· < w.heap.size) w' g.procs (some ⟨kb,ko,none⟩)∧Ext w w'∧Blk w' H [.int .i64 j]∧Blk w' N (x.cells qa qc ba bc)∧VDs (· < w.heap.size) w' x.params qa∧x.body.sits (· < w.heap.size) w' ba) ?_ ?_
     · have X3:=Ext.refl A;have X4:=Fr.refl (fun k=>k=m∨vj.ownBlock=some k) A
       unfold K5 at d
       focus
        refine Am (Ax (fun wz=>Ext A wz) 5 (.pure 0 (.pure 1 (.pure 2 (.pure 4 (.fork 3 .tail .none))))) mixed (by kernel_rfl) (Ac (Ac (Ao (Ac (Ac (Ao (Ac Ak))))))) ?_);intro bm a3 _;have O:(fun wz=>Ext A wz) bm:=a3;simp only at O;have J:=l;have K:=f;have I:=d;have ab:=hvs;have Z:=hms;have T:=h4;have aa:=hps;have bd:=n;have cs:=hF;have aj:=r0;have ap:=hpv;have aq:=hpb;revert l f d hvs hms X h4 hps n hF r0 hpv hpb X3 X4;refine eY a3 ?_;intro dq l f d hvs hms X h4 hps n hF r0 hpv hpb X3 X4;refine ⟨O,?_⟩;refine Tq rfl (Aw [_,_,_,_,_,_] Aa rfl rfl rfl (fun wz hz=>(Blk.ext T hz)) rfl rfl) (Tq rfl Pg (Tq rfl (Db J) (Tq rfl (Db K) ?_)));refine At rfl (Av (by kernel_rfl) rfl (HPr.out _ ‹_›) (fun _ _ h=>⟨_,h.1⟩)) rfl ?_ (fun _ h=>h) As;rintro _ dr ⟨⟨⟩,bn⟩;revert O l f d hvs hms X h4 hps n hF r0 hpv hpb X3 X4;refine eY bn ?_;intro ds O l f d hvs hms X h4 hps n hF r0 hpv hpb X3 X4;refine ⟨O,?_⟩;refine Az rfl ?_;refine eK ?_;refine AO rfl (fun bo=>?_) (fun bo=>?_);refine eK ?_;refine AQ (BQ (fi:=[]) (ca:=[.pointer (some ⟨m,0,none⟩)]) (by kernel_rfl) rfl rfl (HRep.out _ ‹_›) (fun _ _ h=>h.ret)) rfl ?_ (fun _ h=>h)
        rintro _ ct ⟨⟨⟩,⟨bp,⟨cu,⟨u,cv⟩⟩⟩⟩;have cw:=u.size;replace l:=Blk.fr l u (fun h=>by (rcases h with h|h;omega;have:=hown _ h;omega));replace f:=Blk.fr f u (fun h=>by (rcases h with h|h;omega;have:=hown _ h;omega));replace d:=Blk.fr d u (hnR);replace hvs:=VDs.fr hvs u (fun b hb h=>by (rcases h with h|h;omega;have:=hown _ h;omega));replace hms:=Nd.sits.fr hms u (fun b hb h=>by (rcases h with h|h;omega;have:=hown _ h;omega));replace X:=Ext.fr X u (fun k hk=>by (rcases hk with h|h;omega;have:=hown _ h;omega));replace h4:=Blk.fr h4 u (G);replace hps:=PDsC.fr hps u (fun b hb h=>by (rcases h with h|h;omega;have:=hown _ h;omega));replace n:=PDs.fr n u (fun b hb h=>by (rcases h with h|h;omega;have:=hown _ h;omega));clear hF r0;replace hpv:=VDs.fr hpv u (fun b hb h=>by (rcases h with h|h;omega;have:=hown _ h;omega));replace hpb:=Nd.sits.fr hpb u (fun b hb h=>by (rcases h with h|h;omega;have:=hown _ h;omega));replace X4:=Fr.fr X4 u (fun k hk=>Or.inl hk);refine Aj ?_;rotate_left;refine AH ?_;rotate_left
       · have e4:=K9 X4 ‹_› (by omega)
         exact CG _ sB ⟨by rw [if_pos ‹_›];assumption,k1.eff e4,kR.eff e4,B.eff e4,D.eff e4,d,h4,hvs,hms,hps,X,f,l,hpv,hpb⟩
       · exact CG vj sB ⟨by rw [if_neg ‹_›];exact hF,k1.grow (by omega),kR.grow (by omega),B.grow (by omega),D.grow (by omega),d,h4,hvs,hms,hps,X,f,l,hpv,hpb⟩
     · clear l f d h4 hvs hms hps n hF r0 hpv hpb X k1 kR B D HRep HPr hown G hnR ah hbR Y;rintro v2 w4 ⟨hF,k1,kR,B,D,d,h4,hvs,hms,hps,X,f,l,hpv,hpb⟩;obtain ⟨d1,ar⟩ : ∃d1:Nat,d1=(if np<(j:Int) then 1 else 0):=⟨_,rfl⟩
       have hd1b:d1≤1:=by rw [ar];split<;>omega
       rw [←ar] at hF
       focus
        refine Am (cS (C1 Pf (C1 (Pl l) (C1 Pz (C1 Mv (cT ?_))))));rotate_left
       refine AK ?_;refine Bn (ι:=Nat×Value) (fun y=>[(1,.pointer (some ⟨b1,0,none⟩)),(3,.pointer (some ⟨m,0,none⟩)),(4,.pointer (some ⟨t,0,none⟩)),(38,.slice (some ⟨kb,ko,none⟩) g.procs.length pc),(39,.int .i64 g.procs.length),(40,.int .i64 j),(7,.pointer (some ⟨H,0,none⟩)),(8,.pointer (some ⟨N,0,none⟩)),(57,.slice qa x.params.length qc),(58,.int .i64 x.params.length),(59,.int .i64 y.1)])
        (fun y w'=>y.1≤x.params.length∧FS w.heap.size m (M+d1+Ct [] (x.params.take y.1)) w' y.2∧Kp m w' y.2 b1∧Kp m w' y.2 t∧Kp m w' y.2 H∧Kp m w' y.2 N∧Blk w' t [K5 m]∧Blk w' b1 (g.cells va vc (some ⟨kb,ko,none⟩) pc ma mc)∧VDs (· < w.heap.size) w' g.vars va∧g.main.sits (· < w.heap.size) w' ma∧PDsC (· < w.heap.size) w' g.procs (some ⟨kb,ko,none⟩)∧Ext w w'∧Blk w' H [.int .i64 j]∧Blk w' N (x.cells qa qc ba bc)∧VDs (· < w.heap.size) w' x.params qa∧x.body.sits (· < w.heap.size) w' ba)
        (fun y=>x.params.length-y.1) (0,v2) sB ⟨Nat.zero_le _,hF,k1,kR,B,D,d,h4,hvs,hms,hps,X,f,l,hpv,hpb⟩ ?_
       clear hF k1 kR B D d h4 hvs hms hps X f l hpv hpb;rintro ⟨i,vi⟩ w5 ⟨hi,hF,k1,kR,B,D,d,h4,hvs,hms,hps,X,f,l,hpv,hpb⟩;simp only at hi hF k1 kR B D d h4 hvs hms hps X f l hpv hpb;have htp:=E9 (x.params.take i) []
       have hown : ∀q,vi.ownBlock=some q→w.heap.size≤q∧q<w5.heap.size∧q≠b1∧q≠t∧q≠H∧q≠N:=fun q hq=>⟨hF.own.ge hq,hF.own.lt hq,fun e=>k1.2.2 (e▸hq),fun e=>kR.2.2 (e▸hq),fun e=>B.2.2 (e▸hq),fun e=>D.2.2 (e▸hq)⟩
       have G:=k1.not;have hnR:=kR.not;have ah:=k1.1;have hbR:=kR.1;have a4:=B.not;have a5:=D.not;have dt:=B.1;have du:=D.1;have cx:=hF.cell.lt
       by_cases hlti:i<x.params.length
       · obtain ⟨zb,zo,rfl,zS,hget⟩:=hpv.get (by intro e;rw [e] at hlti;simp at hlti);have r0:=hget i x.params[i] (List.getElem?_eq_getElem hlti)
         have htl:(x.params.take i).length=i:=by simp;omega
         have hvt:=hpv.take i;have HFr:=Lib.hid (MF (x.params.take i) (by omega) x.params[i].name);rw [htl] at HFr;have hnx:=GT x.params [] i hlti;rw [List.nil_append] at hnx
         have ak:M+d1+Ct [] (x.params.take (i+1))=M+d1+Ct [] (x.params.take i)+Mg (ET (x.params.take i) x.params[i].name):=by rw [hnx];omega
         have HRep:=Lib.hid (fun (w':World) (x':Ext w5 w')=>GS w.heap.size m (M+d1+Ct [] (x.params.take i)) vi j (ET (x.params.take i) x.params[i].name) x.params[i].name (fun _=>True) none 0 0 w' (by omega) (by omega) PathAt.nil (hF.ext x'))
         rw [←ak] at HRep
         clear hget hF hnx ak;have hm:(i:Int)=(i:Int):=rfl
         generalize x.params[i]=y at *
         obtain ⟨yn,yk,yl⟩:=y;dsimp only at HFr HRep;replace r0:Row w5 ⟨zb,zo+i*3,none⟩ [str yn,.int .u8 yk,.int .i64 yl]:=r0
         generalize ET (x.params.take i) yn=ex at *
         unfold K5 at d
         have X3:=Ext.refl w5;have X4:=Fr.refl (fun k=>k=m∨vi.ownBlock=some k) w5
         focus
          refine eK ?_;refine C1 (Gb r0) (eA [_,_,_] ?_);intro dv dw bq br dx dy;revert d h4 hvs hms hps X f hpb l hpv hvt r0 X3 X4;refine eE br ?_;intro d h4 hvs hms hps X f hpb l hpv hvt r0 X3 X4;refine C1 Pa (eS [_,_,_] bq ?_);intro a6 E a7 cy;revert d h4 hvs hms hps X f hpb l hpv hvt r0 X3 X4;refine eF a7 ?_;intro d h4 hvs hms hps X f hpb l hpv hvt r0 X3 X4;refine cT (Ax (fun wz=>Ext a6 wz) 11 (.pure 0 (.pure 1 (.pure 2 (.pure 3 (.pure 4 (.pure 5 (.pure 6 (.pure 7 (.pure 8 (.pure 9 (.fork 10 .tail .none))))))))))) mixed (by kernel_rfl) (Ao (Ac (Ac (Ao (Ac (Ao (Ac (Ac (Ao (Ac Ak)))))))))) ?_);intro a8 al _;have F:(fun wz=>Ext a6 wz) a8:=al;simp only at F;have W:=E;have I:=d;have T:=h4;have ab:=hvs;have Z:=hms;have aa:=hps;have K:=f;have aq:=hpb;have J:=l;have ap:=hpv;have an:=hvt;have aj:=r0;revert E d h4 hvs hms hps X f hpb l hpv hvt r0 X3 X4;refine eY al ?_;intro cz E d h4 hvs hms hps X f hpb l hpv hvt r0 X3 X4;refine ⟨F,?_⟩;refine Tq rfl (Db I) (Tq rfl (Db K) (Tq rfl Pg (Tq rfl (Db W) (Tq rfl Pf (Tq rfl (Db J) (Tq rfl Mv (Tq rfl (EF Aa rfl rfl rfl rfl hm (by omega)) (Tq rfl Pg (Tq rfl (Db W) ?_)))))))))
          refine At rfl (Av (by kernel_rfl) rfl (HFr.out _ _ _ _ hvt) (fun _ _ h=>⟨_,h.1⟩)) rfl ?_ (fun _ h=>h) As;rintro _ c0 ⟨⟨⟩,a9⟩;revert F E d h4 hvs hms hps X f hpb l hpv hvt r0 X3 X4;refine eY a9 ?_;intro c5 F E d h4 hvs hms hps X f hpb l hpv hvt r0 X3 X4;refine ⟨F,?_⟩;refine Az rfl ?_;refine AQ (BQ (fi:=[]) (ca:=[.pointer (some ⟨m,0,none⟩)]) (by kernel_rfl) rfl rfl (HRep.out _ ‹_›) (fun _ _ h=>h.ret)) rfl ?_ (fun _ h=>h);rintro _ c6 ⟨⟨⟩,⟨bs,⟨c7,⟨s,c8⟩⟩⟩⟩;have c9:=s.size;replace E:=Blk.fr E s (fun h=>by (rcases h with h|h;omega;have:=hown _ h;omega));replace d:=Blk.fr d s (hnR);replace h4:=Blk.fr h4 s (G);replace hvs:=VDs.fr hvs s (fun b hb h=>by (rcases h with h|h;omega;have:=hown _ h;omega));replace hms:=Nd.sits.fr hms s (fun b hb h=>by (rcases h with h|h;omega;have:=hown _ h;omega));replace hps:=PDsC.fr hps s (fun b hb h=>by (rcases h with h|h;omega;have:=hown _ h;omega));replace X:=Ext.fr X s (fun k hk=>by (rcases hk with h|h;omega;have:=hown _ h;omega));replace f:=Blk.fr f s (a4);replace hpb:=Nd.sits.fr hpb s (fun b hb h=>by (rcases h with h|h;omega;have:=hown _ h;omega));replace l:=Blk.fr l s (a5)
          replace hpv:=VDs.fr hpv s (fun b hb h=>by (rcases h with h|h;omega;have:=hown _ h;omega));replace hvt:=VDs.fr hvt s (fun b hb h=>by (rcases h with h|h;omega;have:=hown _ h;omega));replace X4:=Fr.fr X4 s (fun k hk=>Or.inl hk);refine Aj (An (Ai (Ah (C1 V7 (C1 Mv (Aj ?_))))));rotate_left
         have e4:=K9 X4 ‹_› (by omega)
         exact AW (i+1,_) sB ⟨by simp only;omega,by assumption,k1.eff e4,kR.eff e4,B.eff e4,D.eff e4,d,h4,hvs,hms,hps,X,f,l,hpv,hpb⟩ (by simp only;omega)
       · obtain rfl:i=x.params.length:=by omega
         rw [List.take_length] at hF htp
         have HVis:=Lib.hid (fun (w':World) (x':Ext w5 w') (h1:x.body.sits (· < w.heap.size) w' ba) (h2:PDs (· < w.heap.size) w' g.procs (some ⟨kb,ko,none⟩)) (h3:VDs (· < w.heap.size) w' x.params qa)=>
          Ok w.heap.size m (by omega) 31 [.pointer (some ⟨t,0,none⟩),.pointer (some ⟨H,0,none⟩)] (by kernel_rfl) _ (RE w.heap.size m t H j) g (by omega) va vc (some ⟨kb,ko,none⟩) pc ma mc (x.body.size+1)
           x.body x.params (· < w.heap.size) (fun _=>False) ba bc qa qc none 0 0 w' vi (M+d1+Ct [] x.params) (by omega) (by omega) (by omega) (by omega) h1 h2 h3 hqc PathAt.nil
           (fun b hb=>⟨by have:=x'.size;have:=X.size;omega,by omega,fun e=>by have:=hown _ e;omega⟩) (fun _ h=>h.elim) (hF.ext x') ⟨d.ext x',f.ext x',kR.grow x'.size,B.grow x'.size⟩)
         have hfin:M+d1+Ct [] x.params+x.body.flt g.procs x.params=Ct [] g.vars+CZ g.procs 0 (g.procs.take (j+1)):=by
          have bt:d1=if (B9 g.procs x.name).getD j<j then 1 else 0:=by
           rw [ar];have h:=decide_eq_decide.1 hPL
           by_cases h1:np<(j:Int)
           · rw [if_pos h1,if_pos (h.1 h1)]
           · rw [if_neg h1,if_neg (fun e=>h1 (h.2 e))]
          rw [hnx,bt,K8]
          omega
         rw [hfin] at HVis;have n:=hps.pds;have X3:=Ext.refl w5;have X4:=Fr.refl (fun k=>k=m∨vi.ownBlock=some k) w5
         focus
          refine eK ?_;refine Ae [_,_,_,_,_,_] Aa rfl rfl rfl h4 rfl rfl rfl (C1 Pf (Ae [_,_,_,_] Aa rfl rfl rfl l rfl rfl rfl ?_));refine eK ?_;refine C1 (E8 rfl) (cC rfl (HVis.out _ ‹_› ‹_› ‹_› ‹_›) ?_);rintro _ dz ⟨⟨⟩,⟨da,⟨d0,⟨C,d2⟩⟩⟩⟩;have d3:=C.size;replace d:=Blk.fr d C (hnR);replace h4:=Blk.fr h4 C (G);replace hvs:=VDs.fr hvs C (fun b hb h=>by (rcases h with h|h;omega;have:=hown _ h;omega));replace hms:=Nd.sits.fr hms C (fun b hb h=>by (rcases h with h|h;omega;have:=hown _ h;omega));replace hps:=PDsC.fr hps C (fun b hb h=>by (rcases h with h|h;omega;have:=hown _ h;omega));replace X:=Ext.fr X C (fun k hk=>by (rcases hk with h|h;omega;have:=hown _ h;omega));replace f:=Blk.fr f C (a4);replace l:=Blk.fr l C (a5);replace hpv:=VDs.fr hpv C (fun b hb h=>by (rcases h with h|h;omega;have:=hown _ h;omega));replace hpb:=Nd.sits.fr hpb C (fun b hb h=>by (rcases h with h|h;omega;have:=hown _ h;omega));clear hF;replace n:=PDs.fr n C (fun b hb h=>by (rcases h with h|h;omega;have:=hown _ h;omega));replace X4:=Fr.fr X4 C (fun k hk=>Or.inl hk);refine Aj (An (Ai (Ah (C1 V7 (C1 Mv (Aj ?_))))));rotate_left
         have e4:=K9 X4 ‹_› (by omega)
         exact AW (j+1,_) sB ⟨by simp only;omega,by assumption,k1.eff e4,kR.eff e4,d,h4,hvs,hms,hps,X⟩ (by simp only;omega)
   · obtain rfl:j=g.procs.length:=by omega
     rw [List.take_length] at hF
     have hown : ∀q,vj.ownBlock=some q→w.heap.size≤q∧q<w3.heap.size∧q≠b1∧q≠t:=fun q hq=>⟨hF.own.ge hq,hF.own.lt hq,fun e=>k1.2.2 (e▸hq),fun e=>kR.2.2 (e▸hq)⟩
     have G:=k1.not;have hnR:=kR.not;have ah:=k1.1;have hbR:=kR.1;have Y:=hF.cell.lt;have hxs:=X.size;obtain ⟨-,-,c3⟩:=body_iff.1 o5
     have hple:=Jg g.procs 2009 g.procs 0 (fun i p hp=>by
      obtain ⟨c1,c2,-,c4⟩:=D9 (o4 p hp);obtain ⟨-,-,c3⟩:=body_iff.1 c4;have h1:=E9 p.params [];have h2:=Pp g.procs p.body p.params
      unfold K8
      split<;>omega)
     have hjm:g.procs.length*2009≤64*2009:=Nat.mul_le_mul_right _ o2;have n:=hps.pds
     have HVis:=Lib.hid (fun (w':World) (x':Ext w3 w') (h1:g.main.sits (· < w.heap.size) w' ma) (h2:PDs (· < w.heap.size) w' g.procs pa) (h3:VDs (· < w.heap.size) w' g.vars va)=>
      Ok w.heap.size m (by omega) 32 [.pointer (some ⟨t,0,none⟩),.pointer (some ⟨b1,0,none⟩)] (by kernel_rfl) _ (RF w.heap.size m t b1 g va vc pa pc ma mc) g (by omega) va vc pa pc ma mc (g.main.size+1)
       g.main g.vars (· < w.heap.size) (fun _=>False) ma mc va vc none 0 0 w' vj (Ct [] g.vars+CZ g.procs 0 g.procs) (by omega) (by omega) (by omega) (by omega) h1 h2 h3 hvc PathAt.nil
       (fun b hb=>⟨by have:=x'.size;omega,by omega,fun e=>by have:=hown _ e;omega⟩) (fun _ h=>h.elim) (hF.ext x') ⟨d.ext x',h4.ext x',kR.grow x'.size,k1.grow x'.size⟩)
     rw [show Ct [] g.vars+CZ g.procs 0 g.procs+g.main.flt g.procs g.vars=g.flt from rfl] at HVis;have X3:=Ext.refl w3;clear hF
     focus
      refine eK ?_;refine Ae [_,_,_,_,_,_] Aa rfl rfl rfl h4 rfl rfl rfl (C1 Pf (Ae [_,_,_,_] Aa rfl rfl rfl h4 rfl rfl rfl ?_));refine eK ?_;refine C1 (E8 rfl) (cC rfl (HVis.out _ ‹_› ‹_› ‹_› ‹_›) ?_);rintro _ d4 ⟨⟨⟩,⟨bb,⟨au,⟨Q,bu⟩⟩⟩⟩;have d5:=Q.size;replace d:=Blk.fr d Q (hnR);replace h4:=Blk.fr h4 Q (G);replace hvs:=VDs.fr hvs Q (fun b hb h=>by (rcases h with h|h;omega;have:=hown _ h;omega));replace hms:=Nd.sits.fr hms Q (fun b hb h=>by (rcases h with h|h;omega;have:=hown _ h;omega));replace hps:=PDsC.fr hps Q (fun b hb h=>by (rcases h with h|h;omega;have:=hown _ h;omega));replace X:=Ext.fr X Q (fun k hk=>by (rcases hk with h|h;omega;have:=hown _ h;omega));replace n:=PDs.fr n Q (fun b hb h=>by (rcases h with h|h;omega;have:=hown _ h;omega));refine cT ?_;rotate_left
     have hsl : ∃a c,bb = .slice a g.flt c:=by
      obtain ⟨css,h1,-⟩:=au.own.ex;rw [List.length_replicate] at h1
      rcases h1.row with ⟨h2,h0,-⟩|⟨q,cap,h2,-⟩
      · exact ⟨none,0,by rw [h2,h0]⟩
      · exact ⟨_,_,h2⟩
     have hc:=au.cell;obtain ⟨ra,rc,rfl⟩:=hsl;clear au bu d h4 hvs hms hps n
     focus
      refine eK ?_;refine Af rfl rfl ?_;rotate_left
     exact ⟨_,_,rfl,X⟩
theorem ArrS.blkI {C D g:Nat} {w:World} {xs:List Int} (h:ArrS KR C D w g xs):Blk w g (ints xs):=by
 obtain ⟨css,h1,h2,h3⟩:=h.ex
 have e:css=xs.map fun x=>[.int .i64 x]:=by
  refine List.ext_getElem (by simp [h2]) fun i hi a=>?_
  rw [List.getElem_map]
  exact h3 i xs[i] css[i] (List.getElem?_eq_getElem (by omega)) (List.getElem?_eq_getElem hi)
 have e2:css.flatten=ints xs:=by
  rw [e];clear h h1 h2 h3 e
  induction xs with
  | nil=>rfl
  | cons x r ih=>simp only [List.map_cons,List.flatten_cons,ih];rfl
 rw [←e2]
 exact h1
section
variable {c:RC} {P P':Nat→Prop} {w w':World} {r:Rn} {T:Nat→Prop}
theorem UO (hc:c.fuel≤10000) (w:World) (h:Run c P w r):Calls prog 67 #[.pointer (some ⟨c.sb,0,none⟩)] w (SvR r.st.sv w):=by
 obtain ⟨ρ,κ,h⟩:=h;obtain ⟨K,hw⟩:=h.wf
 exact UI hw (by omega) w h.st
theorem Run.small (hc:c.fuel≤10000) (h:Run c P w r):r.st.sv.small:=by
 obtain ⟨ρ,κ,h⟩:=h;obtain ⟨K,hw⟩:=h.wf;obtain ⟨bv,bc,cv,tb,cs,-,-,-,-,ht⟩:=h.st.frs;have h1:=ht.li;have h2:=ht.lo;have h3:=hw.base.len;have h4:=hw.vb _ (List.mem_cons_self ..);refine ⟨by simp only [Stp.sv,List.length_map,List.length_take];omega,fun xs hx=>?_,by simp only [Stp.sv];omega,by simp only [Stp.sv];omega⟩;simp only [Stp.sv,List.mem_map] at hx;obtain ⟨x,-,rfl⟩:=hx
 exact hw.items_le x
theorem UP {B rb sb eb ec vc pc mc f:Nat} {va pa ma:Option Addr} {g:PG} {S:Nat→Prop} {K:List (Int×Int)} {st:Stp} {wn w:World} (hN:NewS B sb st wn) (X:Ext wn w) (hB:B≤wn.heap.size) (hrb:wn.heap.size≤rb) (heb:wn.heap.size≤eb) (hne:rb≠eb)
 (hwf:st.WF K 1000) (hb:Blk w rb [.slice va g.vars.length vc,.slice pa g.procs.length pc,.int .u8 g.main.kind,.int .i64 g.main.num,str g.main.name,.slice ma g.main.kids.length mc,.pointer (some ⟨sb,0,none⟩),.int .i64 0,.int .i64 f,.slice (some ⟨eb,0,none⟩) g.procs.length ec])
 {es:List Int} (hel:es.length=g.procs.length) (he:Blk w eb (ints es)) (hp:PDs S w g.procs pa) (hS : ∀k,S k→P k) (hP : ∀k,P k→k<w.heap.size∧(k<B∨(wn.heap.size≤k∧k≠rb∧k≠eb))) :
 Run ⟨rb,sb,eb,ec,g,va,vc,pa,pc,ma,mc,f,S⟩ P w ⟨st,f⟩:=by
 obtain ⟨ρ,κ,h0,hs⟩:=hN;have hz:=X.size
 have hr:Ro ρ (fun b=>if b=rb then .other 0 else if b=eb then .other 1 else ρ b) wn:=fun b hb=>by
  simp only;rw [if_neg (by omega),if_neg (by omega)]
 have hrl:=hb.lt;have a:=he.lt;have hfr:=hs.fresh;refine ⟨_,κ,if_pos rfl,?_,Nat.le_refl _,?_,⟨es,hel,he⟩,hs.move (Fr.none X) (fun _ h=>h.elim) hr (fun b hb=>?_),⟨K,hwf.mono (by omega)⟩,hp,hS,fun k hk=>⟨fun h=>?_,(hP k hk).1⟩⟩
 · show (if eb=rb then Rl.other 0 else if eb=eb then Rl.other 1 else ρ eb)=Rl.other 1
   rw [if_neg (fun e=>hne e.symm),if_pos rfl]
 · simp only [Int.sub_self]
   exact hb
 · rw [if_neg (by omega),if_neg (by omega)]
   exact hfr b (by omega)
 · obtain ⟨-,h2⟩:=hP k hk
   have e1:ρ k = .none:=by
    rcases h2 with h2|h2
    · exact h0 k h2
    · exact hfr k h2.1
   have e2:(if k=rb then Rl.other 0 else if k=eb then Rl.other 1 else ρ k) = .none:=by
    rw [if_neg (by omega),if_neg (by omega),e1]
   rw [e2] at h
   rcases h with h|h|h
   · exact h
   · cases h
   · cases h
end
def BeginR (res:ResV) (w:World):Ending→World→Prop:=fun e w'=> ∃v a c ta tc oa oc,e = .returned (.tuple #[v,.agg (res.row a c ta tc oa oc).toArray])∧res.st.sits (fun b=>w.heap.size≤b∧b<w'.heap.size) w' a ta oa∧res.st.small∧Ext w w'
theorem BeginR.ret {res:ResV} {w w':World} {e:Ending} (h:BeginR res w e w') : ∃v,e = .returned v:=by
 obtain ⟨_,_,_,_,_,_,_,h,-⟩:=h
 exact ⟨_,h⟩
theorem Qf (g:PG) (hwf:g.wf) (hok:g.ok=true) (h0:g.flt=0) (s:SV) (hf:FitsP g.vars s) (f:Nat) (hfu:f≤10000) (back:Bool) (d:Nat) (hne:AT (AF g.procs d) back g.main ⟨Dv g.vars s g.vars.length,f⟩≠.error (-1))
 (S:Nat→Prop) (va:Option Addr) (vc:Nat) (pa:Option Addr) (pc:Nat) (ma:Option Addr) (mc:Nat) (ca ta oa:Option Addr) (cc tc oc:Nat) (w:World) (hs:g.sits S w va pa ma) (hps:PDsC S w g.procs pa) (hvc:g.vars.length≤vc) (hv:s.sits S w ca ta oa) :
 Calls prog 37 #[.agg (g.cells va vc pa pc ma mc).toArray,.agg (s.row ca cc ta tc oa oc).toArray,.int .i64 f,.bool back] w (BeginR (MM s f (AT (AF g.procs d) back g.main ⟨Dv g.vars s g.vars.length,f⟩)) w):=by
 have X:=Ext.refl w;replace hs:=hs.ltA;replace hps:=hps.ltA;replace hv:=hv.ltA;have hsm:=hf.small;have HV:=Lib.hid (IQ hwf hok);have HC:=Lib.hid (fun w1 h1 h2=>Om g hwf hok (· < w.heap.size) va vc pa pc ma mc w1 h1 h2 hvc);rw [h0] at HC;have HN:=Lib.hid (fun w1 (h1:g.sits (· < w.heap.size) w1 va pa ma) h2=>Wg g.vars s hf (· < w.heap.size) va ca ta oa vc cc tc oc w1 h1.vars h2);have HK:=Lib.hid (fun w1 h=>Rx s (· < w.heap.size) ca ta oa cc tc oc w1 hsm.few hsm.each hsm.tin hsm.tout h);have HPr:=Lib.hid (Tg hwf hok h0);have HMo:=Lib.hid (RD hwf hok h0);have HMb:=Lib.hid (IG hok);have HW:=Lib.hid (UL hf);have hnz:=Og (Qd g.procs d) back g.main ⟨Dv g.vars s g.vars.length,f⟩;have hnp:=(DG hok).2.1;clear hf hwf hok h0;refine Ad func37 ntmps37 rfl rfl ?_
 focus
  refine cS (eB [_,_,_,_,_,_] ?_);intro b1 w2 h4 x5 p6 z7;revert X hs hps hv;refine eE x5 ?_;intro X hs hps hv;refine eB [_,_,_] ?_;intro b8 w9 h11 x12 p13 z14;revert h4 X hs hps hv;refine eE x12 ?_;intro h4 X hs hps hv;refine eB [_] ?_;intro b15 w16 h18 x19 p20 z21;revert h11 h4 X hs hps hv;refine eE x19 ?_;intro h11 h4 X hs hps hv;refine C1 Pa (eA [_,_,_,_,_] ?_);intro b22 w23 h26 x27 p28 z29;revert h18 h11 h4 X hs hps hv;refine eE x27 ?_;intro h18 h11 h4 X hs hps hv;refine eK ?_;refine Ae [_,_,_,_,_,_] Aa rfl rfl rfl h4 rfl rfl rfl (cC rfl (HV.out _ _ _ _ _ _ _ _ ‹_›) ?_);rintro _ w31 ⟨⟨⟩,x30⟩;revert h26 h18 h11 h4 X hs hps hv;refine eY x30 ?_;intro z32 h26 h18 h11 h4 X hs hps hv;refine eK ?_;refine Ae [_,_,_,_,_,_] Aa rfl rfl rfl h4 rfl rfl rfl (BR rfl rfl rfl (rfl) (eQ rfl (HC.out _ ‹_› ‹_›) ?_));rintro _ w36 ⟨a33,⟨c34,⟨⟨⟩,x35⟩⟩⟩;revert h26 h18 h11 h4 X hs hps hv;refine eY x35 ?_;intro z37 h26 h18 h11 h4 X hs hps hv;refine eK ?_;refine C1 (Bh rfl rfl rfl) ?_;refine eK ?_;refine Ae [_,_,_] Aa rfl rfl rfl h11 rfl rfl rfl (eQ rfl (HN.out _ ‹_› ‹_›) ?_);rintro _ w42 ⟨sb38,⟨⟨⟩,⟨h39,⟨h40,x41⟩⟩⟩⟩;revert h26 h18 h11 h4 X hs hps hv;refine eY x41 ?_;intro z43 h26 h18 h11 h4 X hs hps hv
  refine C1 Mv (C1 Px (C1 Px (C1 Pa (C1 Pa (cT (Am (cS (C1 Mv (C1 V2 (cT (U7 ?_)))))))))));refine AH (Ai ?_);rotate_left
 have HNN:=Lib.hid h39;have Xn:=Ext.refl w42;clear h39 HV HC HN;refine G1 (ι:=Nat×Nat×Nat) (fun x=>[(4,.pointer (some ⟨b1,0,none⟩)),(5,.pointer (some ⟨b8,0,none⟩)),(7,.pointer (some ⟨b15,0,none⟩)),(8,.slice none 0 0),(9,.pointer (some ⟨b22,0,none⟩)),(10,.pointer (some ⟨sb38,0,none⟩)),(12,.pointer (some ⟨x.2.2,0,none⟩))])
  (fun x w'=>Blk w' x.1 [.slice va g.vars.length vc,.slice pa g.procs.length pc,.int .u8 g.main.kind,.int .i64 g.main.num,str g.main.name,.slice ma g.main.kids.length mc,.pointer (some ⟨sb38,0,none⟩),.int .i64 0,.int .i64 f,.slice (some ⟨x.2.1,0,none⟩) g.procs.length g.procs.length] ∧
   Blk w' x.2.1 (ints (List.replicate g.procs.length 0))∧Blk w' x.2.2 [.pointer (some ⟨x.1,0,none⟩)]∧w42.heap.size≤x.1∧w42.heap.size≤x.2.1∧w42.heap.size≤x.2.2∧x.1≠x.2.1∧x.2.2≠x.1∧x.2.2≠x.2.1∧Blk w' b1 (g.cells va vc pa pc ma mc)∧Blk w' b8 [.slice ca s.cells.length cc,.slice ta s.tin.length tc,.slice oa s.tout.length oc]∧Blk w' b15 [.bool back]∧Blk w' b22 [.slice none 0 0,.slice none 0 0,.slice none 0 0,.int .i64 0,.int .i64 0]∧g.sits (· < w.heap.size) w' va pa ma∧s.sits (· < w.heap.size) w' ca ta oa∧Ext w42 w'∧Ext w w') ?_ ?_
 · focus
    refine Ax (fun wz=>Ext w42 wz) 10 (.pure 0 (.pure 1 (.pure 2 (.pure 3 (.pure 4 (.pure 5 (.fork 6 (.pure 7 (.fork 8 (.fork 9 .tail .none) (.fork 9 (.fork 8 .tail .none) .none))) (.fork 9 (.fork 6 (.pure 7 (.fork 8 .tail .none)) .none) .none)))))))) mixed (by kernel_rfl) (Ac Ak) ?_;intro wa1 xa2 _;have qsa3:(fun wz=>Ext w42 wz) wa1:=xa2;simp only at qsa3;have d_h26:=h26;have d_h18:=h18;have d_h11:=h11;have d_h4:=h4;have d_hs:=hs;have d_hps:=hps;have d_hv:=hv;revert h26 h18 h11 h4 X hs hps hv Xn;refine eY xa2 ?_;intro za4 h26 h18 h11 h4 X hs hps hv Xn;refine ⟨qsa3,?_⟩;refine Tq rfl (Aw [_,_,_,_,_,_] Aa rfl rfl rfl (fun wz hz=>(Blk.ext d_h4 hz)) rfl rfl) (Tq rfl Mv (Tq rfl Mv (Tq rfl Pf (Tq rfl (Db d_h4) (Tq rfl Pz ?_)))));refine At rfl (E7 (sh:=KR) (C:=0) (D:=0) (N:=g.procs.length) (z:=0) Aa Bj rfl rfl rfl rfl (by kernel_rfl) rfl rfl (by omega) (fun _ _=>rfl)) rfl ?_ (fun _ h=>h) ?kra5;rintro _ wa11 ⟨ga6,⟨rfl,⟨ha7,⟨ha8,⟨ha9,xa10⟩⟩⟩⟩⟩;revert qsa3 h26 h18 h11 h4 X hs hps hv Xn;refine eY xa10 ?_;intro za12 qsa3 h26 h18 h11 h4 X hs hps hv Xn;refine ⟨qsa3,?_⟩;refine Tq rfl (AC [_,_,_,_,_,_,_,_,_,_] Aa Bj rfl rfl rfl rfl) ?_;refine At rfl (Gy rfl rfl) rfl ?_ (fun _ h=>h) ?kra13;rintro _ wa15 ⟨ba14,rfl,na16⟩;have ha17:=na16.blk;have xa18:=na16.ext;have pa19:=na16.pos
    have za20:=na16.size;revert ha7 qsa3 h26 h18 h11 h4 X hs hps hv Xn;refine eE xa18 ?_;intro ha7 qsa3 h26 h18 h11 h4 X hs hps hv Xn;refine ⟨qsa3,?_⟩;refine At rfl (BG Bj rfl) rfl ?_ (fun _ h=>h) As;rintro _ wa23 ⟨ba22,rfl,na24⟩;have ha25:=na24.blk;dsimp only at ha25;have xa26:=na24.ext;have pa27:=na24.pos;have za28:=na24.size;revert ha17 ha7 qsa3 h26 h18 h11 h4 X hs hps hv Xn;refine eE xa26 ?_;intro ha17 ha7 qsa3 h26 h18 h11 h4 X hs hps hv Xn;refine ⟨qsa3,?_⟩;refine Az rfl (eS [_] ha25 ?_);intro wa29 ha33 fa31 za32;revert ha17 ha7 h26 h18 h11 h4 X hs hps hv Xn;refine eF fa31 ?_;intro ha17 ha7 h26 h18 h11 h4 X hs hps hv Xn;refine Aj ?_;rotate_left;refine At rfl (BG Bj rfl) rfl ?_ (fun _ h=>h) As;rintro _ wa36 ⟨ba35,rfl,na37⟩;have ha38:=na37.blk;dsimp only at ha38;have xa39:=na37.ext;have pa40:=na37.pos;have za41:=na37.size;revert ha7 qsa3 h26 h18 h11 h4 X hs hps hv Xn;refine eE xa39 ?_;intro ha7 qsa3 h26 h18 h11 h4 X hs hps hv Xn;refine ⟨qsa3,?_⟩;refine At rfl (Gy rfl rfl) rfl ?_ (fun _ h=>h) As;rintro _ wa44 ⟨ba43,rfl,na45⟩;have ha46:=na45.blk;have xa47:=na45.ext;have pa48:=na45.pos;have za49:=na45.size;revert ha38 ha7 qsa3 h26 h18 h11 h4 X hs hps hv Xn;refine eE xa47 ?_;intro ha38 ha7 qsa3 h26 h18 h11 h4 X hs hps hv Xn
    refine ⟨qsa3,?_⟩;refine Az rfl (eS [_] ha38 ?_);intro wa50 ha54 fa52 za53;revert ha46 ha7 h26 h18 h11 h4 X hs hps hv Xn;refine eF fa52 ?_;intro ha46 ha7 h26 h18 h11 h4 X hs hps hv Xn;refine Aj ?_;rotate_left;refine At rfl (BG Bj rfl) rfl ?_ (fun _ h=>h) As;rintro _ wa57 ⟨ba56,rfl,na58⟩;have ha59:=na58.blk;dsimp only at ha59;have xa60:=na58.ext;have pa61:=na58.pos;have za62:=na58.size;revert qsa3 h26 h18 h11 h4 X hs hps hv Xn;refine eE xa60 ?_;intro qsa3 h26 h18 h11 h4 X hs hps hv Xn;refine ⟨qsa3,?_⟩;refine At rfl (E7 (sh:=KR) (C:=0) (D:=0) (N:=g.procs.length) (z:=0) Aa Bj rfl rfl rfl rfl (by kernel_rfl) rfl rfl (by omega) (fun _ _=>rfl)) rfl ?_ (fun _ h=>h) As;rintro _ wa69 ⟨ga64,⟨rfl,⟨ha65,⟨ha66,⟨ha67,xa68⟩⟩⟩⟩⟩;revert ha59 qsa3 h26 h18 h11 h4 X hs hps hv Xn;refine eY xa68 ?_;intro za70 ha59 qsa3 h26 h18 h11 h4 X hs hps hv Xn;refine ⟨qsa3,?_⟩;refine Tq rfl (AC [_,_,_,_,_,_,_,_,_,_] Aa Bj rfl rfl rfl rfl) ?_;refine At rfl (Gy rfl rfl) rfl ?_ (fun _ h=>h) As;rintro _ wa73 ⟨ba72,rfl,na74⟩;have ha75:=na74.blk;have xa76:=na74.ext;have pa77:=na74.pos;have za78:=na74.size;revert ha65 ha59 qsa3 h26 h18 h11 h4 X hs hps hv Xn;refine eE xa76 ?_;intro ha65 ha59 qsa3 h26 h18 h11 h4 X hs hps hv Xn
    refine ⟨qsa3,?_⟩;refine Az rfl (eS [_] ha59 ?_);intro wa79 ha83 fa81 za82;revert ha75 ha65 h26 h18 h11 h4 X hs hps hv Xn;refine eF fa81 ?_;intro ha75 ha65 h26 h18 h11 h4 X hs hps hv Xn;refine Aj ?_;rotate_left
   all_goals exact CG (_,_,_) (by (repeat (first|exact Dq|refine Be rfl ?_|refine BZ rfl (by go_num) ?_))) ⟨by assumption,ArrS.blkI ‹_›,by assumption,by (try simp only);omega,by (try simp only);omega,by (try simp only);omega,by (try simp only);omega,by (try simp only);omega,by (try simp only);omega,by assumption,by assumption,by assumption,by assumption,by assumption,by assumption,Xn,X⟩
 · clear h4 h11 h18 h26 hs hv hps X Xn
   rintro ⟨rb,eb,b12⟩ w3 ⟨hrb,heb,h12,o1,o2,o3,o4,o5,o6,h4,h11,h18,h26,hs,hv,Xn,X⟩;simp only at hrb heb h12 o1 o2 o3 o4 o5 o6;have hzn:=Xn.size;have h12l:=h12.lt;have hR:Run ⟨rb,sb38,eb,g.procs.length,g,va,vc,pa,pc,ma,mc,f,(· < w.heap.size)⟩ (fun k=>k<w36.heap.size∨k=b12) w3 ⟨Dv g.vars s g.vars.length,f⟩:=
    UP HNN.out Xn (by omega) o1 o2 o4 HW.out hrb (es:=List.replicate g.procs.length 0) (by simp) heb hs.procs (fun k hk=>Or.inl (by omega)) (fun k hk=>by rcases hk with hk|hk<;>omega)
   have HA:Hid (∀jb w4,Ext w3 w4→w3.heap.size≤jb→jb<w4.heap.size→Blk w4 jb [.slice none 0 0,.bool false]→Calls prog 64 #[.pointer (some ⟨jb,0,none⟩),.func (.func 65) #[] #[.pointer (some ⟨b12,0,none⟩),.pointer (some ⟨b1,0,none⟩),.pointer (some ⟨b15,0,none⟩)]] w4 (AttR ⟨rb,sb38,eb,g.procs.length,g,va,vc,pa,pc,ma,mc,f,(· < w.heap.size)⟩ (Ch (fun k=>k<w36.heap.size∨k=b12) w3 w4) (AT (AF g.procs d) back g.main ⟨Dv g.vars s g.vars.length,f⟩) w4)):=Lib.hid fun jb w4 X4 j1 j2 hj=>
    Rw (ca:=[.pointer (some ⟨b12,0,none⟩),.pointer (some ⟨b1,0,none⟩),.pointer (some ⟨b15,0,none⟩)]) (by kernel_rfl) hnz w4 (fun k hk=>by have:=X4.size;rcases hk with (hk|hk)|hk<;>omega) (fun k hk=>Or.inl (Or.inl (by have e:k<w.heap.size:=hk;omega))) (Or.inr ⟨j1,j2⟩) hj (fun w5 X5=>
     Th (c:=⟨rb,sb38,eb,g.procs.length,g,va,vc,pa,pc,ma,mc,f,(· < w.heap.size)⟩) hfu HPr.out HMo.out HMb.out d back hne b12 b1 b15 vc pc mc va pa ma w5 ((hR.more X4).more X5) ((h12.ext X4).ext X5) ((h4.ext X4).ext X5) ((h18.ext X4).ext X5) (Nd.sits.wide ((hs.main.ext X4).ext X5) (fun b hb=>Or.inl (Or.inl (Or.inl (by have e:b<w.heap.size:=hb;omega))))))
   unfold AttR at HA
   generalize AT (AF g.procs d) back g.main ⟨Dv g.vars s g.vars.length,f⟩=Z at *
   have X3:=Ext.refl w3;clear Xn hR
   focus
    refine cS (eA [_,_] ?_);intro bb1 wb2 hb5 xb6 pb7 zb8;revert hrb heb h12 h4 h11 h18 h26 hs hv X X3;refine eE xb6 ?_;intro hrb heb h12 h4 h11 h18 h26 hs hv X X3;refine C1 (E8 rfl) ?_;refine AQ (Av (by kernel_rfl) rfl (HA.out _ _ X3 (by omega) (by omega) ‹_›) (fun _ _ ⟨_,h⟩=>⟨_,h.1⟩)) rfl ?_ (fun _ h=>h);rintro _ wb12 ⟨erb9,⟨⟨⟩,⟨hb10,fb11⟩⟩⟩;have zb13:=fb11.size;clear hb5 hrb heb;replace h12:=Blk.fr h12 fb11 (fun h=>h (Or.inl (Or.inr rfl)));replace h4:=Blk.fr h4 fb11 (fun h=>h (Or.inl (Or.inl (by omega))));replace h11:=Blk.fr h11 fb11 (fun h=>h (Or.inl (Or.inl (by omega))));replace h18:=Blk.fr h18 fb11 (fun h=>h (Or.inl (Or.inl (by omega))));replace h26:=Blk.fr h26 fb11 (fun h=>h (Or.inl (Or.inl (by omega))));replace hs:=PG.sits.fr hs fb11 (fun b hb h=>h (Or.inl (Or.inl (by have e:b<w.heap.size:=hb;omega))));replace hv:=SV.sits.fr hv fb11 (fun b hb h=>h (Or.inl (Or.inl (by have e:b<w.heap.size:=hb;omega))));replace X:=Ext.fr X fb11 (fun k hk=>by (rcases Nat.lt_or_ge k w.heap.size with h|h;exact absurd (Or.inl (Or.inl (by omega))) hk;exact h));refine C1 Pa (cT (Am ?_));rotate_left
   rcases hb10 with ⟨he0,r,hZ,hR⟩|⟨he0,hZ⟩
   · subst he0;have hrr:=hR.rem;have hb:=hR.blk;have hsr:=hR.small hfu;have HS:=Lib.hid (fun w1 (h:Run ⟨rb,sb38,eb,g.procs.length,g,va,vc,pa,pc,ma,mc,f,(· < w.heap.size)⟩ (Ch (fun k=>k<w36.heap.size∨k=b12) w3 wb2) w1 r)=>UO hfu w1 h);simp only at hrr hb HS;rw [hZ]
     generalize hsv:r.st.sv=sv at *
     obtain ⟨cells,tin,tout⟩:=sv
     focus
      refine eK ?_;refine Ax (fun wz=>Ext wb12 wz) 12 (.pure 0 (.pure 1 (.pure 2 (.pure 3 (.pure 4 (.pure 6 (.pure 7 (.pure 8 (.pure 9 (.fork 5 (.pure 10 (.pure 11 .tail)) .none)))))))))) mixed (by kernel_rfl) (Ac Ak) ?_;intro wc1 xc2 _;have qsc3:(fun wz=>Ext wb12 wz) wc1:=xc2;simp only at qsc3;have d_h12:=h12;have d_h4:=h4;have d_h11:=h11;have d_h18:=h18;have d_h26:=h26;have d_hs:=hs;have d_hv:=hv;have d_hR:=hR;have d_hb:=hb;revert h12 h4 h11 h18 h26 hs hv X hR hb;refine eY xc2 ?_;intro zc4 h12 h4 h11 h18 h26 hs hv X hR hb;refine ⟨qsc3,?_⟩;refine Tq rfl (Db d_h12) (Tq rfl Pn (Tq rfl Pf (Tq rfl (Db d_hb) (Tq rfl Mv (Tq rfl (Db d_h12) (Tq rfl Pn (Tq rfl Pf (Tq rfl (Db d_hb) ?_))))))));refine At rfl (Av (by kernel_rfl) rfl (HS.out _ ‹_›) (fun _ _ h=>h.ret)) rfl ?_ (fun _ h=>h) As;rintro _ wc14 ⟨ac6,⟨cc7,⟨tac8,⟨tcc9,⟨oac10,⟨occ11,⟨⟨⟩,⟨hc12,xc13⟩⟩⟩⟩⟩⟩⟩⟩;revert qsc3 h12 h4 h11 h18 h26 hs hv X hR hb;refine eY xc13 ?_;intro zc15 qsc3 h12 h4 h11 h18 h26 hs hv X hR hb;refine ⟨qsc3,?_⟩;refine Tq rfl (AC [_,_,_,_,_] Aa Bj rfl rfl rfl rfl) (Tq rfl Pa ?_);refine Az rfl (eS [_,_,_,_,_] h26 ?_);intro wc16 hc20 fc18 zc19;revert hc12 h12 h4 h11 h18 hs hv X hb;refine eF fc18 ?_;intro hc12 h12 h4 h11 h18 hs hv X hb
      refine cT (B6 ?_);rotate_left
     refine Oh rfl Aa rfl rfl rfl rfl ‹_› rfl ?_;rw [show MM s f (.ok r)=⟨⟨cells,tin,tout⟩,(f:Int)-r.rem,0⟩ by unfold MM;simp only [hsv]]
     exact ⟨_,_,_,_,_,_,_,rfl,SV.sits.wide ‹_› (fun b h=>⟨by omega,by omega⟩),hsr,X⟩
   · focus
      refine eK ?_;refine Ae [_,_,_] Aa rfl rfl rfl h11 rfl rfl rfl (eQ rfl (HK.out _ ‹_›) ?_);rintro _ wd9 ⟨ad1,⟨cd2,⟨tad3,⟨tcd4,⟨oad5,⟨ocd6,⟨⟨⟩,⟨hd7,xd8⟩⟩⟩⟩⟩⟩⟩⟩;revert h12 h4 h11 h18 h26 hs hv X;refine eY xd8 ?_;intro zd10 h12 h4 h11 h18 h26 hs hv X;refine C1 Mv (C1 (AC [_,_,_,_,_] Aa Bj rfl rfl rfl rfl) (C1 Pa (eS [_,_,_,_,_] h26 ?_)));intro wd11 hd15 fd13 zd14;revert hd7 h12 h4 h11 h18 hs hv X;refine eF fd13 ?_;intro hd7 h12 h4 h11 h18 hs hv X;refine cT (B6 (AI ?_));rotate_left
     refine Oh rfl Aa rfl rfl rfl rfl ‹_› rfl ?_;subst hZ
     exact ⟨_,_,_,_,_,_,_,rfl,SV.sits.wide ‹_› (fun b h=>⟨by omega,by omega⟩),hsm,X⟩
def ResR (res:ResV) (w:World):Ending→World→Prop:=fun e w'=> ∃a c ta tc oa oc,e = .returned (.agg (res.row a c ta tc oa oc).toArray)∧res.st.sits (fun b=>w.heap.size≤b∧b<w'.heap.size) w' a ta oa∧res.st.small∧Ext w w'
theorem ResR.ret {res:ResV} {w w':World} {e:Ending} (h:ResR res w e w') : ∃v,e = .returned v:=by
 obtain ⟨_,_,_,_,_,_,h,-⟩:=h
 exact ⟨_,h⟩
theorem L5 (g:PG) (hwf:g.wf) (hok:g.ok=true) (h0:g.flt=0) (s:SV) (hf:FitsP g.vars s) (f:Nat) (hfu:f≤10000) (d:Nat) (hne:AT (AF g.procs d) false g.main ⟨Dv g.vars s g.vars.length,f⟩≠.error (-1))
 (S:Nat→Prop) (va:Option Addr) (vc:Nat) (pa:Option Addr) (pc:Nat) (ma:Option Addr) (mc:Nat) (ca ta oa:Option Addr) (cc tc oc:Nat) (w:World) (hs:g.sits S w va pa ma) (hps:PDsC S w g.procs pa) (hvc:g.vars.length≤vc) (hv:s.sits S w ca ta oa) :
 Calls prog 14 #[.agg (g.cells va vc pa pc ma mc).toArray,.agg (s.row ca cc ta tc oa oc).toArray,.int .i64 f] w (ResR (MM s f (AT (AF g.procs d) false g.main ⟨Dv g.vars s g.vars.length,f⟩)) w):=by
 have X:=Ext.refl w;replace hs:=hs.ltA;replace hps:=hps.ltA;replace hv:=hv.ltA;have HB:=Lib.hid (fun w1 h1 h2 h3=>Qf g hwf hok h0 s hf f hfu false d hne (· < w.heap.size) va vc pa pc ma mc ca ta oa cc tc oc w1 h1 h2 hvc h3)
 generalize MM s f _=res at *
 clear hwf hok h0 hf hne;obtain ⟨⟨cells,tin,tout⟩,n,er⟩:=res;refine Ad func14 ntmps14 rfl rfl ?_
 focus
  refine cS (eB [_,_,_,_,_,_] ?_);intro b1 w2 h4 x5 p6 z7;revert X hs hps hv;refine eE x5 ?_;intro X hs hps hv;refine eB [_,_,_] ?_;intro b8 w9 a j y z;revert h4 X hs hps hv;refine eE j ?_;intro h4 X hs hps hv;refine eA [_,_,_,_,_] ?_;intro A B c k C D;revert a h4 X hs hps hv;refine eE k ?_;intro a h4 X hs hps hv;refine cN (Ae [_,_,_,_,_,_] Aa rfl rfl rfl h4 rfl rfl rfl (Ae [_,_,_] Aa rfl rfl rfl a rfl rfl rfl (C1 Mv (eQ rfl (HB.out _ ‹_› ‹_› ‹_›) ?_))));rintro _ E ⟨F,⟨G,⟨H,⟨t,⟨u,⟨v,⟨x,⟨⟨⟩,⟨e,⟨I,l⟩⟩⟩⟩⟩⟩⟩⟩⟩⟩;revert c a h4 X hs hps hv;refine eY l ?_;intro J c a h4 X hs hps hv;refine eK ?_;refine eA [_,_,_,_,_] ?_;intro K L m o M N;revert e c a h4 X hs hps hv;refine eE o ?_;intro e c a h4 X hs hps hv;refine C1 Pa (eS [_,_,_,_,_] m ?_);intro O i p Q;revert e c a h4 X hs hps hv;refine eF p ?_;intro e c a h4 X hs hps hv;refine cN (Ae [_,_,_,_,_] Aa rfl rfl rfl i rfl rfl rfl (eS [_,_,_,_,_] c ?_));intro R q r T;revert i e a h4 X hs hps hv;refine eF r ?_;intro i e a h4 X hs hps hv;refine eK ?_;refine AZ rfl Aa rfl rfl rfl q rfl ?_;rotate_left
 exact ⟨_,_,_,_,_,_,rfl,SV.sits.wide ‹_› (fun b h=>⟨by omega,by omega⟩),by assumption,X⟩
theorem La (g:PG) (hwf:g.wf) (hok:g.ok=true) (h0:g.flt=0) (s:SV) (hf:FitsP g.vars s) (f:Nat) (hfu:f≤10000) (d:Nat) (hne:AT (AF g.procs d) true g.main ⟨Dv g.vars s g.vars.length,f⟩≠.error (-1))
 (S:Nat→Prop) (va:Option Addr) (vc:Nat) (pa:Option Addr) (pc:Nat) (ma:Option Addr) (mc:Nat) (ca ta oa:Option Addr) (cc tc oc:Nat) (w:World) (hs:g.sits S w va pa ma) (hps:PDsC S w g.procs pa) (hvc:g.vars.length≤vc) (hv:s.sits S w ca ta oa) :
 Calls prog 13 #[.agg (g.cells va vc pa pc ma mc).toArray,.agg (s.row ca cc ta tc oa oc).toArray,.int .i64 f] w (ResR (MM s f (AT (AF g.procs d) true g.main ⟨Dv g.vars s g.vars.length,f⟩)) w):=by
 have X:=Ext.refl w;replace hs:=hs.ltA;replace hps:=hps.ltA;replace hv:=hv.ltA;have HB:=Lib.hid (fun w1 h1 h2 h3=>Qf g hwf hok h0 s hf f hfu true d hne (· < w.heap.size) va vc pa pc ma mc ca ta oa cc tc oc w1 h1 h2 hvc h3)
 generalize MM s f _=res at *
 clear hwf hok h0 hf hne;obtain ⟨⟨cells,tin,tout⟩,n,er⟩:=res;refine Ad func13 ntmps13 rfl rfl ?_
 focus
  refine cS (eB [_,_,_,_,_,_] ?_);intro b1 w2 h4 x5 p6 z7;revert X hs hps hv;refine eE x5 ?_;intro X hs hps hv;refine eB [_,_,_] ?_;intro b8 w9 a j y z;revert h4 X hs hps hv;refine eE j ?_;intro h4 X hs hps hv;refine eA [_,_,_,_,_] ?_;intro A B c k C D;revert a h4 X hs hps hv;refine eE k ?_;intro a h4 X hs hps hv;refine cN (Ae [_,_,_,_,_,_] Aa rfl rfl rfl h4 rfl rfl rfl (Ae [_,_,_] Aa rfl rfl rfl a rfl rfl rfl (C1 Mv (eQ rfl (HB.out _ ‹_› ‹_› ‹_›) ?_))));rintro _ E ⟨F,⟨G,⟨H,⟨t,⟨u,⟨v,⟨x,⟨⟨⟩,⟨e,⟨I,l⟩⟩⟩⟩⟩⟩⟩⟩⟩⟩;revert c a h4 X hs hps hv;refine eY l ?_;intro J c a h4 X hs hps hv;refine eK ?_;refine eA [_,_,_,_,_] ?_;intro K L m o M N;revert e c a h4 X hs hps hv;refine eE o ?_;intro e c a h4 X hs hps hv;refine C1 Pa (eS [_,_,_,_,_] m ?_);intro O i p Q;revert e c a h4 X hs hps hv;refine eF p ?_;intro e c a h4 X hs hps hv;refine cN (Ae [_,_,_,_,_] Aa rfl rfl rfl i rfl rfl rfl (eS [_,_,_,_,_] c ?_));intro R q r T;revert i e a h4 X hs hps hv;refine eF r ?_;intro i e a h4 X hs hps hv;refine eK ?_;refine AZ rfl Aa rfl rfl rfl q rfl ?_;rotate_left
 exact ⟨_,_,_,_,_,_,rfl,SV.sits.wide ‹_› (fun b h=>⟨by omega,by omega⟩),by assumption,X⟩
end Bk
namespace Bk
open Go Go.RowKit Go.Proofs
mutual
def Nd.small:Nd→Int→Int→Bool×Int
 | .mk _ _ s l,d,m=>if m<1∨d=0∨40<s.length then (false,m-1) else Dk l (d-1) (m-1)
def Dk:List Nd→Int→Int→Bool×Int
 | [],_,m=>(true,m)
 | t::r,d,m=>if (t.small d m).1 then Dk r d (t.small d m).2 else (false,(t.small d m).2)
end
mutual
theorem On : ∀(t:Nd) (d m:Int),0≤m→((t.small d m).1=true→0≤(t.small d m).2∧(t.small d m).2≤m)
 | .mk _ _ s l,d,m,hm,h=>by
  simp only [Nd.small] at h ⊢
  split at h
  · simp at h
  · rename_i hn
    rw [if_neg hn];have:=JB l (d-1) (m-1) (by omega) h
    omega
theorem JB : ∀(l:List Nd) (d m:Int),0≤m→((Dk l d m).1=true→0≤(Dk l d m).2∧(Dk l d m).2≤m)
 | [],_,m,hm,_=>by simp [Dk,hm]
 | t::r,d,m,hm,h=>by
  simp only [Dk] at h ⊢
  split at h
  · rename_i ht
    rw [if_pos ht];have h1:=On t d m hm ht;have h2:=JB r d (t.small d m).2 h1.1 h
    omega
  · simp at h
end
theorem UQ (N:Nat) : ∀(k n d m:Int) (s:List UInt8) (l:List Nd) (a:Option Addr) (c pb po:Nat) (S:Nat→Prop) (w:World),
 Au l<N→(Nd.mk k n s l).wf→rowSits S w l a → ¬S pb →
 w.cell? ⟨pb,po,none⟩=some (.int .i64 m)→w.frozen? ⟨pb,po,none⟩=false→0≤m→m≤1000→0≤d→d≤1000 →
 Calls prog 92 #[.agg #[.int .u8 k,.int .i64 n,str s,.slice a l.length c],.int .i64 d,.pointer (some ⟨pb,po,none⟩)] w fun e w'=>
  e = .returned (.bool ((Nd.mk k n s l).small d m).1)∧w'.cell? ⟨pb,po,none⟩=some (.int .i64 ((Nd.mk k n s l).small d m).2)∧w'.frozen? ⟨pb,po,none⟩=false∧Fr (· = pb) w w':=by
 induction N with
 | zero=>intro k n d m s l a c pb po S w h;omega
 | succ N ih=>
  intro k n d m s l a c pb po S w hN hwf hs hS hc hf hm0 hm1 hd0 hd1;have hpb:=Ca hc;simp only [Nd.wf] at hwf;obtain ⟨hk0,hk1,hn0,hn1,hsl,hll,hrw⟩:=hwf
  have hpne : ¬w.heap.size=pb:=by simp at hpb;omega
  have hpne' : ¬pb=w.heap.size:=by simp at hpb;omega
  by_cases h1:m<1∨d=0∨40<s.length
  · have hr:(Nd.mk k n s l).small d m=(false,m-1):=by simp only [Nd.small];rw [if_pos h1]
    have HR:=Lib.hid hr;clear hr ih hs hrw
    by_cases e1:m<1
    · have d1:decide (m-1<0)=true:=by simp;omega
      clear h1
      go_enter func92,ntmps92
      go_wp2_with fail
      go_ret
      rw [HR.out]
      exact ⟨rfl,by go_simp,by go_simp,(by repeat (first|exact Fr.refl _ _|assumption|refine Fr.alloc ?_ _|refine Fr.drew ?_|refine Fr.setCell ?_ _ _ (Or.inl rfl)|refine Fr.trans ?_ ‹_›))⟩
    · have d1:decide (m-1<0)=false:=by simp;omega
      by_cases e2:d=0
      · have d2:(d==0)=true:=by simp [e2]
        clear h1 e2
        go_enter func92,ntmps92
        go_wp2_with fail
        go_ret
        rw [HR.out]
        exact ⟨rfl,by go_simp,by go_simp,(by repeat (first|exact Fr.refl _ _|assumption|refine Fr.alloc ?_ _|refine Fr.drew ?_|refine Fr.setCell ?_ _ _ (Or.inl rfl)|refine Fr.trans ?_ ‹_›))⟩
      · have d2:(d==0)=false:=by simp [e2]
        have d3:decide ((40:Int)<s.length)=true:=by simp;omega
        clear h1
        go_enter func92,ntmps92
        go_wp2_with fail
        go_ret
        rw [HR.out]
        exact ⟨rfl,by go_simp,by go_simp,(by repeat (first|exact Fr.refl _ _|assumption|refine Fr.alloc ?_ _|refine Fr.drew ?_|refine Fr.setCell ?_ _ _ (Or.inl rfl)|refine Fr.trans ?_ ‹_›))⟩
  · have hr:(Nd.mk k n s l).small d m=Dk l (d-1) (m-1):=by simp only [Nd.small];rw [if_neg h1]
    have HR:=Lib.hid hr;clear hr
    have IH:=Lib.hid ih;clear ih
    have d1:decide (m-1<0)=false:=by simp;omega
    have d2:(d==0)=false:=by simp;omega
    have d3:decide ((40:Int)<s.length)=false:=by simp;omega
    have hm2:1≤m:=by omega
    have hd2:1≤d:=by omega
    clear h1
    go_enter func92,ntmps92
    go_wp2_with fail
    go_loopw [31] (fun i wr=> ∃(j:Nat) (mj:Int),j≤l.length∧i = .int .i64 j∧0≤mj∧mj≤1000∧Hid (Dk l (d-1) (m-1)=Dk (l.drop j) (d-1) mj) ∧
     wr.cell? ⟨pb,po,none⟩=some (.int .i64 mj)∧wr.frozen? ⟨pb,po,none⟩=false∧Fr (· = pb) w wr) (fun i _=>l.length-(intOf i).toNat)
    case atStart=>exact ⟨0,m-1,Nat.zero_le _,rfl,by omega,by omega,Lib.hid rfl,by go_simp,by go_simp,(by repeat (first|exact Fr.refl _ _|assumption|refine Fr.alloc ?_ _|refine Fr.drew ?_|refine Fr.setCell ?_ _ _ (Or.inl rfl)|refine Fr.trans ?_ ‹_›))⟩
    case round=>
     obtain ⟨j,mj,hj,rfl,hmj0,hmj1,HJ,hcj,hfj,hfr⟩:=hrel;clear hc hf d1 d2 d3;have hpb':pb<wr.heap.size:=Ca hcj
     by_cases hlt:j<l.length
     · have hg:l[j]? = some l[j]:=List.getElem?_eq_getElem hlt
       have hmem:l[j]∈l:=List.getElem_mem hlt;have hwf:=Ce hrw _ hmem;have hsz:=Dw hmem;have hdrop:=List.drop_eq_getElem_cons hlt
       generalize l[j]=t at *
       obtain ⟨b,o,a',c',rfl,hSb,g0,g1,g2,g3,hsk⟩:=EK (hs.fr hfr (fun b hb e=>hS (e▸hb))) hg;obtain ⟨k',n',s',l'⟩:=t;simp only [Nd.kind,Nd.num,Nd.name,Nd.kids,Nd.sits,Nd.size] at g0 g1 g2 g3 hsk hsz
       have HG:=Lib.hid hg;clear hg
       have HD:=Lib.hid hdrop;clear hdrop
       go_wp2_with fail
       refine (IH.out k' n' (d-1) mj s' l' a' c' pb po S _ (by omega) hwf (hsk.ext ((Ext.refl _).alloc _)) hS (by go_simp) (by go_simp) hmj0 hmj1 (by omega) (by omega)).mono ?_;rintro e w1 ⟨rfl,hc1,hf1,hfr1⟩;have hle:=On (Nd.mk k' n' s' l') (d-1) mj hmj0
       have hro:Dk (Nd.mk k' n' s' l'::l.drop (j+1)) (d-1) mj=if ((Nd.mk k' n' s' l').small (d-1) mj).1 then Dk (l.drop (j+1)) (d-1) ((Nd.mk k' n' s' l').small (d-1) mj).2 else (false,((Nd.mk k' n' s' l').small (d-1) mj).2):=rfl
       rw [←HD.out,←HJ.out] at hro
       generalize (Nd.mk k' n' s' l').small (d-1) mj=bm at *
       obtain ⟨bb,mm⟩:=bm;clear hcj hfj g0 g1 g2 g3;simp only at hc1 hle hro
       have HRO:=Lib.hid hro;clear hro
       cases bb
       · clear hle
         simp only
         go_wp2_with fail
         go_ret
         rw [HR.out,HRO.out]
         exact ⟨rfl,hc1,hf1,(by repeat (first|exact Fr.refl _ _|assumption|refine Fr.alloc ?_ _|refine Fr.drew ?_|refine Fr.setCell ?_ _ _ (Or.inl rfl)|refine Fr.trans ?_ ‹_›))⟩
       · obtain ⟨hle0,hle1⟩:=hle rfl
         simp only
         go_wp2_with fail
         go_roundw
         case rel=>exact ⟨j+1,mm,by omega,by go_num,hle0,by omega,HRO,hc1,hf1,(by repeat (first|exact Fr.refl _ _|assumption|refine Fr.alloc ?_ _|refine Fr.drew ?_|refine Fr.setCell ?_ _ _ (Or.inl rfl)|refine Fr.trans ?_ ‹_›))⟩
         case measure=>simp [intOf];omega
     · go_wp2_with fail
       go_ret
       have e1:l.drop j=[]:=List.drop_eq_nil_of_le (by omega);rw [HR.out,HJ.out,e1]
       exact ⟨rfl,hcj,hfj,hfr⟩
theorem Ext.frG {S:Nat→Prop} {a b c:World} (h:Ext a b) (k:Fr S b c) (hS : ∀i,S i→a.heap.size≤i):Ext a c:=
 ⟨k.os.trans (Below.os h),k.tape.trans (Below.tape h),k.output.trans (Below.output h),Nat.le_trans h.size k.size,fun i hi=>(k.block i (Nat.lt_of_lt_of_le hi h.size) (fun e=>by have:=hS i e;omega)).trans (h.block hi)⟩
theorem Qg (t:Nd) (hwf:t.wf) (S:Nat→Prop) (a:Option Addr) (c:Nat) (w:World) (hs:t.sits S w a) :
 Calls prog 50 #[t.val a c] w fun e w'=>e = .returned (.bool (!(t.small 24 200).1))∧Ext w w':=by
 obtain ⟨k,n,s,l⟩:=t;simp only [Nd.kind,Nd.num,Nd.name,Nd.kids,Nd.val];have hs':=PM _ _ hs;simp only [Nd.sits] at hs'
 go_enter func50,ntmps50
 go_wp2_with fail
 refine (UQ (Au l+1) k n 24 200 s l a c (w.heap.size+1) 0 (· < w.heap.size) _ (by omega) hwf (hs'.ext (by refine Ext.alloc ?_ _;refine Ext.alloc ?_ _;exact Ext.refl _)) (by omega) (by go_simp) (by go_simp) (by omega) (by omega) (by omega) (by omega)).mono ?_;rintro e w1 ⟨rfl,-,-,hf1⟩;simp only
 go_wp2_with fail
 go_ret
 exact ⟨rfl,Ext.frG (a:=w) (by refine Ext.alloc ?_ _;refine Ext.alloc ?_ _;exact Ext.refl _) hf1 (by rintro k rfl;omega)⟩
structure Few5 (g:PG):Prop where
 nv:g.vars.length≤8
 np:g.procs.length≤5
 main:(g.main.small 24 200).1=true
 procs : ∀p∈g.procs,(p.body.small 24 200).1=true
theorem UR (g:PG) (S:Nat→Prop) (va:Option Addr) (vc:Nat) (pa:Option Addr) (pc:Nat) (ma:Option Addr) (mc:Nat) (w:World) (hwf:g.wf) (hs:g.sits S w va pa ma) :
 Calls Tryz.prog 22 #[.agg (g.cells va vc pa pc ma mc).toArray] w fun e w'=> ∃q:Int,e = .returned (.int .i64 q)∧(q=1∨(q=0∧Few5 g))∧Ext w w':=by
 have hnv:=hwf.nv;have hnp:=hwf.np;refine Ad Tryz.func22 Tryz.ntmps22 rfl rfl ?_;refine Am ?_;refine Ah ?_;refine IY rfl rfl rfl ?_;intro b1 w1 m;have h1:=m.blk;have x1:=m.ext
 by_cases c1:8<g.vars.length
 · refine Ag ?_;refine Ab (by exact AA rfl) rfl ?_;refine Aj ?_;refine Ai ?_;refine Am ?_;refine Am ?_;refine Ah ?_;refine Ag ?_;refine Ab (by exact AR Aa rfl rfl rfl) rfl ?_;refine Ag ?_;refine Ab (by exact Al Aa rfl rfl rfl (by exact fun wz hz=>by (try subst hz);exact (Blk.cell (by assumption) (by rfl)))) rfl ?_;refine Ag ?_;refine Ab (by exact AS Aa rfl rfl) rfl ?_;refine Ag ?_;refine Ab (by exact B5 rfl rfl) rfl ?_;refine Ag ?_;refine Ab (by exact Ap rfl) rfl ?_;refine Ay ?_;refine A7 rfl rfl rfl (by omega) rfl ?_;refine Ay ?_;refine A7 rfl rfl rfl (by omega) rfl ?_;refine Ay ?_;refine A7 rfl rfl rfl (by omega) rfl ?_;refine Ay ?_;refine A7 rfl rfl rfl (by omega) rfl ?_;refine Ag ?_;refine Ab (by exact BO rfl rfl (by omega)) rfl ?_;refine Ag ?_;refine Ab (by exact Ap rfl) rfl ?_;refine Ay ?_;refine By rfl rfl rfl (by rfl) rfl ?_;refine Ay ?_;refine By rfl rfl rfl (by rfl) rfl ?_;refine Ay ?_;refine By rfl rfl rfl (by rfl) rfl ?_;refine Ag ?_;refine Ab (by exact A0 rfl rfl (by rfl)) rfl ?_;refine Aj ?_;refine Ai ?_;refine Bi ?_;refine Ec rfl (by rfl) ?_;refine Am ?_;refine Ah ?_;refine Ag ?_;refine Ab (by exact AA rfl) rfl ?_;refine Aj ?_;refine Ai ?_
   refine B6 ?_;refine AI ?_;refine Af Tryz.results22 rfl ?_
   exact ⟨1,rfl,Or.inl rfl,x1⟩
 by_cases c2:5<g.procs.length
 · refine Ag ?_;refine Ab (by exact AA rfl) rfl ?_;refine Aj ?_;refine Ai ?_;refine Am ?_;refine Am ?_;refine Ah ?_;refine Ag ?_;refine Ab (by exact AR Aa rfl rfl rfl) rfl ?_;refine Ag ?_;refine Ab (by exact Al Aa rfl rfl rfl (by exact fun wz hz=>by (try subst hz);exact (Blk.cell (by assumption) (by rfl)))) rfl ?_;refine Ag ?_;refine Ab (by exact AS Aa rfl rfl) rfl ?_;refine Ag ?_;refine Ab (by exact B5 rfl rfl) rfl ?_;refine Ag ?_;refine Ab (by exact Ap rfl) rfl ?_;refine Ay ?_;refine AV rfl rfl rfl (by omega) ?_;refine Ag ?_;refine Ab (by exact Aq Aa rfl rfl rfl) rfl ?_;refine Ay ?_;refine AV rfl rfl rfl (by omega) ?_;refine Ag ?_;refine Ab (by exact Al Aa rfl rfl rfl (by exact fun wz hz=>by (try subst hz);exact (Blk.cell (by assumption) (by rfl)))) rfl ?_;refine Ay ?_;refine AV rfl rfl rfl (by omega) ?_;refine Ag ?_;refine Ab (by exact AS Aa rfl rfl) rfl ?_;refine Ay ?_;refine AV rfl rfl rfl (by omega) ?_;refine Ag ?_;refine Ab (by exact B5 rfl rfl) rfl ?_;refine Ag ?_;refine Ab (by exact Bo rfl rfl (by omega)) rfl ?_;refine Ag ?_;refine Ab (by exact Ap rfl) rfl ?_;refine Ay ?_;refine A7 rfl rfl rfl (by omega) rfl ?_;refine Ay ?_;refine A7 rfl rfl rfl (by omega) rfl ?_
   refine Ay ?_;refine A7 rfl rfl rfl (by omega) rfl ?_;refine Ag ?_;refine Ab (by exact BO rfl rfl (by omega)) rfl ?_;refine Aj ?_;refine Ai ?_;refine Bi ?_;refine Ec rfl (by rfl) ?_;refine Am ?_;refine Ah ?_;refine Ag ?_;refine Ab (by exact AA rfl) rfl ?_;refine Aj ?_;refine Ai ?_;refine B6 ?_;refine AI ?_;refine Af Tryz.results22 rfl ?_
   exact ⟨1,rfl,Or.inl rfl,x1⟩
 refine Ag ?_;refine Ab (by exact AA rfl) rfl ?_;refine Aj ?_;refine Ai ?_;refine Am ?_;refine Am ?_;refine Ah ?_;refine Ag ?_;refine Ab (by exact AR Aa rfl rfl rfl) rfl ?_;refine Ag ?_;refine Ab (by exact Al Aa rfl rfl rfl (by exact fun wz hz=>by (try subst hz);exact (Blk.cell (by assumption) (by rfl)))) rfl ?_;refine Ag ?_;refine Ab (by exact AS Aa rfl rfl) rfl ?_;refine Ag ?_;refine Ab (by exact B5 rfl rfl) rfl ?_;refine Ag ?_;refine Ab (by exact Ap rfl) rfl ?_;refine Ay ?_;refine AV rfl rfl rfl (by omega) ?_;refine Ag ?_;refine Ab (by exact Aq Aa rfl rfl rfl) rfl ?_;refine Ay ?_;refine AV rfl rfl rfl (by omega) ?_;refine Ag ?_;refine Ab (by exact Al Aa rfl rfl rfl (by exact fun wz hz=>by (try subst hz);exact (Blk.cell (by assumption) (by rfl)))) rfl ?_;refine Ay ?_;refine AV rfl rfl rfl (by omega) ?_;refine Ag ?_;refine Ab (by exact AS Aa rfl rfl) rfl ?_;refine Ay ?_;refine AV rfl rfl rfl (by omega) ?_;refine Ag ?_;refine Ab (by exact B5 rfl rfl) rfl ?_;refine Ag ?_;refine Ab (by exact Bo rfl rfl (by omega)) rfl ?_;refine Ag ?_;refine Ab (by exact Ap rfl) rfl ?_;refine Ay ?_;refine AV rfl rfl rfl (by omega) ?_;refine Ag ?_;refine Ab (by exact Aq Aa rfl rfl rfl) rfl ?_
 refine Ay ?_;refine AV rfl rfl rfl (by omega) ?_;refine Ag ?_;refine Ab (by exact Dm Aa rfl rfl rfl (by exact fun wz hz=>by (try subst hz);exact (by assumption)) (by rfl)) rfl ?_;refine Ay ?_;refine AV rfl rfl rfl (by omega) ?_;refine cC rfl (Qg g.main hwf.main S ma mc _ (hs.main.ext x1)) ?_;rintro _ w2 ⟨⟨⟩,x2⟩
 cases hq:(g.main.small 24 200).1
 · try rw [hq]
   refine Ag ?_;refine Ab (by exact Bo rfl rfl (by omega)) rfl ?_;refine Aj ?_;refine Ai ?_;refine Bi ?_;refine Ec rfl (by rfl) ?_;refine Am ?_;refine Ah ?_;refine Ag ?_;refine Ab (by exact AA rfl) rfl ?_;refine Aj ?_;refine Ai ?_;refine B6 ?_;refine AI ?_;refine Af Tryz.results22 rfl ?_
   exact ⟨1,rfl,Or.inl rfl,x1.trans x2⟩
 try rw [hq]
 have h2:=h1.ext x2;have o:Ext w w2:=x1.trans x2;refine Ag ?_;refine Ab (by exact Bo rfl rfl (by omega)) rfl ?_;refine Aj ?_;refine Ai ?_;refine Bi ?_;refine Fa rfl (by rfl) ?_;refine AH ?_;refine Ai ?_;refine Am ?_;refine Am ?_;refine Ah ?_;refine Ag ?_;refine Ab (by exact AR Aa rfl rfl rfl) rfl ?_;refine Ag ?_;refine Ab (by exact Al Aa rfl rfl rfl (by exact fun wz hz=>by (try subst hz);exact (Blk.cell (by assumption) (by rfl)))) rfl ?_;refine Ag ?_;refine Ab (by exact AS Aa rfl rfl) rfl ?_;refine Ag ?_;refine Ab (by exact Ap rfl) rfl ?_;refine Aj ?_;refine Ai ?_;refine AK ?_;refine Bn (ι:=Nat) (fun j=>[(27,.int .i64 j),(26,.int .i64 g.vars.length),(25,.slice va g.vars.length vc),(1,.pointer (some ⟨b1,0,none⟩))]) (fun j w'=>Ext w2 w'∧j≤g.vars.length) (fun j=>g.vars.length-j) 0 sB ⟨Ext.refl _,by omega⟩ ?_;rintro j w3 ⟨x3,hj⟩;have h3:=h2.ext x3;have f:Ext w w3:=o.trans x3
 by_cases hlt:j<g.vars.length
 · obtain ⟨kb,ko,rfl,-,hkid⟩:=Arr.get (hs.vars.ext f) (by omega);have rx:Row w3 ⟨kb,ko+j*3,none⟩ g.vars[j].cells:=hkid j g.vars[j] (List.getElem?_eq_getElem hlt);clear hkid
   generalize g.vars[j]=v at *
   refine Am ?_;refine Ah ?_;refine Ag ?_;refine Ab (by exact CU rfl rfl) rfl ?_;refine Aj ?_;refine Ai ?_;refine Am ?_;refine Bi ?_;refine Cs rfl (by omega) ?_;refine AH ?_;refine Ai ?_;refine Am ?_;refine AK ?_;refine Am ?_;refine Ah ?_;refine Ag ?_;refine Ab (by exact A4 Aa rfl rfl rfl rfl (by omega) (by omega)) rfl ?_;refine Ag ?_;refine Ab (by exact BF Aa rfl rfl rfl (by exact fun wz hz=>by (try subst hz);exact (by assumption)) (by rfl)) rfl ?_;refine EM Bj rfl rfl ?_;intro b5 w5 a;refine Fy Aa rfl rfl rfl rfl rfl rfl (a) rfl ?_;clear a w5;intro w5 a;have h5:=a.blk;have x5:=a.ext
   by_cases c3:40<v.name.length
   · refine Aj ?_;refine Ai ?_;refine Am ?_;refine Ah ?_;refine Ag ?_;refine Ab (by exact AR Aa rfl rfl rfl) rfl ?_;refine Ag ?_;refine Ab (by exact Al Aa rfl rfl rfl (by exact fun wz hz=>by (try subst hz);exact (Blk.cell (by assumption) (by rfl)))) rfl ?_;refine Ag ?_;refine Ab (by exact Es Aa rfl rfl) rfl ?_;refine Ag ?_;refine Ab (by exact B5 rfl rfl) rfl ?_;refine Aj ?_;refine Ai ?_;refine Bi ?_;refine Cs rfl (by omega) ?_;refine Am ?_;refine Ah ?_;refine Ag ?_;refine Ab (by exact AA rfl) rfl ?_;refine Aj ?_;refine Ai ?_;refine B6 ?_;refine Bc ?_;refine AI ?_;refine AI ?_;refine Bc ?_;refine AI ?_;refine Af Tryz.results22 rfl ?_
     exact ⟨1,rfl,Or.inl rfl,f.trans x5⟩
   · refine Aj ?_;refine Ai ?_;refine Am ?_;refine Ah ?_;refine Ag ?_;refine Ab (by exact AR Aa rfl rfl rfl) rfl ?_;refine Ag ?_;refine Ab (by exact Al Aa rfl rfl rfl (by exact fun wz hz=>by (try subst hz);exact (Blk.cell (by assumption) (by rfl)))) rfl ?_;refine Ag ?_;refine Ab (by exact Es Aa rfl rfl) rfl ?_;refine Ag ?_;refine Ab (by exact B5 rfl rfl) rfl ?_;refine Aj ?_;refine Ai ?_;refine Bi ?_;refine Cb rfl (by omega) ?_;refine AH ?_;refine An ?_;refine Ai ?_;refine Ah ?_;refine Ag ?_;refine Ab (by exact Ed rfl rfl (IntWalk.i64_in _ (by omega))) rfl ?_;refine Ag ?_;refine Ab (by exact Ap rfl) rfl ?_;refine Aj ?_
     exact AW (j+1) sB ⟨x3.trans x5,by omega⟩ (by omega)
 refine Am ?_;refine Ah ?_;refine Ag ?_;refine Ab (by exact CU rfl rfl) rfl ?_;refine Aj ?_;refine Ai ?_;refine Am ?_;refine Bi ?_;refine Cb rfl (by omega) ?_;refine Ds ?_;refine A5 ?_;refine A5 ?_;refine Bw ?_;refine Ai ?_;refine Am ?_;refine Am ?_;refine Ah ?_;refine Ag ?_;refine Ab (by exact Aq Aa rfl rfl rfl) rfl ?_;refine Ag ?_;refine Ab (by exact Al Aa rfl rfl rfl (by exact fun wz hz=>by (try subst hz);exact (Blk.cell (by assumption) (by rfl)))) rfl ?_;refine Ag ?_;refine Ab (by exact AS Aa rfl rfl) rfl ?_;refine Ag ?_;refine Ab (by exact Ap rfl) rfl ?_;refine Aj ?_;refine Ai ?_;refine AK ?_;refine Bn (ι:=Nat) (fun j=>[(39,.int .i64 j),(38,.int .i64 g.procs.length),(37,.slice pa g.procs.length pc)]) (fun j w'=>Ext w3 w'∧j≤g.procs.length ∧ ∀i p,g.procs[i]? = some p→i<j→(p.body.small 24 200).1=true) (fun j=>g.procs.length-j) 0 sB ⟨Ext.refl _,by omega,fun i p _ h=>absurd h (by omega)⟩ ?_;rintro j w4 ⟨x4,s,hall⟩;have b:Ext w w4:=f.trans x4
 by_cases c:j<g.procs.length
 · obtain ⟨kb,ko,rfl,-,hkid⟩:=Arr.get (hs.procs.ext b) (by omega);obtain ⟨qa,qc,ba,bc,rx,sv,sb⟩:=hkid j g.procs[j] (List.getElem?_eq_getElem c);have hpw:=hwf.procs g.procs[j] (List.getElem_mem c);clear hkid;have hpj:g.procs[j]? = some g.procs[j]:=List.getElem?_eq_getElem c
   generalize g.procs[j]=p at *
   have hpn:=hpw.len;refine Am ?_;refine Ah ?_;refine Ag ?_;refine Ab (by exact CU rfl rfl) rfl ?_;refine Aj ?_;refine Ai ?_;refine Am ?_;refine Bi ?_;refine Cs rfl (by omega) ?_;refine AH ?_;refine Ai ?_;refine Am ?_;refine AK ?_;refine Am ?_;refine Ah ?_;refine Ag ?_;refine Ab (by exact A4 Aa rfl rfl rfl rfl (by omega) (by omega)) rfl ?_;refine Ag ?_;refine Ab (by exact BF Aa rfl rfl rfl (by exact fun wz hz=>by (try subst hz);exact (by assumption)) (by rfl)) rfl ?_;refine EM Bj rfl rfl ?_;intro b5 w5 a;refine Fy Aa rfl rfl rfl rfl rfl rfl (a) rfl ?_;clear a w5;intro w5 a;have h5:=a.blk;have x5:=a.ext
   by_cases c3:10<p.params.length
   · refine Aj ?_;refine Ai ?_;refine Am ?_;refine Am ?_;refine Ah ?_;refine Ag ?_;refine Ab (by exact Aq Aa rfl rfl rfl) rfl ?_;refine Ag ?_;refine Ab (by exact Al Aa rfl rfl rfl (by exact fun wz hz=>by (try subst hz);exact (Blk.cell (by assumption) (by rfl)))) rfl ?_;refine Ag ?_;refine Ab (by exact AS Aa rfl rfl) rfl ?_;refine Ag ?_;refine Ab (by exact B5 rfl rfl) rfl ?_;refine Ag ?_;refine Ab (by exact Ap rfl) rfl ?_;refine Ay ?_;refine A7 rfl rfl rfl (by omega) rfl ?_;refine Ay ?_;refine A7 rfl rfl rfl (by omega) rfl ?_;refine Ay ?_;refine A7 rfl rfl rfl (by omega) rfl ?_;refine Ay ?_;refine A7 rfl rfl rfl (by omega) rfl ?_;refine Ag ?_;refine Ab (by exact BO rfl rfl (by omega)) rfl ?_;refine Ag ?_;refine Ab (by exact Ap rfl) rfl ?_;refine Ay ?_;refine By rfl rfl rfl (by rfl) rfl ?_;refine Ay ?_;refine By rfl rfl rfl (by rfl) rfl ?_;refine Ay ?_;refine By rfl rfl rfl (by rfl) rfl ?_;refine Ag ?_;refine Ab (by exact A0 rfl rfl (by rfl)) rfl ?_;refine Aj ?_;refine Ai ?_;refine Bi ?_;refine Ec rfl (by rfl) ?_;refine Am ?_;refine Ah ?_;refine Ag ?_;refine Ab (by exact AA rfl) rfl ?_;refine Aj ?_;refine Ai ?_;refine B6 ?_;refine AI ?_;refine Bc ?_
     refine AI ?_;refine AI ?_;refine Bc ?_;refine AI ?_;refine Af Tryz.results22 rfl ?_
     exact ⟨1,rfl,Or.inl rfl,b.trans x5⟩
   by_cases c4:40<p.name.length
   · refine Aj ?_;refine Ai ?_;refine Am ?_;refine Am ?_;refine Ah ?_;refine Ag ?_;refine Ab (by exact Aq Aa rfl rfl rfl) rfl ?_;refine Ag ?_;refine Ab (by exact Al Aa rfl rfl rfl (by exact fun wz hz=>by (try subst hz);exact (Blk.cell (by assumption) (by rfl)))) rfl ?_;refine Ag ?_;refine Ab (by exact AS Aa rfl rfl) rfl ?_;refine Ag ?_;refine Ab (by exact B5 rfl rfl) rfl ?_;refine Ag ?_;refine Ab (by exact Ap rfl) rfl ?_;refine Ay ?_;refine AV rfl rfl rfl (by omega) ?_;refine Ag ?_;refine Ab (by exact AR Aa rfl rfl rfl) rfl ?_;refine Ay ?_;refine AV rfl rfl rfl (by omega) ?_;refine Ag ?_;refine Ab (by exact Al Aa rfl rfl rfl (by exact fun wz hz=>by (try subst hz);exact (Blk.cell (by assumption) (by rfl)))) rfl ?_;refine Ay ?_;refine AV rfl rfl rfl (by omega) ?_;refine Ag ?_;refine Ab (by exact Es Aa rfl rfl) rfl ?_;refine Ay ?_;refine AV rfl rfl rfl (by omega) ?_;refine Ag ?_;refine Ab (by exact B5 rfl rfl) rfl ?_;refine Ag ?_;refine Ab (by exact Bo rfl rfl (by omega)) rfl ?_;refine Ag ?_;refine Ab (by exact Ap rfl) rfl ?_;refine Ay ?_;refine A7 rfl rfl rfl (by omega) rfl ?_;refine Ay ?_;refine A7 rfl rfl rfl (by omega) rfl ?_;refine Ay ?_;refine A7 rfl rfl rfl (by omega) rfl ?_
     refine Ag ?_;refine Ab (by exact BO rfl rfl (by omega)) rfl ?_;refine Aj ?_;refine Ai ?_;refine Bi ?_;refine Ec rfl (by rfl) ?_;refine Am ?_;refine Ah ?_;refine Ag ?_;refine Ab (by exact AA rfl) rfl ?_;refine Aj ?_;refine Ai ?_;refine B6 ?_;refine AI ?_;refine Bc ?_;refine AI ?_;refine AI ?_;refine Bc ?_;refine AI ?_;refine Af Tryz.results22 rfl ?_
     exact ⟨1,rfl,Or.inl rfl,b.trans x5⟩
   refine Aj ?_;refine Ai ?_;refine Am ?_;refine Am ?_;refine Ah ?_;refine Ag ?_;refine Ab (by exact Aq Aa rfl rfl rfl) rfl ?_;refine Ag ?_;refine Ab (by exact Al Aa rfl rfl rfl (by exact fun wz hz=>by (try subst hz);exact (Blk.cell (by assumption) (by rfl)))) rfl ?_;refine Ag ?_;refine Ab (by exact AS Aa rfl rfl) rfl ?_;refine Ag ?_;refine Ab (by exact B5 rfl rfl) rfl ?_;refine Ag ?_;refine Ab (by exact Ap rfl) rfl ?_;refine Ay ?_;refine AV rfl rfl rfl (by omega) ?_;refine Ag ?_;refine Ab (by exact AR Aa rfl rfl rfl) rfl ?_;refine Ay ?_;refine AV rfl rfl rfl (by omega) ?_;refine Ag ?_;refine Ab (by exact Al Aa rfl rfl rfl (by exact fun wz hz=>by (try subst hz);exact (Blk.cell (by assumption) (by rfl)))) rfl ?_;refine Ay ?_;refine AV rfl rfl rfl (by omega) ?_;refine Ag ?_;refine Ab (by exact Es Aa rfl rfl) rfl ?_;refine Ay ?_;refine AV rfl rfl rfl (by omega) ?_;refine Ag ?_;refine Ab (by exact B5 rfl rfl) rfl ?_;refine Ag ?_;refine Ab (by exact Bo rfl rfl (by omega)) rfl ?_;refine Ag ?_;refine Ab (by exact Ap rfl) rfl ?_;refine Ay ?_;refine AV rfl rfl rfl (by omega) ?_;refine Ag ?_;refine Ab (by exact Aq Aa rfl rfl rfl) rfl ?_;refine Ay ?_;refine AV rfl rfl rfl (by omega) ?_
   refine Ag ?_;refine Ab (by exact Dm Aa rfl rfl rfl (by exact fun wz hz=>by (try subst hz);exact (by assumption)) (by rfl)) rfl ?_;refine Ay ?_;refine AV rfl rfl rfl (by omega) ?_;refine cC rfl (Qg p.body hpw.body S ba bc _ (sb.ext x5)) ?_;rintro _ w6 ⟨⟨⟩,x6⟩
   cases k:(p.body.small 24 200).1
   · try rw [k]
     refine Ag ?_;refine Ab (by exact Bo rfl rfl (by omega)) rfl ?_;refine Aj ?_;refine Ai ?_;refine Bi ?_;refine Ec rfl (by rfl) ?_;refine Am ?_;refine Ah ?_;refine Ag ?_;refine Ab (by exact AA rfl) rfl ?_;refine Aj ?_;refine Ai ?_;refine B6 ?_;refine AI ?_;refine Bc ?_;refine AI ?_;refine AI ?_;refine Bc ?_;refine AI ?_;refine Af Tryz.results22 rfl ?_
     exact ⟨1,rfl,Or.inl rfl,b.trans (x5.trans x6)⟩
   try rw [k]
   have h6:=h5.ext x6;have r:Ext w4 w6:=x5.trans x6;refine Ag ?_;refine Ab (by exact Bo rfl rfl (by omega)) rfl ?_;refine Aj ?_;refine Ai ?_;refine Bi ?_;refine Fa rfl (by rfl) ?_;refine AH ?_;refine Ai ?_;refine Am ?_;refine Ah ?_;refine Ag ?_;refine Ab (by exact Aq Aa rfl rfl rfl) rfl ?_;refine Ag ?_;refine Ab (by exact Al Aa rfl rfl rfl (by exact fun wz hz=>by (try subst hz);exact (Blk.cell (by assumption) (by rfl)))) rfl ?_;refine Ag ?_;refine Ab (by exact AS Aa rfl rfl) rfl ?_;refine Ag ?_;refine Ab (by exact Ap rfl) rfl ?_;refine Aj ?_;refine Ai ?_;refine AK ?_;refine Bn (ι:=Nat) (fun i=>[(61,.int .i64 i),(60,.int .i64 p.params.length),(59,.slice qa p.params.length qc),(39,.int .i64 j),(38,.int .i64 g.procs.length),(37,.slice (some ⟨kb,ko,none⟩) g.procs.length pc)]) (fun i w'=>Ext w6 w'∧i≤p.params.length) (fun i=>p.params.length-i) 0 sB ⟨Ext.refl _,by omega⟩ ?_;rintro i w7 ⟨x7,hi⟩;have l:Ext w4 w7:=r.trans x7
   by_cases n:i<p.params.length
   · obtain ⟨vb,vo,rfl,-,hvid⟩:=Arr.get (sv.ext l) (by omega);have rv:Row w7 ⟨vb,vo+i*3,none⟩ p.params[i].cells:=hvid i p.params[i] (List.getElem?_eq_getElem n);clear hvid
     generalize p.params[i]=v at *
     refine Am ?_;refine Ah ?_;refine Ag ?_;refine Ab (by exact CU rfl rfl) rfl ?_;refine Aj ?_;refine Ai ?_;refine Am ?_;refine Bi ?_;refine Cs rfl (by omega) ?_;refine AH ?_;refine Ai ?_;refine Am ?_;refine AK ?_;refine Am ?_;refine Ah ?_;refine Ag ?_;refine Ab (by exact A4 Aa rfl rfl rfl rfl (by omega) (by omega)) rfl ?_;refine Ag ?_;refine Ab (by exact BF Aa rfl rfl rfl (by exact fun wz hz=>by (try subst hz);exact (by assumption)) (by rfl)) rfl ?_;refine EM Bj rfl rfl ?_;intro b8 w8 d;refine Fy Aa rfl rfl rfl rfl rfl rfl (d) rfl ?_;clear d w8;intro w8 d;have h8:=d.blk;have x8:=d.ext
     by_cases c5:40<v.name.length
     · refine Aj ?_;refine Ai ?_;refine Am ?_;refine Ah ?_;refine Ag ?_;refine Ab (by exact AR Aa rfl rfl rfl) rfl ?_;refine Ag ?_;refine Ab (by exact Al Aa rfl rfl rfl (by exact fun wz hz=>by (try subst hz);exact (Blk.cell (by assumption) (by rfl)))) rfl ?_;refine Ag ?_;refine Ab (by exact Es Aa rfl rfl) rfl ?_;refine Ag ?_;refine Ab (by exact B5 rfl rfl) rfl ?_;refine Aj ?_;refine Ai ?_;refine Bi ?_;refine Cs rfl (by omega) ?_;refine Am ?_;refine Ah ?_;refine Ag ?_;refine Ab (by exact AA rfl) rfl ?_;refine Aj ?_;refine Ai ?_;refine B6 ?_;refine Bc ?_;refine AI ?_;refine AI ?_;refine Bc ?_;refine Bc ?_;refine AI ?_;refine AI ?_;refine Bc ?_;refine AI ?_;refine Af Tryz.results22 rfl ?_
       exact ⟨1,rfl,Or.inl rfl,b.trans (l.trans x8)⟩
     · refine Aj ?_;refine Ai ?_;refine Am ?_;refine Ah ?_;refine Ag ?_;refine Ab (by exact AR Aa rfl rfl rfl) rfl ?_;refine Ag ?_;refine Ab (by exact Al Aa rfl rfl rfl (by exact fun wz hz=>by (try subst hz);exact (Blk.cell (by assumption) (by rfl)))) rfl ?_;refine Ag ?_;refine Ab (by exact Es Aa rfl rfl) rfl ?_;refine Ag ?_;refine Ab (by exact B5 rfl rfl) rfl ?_;refine Aj ?_;refine Ai ?_;refine Bi ?_;refine Cb rfl (by omega) ?_;refine AH ?_;refine An ?_;refine Ai ?_;refine Ah ?_;refine Ag ?_;refine Ab (by exact Ed rfl rfl (IntWalk.i64_in _ (by omega))) rfl ?_;refine Ag ?_;refine Ab (by exact Ap rfl) rfl ?_;refine Aj ?_
       exact AW (i+1) sB ⟨x7.trans x8,by omega⟩ (by omega)
   · refine Am ?_;refine Ah ?_;refine Ag ?_;refine Ab (by exact CU rfl rfl) rfl ?_;refine Aj ?_;refine Ai ?_;refine Am ?_;refine Bi ?_;refine Cb rfl (by omega) ?_;refine Ds ?_;refine A5 ?_;refine A5 ?_;refine Bw ?_;refine An ?_;refine Ai ?_;refine Ah ?_;refine Ag ?_;refine Ab (by exact Ed rfl rfl (IntWalk.i64_in _ (by omega))) rfl ?_;refine Ag ?_;refine Ab (by exact Ap rfl) rfl ?_;refine Aj ?_
     exact AW (j+1) sB ⟨x4.trans l,by omega,fun i q hi hij=>by
      by_cases h:i<j
      · exact hall i q hi h
      · obtain rfl:i=j:=by omega
        rw [hpj] at hi
        rw [←Option.some.inj hi]
        exact k⟩ (by omega)
 · refine Am ?_;refine Ah ?_;refine Ag ?_;refine Ab (by exact CU rfl rfl) rfl ?_;refine Aj ?_;refine Ai ?_;refine Am ?_;refine Bi ?_;refine Cb rfl (by omega) ?_;refine Ds ?_;refine A5 ?_;refine A5 ?_;refine Bw ?_;refine Ai ?_;refine Am ?_;refine Ah ?_;refine Ag ?_;refine Ab (by exact AA rfl) rfl ?_;refine Aj ?_;refine Ai ?_;refine B6 ?_;refine Af Tryz.results22 rfl ?_;refine ⟨0,rfl,Or.inr ⟨rfl,⟨by omega,by omega,hq,fun p hp=>?_⟩⟩,b⟩;obtain ⟨i,hi,rfl⟩:=List.mem_iff_getElem.1 hp
   exact hall i _ (List.getElem?_eq_getElem hi) (by omega)
attribute [local irreducible] Go.Calls
def aw17A:Nd:=.mk 57 0 [] [.mk 40 0 [] [.mk 2 0 [120] [],.mk 1 1 [] []],.mk 50 0 [102] [.mk 2 0 [120] []]]
def aw17B:Nd:=.mk 57 0 [] [.mk 51 0 [102] [.mk 2 0 [120] []],.mk 41 0 [] [.mk 2 0 [120] [],.mk 1 1 [] []]]
def aw17C:Nd:=.mk 57 0 [] [.mk 43 0 [] [.mk 2 0 [120] [],.mk 2 0 [121] []]]
theorem Wi:Ew [120,32,43,61,32,49,59,10,99,97,108,108,32,102,40,120,41,59,10]=(aw17A,0,0):=by kernel_rfl
theorem Wj:Ew [117,110,99,97,108,108,32,102,40,120,41,59,10,120,32,45,61,32,49,59,10]=(aw17B,0,0):=by kernel_rfl
theorem Wk:Ew [120,32,60,61,62,32,121,59,10]=(aw17C,0,0):=by kernel_rfl
theorem Wl:aw17A.inv false=aw17B:=by kernel_rfl
theorem Oo:aw17A.wf:=by simp [aw17A,Nd.wf,C6]
theorem Tk:aw17C.wf:=by simp [aw17C,Nd.wf,C6]
theorem Oq:aw17A.isBlock=true:=by decide +kernel
theorem Tl:aw17C.isBlock=true:=by decide +kernel
theorem Lb:aw17A.size≤1000000:=by decide +kernel
theorem Pq:aw17B.size≤1000000:=by decide +kernel
theorem Pr:aw17C.size≤1000000:=by decide +kernel
theorem Wm:aw17B.eqb aw17B=true:=(PL _ _).2 rfl
theorem Wn:aw17C.eqb (aw17C.inv false)=true:=by kernel_rfl
theorem Wo:aw17A.eqb (aw17A.inv false)=false:=by kernel_rfl
theorem F9 (w:World) (hS:Syms w) (hE:Errs w):Calls prog 6 #[] w fun e w'=>e = .returned (.bool true)∧Ext w w':=by
 have X:=Ext.refl w;have HA:=Lib.hid (fun w=>Mw [120,32,43,61,32,49,59,10,99,97,108,108,32,102,40,120,41,59,10] w (by decide));have HB:=Lib.hid (fun w=>Mw [117,110,99,97,108,108,32,102,40,120,41,59,10,120,32,45,61,32,49,59,10] w (by decide));have HC:=Lib.hid (fun w=>Mw [120,32,60,61,62,32,121,59,10] w (by decide));rw [Wi] at HA;rw [Wj] at HB;rw [Wk] at HC;have HI:=Lib.hid (Uf Oo Lb (Or.inr Oq));rw [Wl] at HI;have HE:=Lib.hid (NI aw17B Pq aw17B);rw [Wm] at HE;have HP:=Lib.hid (PV Tk Pr Tl);rw [Wn] at HP;have HQ:=Lib.hid (PV Oo Lb Oq);rw [Wo] at HQ
 generalize aw17A=A at *
 generalize aw17B=B at *
 generalize aw17C=C at *
 refine Ad (args:=[]) func6 ntmps6 rfl rfl ?_
 focus
  refine eK ?_;refine eQ rfl (HA.out _ ‹_› ‹_›) ?_;rintro _ w5 ⟨a1,⟨k2,⟨⟨⟩,⟨h3,x4⟩⟩⟩⟩;revert hS hE X;refine eY x4 ?_;intro z6 hS hE X;refine eK ?_;refine AB [_,_,_,_] Bj rfl rfl ?_;intro b7 w8 n9;refine DR [_,_,_,_] Aa rfl rfl rfl rfl rfl rfl n9 rfl ?_;intro v n9;have a:=n9.blk;dsimp only at a;have l:=n9.ext;have x:=n9.pos;have y:=n9.size;revert h3 hS hE X;refine eE l ?_;intro h3 hS hE X;refine eK ?_;refine eQ rfl (HB.out _ ‹_› ‹_›) ?_;rintro _ z ⟨D,⟨E,⟨⟨⟩,⟨b,m⟩⟩⟩⟩;revert a h3 hS hE X;refine eY m ?_;intro F a h3 hS hE X;refine eK ?_;refine AB [_,_,_,_] Bj rfl rfl ?_;intro G H i;refine DR [_,_,_,_] Aa rfl rfl rfl rfl rfl rfl i rfl ?_;intro I i;have c:=i.blk;dsimp only at c;have n:=i.ext;have J:=i.pos;have K:=i.size;revert b a h3 hS hE X;refine eE n ?_;intro b a h3 hS hE X;refine eK ?_;refine eQ rfl (HC.out _ ‹_› ‹_›) ?_;rintro _ L ⟨M,⟨N,⟨⟨⟩,⟨d,o⟩⟩⟩⟩;revert c b a h3 hS hE X;refine eY o ?_;intro O c b a h3 hS hE X;refine eK ?_;refine AB [_,_,_,_] Bj rfl rfl ?_;intro Q R j;refine DR [_,_,_,_] Aa rfl rfl rfl rfl rfl rfl j rfl ?_
  intro S j;have f:=j.blk;dsimp only at f;have p:=j.ext;have T:=j.pos;have U:=j.size;revert d c b a h3 hS hE X;refine eE p ?_;intro d c b a h3 hS hE X;refine eK ?_;refine Ae [_,_,_,_] Aa rfl rfl rfl a rfl rfl rfl (eQ rfl (HI.out _ _ _ _ ‹_›) ?_);rintro _ V ⟨W,⟨Y,⟨⟨⟩,⟨g,q⟩⟩⟩⟩;revert f d c b a h3 hS hE X;refine eY q ?_;intro Z f d c b a h3 hS hE X;refine eK ?_;refine AB [_,_,_,_] Bj rfl rfl ?_;intro aa ab r;refine eI [_,_,_,_] r ?_;intro ac h s ad ae;revert g f d c b a h3 hS hE X;refine eE s ?_;intro g f d c b a h3 hS hE X;refine C1 Pa (cN (C1 Mv (C1 V1 (C1 Mv (BR rfl rfl rfl (B0 (rfl)) (C1 Mv (BR rfl rfl rfl (B0 (rfl)) (C1 V1 (C1 (Qy (rfl)) (C1 Mv (BR rfl rfl rfl (B0 (rfl)) ?_)))))))))));refine C1 Mv (BR rfl rfl rfl (B0 (rfl)) (C1 V1 (C1 (Qy (rfl)) (C1 Mv (BR rfl rfl rfl (B0 (rfl)) (C1 Mv (BR rfl rfl rfl (B0 (rfl)) (C1 V1 (C1 (Qy (rfl)) ?_)))))))));refine eK ?_;refine Ae [_,_,_,_] Aa rfl rfl rfl h rfl rfl rfl (WD (Ae [_,_,_,_] Aa rfl rfl rfl c rfl rfl rfl (WD (cC rfl (HE.out _ _ _ _ _ _ _ ‹_› ‹_›) ?_))));rintro _ af ⟨⟨⟩,k⟩;have ag:=k.size;revert h g f d c b a h3 hS hE X;refine eE k ?_
  intro h g f d c b a h3 hS hE X;refine eK ?_;refine Ae [_,_,_,_] Aa rfl rfl rfl f rfl rfl rfl (BR rfl rfl rfl (rfl) (cC rfl (HP.out _ _ _ _ ‹_›) ?_));rintro _ ah ⟨⟨⟩,t⟩;revert h g f d c b a h3 hS hE X;refine eY t ?_;intro ai h g f d c b a h3 hS hE X;refine C1 (A0 rfl rfl rfl) ?_;refine eK ?_;refine Ae [_,_,_,_] Aa rfl rfl rfl a rfl rfl rfl (BR rfl rfl rfl (rfl) (cC rfl (HQ.out _ _ _ _ ‹_›) ?_));rintro _ MQ ⟨⟨⟩,u⟩;revert h g f d c b a h3 hS hE X;refine eY u ?_;intro aj h g f d c b a h3 hS hE X;refine eK ?_;refine C1 (A0 rfl rfl rfl) ?_;refine eK ?_;refine Af rfl rfl ?_;rotate_left
 exact ⟨rfl,X⟩
theorem Tm {g:PG} (hwf:g.wf) (S:Nat→Prop) (va:Option Addr) (vc:Nat) (pa:Option Addr) (pc:Nat) (ma:Option Addr) (mc:Nat) (w:World) (hs:g.sits S w va pa ma) :
 Calls prog 22 #[.agg (g.cells va vc pa pc ma mc).toArray] w fun e w'=> ∃q:Int,e = .returned (.int .i64 q)∧Ext w w':=(UR g S va vc pa pc ma mc w hwf hs).mono fun _ _ ⟨q,h,_,x⟩=>⟨q,h,x⟩
theorem RG {g:PG} (hwf:g.wf) (s:SV) (S:Nat→Prop) (va:Option Addr) (vc:Nat) (pa:Option Addr) (pc:Nat) (ma:Option Addr) (mc:Nat) (ca ta oa:Option Addr) (cc tc oc:Nat) (w:World) (hs:g.sits S w va pa ma) (hv:s.sits S w ca ta oa) :
 Calls prog 7 #[.agg (g.cells va vc pa pc ma mc).toArray,.agg (s.row ca cc ta tc oa oc).toArray] w fun e w'=> ∃q:Int,e = .returned (.int .i64 q)∧(40<s.cells.length→q=1)∧Ext w w':=by
 have X:=Ext.refl w;replace hs:=hs.ltA;replace hv:=hv.ltA;have HG:=Lib.hid (fun w1 h=>Tm hwf (· < w.heap.size) va vc pa pc ma mc w1 h);obtain ⟨cells,tin,tout⟩:=s;obtain ⟨hci,-,-⟩:=hv;simp only at hci ⊢
 change Calls prog _ #[_,.agg #[.slice ca cells.length cc,.slice ta tin.length tc,.slice oa tout.length oc]] w _
 by_cases e1:cells.length≤40
 · by_cases e2:tin.length≤40
   · by_cases e3:tout.length≤40
     · refine Ad func7 ntmps7 rfl rfl ?_
       focus
        refine cS (eB [_,_,_,_,_,_] ?_);intro b1 w2 h4 x5 p6 z7;revert X hs hci;refine eE x5 ?_;intro X hs hci;refine eB [_,_,_] ?_;intro b8 w9 a l C D;revert h4 X hs hci;refine eE l ?_;intro h4 X hs hci;refine C1 Pa (cT (Am (cS (C1 Pg (C1 (Pl a) (C1 Pz (C1 V5 (C1 Mv (JD (C1 Pf (JD ?_)))))))))));refine C1 (Pl a) (JD (C1 Pz (JD (C1 V5 (C1 TF (C1 Mv (JD (C1 Pf (JD (C1 (Pl a) (JD ?_)))))))))));refine C1 Pz (JD (C1 V5 (C1 TF (cT (Hn (AH (Ai (Am (cS (C1 Pg (C1 (Pl a) ?_)))))))))));refine C1 Pz (C1 Mv (cT ?_));rotate_left
       refine AK ?_
       have hob:w.heap.size+1<w9.heap.size+1:=by omega
       refine Bn (ι:=Nat) (fun j=>[(2,.pointer (some ⟨b1,0,none⟩)),(24,.slice ca cells.length cc),(25,.int .i64 cells.length),(26,.int .i64 j)])
        (fun j w'=>j≤cells.length∧ICs (· < w.heap.size) w' cells ca∧Blk w' b1 (g.cells va vc pa pc ma mc)∧g.sits (· < w.heap.size) w' va pa ma∧Ext w w') (fun j=>cells.length-j) 0 sB ⟨Nat.zero_le _,hci,h4,hs,X⟩ ?_
       clear hci h4 hs X;rintro j w1 ⟨hj,hci,h4,hs,X⟩
       by_cases hlt:j<cells.length
       · obtain ⟨db,dof,rfl,dS,hd⟩:=hci.get (by intro e;subst e;simp at hlt);obtain ⟨xa,xc,ry,-⟩:=hd j _ (List.getElem?_eq_getElem hlt);clear hd
         generalize cells[j]=xs at *
         by_cases e4:xs.length≤40
         · focus
            refine eK ?_;refine C1 (G6 ry) (C1 Pa (cN (C1 Mv (C1 Pz (C1 V5 (cT (Hn (AH (An (Ai (Ah ?_)))))))))));refine C1 V7 (C1 Mv (Aj ?_));rotate_left
           exact AW (j+1) sB ⟨by omega,hci,h4,hs,X⟩ (by omega)
         · focus
            refine eK ?_;refine C1 (G6 ry) ?_;refine eK ?_;refine Af rfl rfl ?_;rotate_left
           exact ⟨_,rfl,fun h=>by omega,X⟩
       · focus
          refine eK ?_;refine Ae [_,_,_,_,_,_] Aa rfl rfl rfl h4 rfl rfl rfl ?_;refine AQ (Av (by kernel_rfl) rfl (HG.out _ ‹_›) (fun _ _ ⟨_,h⟩=>⟨_,h.1⟩)) rfl ?_ (fun _ h=>h);rintro _ E ⟨F,⟨⟨⟩,m⟩⟩;revert hci h4 hs X;refine eY m ?_;intro G hci h4 hs X;refine eK ?_;refine Af rfl rfl ?_;rotate_left
         exact ⟨_,rfl,fun h=>by omega,X⟩
     · refine Ad func7 ntmps7 rfl rfl ?_
       focus
        refine cS (eB [_,_,_,_,_,_] ?_);intro H I b n J K;revert X hs hci;refine eE n ?_;intro X hs hci;refine eB [_,_,_] ?_;intro L M r c t u;revert b X hs hci;refine eE c ?_;intro b X hs hci;refine eK ?_;refine Af rfl rfl ?_;rotate_left
       exact ⟨_,rfl,fun _=>rfl,X⟩
   · refine Ad func7 ntmps7 rfl rfl ?_
     focus
      refine cS (eB [_,_,_,_,_,_] ?_);intro N O d o Q R;revert X hs hci;refine eE o ?_;intro X hs hci;refine eB [_,_,_] ?_;intro T U v f x y;revert d X hs hci;refine eE f ?_;intro d X hs hci;refine eK ?_;refine Af rfl rfl ?_;rotate_left
     exact ⟨_,rfl,fun _=>rfl,X⟩
 · refine Ad func7 ntmps7 rfl rfl ?_
   focus
    refine cS (eB [_,_,_,_,_,_] ?_);intro V W i p Y Z;revert X hs hci;refine eE p ?_;intro X hs hci;refine eB [_,_,_] ?_;intro aa ab z k A B;revert i X hs hci;refine eE k ?_;intro i X hs hci;refine eK ?_;refine C1 (A0 rfl rfl rfl) ?_;refine eK ?_;refine Af rfl rfl ?_;rotate_left
   exact ⟨_,rfl,fun _=>rfl,X⟩
theorem Ia (f:Nd→Nd) (ps:List PD) (s:List UInt8):B9 (ps.map (PD.map f)) s=B9 ps s:=by
 unfold B9
 rw [List.findIdx?_map]
 rfl
theorem RH (f:Nd→Nd) (ps:List PD) (s:List UInt8) (m:Nat):Jj (ps.map (PD.map f)) s m=Jj ps s m:=by
 unfold Jj
 rw [Ia]
 cases B9 ps s with
 | none=>rfl
 | some i=>
  simp only [List.getElem?_map,Option.map_map]
  rfl
theorem Tn (f:Nd→Nd) (ps:List PD) (v:List VD) (s:List UInt8) (m i:Nat) (x:List UInt8):J3 (ps.map (PD.map f)) v s m i x=J3 ps v s m i x:=by
 unfold J3
 rw [Ia]
 cases D0 v x with
 | none=>rfl
 | some d=>
  cases B9 ps s with
  | none=>rfl
  | some j=>
   simp only [Option.bind_some,List.getElem?_map]
   cases ps[j]? <;> rfl
theorem L6 (f:Nd→Nd) (ps:List PD) (v:List VD) (s:List UInt8) (m:Nat) : ∀(l:List Nd) (i:Nat),Eo (ps.map (PD.map f)) v s m i l=Eo ps v s m i l
 | [],_=>rfl
 | t::r,i=>by rw [Eo,Eo,Tn,L6 f ps v s m r]
theorem RI (f:Nd→Nd) (ps:List PD) (v:List VD) (k:Int) (s:List UInt8) (m:Nat):B7 (ps.map (PD.map f)) v k s m=B7 ps v k s m:=by
 unfold B7
 rw [RH]
mutual
theorem MO (f:Nd→Nd) (ps:List PD) : ∀(t:Nd) (v:List VD),t.flt (ps.map (PD.map f)) v=t.flt ps v
 | .mk k n s l,v=>by rw [Nd.flt,Nd.flt,RI,L6,Lc f ps l]
theorem Lc (f:Nd→Nd) (ps:List PD) : ∀(l:List Nd) (v:List VD) (k:Int) (s:List UInt8) (i:Nat),Ck (ps.map (PD.map f)) v k s i l=Ck ps v k s i l
 | [],v,k,s,i=>by rw [Ck,Ck]
 | t::r,v,k,s,i=>by rw [Ck,Ck,MO f ps t,Lc f ps r]
end
theorem Ld (q:Bool) (ps:List PD) : ∀(l:List PD) (i:Nat),(∀p∈l,p.body.isBlock=true)→CZ (ps.map (PD.map (·.inv q))) i (l.map (PD.map (·.inv q)))=CZ ps i l
 | [],_,_=>rfl
 | p::r,i,h=>by
  rw [List.map_cons,CZ,CZ,Ia,Ld q ps r (i+1) (fun x hx=>h x (by simp [hx]))];have h1:(p.map (·.inv q)).body=p.body.inv q:=rfl;have h2:(p.map (·.inv q)).params=p.params:=rfl;have h3:(p.map (·.inv q)).name=p.name:=rfl;rw [h1,h2,h3,MO,Qb ps q (p.body.size+1) p.body p.params (by omega) (Or.inr (h p (by simp)))]
theorem To {g:PG} (q:Bool) (hm:g.main.isBlock=true) (hp : ∀p∈g.procs,p.body.isBlock=true):PG.flt (g.inv (·.inv q) q)=g.flt:=by
 unfold PG.flt PG.inv
 simp only;rw [Ld q g.procs g.procs 0 hp,MO,Qb g.procs q (g.main.size+1) g.main g.vars (by omega) (Or.inr hm)]
theorem PG.sits.tt {S:Nat→Prop} {w:World} {g:PG} {va pa ma:Option Addr} (h:g.sits S w va pa ma):g.sits (fun _=>True) w va pa ma:=⟨h.vars.wide fun _ _=>trivial,PDs.wide h.procs fun _ _=>trivial,Nd.sits.wide h.main fun _ _=>trivial⟩
theorem LenR.zero (n:Nat) {w w':World} {e:Ending} (h:LenR n w e w') (h0:n=0):LenR 0 w e w':=h0▸h
theorem RJ {g:PG} (hok:g.ok=true) (d:Nat) (b:Bool) (r:Rn):AT (AF (g.inv (·.inv true) true).procs d) b (g.inv (·.inv true) true).main r=AT (AF g.procs d) (!b) g.main r:=
 congrFun (Rq true (II hok) d b (IG hok)) r
theorem Lf (g:PG) (hwf:g.wf) (s:SV) (k:Int) (hk:0≤k∧k<65536) (S:Nat→Prop) (va:Option Addr) (vc:Nat) (pa:Option Addr) (pc:Nat) (ma:Option Addr) (mc:Nat) (ca ta oa:Option Addr) (cc tc oc:Nat) (w:World) (hs:g.sits S w va pa ma) (hps:PDsC S w g.procs pa) (hvc:g.vars.length≤vc) (hv:s.sits S w ca ta oa) (hS:Syms w) (hE:Errs w) :
 Calls prog 4 #[.agg (g.cells va vc pa pc ma mc).toArray,.agg (s.row ca cc ta tc oa oc).toArray,.int .u16 k] w fun e w'=>e = .returned (.bool true)∧Ext w w':=by
 have X:=Ext.refl w;replace hs:=hs.ltA;replace hps:=hps.ltA;replace hv:=hv.ltA;have HG0:=Lib.hid (fun w1 h1 h2=>RG hwf s (· < w.heap.size) va vc pa pc ma mc ca ta oa cc tc oc w1 h1 h2)
 by_cases O:40<s.cells.length
 · have HG:Hid (∀w1,g.sits (· < w.heap.size) w1 va pa ma→s.sits (· < w.heap.size) w1 ca ta oa→Calls prog 7 #[.agg (g.cells va vc pa pc ma mc).toArray,.agg (s.row ca cc ta tc oa oc).toArray] w1 fun e w'=>e = .returned (.int .i64 1)∧Ext w1 w'):=Lib.hid fun w1 h1 h2=>(HG0.out w1 h1 h2).mono fun e w' ⟨q,a1,a2,a3⟩=>⟨by rw [a1,a2 O],a3⟩
   clear HG0 hwf;refine Ad func4 ntmps4 rfl rfl ?_
   focus
    refine cS (eB [_,_,_,_,_,_] ?_);intro b1 w2 h4 x5 p6 z7;revert hS hE X hs hps hv;refine eE x5 ?_;intro hS hE X hs hps hv;refine eB [_,_,_] ?_;intro b8 w9 D a6 en eo;revert h4 hS hE X hs hps hv;refine eE a6 ?_;intro h4 hS hE X hs hps hv;refine eK ?_;refine cC rfl (F9 _ ‹_› ‹_›) ?_;rintro _ ep ⟨⟨⟩,a7⟩;revert D h4 hS hE X hs hps hv;refine eY a7 ?_;intro eq D h4 hS hE X hs hps hv;refine eK ?_;refine Ae [_,_,_,_,_,_] Aa rfl rfl rfl h4 rfl rfl rfl (Ae [_,_,_] Aa rfl rfl rfl D rfl rfl rfl (cC rfl (HG.out _ ‹_› ‹_›) ?_));rintro _ er ⟨⟨⟩,a8⟩;revert D h4 hS hE X hs hps hv;refine eY a8 ?_;intro es D h4 hS hE X hs hps hv;refine eK ?_;refine C1 (A0 rfl rfl rfl) ?_;refine eK ?_;refine C1 (A0 rfl rfl rfl) ?_;refine eK ?_;refine Af rfl rfl ?_;rotate_left
   exact ⟨rfl,X⟩
 have HG:Hid (∀w1,g.sits (· < w.heap.size) w1 va pa ma→s.sits (· < w.heap.size) w1 ca ta oa→Calls prog 7 #[.agg (g.cells va vc pa pc ma mc).toArray,.agg (s.row ca cc ta tc oa oc).toArray] w1 fun e w'=> ∃q:Int,e = .returned (.int .i64 q)∧Ext w1 w'):=Lib.hid fun w1 h1 h2=>(HG0.out w1 h1 h2).mono fun e w' ⟨q,a1,a2,a3⟩=>⟨q,a1,a3⟩
 clear HG0
 cases hok:g.ok
 · have HV:=Lib.hid (IQ hwf hok);clear hwf hok hps;refine Ad func4 ntmps4 rfl rfl ?_
   focus
    refine cS (eB [_,_,_,_,_,_] ?_);intro et ev A a9 ew ex;revert hS hE X hs hv;refine eE a9 ?_;intro hS hE X hs hv;refine eB [_,_,_] ?_;intro ey ez z Q bv bw;revert A hS hE X hs hv;refine eE Q ?_;intro A hS hE X hs hv;refine eK ?_;refine cC rfl (F9 _ ‹_› ‹_›) ?_;rintro _ bx ⟨⟨⟩,R⟩;revert z A hS hE X hs hv;refine eY R ?_;intro bz z A hS hE X hs hv;refine eK ?_;refine Ae [_,_,_,_,_,_] Aa rfl rfl rfl A rfl rfl rfl (Ae [_,_,_] Aa rfl rfl rfl z rfl rfl rfl ?_);refine AQ (Av (by kernel_rfl) rfl (HG.out _ ‹_› ‹_›) (fun _ _ ⟨_,h⟩=>⟨_,h.1⟩)) rfl ?_ (fun _ h=>h);rintro _ b0 ⟨b2,⟨⟨⟩,T⟩⟩;revert z A hS hE X hs hv;refine eY T ?_;intro b3 z A hS hE X hs hv;refine eK ?_;refine CP rfl rfl rfl (fun U=>?_) (fun U=>?_);refine eK ?_;refine C1 (A0 rfl rfl rfl) ?_;refine eK ?_;refine C1 (A0 rfl rfl rfl) ?_;refine eK ?_;refine Af rfl rfl ?_;rotate_left;refine RN (Ae [_,_,_,_,_,_] Aa rfl rfl rfl A rfl rfl rfl (RN (cC rfl (HV.out _ _ _ _ _ _ _ _ ‹_›) ?_)));rintro _ b4 ⟨⟨⟩,V⟩;revert z A hS hE X hs hv;refine eY V ?_;intro b5 z A hS hE X hs hv;refine eK ?_;refine C1 (A0 rfl rfl rfl) ?_
    refine eK ?_;refine C1 (A0 rfl rfl rfl) ?_;refine eK ?_;refine Af rfl rfl ?_;rotate_left
   · exact ⟨rfl,X⟩
   · exact ⟨rfl,X⟩
 have HV:=Lib.hid (IQ hwf hok);have HC:=Lib.hid (fun w1 h1 h2=>Om g hwf hok (· < w.heap.size) va vc pa pc ma mc w1 h1 h2 hvc)
 by_cases h0 : ¬g.flt=0
 · have hpos:0<g.flt:=Nat.pos_of_ne_zero h0
   generalize g.flt=nf at *
   clear hwf hok;refine Ad func4 ntmps4 rfl rfl ?_
   focus
    refine cS (eB [_,_,_,_,_,_] ?_);intro e0 e1 v ba e2 e3;revert hS hE X hs hps hv;refine eE ba ?_;intro hS hE X hs hps hv;refine eB [_,_,_] ?_;intro e4 e5 t W b6 b7;revert v hS hE X hs hps hv;refine eE W ?_;intro v hS hE X hs hps hv;refine eK ?_;refine cC rfl (F9 _ ‹_› ‹_›) ?_;rintro _ b9 ⟨⟨⟩,Y⟩;revert t v hS hE X hs hps hv;refine eY Y ?_;intro cb t v hS hE X hs hps hv;refine eK ?_;refine Ae [_,_,_,_,_,_] Aa rfl rfl rfl v rfl rfl rfl (Ae [_,_,_] Aa rfl rfl rfl t rfl rfl rfl ?_);refine AQ (Av (by kernel_rfl) rfl (HG.out _ ‹_› ‹_›) (fun _ _ ⟨_,h⟩=>⟨_,h.1⟩)) rfl ?_ (fun _ h=>h);rintro _ cd ⟨ce,⟨⟨⟩,Z⟩⟩;revert t v hS hE X hs hps hv;refine eY Z ?_;intro cf t v hS hE X hs hps hv;refine eK ?_;refine CP rfl rfl rfl (fun aa=>?_) (fun aa=>?_);refine eK ?_;refine C1 (A0 rfl rfl rfl) ?_;refine eK ?_;refine C1 (A0 rfl rfl rfl) ?_;refine eK ?_;refine Af rfl rfl ?_;rotate_left;refine RN (Ae [_,_,_,_,_,_] Aa rfl rfl rfl v rfl rfl rfl (RN (cC rfl (HV.out _ _ _ _ _ _ _ _ ‹_›) ?_)));rintro _ cg ⟨⟨⟩,ab⟩;revert t v hS hE X hs hps hv;refine eY ab ?_;intro ch t v hS hE X hs hps hv;refine eK ?_
    refine Ae [_,_,_,_,_,_] Aa rfl rfl rfl v rfl rfl rfl (BR rfl rfl rfl (rfl) (eQ rfl (HC.out _ ‹_› ‹_›) ?_));rintro _ ci ⟨cj,⟨ck,⟨⟨⟩,ac⟩⟩⟩;revert t v hS hE X hs hps hv;refine eY ac ?_;intro cl t v hS hE X hs hps hv;refine eK ?_;refine C1 (Bh rfl rfl rfl) ?_;refine eK ?_;refine Af rfl rfl ?_;rotate_left
   · exact ⟨rfl,X⟩
   · exact ⟨rfl,X⟩
 replace h0:=Decidable.not_not.1 h0;rw [h0] at HC;have HF0:=Lib.hid (fun w1 (h1:g.sits (· < w.heap.size) w1 va pa ma) h2=>S6 g.vars (by have:=(DG hok).1;omega) s (· < w.heap.size) va ca ta oa vc cc tc oc w1 (by omega) h1.vars h2)
 by_cases hf : ¬FitsP g.vars s
 · have HF:Hid (∀w1,g.sits (· < w.heap.size) w1 va pa ma→s.sits (· < w.heap.size) w1 ca ta oa→Calls prog 10 #[.slice va g.vars.length vc,.agg (s.row ca cc ta tc oa oc).toArray] w1 fun e w'=>e = .returned (.bool false)∧Ext w1 w'):=Lib.hid fun w1 h1 h2=>(HF0.out w1 h1 h2).mono fun e w' ⟨q,a1,a2,a3⟩=>⟨by rw [a1,show q=false by cases q with|false=>rfl|true=>exact absurd (a2.1 rfl) hf],a3⟩
   clear HF0 hwf hok;refine Ad func4 ntmps4 rfl rfl ?_
   focus
    refine cS (eB [_,_,_,_,_,_] ?_);intro e6 e7 r bb e8 e9;revert hS hE X hs hps hv;refine eE bb ?_;intro hS hE X hs hps hv;refine eB [_,_,_] ?_;intro fa fb l ad cm cn;revert r hS hE X hs hps hv;refine eE ad ?_;intro r hS hE X hs hps hv;refine eK ?_;refine cC rfl (F9 _ ‹_› ‹_›) ?_;rintro _ co ⟨⟨⟩,ae⟩;revert l r hS hE X hs hps hv;refine eY ae ?_;intro cp l r hS hE X hs hps hv;refine eK ?_;refine Ae [_,_,_,_,_,_] Aa rfl rfl rfl r rfl rfl rfl (Ae [_,_,_] Aa rfl rfl rfl l rfl rfl rfl ?_);refine AQ (Av (by kernel_rfl) rfl (HG.out _ ‹_› ‹_›) (fun _ _ ⟨_,h⟩=>⟨_,h.1⟩)) rfl ?_ (fun _ h=>h);rintro _ cq ⟨cr,⟨⟨⟩,af⟩⟩;revert l r hS hE X hs hps hv;refine eY af ?_;intro cs l r hS hE X hs hps hv;refine eK ?_;refine CP rfl rfl rfl (fun ag=>?_) (fun ag=>?_);refine eK ?_;refine C1 (A0 rfl rfl rfl) ?_;refine eK ?_;refine C1 (A0 rfl rfl rfl) ?_;refine eK ?_;refine Af rfl rfl ?_;rotate_left;refine RN (Ae [_,_,_,_,_,_] Aa rfl rfl rfl r rfl rfl rfl (RN (cC rfl (HV.out _ _ _ _ _ _ _ _ ‹_›) ?_)));rintro _ ct ⟨⟨⟩,ah⟩;revert l r hS hE X hs hps hv;refine eY ah ?_;intro cu l r hS hE X hs hps hv;refine eK ?_
    refine Ae [_,_,_,_,_,_] Aa rfl rfl rfl r rfl rfl rfl (BR rfl rfl rfl (rfl) (eQ rfl (HC.out _ ‹_› ‹_›) ?_));rintro _ cv ⟨cw,⟨cx,⟨⟨⟩,ai⟩⟩⟩;revert l r hS hE X hs hps hv;refine eY ai ?_;intro cy l r hS hE X hs hps hv;refine eK ?_;refine C1 (Bh rfl rfl rfl) ?_;refine eK ?_;refine Ae [_,_,_] Aa rfl rfl rfl l rfl rfl rfl (Wx (cC rfl (HF.out _ ‹_› ‹_›) ?_));rintro _ cz ⟨⟨⟩,aj⟩;revert l r hS hE X hs hps hv;refine eY aj ?_;intro c0 l r hS hE X hs hps hv;refine eK ?_;refine Af rfl rfl ?_;rotate_left
   · exact ⟨rfl,X⟩
   · exact ⟨rfl,X⟩
 replace hf:=Classical.not_not.1 hf
 have HF:Hid (∀w1,g.sits (· < w.heap.size) w1 va pa ma→s.sits (· < w.heap.size) w1 ca ta oa→Calls prog 10 #[.slice va g.vars.length vc,.agg (s.row ca cc ta tc oa oc).toArray] w1 fun e w'=>e = .returned (.bool true)∧Ext w1 w'):=Lib.hid fun w1 h1 h2=>(HF0.out w1 h1 h2).mono fun e w' ⟨q,a1,a2,a3⟩=>⟨by rw [a1,a2.2 hf],a3⟩
 clear HF0
 have hbo:=fun p hp=>(D9 ((DG hok).2.2.2.1 p hp)).2.2.2
 have HP:=Lib.hid (Tb hwf hok);have K:=Rm (f:=(·.inv true)) true hwf hok (fun p hp=>(OA true (p.body.size+1) p.body (by omega) (Or.inr (II hok p hp))).wf (hwf.procs p hp).body);have L:=Rk (f:=(·.inv true)) true hok (fun p hp=>NW true (hbo p hp))
 have f2:(g.inv (·.inv true) true).flt=0:=by rw [To true (IG hok) (II hok)];exact h0
 have hrun:=RJ hok;have hfu:FitsP (g.inv (·.inv true) true).vars s:=hf;have hvu:(g.inv (·.inv true) true).vars.length=g.vars.length:=rfl;obtain ⟨f,hfk,F⟩ : ∃f:Nat,k.tmod 2001=(f:Int)∧f≤10000:=⟨(k%2001).toNat,by rw [Int.tmod_eq_emod_of_nonneg hk.1];omega,by omega⟩;obtain ⟨d1,M⟩:=IR g.procs true g.main ⟨Dv g.vars s g.vars.length,f⟩;obtain ⟨d2,N⟩:=IR g.procs false g.main ⟨Dv g.vars s g.vars.length,f⟩;have HB1:=Lib.hid (fun w1 h1 h2 h3=>La g hwf hok h0 s hf f F d1 M (· < w.heap.size) va vc pa pc ma mc ca ta oa cc tc oc w1 h1 h2 hvc h3);have HF2:=Lib.hid (fun w1 h1 h2 h3=>L5 g hwf hok h0 s hf f F d2 N (· < w.heap.size) va vc pa pc ma mc ca ta oa cc tc oc w1 h1 h2 hvc h3);have HF1:=Lib.hid (fun S va vc pa pc ma mc w1 (h1:(g.inv (·.inv true) true).sits S w1 va pa ma) (h2:PDsC S w1 (g.inv (·.inv true) true).procs pa) hvc (h3:s.sits (· < w.heap.size) w1 ca ta oa)=>L5 (g.inv (·.inv true) true) K L f2 s hfu f F d1 (by rw [hrun];exact M) (fun _=>True) va vc pa pc ma mc ca ta oa cc tc oc w1 h1.tt (h2.wide fun _ _=>trivial) hvc (h3.wide fun _ _=>trivial));have HB2:=Lib.hid (fun S va vc pa pc ma mc w1 (h1:(g.inv (·.inv true) true).sits S w1 va pa ma) (h2:PDsC S w1 (g.inv (·.inv true) true).procs pa) hvc (h3:s.sits (· < w.heap.size) w1 ca ta oa)=>La (g.inv (·.inv true) true) K L f2 s hfu f F d2 (by rw [hrun];exact N) (fun _=>True) va vc pa pc ma mc ca ta oa cc tc oc w1 h1.tt (h2.wide fun _ _=>trivial) hvc (h3.wide fun _ _=>trivial))
 simp only [hrun,Bool.not_false,Bool.not_true,show (g.inv (·.inv true) true).vars=g.vars from rfl] at HF1 HB2
 generalize MM s f (AT (AF g.procs d1) true g.main ⟨Dv g.vars s g.vars.length,f⟩)=G at *
 generalize MM s f (AT (AF g.procs d2) false g.main ⟨Dv g.vars s g.vars.length,f⟩)=H at *
 have HS1:=Lib.hid (fun hsm S S' a ta oa a' ta' oa' c tc oc c' tc' oc' w1 h1 h2=>P8 G hsm S S' a ta oa a' ta' oa' c tc oc c' tc' oc' w1 h1 h2);have HS2:=Lib.hid (fun hsm S S' a ta oa a' ta' oa' c tc oc c' tc' oc' w1 h1 h2=>P8 H hsm S S' a ta oa a' ta' oa' c tc oc c' tc' oc' w1 h1 h2);have eu:(g.inv (·.inv true) true).vars.length=g.vars.length:=rfl
 have hkw:IntKind.wrap .i64 k=k:=by
  rw [IntKind.wrap]
  simp [IntKind.signed,IntKind.bits]
  omega
 clear hrun hbo K L f2 hfu hvu M N hwf hok h0 hf O
 generalize g.inv (·.inv true) true=u at *
 obtain ⟨⟨l1,i1,o1⟩,n1,r1⟩:=G;obtain ⟨⟨l2,i2,o2⟩,n2,r2⟩:=H;refine Ad func4 ntmps4 rfl rfl ?_
 focus
  refine cS (eB [_,_,_,_,_,_] ?_);intro fc fd d bc fe ff;revert hS hE X hs hps hv;refine eE bc ?_;intro hS hE X hs hps hv;refine eB [_,_,_] ?_;intro fg fh b ak c1 c2;revert d hS hE X hs hps hv;refine eE ak ?_;intro d hS hE X hs hps hv;refine eK ?_;refine cC rfl (F9 _ ‹_› ‹_›) ?_;rintro _ c3 ⟨⟨⟩,al⟩;revert b d hS hE X hs hps hv;refine eY al ?_;intro c4 b d hS hE X hs hps hv;refine eK ?_;refine Ae [_,_,_,_,_,_] Aa rfl rfl rfl d rfl rfl rfl (Ae [_,_,_] Aa rfl rfl rfl b rfl rfl rfl ?_);refine AQ (Av (by kernel_rfl) rfl (HG.out _ ‹_› ‹_›) (fun _ _ ⟨_,h⟩=>⟨_,h.1⟩)) rfl ?_ (fun _ h=>h);rintro _ c5 ⟨c6,⟨⟨⟩,am⟩⟩;revert b d hS hE X hs hps hv;refine eY am ?_;intro c7 b d hS hE X hs hps hv;refine eK ?_;refine CP rfl rfl rfl (fun an=>?_) (fun an=>?_);refine eK ?_;refine C1 (A0 rfl rfl rfl) ?_;refine eK ?_;refine C1 (A0 rfl rfl rfl) ?_;refine eK ?_;refine Af rfl rfl ?_;rotate_left;refine RN (Ae [_,_,_,_,_,_] Aa rfl rfl rfl d rfl rfl rfl (RN (cC rfl (HV.out _ _ _ _ _ _ _ _ ‹_›) ?_)));rintro _ c8 ⟨⟨⟩,ao⟩;revert b d hS hE X hs hps hv;refine eY ao ?_;intro c9 b d hS hE X hs hps hv;refine eK ?_
  refine Ae [_,_,_,_,_,_] Aa rfl rfl rfl d rfl rfl rfl (BR rfl rfl rfl (rfl) (eQ rfl (HC.out _ ‹_› ‹_›) ?_));rintro _ da ⟨db,⟨dc,⟨⟨⟩,ap⟩⟩⟩;revert b d hS hE X hs hps hv;refine eY ap ?_;intro dd b d hS hE X hs hps hv;refine eK ?_;refine C1 (Bh rfl rfl rfl) ?_;refine eK ?_;refine Ae [_,_,_] Aa rfl rfl rfl b rfl rfl rfl (Wx (cC rfl (HF.out _ ‹_› ‹_›) ?_));rintro _ de ⟨⟨⟩,aq⟩;revert b d hS hE X hs hps hv;refine eY aq ?_;intro df b d hS hE X hs hps hv;refine Wx (C1 Pt (C1 WQ (cT (Ep rfl (AH (Ai ?_))))));rotate_left
 · exact ⟨rfl,X⟩
 clear HG HV HC HF
 focus
  refine cS (Ae [_,_,_,_,_,_] Aa rfl rfl rfl d rfl rfl rfl ?_);refine AQ (Av (by kernel_rfl) rfl (HP.out _ _ _ _ _ _ _ _ ‹_›) (fun _ _ ⟨_,_,_,_,_,_,h⟩=>⟨_,h.1⟩)) rfl ?_ (fun _ h=>h);rintro _ dg ⟨dh,⟨di,⟨dj,⟨dk,⟨dl,⟨dm,⟨⟨⟩,⟨m,⟨n,⟨fi,ar⟩⟩⟩⟩⟩⟩⟩⟩⟩⟩;revert b d hS hE X hs hps hv;refine eY ar ?_;intro dn b d hS hE X hs hps hv;refine eK ?_;refine AB [_,_,_,_,_,_] Bj rfl rfl ?_;intro dp dq au;refine eI [_,_,_,_,_,_] au ?_;intro I i av dr ds;revert m n b d hS hE X hs hps hv;refine eE av ?_;intro m n b d hS hE X hs hps hv;refine eK ?_;refine C1 (RU Aa rfl rfl rfl hkw) (C1 (MY rfl rfl (by decide)) (C1 Pa (cT ?_)));rotate_left
 rw [hfk]
 focus
  refine Am (Ax (fun wz=>Ext I wz) 21 (.pure 0 (.pure 1 (.pure 2 (.pure 3 (.pure 4 (.pure 5 (.pure 7 (.pure 8 (.pure 9 (.fork 6 (.fork 10 (.fork 11 (.pure 12 (.pure 13 (.pure 14 (.pure 15 (.pure 16 (.pure 18 (.pure 19 (.pure 20 (.fork 17 .tail .none))))))))) .none) .none) .none)))))))))) mixed (by kernel_rfl) (Ac Ak) ?_);intro bd aw _;have j:(fun wz=>Ext I wz) bd:=aw;simp only at j;have B:=i;have be:=m;have bf:=n;have y:=b;have E:=d;have dt:=hS;have du:=hE;have dv:=hs;have bg:=hps;have dw:=hv;revert i m n b d hS hE X hs hps hv;refine eY aw ?_;intro fj i m n b d hS hE X hs hps hv;refine ⟨j,?_⟩;refine Tq rfl Mv (Tq rfl V1 (Tq rfl Mv (Bb rfl rfl rfl rfl (B0 (by decide)) (Aw [_,_,_,_,_,_] Aa rfl rfl rfl (fun wz hz=>(Blk.ext B hz)) rfl rfl) rfl (Bb rfl rfl rfl rfl (B0 (by decide)) (Aw [_,_,_] Aa rfl rfl rfl (fun wz hz=>(Blk.ext y hz)) rfl rfl) rfl (Bb rfl rfl rfl rfl (B0 (by decide)) (Ap rfl) rfl (Bb rfl rfl rfl rfl (B0 (by decide)) (Aw [_,_,_,_,_,_] Aa rfl rfl rfl (fun wz hz=>(Blk.ext E hz)) rfl rfl) rfl (Bb rfl rfl rfl rfl (B0 (by decide)) (Aw [_,_,_] Aa rfl rfl rfl (fun wz hz=>(Blk.ext y hz)) rfl rfl) rfl (Bb rfl rfl rfl rfl (B0 (by decide)) (Ap rfl) rfl ?_))))))))
  refine Fe rfl rfl rfl rfl (B0 (by decide)) (Av (by kernel_rfl) rfl (HF1.out _ _ _ _ _ _ _ _ ‹_› ‹_› (by omega) ‹_›) (fun _ _ h=>h.ret)) rfl ?_ (fun _ h=>h) As;rintro _ dx ⟨fk,⟨fl,⟨dy,⟨dz,⟨bh,⟨bi,⟨⟨⟩,⟨o,⟨d0,ax⟩⟩⟩⟩⟩⟩⟩⟩⟩;revert j i m n b d hS hE X hs hps hv;refine eY ax ?_;intro d3 j i m n b d hS hE X hs hps hv;refine ⟨j,?_⟩;refine Fe rfl rfl rfl rfl (B0 (by decide)) (Av (by kernel_rfl) rfl (HB1.out _ ‹_› ‹_› ‹_›) (fun _ _ h=>h.ret)) rfl ?_ (fun _ h=>h) As;rintro _ d4 ⟨d5,⟨d6,⟨bj,⟨bk,⟨bl,⟨bm,⟨⟨⟩,⟨x,⟨d7,ay⟩⟩⟩⟩⟩⟩⟩⟩⟩;revert o j i m n b d hS hE X hs hps hv;refine eY ay ?_;intro d8 o j i m n b d hS hE X hs hps hv;refine ⟨j,?_⟩;refine Fe rfl rfl rfl rfl (B0 (by decide)) (Av (by kernel_rfl) rfl (HS1.out ‹_› _ _ _ _ _ _ _ _ _ _ _ _ _ _ _ ‹_› ‹_›) (fun _ _ h=>⟨_,h.1⟩)) rfl ?_ (fun _ h=>h) As;rintro _ d9 ⟨⟨⟩,az⟩;revert x o j i m n b d hS hE X hs hps hv;refine eY az ?_;intro ea x o j i m n b d hS hE X hs hps hv;refine ⟨j,?_⟩;refine Tq rfl WP (Tq rfl Mv (Bb rfl rfl rfl rfl (rfl) (Aw [_,_,_,_,_,_] Aa rfl rfl rfl (fun wz hz=>(Blk.ext B hz)) rfl rfl) rfl (Bb rfl rfl rfl rfl (rfl) (Aw [_,_,_] Aa rfl rfl rfl (fun wz hz=>(Blk.ext y hz)) rfl rfl) rfl (Bb rfl rfl rfl rfl (rfl) (Ap rfl) rfl (Bb rfl rfl rfl rfl (rfl) (Aw [_,_,_,_,_,_] Aa rfl rfl rfl (fun wz hz=>(Blk.ext E hz)) rfl rfl) rfl (Bb rfl rfl rfl rfl (rfl) (Aw [_,_,_] Aa rfl rfl rfl (fun wz hz=>(Blk.ext y hz)) rfl rfl) rfl (Bb rfl rfl rfl rfl (rfl) (Ap rfl) rfl ?_)))))))
  refine Fe rfl rfl rfl rfl (rfl) (Av (by kernel_rfl) rfl (HB2.out _ _ _ _ _ _ _ _ ‹_› ‹_› (by omega) ‹_›) (fun _ _ h=>h.ret)) rfl ?_ (fun _ h=>h) As;rintro _ eb ⟨ec,⟨ed,⟨bn,⟨bo,⟨bp,⟨bq,⟨⟨⟩,⟨C,⟨ee,a0⟩⟩⟩⟩⟩⟩⟩⟩⟩;revert x o j i m n b d hS hE X hs hps hv;refine eY a0 ?_;intro ef x o j i m n b d hS hE X hs hps hv;refine ⟨j,?_⟩;refine Az rfl (BR rfl rfl rfl (rfl) (eQ rfl (HF2.out _ ‹_› ‹_› ‹_›) ?_));rintro _ eg ⟨eh,⟨ei,⟨br,⟨bs,⟨bt,⟨bu,⟨⟨⟩,⟨J,⟨ej,a4⟩⟩⟩⟩⟩⟩⟩⟩⟩;revert C x o i m n b d hS hE X hs hps hv;refine eY a4 ?_;intro ek C x o i m n b d hS hE X hs hps hv;refine BR rfl rfl rfl (rfl) (cC rfl (HS2.out ‹_› _ _ _ _ _ _ _ _ _ _ _ _ _ _ _ ‹_› ‹_›) ?_);rintro _ el ⟨⟨⟩,a5⟩;revert J C x o i m n b d hS hE X hs hps hv;refine eY a5 ?_;intro em J C x o i m n b d hS hE X hs hps hv;refine C1 (A0 rfl rfl rfl) ?_;refine eK ?_;refine Af rfl rfl ?_;rotate_left
 all_goals exact ⟨rfl,X⟩
def Fw:Nat→Prop:=fun _=>True
theorem L7 (W:World) (b o:Nat) : ∀(len i0:Nat),(∀i,i<len → ∃(t:Nd) (a':Option Addr) (c':Nat),t.wf∧W.cell? ⟨b,o+(i0+i)*4,none⟩=some (.int .u8 t.kind)∧W.cell? ⟨b,o+(i0+i)*4+1,none⟩=some (.int .i64 t.num)∧W.cell? ⟨b,o+(i0+i)*4+2,none⟩=some (str t.name)∧W.cell? ⟨b,o+(i0+i)*4+3,none⟩=some (.slice a' t.kids.length c')∧t.sits Fw W a') →
 ∃l:List Nd,l.length=len∧C6 l∧rowSits Fw W l (some ⟨b,o+i0*4,none⟩)
 | 0,_,_=>⟨[],rfl,by simp [C6],by simp [rowSits]⟩
 | len+1,i0,h=>by
  obtain ⟨l,hl,hw,hs⟩:=L7 W b o len (i0+1) (fun i hi=>by
   have:=h (i+1) (by omega)
   rwa [show i0+(i+1)=i0+1+i from by omega] at this)
  obtain ⟨t,a',c',hwf,h0,h1,h2,h3,hsk⟩:=h 0 (by omega);rw [Nat.add_zero] at h0 h1 h2 h3;refine ⟨t::l,by simp [hl],by simp [C6,hwf,hw],?_⟩;simp only [rowSits];refine ⟨b,o+i0*4,a',c',rfl,trivial,h0,h1,h2,h3,hsk,?_⟩
  rwa [show o+i0*4+4=o+(i0+1)*4 from by omega]
theorem VJ {W:World} {a:Addr} {cs:List Value} (h:W.cells? 0 a 4=some cs) : ∃c0 c1 c2 c3,cs=[c0,c1,c2,c3]∧W.cell? (a.add 0)=some c0∧W.cell? (a.add 1)=some c1∧W.cell? (a.add 2)=some c2∧W.cell? (a.add 3)=some c3:=by
 unfold World.cells? at h
 rw [if_pos (Nat.zero_le _)] at h;rw [show List.range 4=[0,1,2,3] from rfl] at h
 cases e0:W.cell? (a.add 0)<;>simp [e0] at h
 cases e1:W.cell? (a.add 1)<;>simp [e1] at h
 cases e2:W.cell? (a.add 2)<;>simp [e2] at h
 cases e3:W.cell? (a.add 3)<;>simp [e3] at h
 exact ⟨_,_,_,_,h.symm,rfl,rfl,rfl,rfl⟩
theorem RK (b o n m:Nat):((⟨b,o,none⟩:Addr).add n).add m=⟨b,o+n+m,none⟩:=by
 unfold Addr.add
 by_cases hn:n=0<;>by_cases hm:m=0<;>simp [hn,hm]
theorem G5:prog.cellsOf 26=4:=by kernel_rfl
theorem Tp:prog.cellsOf 5=1:=by kernel_rfl
theorem Tr:prog.cellsOf 3=1:=by kernel_rfl
theorem Ps:prog.cellsOf 9=1:=by kernel_rfl
theorem US:prog.cellsOf 24=1:=by kernel_rfl
theorem IT {H:Type} (enc:TypeId×Value→H) (W:World) (sp:Nat→Bool) (N:Nat) : ∀(fuel:Nat),fuel<N → ∀(cs:List Value) (x:DataW H×List MemPlace),DataW.trod enc prog W 0 sp true fuel 26 cs=some x →
 ∃(t:Nd) (a:Option Addr) (c:Nat),cs=[.int .u8 t.kind,.int .i64 t.num,str t.name,.slice a t.kids.length c]∧t.wf∧t.sits Fw W a:=by
 induction N with
 | zero=>intro fuel h;omega
 | succ N ih=>
  intro fuel hN cs x h;obtain ⟨xs,n,rfl,-,hl,hlen,hf⟩:=DataW.trod_struct underlying26 h;rw [G5] at hl
  obtain ⟨c0,c1,c2,c3,rfl⟩ : ∃c0 c1 c2 c3,cs=[c0,c1,c2,c3]:=by
   rcases cs with _|⟨c0,_|⟨c1,_|⟨c2,_|⟨c3,_|⟨c4,cs⟩⟩⟩⟩⟩
   · simp at hl
   · simp at hl
   · simp at hl
   · simp at hl
   · exact ⟨_,_,_,_,rfl⟩
   · simp at hl
  obtain ⟨y0,y1,y2,y3,rfl⟩ : ∃y0 y1 y2 y3,xs=[y0,y1,y2,y3]:=by
   have hlen':xs.length=4:=hlen
   rcases xs with _|⟨c0,_|⟨c1,_|⟨c2,_|⟨c3,_|⟨c4,cs⟩⟩⟩⟩⟩
   · simp at hlen'
   · simp at hlen'
   · simp at hlen'
   · simp at hlen'
   · exact ⟨_,_,_,_,rfl⟩
   · simp at hlen'
  · have f0:DataW.trod enc prog W 0 sp true n 5 (([c0,c1,c2,c3].drop 0).take (prog.cellsOf 5))=some y0:=hf 0 _ rfl
    have f1:DataW.trod enc prog W 0 sp true n 3 (([c0,c1,c2,c3].drop 1).take (prog.cellsOf 3))=some y1:=hf 1 _ rfl;have f2:DataW.trod enc prog W 0 sp true n 9 (([c0,c1,c2,c3].drop 2).take (prog.cellsOf 9))=some y2:=hf 2 _ rfl;have f3:DataW.trod enc prog W 0 sp true n 24 (([c0,c1,c2,c3].drop 3).take (prog.cellsOf 24))=some y3:=hf 3 _ rfl;simp only [Tp,Tr,Ps,US,List.drop_zero,List.drop_succ_cons,List.take_succ_cons,List.take_zero] at f0 f1 f2 f3;obtain ⟨k,hk,-,wk⟩:=DataW.trod_int (show prog.underlying 5=some (.int .u8) by kernel_rfl) f0;obtain ⟨m,hm,-,wm⟩:=DataW.trod_int underlying3 f1;obtain ⟨s,hs,-,ws⟩:=DataW.trod_string (show prog.underlying 9=some .string by kernel_rfl) f2;simp only [List.cons.injEq,and_true] at hk hm hs;subst hk hm hs
    have wk':0≤k∧k≤255:=by simpa [Lit.wf,IntKind.min,IntKind.max,IntKind.signed,IntKind.bits] using wk
    have wm' : -9223372036854775808≤m∧m≤9223372036854775807:=by simpa [Lit.wf,IntKind.min,IntKind.max,IntKind.signed,IntKind.bits] using wm
    have ws':s.data.toList.length≤9223372036854775807:=by
     have:s.data.toList.length=s.size:=by rw [Array.length_toList];rfl
     unfold maxLen at ws;omega
    rcases DataW.trod_slice underlying24 f3 with ⟨hc,-⟩|⟨a,len,cap,elems,rest,n',hn',hc,-,-,hle,hcm,hel,hE,-⟩
    · simp only [List.cons.injEq,and_true] at hc
      subst hc
      exact ⟨.mk k m s.data.toList [],none,0,rfl,⟨wk'.1,wk'.2,wm'.1,wm'.2,ws',by simp,by simp [C6]⟩,by simp [Nd.sits,rowSits]⟩
    · simp only [List.cons.injEq,and_true] at hc
      subst hc;rw [G5] at hE
      rcases Nat.eq_zero_or_pos len with h0|hpos
      · subst h0
        exact ⟨.mk k m s.data.toList [],some a,cap,rfl,⟨wk'.1,wk'.2,wm'.1,wm'.2,ws',by simp,by simp [C6]⟩,by simp [Nd.sits,rowSits]⟩
      · have step : ∀i,i<len → ∃(t:Nd) (a':Option Addr) (c':Nat),t.wf∧W.cell? ((a.add (i*4)).add 0)=some (.int .u8 t.kind)∧W.cell? ((a.add (i*4)).add 1)=some (.int .i64 t.num)∧W.cell? ((a.add (i*4)).add 2)=some (str t.name)∧W.cell? ((a.add (i*4)).add 3)=some (.slice a' t.kids.length c')∧t.sits Fw W a':=by
         intro i hi;have hEi:=hE i hi
         cases d:W.cells? 0 (a.add (i*4)) 4 with
         | none=>
          rw [d] at hEi;have hh:elems[i]? = some elems[i]:=List.getElem?_eq_getElem (by omega);rw [hh] at hEi
          simp at hEi
         | some cs4=>
          rw [d,List.getElem?_eq_getElem (by omega)] at hEi;obtain ⟨d0,d1,d2,d3,rfl,e0,e1,e2,e3⟩:=VJ d;obtain ⟨t,a',c',hcs,hw,hs⟩:=ih n' (by omega) _ _ hEi;simp only [List.cons.injEq,and_true] at hcs;obtain ⟨rfl,rfl,rfl,rfl⟩:=hcs
          exact ⟨t,a',c',hw,e0,e1,e2,e3,hs⟩
        obtain ⟨b,o,spot⟩:=a
        have hspot:spot=none:=by
         obtain ⟨t,a',c',-,e0,-⟩:=step 0 hpos;simp only [Nat.zero_mul,Addr.add,if_true] at e0
         unfold World.cell? at e0
         cases spot with
         | none=>rfl
         | some q=>simp at e0;split at e0<;>simp at e0
        subst hspot
        obtain ⟨l,hl',hw',hs'⟩:=L7 W b o len 0 (fun i hi=>by
         obtain ⟨t,a',c',hw,e0,e1,e2,e3,hs⟩:=step i hi;rw [RK] at e0 e1 e2 e3;rw [Nat.zero_add]
         exact ⟨t,a',c',hw,e0,e1,e2,e3,hs⟩)
        subst hl';refine ⟨.mk k m s.data.toList l,some ⟨b,o,none⟩,cap,rfl,⟨wk'.1,wk'.2,wm'.1,wm'.2,ws',by unfold maxLen at hcm;omega,hw'⟩,?_⟩
        simpa [Nd.sits] using hs'
theorem RL {W:World} {p:Addr} {k:Nat} {cs:List Value} (h:W.cells? 0 p k=some cs):Row W p cs∧cs.length=k:=by
 unfold World.cells? at h
 rw [if_pos (Nat.zero_le _)] at h;refine ⟨fun i v hi=>?_,by simpa using mapM_some_length h⟩
 have hl:cs.length=k:=by simpa using mapM_some_length h
 have hik:i<k:=by
  rcases Nat.lt_or_ge i cs.length with h'|h'
  · omega
  · rw [List.getElem?_eq_none h'] at hi;cases hi
 have:=mapM_some_get h i i (by simp [hik]);rw [hi] at this
 exact this
theorem Tt (b o i:Nat):(⟨b,o,none⟩:Addr).add i=⟨b,o+i,none⟩:=by unfold Addr.add;by_cases h0:i=0<;>simp [h0]
theorem FH {α H:Type} (enc:TypeId×Value→H) (W:World) (sp:Nat→Bool) {t e k:Nat} (ht:prog.underlying t=some (.slice e)) (hk:prog.cellsOf e=k) (hk0:0<k) (G:List Value→α→Prop)
 {fuel:Nat} (hG : ∀(n:Nat) (cs:List Value) (x:DataW H×List MemPlace),n<fuel→DataW.trod enc prog W 0 sp true n e cs=some x → ∃y,G cs y) {c:Value} {x:DataW H×List MemPlace} (h:DataW.trod enc prog W 0 sp true fuel t [c]=some x) :
 ∃(l:List α) (a:Option Addr) (cap:Nat),c = .slice a l.length cap∧l.length≤9223372036854775807∧Arr Fw k (fun w b o y=> ∃cs,Row w ⟨b,o,none⟩ cs∧G cs y) W l a:=by
 rcases DataW.trod_slice ht h with ⟨hc,-⟩|⟨a,len,cap,elems,rest,n',hn',hc,-,-,hle,hcm,hel,hE,-⟩
 · simp only [List.cons.injEq,and_true] at hc
   exact ⟨[],none,0,hc,by simp,Or.inl rfl⟩
 · simp only [List.cons.injEq,and_true] at hc
   rw [hk] at hE
   unfold maxLen at hcm
   rcases Nat.eq_zero_or_pos len with h0|hpos
   · subst h0
     exact ⟨[],some a,cap,hc,by simp,Or.inl rfl⟩
   · have step : ∀i,i<len → ∃y cs,Row W (a.add (i*k)) cs∧cs.length=k∧G cs y:=fun i hi=>by
      have hEi:=hE i hi
      cases d:W.cells? 0 (a.add (i*k)) k with
      | none=>
       rw [d,List.getElem?_eq_getElem (by omega)] at hEi
       simp at hEi
      | some cs=>
       rw [d,List.getElem?_eq_getElem (by omega)] at hEi;obtain ⟨r1,r2⟩:=RL d;obtain ⟨y,hy⟩:=hG n' cs _ (by omega) hEi
       exact ⟨y,cs,r1,r2,hy⟩
     obtain ⟨b,o,spot⟩:=a
     have hspot:spot=none:=by
      obtain ⟨y,cs,r,hl,-⟩:=step 0 hpos;simp only [Nat.zero_mul,Addr.add,if_true] at r
      cases cs with
      | nil=>simp at hl;omega
      | cons v vs=>
       have:=r 0 v rfl;simp only [Addr.add,if_true] at this
       exact Ql this
     subst hspot
     have hl : ∃l:List α,l.length=len ∧ ∀i y,l[i]? = some y → ∃cs,Row W ⟨b,o+i*k,none⟩ cs∧G cs y:=by
      have key : ∀m,m≤len → ∃l:List α,l.length=m ∧ ∀i y,l[i]? = some y → ∃cs,Row W ⟨b,o+i*k,none⟩ cs∧G cs y:=by
       intro m
       induction m with
       | zero=>intro _;exact ⟨[],rfl,by simp⟩
       | succ m ih=>
        intro hm;obtain ⟨l,h1,h2⟩:=ih (by omega);obtain ⟨y,cs,r,-,hg⟩:=step m (by omega);rw [Tt] at r;refine ⟨l++[y],by simp [h1],fun i z hz=>?_⟩
        rcases Nat.lt_or_ge i m with hi|hi
        · rw [List.getElem?_append_left (by omega)] at hz;exact h2 i z hz
        · rw [List.getElem?_append_right (by omega)] at hz
          obtain rfl:i=m:=by
           rcases Nat.lt_or_ge m i with h'|h'
           · rw [List.getElem?_eq_none (by simp;omega)] at hz;cases hz
           · omega
          simp [h1] at hz
          subst hz
          exact ⟨cs,r,hg⟩
      exact key len (Nat.le_refl _)
     obtain ⟨l,h1,h2⟩:=hl;subst h1
     exact ⟨l,some ⟨b,o,none⟩,cap,hc,by omega,Or.inr ⟨b,o,rfl,trivial,h2⟩⟩
theorem Wp {cs:List Value} (h:cs.length=3) : ∃a b c,cs=[a,b,c]:=by
 rcases cs with _|⟨a,_|⟨b,_|⟨c,_|⟨d,r⟩⟩⟩⟩<;>simp at h;exact ⟨a,b,c,rfl⟩
theorem Wq {cs:List Value} (h:cs.length=6) : ∃a b c d e f,cs=[a,b,c,d,e,f]:=by
 rcases cs with _|⟨a,_|⟨b,_|⟨c,_|⟨d,_|⟨e,_|⟨f,_|⟨g,r⟩⟩⟩⟩⟩⟩⟩<;>simp at h;exact ⟨a,b,c,d,e,f,rfl⟩
theorem Cr {α:Type} {xs:List α} {n i:Nat} (h:xs.length=n) (hi:i<n) : ∃y,xs[i]? = some y:=⟨xs[i],List.getElem?_eq_getElem (by omega)⟩
theorem WS:prog.cellsOf 66=3:=by kernel_rfl
theorem Wr:prog.cellsOf 22=1:=by kernel_rfl
theorem WT:prog.cellsOf 59=6:=by kernel_rfl
theorem WM:prog.cellsOf 23=1:=by kernel_rfl
theorem W4:prog.cellsOf 28=6:=by kernel_rfl
section
variable {H:Type} (enc:TypeId×Value→H) (W:World) (sp:Nat→Bool)
theorem Pu {fuel:Nat} {cs:List Value} {x:DataW H×List MemPlace} (h:DataW.trod enc prog W 0 sp true fuel 66 cs=some x) : ∃v:VD,cs=v.cells∧v.wf:=by
 obtain ⟨xs,n,rfl,-,hl,hlen,hf⟩:=DataW.trod_struct underlying66 h;rw [WS] at hl;obtain ⟨c0,c1,c2,rfl⟩:=Wp hl;obtain ⟨y0,e0⟩:=Cr (i:=0) hlen (by decide);obtain ⟨y1,e1⟩:=Cr (i:=1) hlen (by decide);obtain ⟨y2,e2⟩:=Cr (i:=2) hlen (by decide);have f0:DataW.trod enc prog W 0 sp true n 9 (([c0,c1,c2].drop 0).take (prog.cellsOf 9))=some y0:=(hf 0 _ rfl).trans e0;have f1:DataW.trod enc prog W 0 sp true n 5 (([c0,c1,c2].drop 1).take (prog.cellsOf 5))=some y1:=(hf 1 _ rfl).trans e1;have f2:DataW.trod enc prog W 0 sp true n 3 (([c0,c1,c2].drop 2).take (prog.cellsOf 3))=some y2:=(hf 2 _ rfl).trans e2;simp only [Tp,Tr,Ps,List.drop_zero,List.drop_succ_cons,List.take_succ_cons,List.take_zero] at f0 f1 f2;obtain ⟨s,hs,-,ws⟩:=DataW.trod_string Fl f0;obtain ⟨k,hk,-,wk⟩:=DataW.trod_int (show prog.underlying 5=some (.int .u8) by kernel_rfl) f1;obtain ⟨m,hm,-,wm⟩:=DataW.trod_int underlying3 f2;simp only [List.cons.injEq,and_true] at hk hm hs;subst hk hm hs
 have wk':0≤k∧k≤255:=by simpa [Lit.wf,IntKind.min,IntKind.max,IntKind.signed,IntKind.bits] using wk
 have wm' : -9223372036854775808≤m∧m≤9223372036854775807:=by simpa [Lit.wf,IntKind.min,IntKind.max,IntKind.signed,IntKind.bits] using wm
 have ws':s.data.toList.length≤9223372036854775807:=by
  have:s.data.toList.length=s.size:=by rw [Array.length_toList];rfl
  unfold maxLen at ws;omega
 exact ⟨⟨s.data.toList,k,m⟩,rfl,ws',wk'.1,wk'.2,wm'.1,wm'.2⟩
end
theorem MP {α H:Type} (enc:TypeId×Value→H) (W:World) (sp:Nat→Bool) {t e k:Nat} (ht:prog.underlying t=some (.slice e)) (hk:prog.cellsOf e=k) (hk0:0<k) (G:List Value→α→Prop)
 {fuel:Nat} (hG : ∀(n:Nat) (cs:List Value) (x:DataW H×List MemPlace),n<fuel→DataW.trod enc prog W 0 sp true n e cs=some x → ∃y,G cs y) {c:Value} {x:DataW H×List MemPlace} (h:DataW.trod enc prog W 0 sp true fuel t [c]=some x) :
 ∃(l:List α) (a:Option Addr) (cap:Nat),c = .slice a l.length cap∧l.length≤9223372036854775807∧Arr Fw k (fun w b o y=> ∃cs,Row w ⟨b,o,none⟩ cs∧G cs y) W l a∧l.length≤cap:=by
 obtain ⟨l,a,cap,h1,h2,h3⟩:=FH enc W sp ht hk hk0 G hG h;refine ⟨l,a,cap,h1,h2,h3,?_⟩
 rcases DataW.trod_slice ht h with ⟨hc,-⟩|⟨a',len,cap',elems,rest,n',hn',hc,-,-,hle,-⟩
 · simp only [List.cons.injEq,and_true] at hc
   rw [h1] at hc;simp only [Value.slice.injEq] at hc
   omega
 · simp only [List.cons.injEq,and_true] at hc
   rw [h1] at hc;simp only [Value.slice.injEq] at hc
   omega
section
variable {H:Type} (enc:TypeId×Value→H) (W:World) (sp:Nat→Bool)
theorem IU {fuel:Nat} {c:Value} {x:DataW H×List MemPlace} (h:DataW.trod enc prog W 0 sp true fuel 22 [c]=some x) :
 ∃(l:List VD) (a:Option Addr) (cap:Nat),c = .slice a l.length cap∧l.length≤9223372036854775807∧(∀v∈l,v.wf)∧VDs Fw W l a∧l.length≤cap:=by
 obtain ⟨l,a,cap,h1,h2,h3,h4⟩:=MP (α:=VD) enc W sp underlying22 WS (by decide) (fun cs v=>cs=v.cells∧v.wf) (fun n cs x _ hx=>Pu enc W sp hx) h;refine ⟨l,a,cap,h1,h2,fun v hv=>?_,h3.mono (fun _ h=>h) (fun b o v _ _ ⟨cs,r,e,_⟩=>by subst e;exact r),h4⟩
 rcases h3 with rfl|⟨b,o,-,-,hh⟩
 · cases hv
 · obtain ⟨i,hi,rfl⟩:=List.mem_iff_getElem.1 hv
   obtain ⟨cs,-,-,hw⟩:=hh i _ (List.getElem?_eq_getElem hi)
   exact hw
theorem Os {fuel:Nat} {cs:List Value} {x:DataW H×List MemPlace} (h:DataW.trod enc prog W 0 sp true fuel 59 cs=some x) : ∃p:PD,(∃pa pc ba bc,cs=p.cells pa pc ba bc∧VDs Fw W p.params pa∧p.body.sits Fw W ba∧p.params.length≤pc)∧p.wf:=by
 obtain ⟨xs,n,rfl,-,hl,hlen,hf⟩:=DataW.trod_struct underlying59 h;rw [WT] at hl;obtain ⟨c0,c1,c2,c3,c4,c5,rfl⟩:=Wq hl;obtain ⟨y0,e0⟩:=Cr (i:=0) hlen (by decide);obtain ⟨y1,e1⟩:=Cr (i:=1) hlen (by decide);obtain ⟨y2,e2⟩:=Cr (i:=2) hlen (by decide);have f0:DataW.trod enc prog W 0 sp true n 9 (([c0,c1,c2,c3,c4,c5].drop 0).take (prog.cellsOf 9))=some y0:=(hf 0 _ rfl).trans e0;have f1:DataW.trod enc prog W 0 sp true n 22 (([c0,c1,c2,c3,c4,c5].drop 1).take (prog.cellsOf 22))=some y1:=(hf 1 _ rfl).trans e1;have f2:DataW.trod enc prog W 0 sp true n 26 (([c0,c1,c2,c3,c4,c5].drop 2).take (prog.cellsOf 26))=some y2:=(hf 2 _ rfl).trans e2;simp only [Wr,Ps,G5,List.drop_zero,List.drop_succ_cons,List.take_succ_cons,List.take_zero] at f0 f1 f2;obtain ⟨s,hs,-,ws⟩:=DataW.trod_string Fl f0;obtain ⟨l,pa,pc,hc,hll,hlw,hls,hlc⟩:=IU enc W sp f1;obtain ⟨t,ba,bc,hcs,hw,hsit⟩:=IT enc W sp (n+1) n (by omega) _ _ f2;simp only [List.cons.injEq,and_true] at hs hcs;obtain ⟨rfl,rfl,rfl,rfl⟩:=hcs;subst hs hc
 have ws':s.data.toList.length≤9223372036854775807:=by
  have:s.data.toList.length=s.size:=by rw [Array.length_toList];rfl
  unfold maxLen at ws;omega
 exact ⟨⟨s.data.toList,l,t⟩,⟨pa,pc,ba,bc,rfl,hls,hsit,hlc⟩,ws',hll,hlw,hw⟩
theorem pg_of_trodR {fuel:Nat} {cs:List Value} {x:DataW H×List MemPlace} (h:DataW.trod enc prog W 0 sp true fuel 28 cs=some x) : ∃(g:PG) (va:Option Addr) (vc:Nat) (pa:Option Addr) (pc:Nat) (ma:Option Addr) (mc:Nat),cs=g.cells va vc pa pc ma mc∧g.wf∧g.sits Fw W va pa ma∧PDsC Fw W g.procs pa∧g.vars.length≤vc:=by
 obtain ⟨xs,n,rfl,-,hl,hlen,hf⟩:=DataW.trod_struct underlying28 h;rw [W4] at hl;obtain ⟨c0,c1,c2,c3,c4,c5,rfl⟩:=Wq hl;obtain ⟨y0,e0⟩:=Cr (i:=0) hlen (by decide);obtain ⟨y1,e1⟩:=Cr (i:=1) hlen (by decide);obtain ⟨y2,e2⟩:=Cr (i:=2) hlen (by decide);have f0:DataW.trod enc prog W 0 sp true n 22 (([c0,c1,c2,c3,c4,c5].drop 0).take (prog.cellsOf 22))=some y0:=(hf 0 _ rfl).trans e0;have f1:DataW.trod enc prog W 0 sp true n 23 (([c0,c1,c2,c3,c4,c5].drop 1).take (prog.cellsOf 23))=some y1:=(hf 1 _ rfl).trans e1;have f2:DataW.trod enc prog W 0 sp true n 26 (([c0,c1,c2,c3,c4,c5].drop 2).take (prog.cellsOf 26))=some y2:=(hf 2 _ rfl).trans e2;simp only [Wr,WM,G5,List.drop_zero,List.drop_succ_cons,List.take_succ_cons,List.take_zero] at f0 f1 f2;obtain ⟨l,va,vc,hc,hll,hlw,hls,hlc⟩:=IU enc W sp f0;obtain ⟨ps,pa,pc,hp,hpl,hps⟩:=FH (α:=PD) enc W sp underlying23 WT (by decide) (fun cs p=>(∃pa pc ba bc,cs=p.cells pa pc ba bc∧VDs Fw W p.params pa∧p.body.sits Fw W ba∧p.params.length≤pc)∧p.wf) (fun n cs x _ hx=>Os enc W sp hx) f1;obtain ⟨t,ba,bc,hcs,hw,hsit⟩:=IT enc W sp (n+1) n (by omega) _ _ f2;simp only [List.cons.injEq,and_true] at hcs;obtain ⟨rfl,rfl,rfl,rfl⟩:=hcs;subst hc hp
 have hpc:PDsC Fw W ps pa:=hps.mono (fun _ h=>h) (fun b o p _ _ ⟨cs,r,⟨pa,pc,ba,bc,e,h1,h2,h3⟩,_⟩=>by
  subst e
  exact ⟨pa,pc,ba,bc,r,h1,h2,h3⟩)
 refine ⟨⟨l,ps,t⟩,va,vc,pa,pc,ba,bc,rfl,⟨hll,hpl,hlw,fun p hp=>?_,hw⟩,⟨hls,hpc.pds,hsit⟩,hpc,hlc⟩
 rcases hps with rfl|⟨b,o,-,-,hh⟩
 · cases hp
 · obtain ⟨i,hi,rfl⟩:=List.mem_iff_getElem.1 hp
   obtain ⟨cs,-,-,hw⟩:=hh i _ (List.getElem?_eq_getElem hi)
   exact hw
end
theorem WN:prog.cellsOf 3=1:=by kernel_rfl
theorem U1:prog.cellsOf 30=1:=by kernel_rfl
theorem VK:prog.cellsOf 29=1:=by kernel_rfl
theorem VL:prog.cellsOf 32=3:=by kernel_rfl
section
variable {H:Type} (enc:TypeId×Value→H) (W:World) (sp:Nat→Bool)
def U2 (x:Int):Prop:= -9223372036854775808≤x∧x≤9223372036854775807
theorem FO {fuel:Nat} {c:Value} {x:DataW H×List MemPlace} (h:DataW.trod enc prog W 0 sp true fuel 30 [c]=some x) :
 ∃(l:List Int) (a:Option Addr) (cap:Nat),c = .slice a l.length cap∧Rows Fw W (ints l) a ∧ ∀x∈l,U2 x:=by
 obtain ⟨l,a,cap,h1,h2,h3⟩:=FH (α:=Int) enc W sp underlying30 WN (by decide) (fun cs v=>cs=[.int .i64 v]∧U2 v) (fun n cs x _ hx=>by
  obtain ⟨m,hm,-,hw⟩:=DataW.trod_int underlying3 hx
  exact ⟨m,hm,by unfold U2;simpa [Lit.wf,IntKind.min,IntKind.max,IntKind.signed,IntKind.bits] using hw⟩) h
 refine ⟨l,a,cap,h1,?_,?_⟩
 · rcases h3 with rfl|⟨b,o,ha,hb,hh⟩
   · exact Or.inl rfl
   · refine Or.inr ⟨b,o,ha,hb,fun i v hi=>?_⟩
     rw [List.getElem?_map] at hi
     cases hx:l[i]? with
     | none=>rw [hx] at hi;cases hi
     | some y=>
      rw [hx] at hi;obtain rfl:=Option.some.inj hi;obtain ⟨cs,hr,rfl,-⟩:=hh i y hx;have:=hr.at0 rfl;rw [Nat.mul_one] at this
      have e:(⟨b,o,none⟩:Addr).add i=⟨b,o+i,none⟩:=by unfold Addr.add;by_cases h0:i=0<;>simp [h0]
      rw [e]
      exact this
 · rcases h3 with rfl|⟨b,o,ha,hb,hh⟩
   · intro x hx;cases hx
   · intro x hx
     obtain ⟨i,hi,rfl⟩:=List.mem_iff_getElem.1 hx;obtain ⟨cs,hr,-,hw⟩:=hh i _ (List.getElem?_eq_getElem hi)
     exact hw
theorem JE {fuel:Nat} {c:Value} {x:DataW H×List MemPlace} (h:DataW.trod enc prog W 0 sp true fuel 29 [c]=some x) :
 ∃(l:List (List Int)) (a:Option Addr) (cap:Nat),c = .slice a l.length cap∧ICs Fw W l a ∧ ∀xs∈l,∀x∈xs,U2 x:=by
 obtain ⟨l,a,cap,h1,h2,h3⟩:=FH (α:=List Int) enc W sp underlying29 U1 (by decide) (fun cs v=>(∃a e,cs=[.slice a v.length e]∧Rows Fw W (ints v) a) ∧ ∀x∈v,U2 x) (fun n cs x _ hx=>by
  obtain ⟨c0,rfl⟩ : ∃c0,cs=[c0]:=by
   rcases DataW.trod_slice underlying30 hx with ⟨hc,-⟩|⟨a',len,cap',elems,rest,n',hn',hc,-⟩
   · exact ⟨_,hc⟩
   · exact ⟨_,hc⟩
  obtain ⟨l,a,cap,rfl,h2,h3⟩:=FO enc W sp hx
  exact ⟨l,⟨a,cap,rfl,h2⟩,h3⟩) h
 refine ⟨l,a,cap,h1,h3.mono (fun _ h=>h) (fun b o v _ _ ⟨cs,r,⟨a,e,h1,h2⟩,_⟩=>⟨a,e,h1▸r,h2⟩),?_⟩
 rcases h3 with rfl|⟨b,o,ha,hb,hh⟩
 · intro x hx;cases hx
 · intro x hx
   obtain ⟨i,hi,rfl⟩:=List.mem_iff_getElem.1 hx;obtain ⟨cs,hr,-,hw⟩:=hh i _ (List.getElem?_eq_getElem hi)
   exact hw
theorem Ot {fuel:Nat} {cs:List Value} {x:DataW H×List MemPlace} (h:DataW.trod enc prog W 0 sp true fuel 32 cs=some x) : ∃(s:SV) (a:Option Addr) (c:Nat) (ta:Option Addr) (tc:Nat) (oa:Option Addr) (oc:Nat),cs=s.row a c ta tc oa oc∧s.sits Fw W a ta oa∧(∀xs∈s.cells,∀x∈xs,U2 x)∧(∀x∈s.tin,U2 x) ∧ ∀x∈s.tout,U2 x:=by
 obtain ⟨xs,n,rfl,-,hl,hlen,hf⟩:=DataW.trod_struct underlying32 h;rw [VL] at hl;obtain ⟨c0,c1,c2,rfl⟩:=Wp hl;obtain ⟨y0,e0⟩:=Cr (i:=0) hlen (by decide);obtain ⟨y1,e1⟩:=Cr (i:=1) hlen (by decide);obtain ⟨y2,e2⟩:=Cr (i:=2) hlen (by decide);have f0:DataW.trod enc prog W 0 sp true n 29 (([c0,c1,c2].drop 0).take (prog.cellsOf 29))=some y0:=(hf 0 _ rfl).trans e0;have f1:DataW.trod enc prog W 0 sp true n 30 (([c0,c1,c2].drop 1).take (prog.cellsOf 30))=some y1:=(hf 1 _ rfl).trans e1;have f2:DataW.trod enc prog W 0 sp true n 30 (([c0,c1,c2].drop 2).take (prog.cellsOf 30))=some y2:=(hf 2 _ rfl).trans e2;simp only [U1,VK,List.drop_zero,List.drop_succ_cons,List.take_succ_cons,List.take_zero] at f0 f1 f2;obtain ⟨l,a,c,rfl,h1,r1⟩:=JE enc W sp f0;obtain ⟨ti,ta,tc,rfl,h2,r2⟩:=FO enc W sp f1;obtain ⟨to,oa,oc,rfl,h3,r3⟩:=FO enc W sp f2
 exact ⟨⟨l,ti,to⟩,a,c,ta,tc,oa,oc,rfl,⟨h1,h2,h3⟩,r1,r2,r3⟩
theorem sv_of_trod {fuel:Nat} {cs:List Value} {x:DataW H×List MemPlace} (h:DataW.trod enc prog W 0 sp true fuel 32 cs=some x) : ∃(s:SV) (a:Option Addr) (c:Nat) (ta:Option Addr) (tc:Nat) (oa:Option Addr) (oc:Nat),cs=s.row a c ta tc oa oc∧s.sits Fw W a ta oa:=by
 obtain ⟨s,a,c,ta,tc,oa,oc,h1,h2,-⟩:=Ot enc W sp h
 exact ⟨s,a,c,ta,tc,oa,oc,h1,h2⟩
end
end Bk
namespace Bk
open Go Go.RowKit Go.Proofs
theorem InverterDeep_d (g:PG) (va:Option Addr) (vc:Nat) (pa:Option Addr) (pc:Nat) (ma:Option Addr) (mc:Nat) (s:SV) (ca:Option Addr) (cc:Nat) (ta:Option Addr) (tc:Nat) (oa:Option Addr) (oc:Nat) (n:Int) (w:World) (hwf:g.wf) (hs:g.sits Fw w va pa ma) (hps:PDsC Fw w g.procs pa) (hvc:g.vars.length≤vc) (hv:s.sits Fw w ca ta oa) (h0:0≤n) (h1:n≤65535) (hS:Syms w) (hE:Errs w) :
 Calls prog 4 #[.agg (g.cells va vc pa pc ma mc).toArray,.agg (s.row ca cc ta tc oa oc).toArray,.int .u16 n] w fun e w'=>e = .returned (.bool true)∧Ext w w':=Lf g hwf s n ⟨h0,by omega⟩ Fw va vc pa pc ma mc ca ta oa cc tc oc w hs hps hvc hv hS hE
open Go.Lib
theorem Lq {H:Type} {enc:TypeId×Value→H} {P:Program} {w:World} {base:Nat} {sp:Nat→Bool} {held:Bool} {fuel:Nat} {t e:TypeId} {n:Nat} {cs:List Value} {zs:List (List UInt8)} {p:List MemPlace}
 (ht:P.underlying t=some (.array n e)) (he:P.underlying e=some .string) (hce:P.cellsOf e=1) (hct:P.cellsOf t=n)
 (h:DataW.trod enc P w base sp held fuel t cs=some (.agg (zs.map fun z=>.lit (.string z)),p)):cs=zs.map str:=by
 cases fuel with
 | zero=>simp [DataW.trod] at h
 | succ fuel=>
  simp only [DataW.trod,ht,hce,hct,Nat.mul_one] at h
  split at h
  · rename_i hl
    obtain ⟨xs,hm,hx⟩:=Option.map_eq_some_iff.1 h
    have hxs:xs.map (·.1)=zs.map fun z=>(DataW.lit (.string z):DataW H):=by
     have:=congrArg Prod.fst hx
     simpa using this
    have hxl:xs.length=n:=by simpa using mapM_length hm
    have hzl:zs.length=n:=by
     have:=congrArg List.length hxs
     simp at this
     omega
    apply List.ext_getElem?
    intro i
    by_cases hi:i<n
    · obtain ⟨b,hb,hf⟩:=mapM_at hm i i (by simp [hi])
      obtain ⟨z,hc,rfl,_⟩:=DataW.trod_string he hf
      have h1:cs[i]? = some (.string z):=by
       have:=congrArg (·[0]?) hc
       simpa [List.getElem?_take,List.getElem?_drop] using this
      have h2:(xs.map (·.1))[i]? = some (DataW.lit (.string z.data.toList):DataW H):=by simp [hb]
      rw [hxs] at h2;simp only [List.getElem?_map,Option.map_eq_some_iff,DataW.lit.injEq,Lit.string.injEq] at h2;obtain ⟨z',hz',rfl⟩:=h2
      simp [h1,hz']
    · rw [List.getElem?_eq_none (by omega),List.getElem?_eq_none (by simp;omega)]
  · cases h
theorem gSym4:prog.globalNamed "backstep/arith.symbols" = some 0:=by kernel_rfl
theorem gSymT4:(prog.globals[0]?).map (·.type)=some 165:=by kernel_rfl
theorem VM:prog.underlying 165=some (.array 43 9):=by kernel_rfl
theorem VN:prog.cellsOf 165=43:=by kernel_rfl
theorem Ws:prog.underlying 9=some .string:=by kernel_rfl
theorem Wt:prog.cellsOf 9=1:=by kernel_rfl
theorem gErr4:prog.globalNamed "strconv.ErrRange" = some 3:=by kernel_rfl
theorem gErrT4:(prog.globals[3]?).map (·.type)=some 217:=by kernel_rfl
theorem Wu : ∃ms,prog.underlying 217=some (.interface ms):=⟨_,underlying217⟩
theorem Tu:(YtipjiidkdllbpaaGreatDoor.Rows.laid_backstep_arith_symbols:DataW Unit) = .agg (symbols.map fun z=>.lit (.string z)):=rfl
abbrev U3:List (String×DataW Unit):=[("backstep/arith.symbols",YtipjiidkdllbpaaGreatDoor.Rows.laid_backstep_arith_symbols),("math/bits.deBruijn32tab",YtipjiidkdllbpaaGreatDoor.Rows.laid_math_bits_deBruijn32tab),("math/bits.deBruijn64tab",YtipjiidkdllbpaaGreatDoor.Rows.laid_math_bits_deBruijn64tab),("internal/strconv.uint64pow10",YtipjiidkdllbpaaGreatDoor.Rows.laid_internal_strconv_uint64pow10),("strconv.ErrRange",YtipjiidkdllbpaaGreatDoor.Rows.laid_strconv_ErrRange),("strconv.ErrSyntax",YtipjiidkdllbpaaGreatDoor.Rows.laid_strconv_ErrSyntax)]
theorem syms_of_laid {W:World} (h:laidMetH prog U3 W):Syms W∧Errs W:=by
 have h':laidMet prog U3 W:=h;obtain ⟨ps,⟨g1,t1,l,f1,p1,q1,b,c,d,a,⟨g2,t2,m,f2,p2,q2,n,o,p,q,⟨g3,t3,r,f3,p3,q3,s,t,w,x,⟨g4,t4,y,f4,p4,q4,z,A,B,C,⟨g5,t5,D,f5,p5,q5,e,g,j,k,-,-⟩,-⟩,-⟩,-⟩,-⟩,-⟩:=h';obtain rfl:=Option.some.inj (gSym4.symm.trans b);obtain rfl:=Option.some.inj (gSymT4.symm.trans c);obtain rfl:=Option.some.inj (gErr4.symm.trans e);obtain rfl:=Option.some.inj (gErrT4.symm.trans g);rw [Tu] at a;have e1:=Lq VM Ws Wt VN a;refine ⟨⟨fun i hi=>?_⟩,?_⟩
 · rw [World.var?_cell gSym4 d i,←Array.getElem?_toList,e1,List.getElem?_map]
   have:symbols[i]? = some (symbols.getD i []):=by
    rw [List.getD_eq_getElem?_getD,List.getElem?_eq_getElem (show i<symbols.length from hi)];rfl
   rw [this];rfl
 · obtain ⟨ms,hu⟩:=Wu
   obtain ⟨f,u,v,hc,-,-⟩:=iface_of_trod hu k;refine ⟨⟨u,v,?_⟩⟩;rw [World.var?_cell gErr4 j 0,←Array.getElem?_toList,hc]
   rfl
end Bk
