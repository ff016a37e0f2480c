/- Texts that the proofs of InverterDeep need. No condition. (Part 5 of 8.) -/
import Derived.Test.YtipjiidkdllbpaaGreatDoorPIdp4
set_option linter.unusedSimpArgs false
set_option linter.unusedVariables false
set_option maxRecDepth 100000
set_option maxHeartbeats 4000000
open Go.Proofs.Tryz
namespace Bk
open Go Go.RowKit Go.Proofs
attribute [local irreducible] Go.Calls
theorem Ky {α β:Type} {f:α→List β} {k:Nat} (hf : ∀x,(f x).length=k) : ∀(l:List α) (i:Nat) (x:α),l[i]? = some x→((l.flatMap f).drop (i*k)).take k=f x
 | [],i,x,h=>by simp at h
 | y::r,0,x,h=>by
  simp only [List.getElem?_cons_zero,Option.some.injEq] at h;subst h;rw [List.flatMap_cons,Nat.zero_mul,List.drop_zero,List.take_append_of_le_length (by rw [hf];exact Nat.le_refl _),List.take_of_length_le (by rw [hf];exact Nat.le_refl _)]
 | y::r,i+1,x,h=>by
  rw [List.flatMap_cons,show (i+1)*k=(f y).length+i*k by rw [hf,Nat.add_mul];omega,←List.drop_drop,List.drop_left]
  exact Ky hf r i x (by simpa using h)
theorem Gu {w:World} {e:TypeId} {v:Value} {l:List VD} {S:Nat→Prop} (h:Own w 0 e 3 v l.length (l.flatMap VD.cells)) (hS : ∀k,v.ownBlock=some k→S k) : ∃a c,v = .slice a l.length c∧VDs S w l a:=by
 rcases h.row with ⟨rfl,hn,-⟩|⟨g,cap,rfl,-,ho,hr⟩
 · exact ⟨none,0,by rw [hn],Or.inl (List.length_eq_zero_iff.1 hn)⟩
 · refine ⟨_,cap,rfl,Or.inr ⟨g,0,rfl,hS g ho,fun i x hx=>?_⟩⟩
   have:=hr.sub (i*3) 3;rw [Ky (f:=VD.cells) (k:=3) (fun _=>rfl) l i x hx] at this
   exact this
def Ptrs (κ:Nat→Nat) (w:World) (l:List Nat) (a:Option Addr):Prop:=l=[] ∨ ∃g,a=some ⟨g,0,none⟩∧Row w ⟨g,0,none⟩ (l.map (IV κ))
theorem Ptrs.ext {κ:Nat→Nat} {w w':World} {l:List Nat} {a:Option Addr} (h:Ptrs κ w l a) (x:Ext w w'):Ptrs κ w' l a:=h.imp id fun ⟨g,h1,h2⟩=>⟨g,h1,h2.ext x⟩
instance {κ:Nat→Nat} {w w':World} {l:List Nat} {a:Option Addr}:LfE w w' (Ptrs κ w l a) (Ptrs κ w' l a):=⟨fun x h=>Bk.Ptrs.ext h x⟩
theorem Kz {w:World} {e:TypeId} {v:Value} {l:List Nat} {κ:Nat→Nat} (h:Own w 0 e 1 v l.length (l.map (IV κ))) : ∃a c,v = .slice a l.length c∧Ptrs κ w l a:=by
 rcases h.row with ⟨rfl,hn,-⟩|⟨g,cap,rfl,-,ho,hr⟩
 · exact ⟨none,0,by rw [hn],Or.inl (List.length_eq_zero_iff.1 hn)⟩
 · exact ⟨_,cap,rfl,Or.inr ⟨g,rfl,hr⟩⟩
theorem Ptrs.get {κ:Nat→Nat} {w:World} {l:List Nat} {a:Option Addr} (h:Ptrs κ w l a) {i c:Nat} (hi:l[i]? = some c) : ∃g,a=some ⟨g,0,none⟩∧Row w ⟨g,0+i*1,none⟩ [IV κ c]:=by
 rcases h with rfl|⟨g,rfl,hr⟩
 · simp at hi
 · refine ⟨g,rfl,?_⟩
   have:=hr.sub (i*1) 1;rw [Nat.mul_one] at this ⊢
   have hlt:i<l.length:=by
    rcases Nat.lt_or_ge i l.length with h'|h'
    · exact h'
    · rw [List.getElem?_eq_none h'] at hi;cases hi
   have e:((l.map (IV κ)).drop i).take 1=[IV κ c]:=by
    rw [List.drop_eq_getElem_cons (by simpa using hlt)]
    have:l[i]=c:=by rw [List.getElem?_eq_getElem hlt] at hi;exact Option.some.inj hi
    simp [this]
   rw [e] at this
   exact this
def CS (l:List VD) (s:List UInt8):Int:=match CJ s l with
 | some i=>(i:Int)
 | none=> -1
theorem KA (s:List UInt8) (v:VD) : ∀l:List VD,CJ s (l++[v])=if v.name=s then some l.length else CJ s l
 | []=>by simp only [List.nil_append,CJ,List.length_nil]
 | u::r=>by
  rw [List.cons_append]
  unfold CJ
  rw [KA s v r]
  by_cases h:v.name=s
  · simp [h]
  · simp [h]
theorem NO {l:List VD} {j:Nat} (hj:j<l.length) (s:List UInt8):CS (l.take (j+1)) s=if l[j].name=s then (j:Int) else CS (l.take j) s:=by
 have e:l.take (j+1)=l.take j++[l[j]]:=by rw [List.take_add_one,List.getElem?_eq_getElem hj];rfl
 unfold CS
 rw [e,KA]
 by_cases h:l[j].name=s
 · rw [if_pos h,if_pos h];simp;omega
 · rw [if_neg h,if_neg h]
theorem KB (l:List VD) (hl:l.length≤1000000) (s:List UInt8) (S:Nat→Prop) (a:Option Addr) (c:Nat) (vc nl:Value) (fb fo:Nat) (w:World) (hr:Row w ⟨fb,fo,none⟩ [.slice a l.length c,vc,nl]) (hs:VDs S w l a) :
 Calls prog 154 #[.pointer (some ⟨fb,fo,none⟩),str s] w fun e w'=>e = .returned (.int .i64 (CS l s))∧Ext w w':=by
 have X:=Ext.refl w;replace hs:=hs.ltV;refine Ad func154 ntmps154 rfl rfl ?_
 focus
  refine eK ?_;refine C1 (G6 hr) (C1 Pz (C1 (Bs rfl rfl (IntWalk.i64_in _ (by omega))) (C1 Pa (cT ?_))));rotate_left
 refine AK ?_;refine Bn (ι:=Nat) (fun j=>[(0,.pointer (some ⟨fb,fo,none⟩)),(1,str s),(5,.int .i64 ((j:Int)-1))])
  (fun j w'=>j≤l.length∧VDs (· < w.heap.size) w' l a∧Row w' ⟨fb,fo,none⟩ [.slice a l.length c,vc,nl]∧Ext w w'∧CS l s=CS (l.take j) s)
  (fun j=>j) l.length sB ⟨Nat.le_refl _,hs,hr,X,by rw [List.take_length]⟩ ?_
 clear hs hr X;rintro j w1 ⟨hj,hs,hb,X,hf⟩
 cases j with
 | zero=>
  have e0:CS l s = -1:=by rw [hf];rfl
  rw [e0]
  focus
   refine eK ?_;refine Af rfl rfl ?_;rotate_left
  exact ⟨rfl,X⟩
 | succ j=>
  have hlt:j<l.length:=by omega
  obtain ⟨kb,ko,rfl,kS,hget⟩:=hs.get (by intro e;subst e;simp at hlt);have r0:=hget j l[j] (List.getElem?_eq_getElem hlt);rw [NO hlt s] at hf;clear hget
  generalize l[j]=v at *
  have b:(((j+1:Nat):Int)-1)=(j:Int):=by omega
  obtain ⟨vn,vk,vl⟩:=v;replace r0:Row w1 ⟨kb,ko+j*3,none⟩ [str vn,.int .u8 vk,.int .i64 vl]:=r0;dsimp only at hf;rw [b]
  focus
   refine eK ?_;refine C1 (G6 hb) ?_;refine eK ?_;refine C1 (G6 r0) ?_;refine eK ?_;refine AO rfl (fun d=>?_) (fun d=>?_);refine eK ?_;refine Af rfl rfl ?_;rotate_left;refine eK ?_;refine C1 (Bs rfl rfl (IntWalk.i64_in _ (by omega))) (C1 Pa (Aj ?_));rotate_left
  · rw [if_pos ‹_›] at hf;rw [hf]
    exact ⟨rfl,X⟩
  · rw [if_neg ‹_›] at hf
    exact AW j sB ⟨by omega,hs,hb,X,hf⟩ (by omega)
theorem Ey (fb fo n sb:Nat) (hn:n≤1000) (w:World) (h:CurP w sb fb fo n) :
 Calls prog 153 #[.pointer (some ⟨sb,0,none⟩)] w fun e w'=>e = .returned (.pointer (some ⟨fb,fo,none⟩))∧Ext w w':=by
 have X:=Ext.refl w;obtain ⟨x,y,z,a,c,tp,hb,⟨rfl,rfl,rfl⟩|⟨h0,rfl,rfl⟩⟩:=h
 · refine Ad func153 ntmps153 rfl rfl ?_
   focus
    refine eK ?_;refine Af rfl rfl ?_;rotate_left
   exact ⟨rfl,X⟩
 · refine Ad func153 ntmps153 rfl rfl ?_
   focus
    refine eK ?_;refine C1 (Bs rfl rfl (IntWalk.i64_in _ (by omega))) ?_;refine eK ?_;refine Af rfl rfl ?_;rotate_left
   refine ⟨?_,X⟩;rw [show (0+((n:Int)-1).toNat*3)=(n-1)*3 by omega]
theorem Uj (k:Int) (w:World):Calls prog 168 #[.int .u8 k] w fun e w'=>e = .returned (.int .u8 (C2 k))∧Ext w w':=by
 have X:=Ext.refl w;refine Ad func168 ntmps168 rfl rfl ?_
 focus
  refine eK ?_;refine AO rfl (fun c1=>?_) (fun c1=>?_);refine eK ?_;refine Af rfl rfl ?_;rotate_left;refine eK ?_;refine AO rfl (fun c2=>?_) (fun c2=>?_);refine eK ?_;refine Af rfl rfl ?_;rotate_left;refine eK ?_;refine AO rfl (fun c3=>?_) (fun c3=>?_);refine eK ?_;refine Af rfl rfl ?_;rotate_left;refine eK ?_;refine AO rfl (fun c4=>?_) (fun c4=>?_);refine eK ?_;refine Af rfl rfl ?_;rotate_left;refine eK ?_;refine AO rfl (fun c5=>?_) (fun c5=>?_);refine eK ?_;refine Af rfl rfl ?_;rotate_left;refine eK ?_;refine AO rfl (fun c6=>?_) (fun c6=>?_);refine eK ?_;refine Af rfl rfl ?_;rotate_left;refine eK ?_;refine Af rfl rfl ?_;rotate_left
 all_goals (refine ⟨?_,X⟩;unfold C2)
 · rw [if_pos (by omega)]
 · rw [if_neg (by omega),if_pos (by omega)]
 · rw [if_neg (by omega),if_neg (by omega),if_pos (by omega)]
 · rw [if_neg (by omega),if_neg (by omega),if_pos (by omega)]
 · rw [if_neg (by omega),if_neg (by omega),if_pos (by omega)]
 · rw [if_neg (by omega),if_neg (by omega),if_pos (by omega)]
 · rw [if_neg (by omega),if_neg (by omega),if_neg (by omega)]
theorem Fv {P:Program} {n:Nat} {l:Sl} {w:World} {Q:Exit→Act→World→Prop} {x y:Code} {ι:Type} (L:ι→Sl) (I:ι→World→Prop) (h:CW P n x (Exit.then (fun a w=> ∃i,Env n (L i) a∧I i w) Q) l w) (k : ∀i w,I i w→CW P n y Q (L i) w):CW P n x (Exit.then (Code.wp P y Q) Q) l w:=by
 unfold CW at h k ⊢
 intro a ha;refine Code.wp_mono (fun e a w q=>?_) (h a ha)
 cases e with
 | normal=>
  obtain ⟨i,he,hi⟩:=q
  exact k i w hi a he
 | _=>exact q
section
variable {ρ:Nat→Rl} {κ:Nat→Nat} {K:List (Int×Int)} {m sb:Nat} {st:Stp} {w:World}
theorem Ez {st:Stp} {c:Nat} (h:c<st.heap.length):st.heap[c]? = some (st.items c):=by
 unfold Stp.items
 rw [List.getD_eq_getElem?_getD,List.getElem?_eq_getElem h]
 rfl
theorem Re {s:List UInt8} (h:CJ s st.cur.vars=none):st.look s=none:=by unfold Stp.look Frm.cell;rw [h];rfl
theorem Rf {s:List UInt8} {i c:Nat} (h:CJ s st.cur.vars=some i) (hc:st.cur.cells[i]? = some c):st.look s=some (st.items c)∧st.cellD s=c:=by
 have e:st.cur.cell s=some c:=by unfold Frm.cell;rw [h];simpa using hc
 exact ⟨by unfold Stp.look;rw [e];rfl,by unfold Stp.cellD;rw [e];rfl⟩
theorem StoreAt.at (h:StoreAt ρ κ w sb st) (hw:st.WF K m) {s:List UInt8} {i:Nat} (hi:CJ s st.cur.vars=some i) : ∃c a' c',st.cur.cells[i]? = some c∧c<st.heap.length∧st.look s=some (st.items c)∧st.cellD s=c∧Blk w (κ c) [.slice a' (st.items c).length c']∧OwnR ρ (.items c) w (.slice a' (st.items c).length c') (st.items c)∧ρ (κ c) = .cell c:=by
 have hlt:=F4 hi
 have a:i<st.cur.cells.length:=by rw [←hw.cur.len];exact hlt
 have hc:=List.getElem?_eq_getElem a;obtain ⟨e1,e2⟩:=Rf hi hc
 have hl:st.cur.cells[i]<st.heap.length:=by rw [hw.len];exact hw.cur.lt (List.getElem_mem a)
 obtain ⟨h1,v,h2,h3⟩:=h.cells _ _ (Ez hl);obtain ⟨a',c',rfl⟩:=h3.1.shape
 exact ⟨_,a',c',hc,hl,e1,e2,h2,h3,h1⟩
theorem NP (hw:st.WF K m) (hm:m≤1000000) (s:List UInt8) (w:World) (h:StoreAt ρ κ w sb st) :
 Calls prog 170 #[.pointer (some ⟨sb,0,none⟩),str s] w (LookR ((st.look s).getD []) (st.look s).isSome w):=by
 have X:=Ext.refl w;have hcm:=hw.curm;have hnc:=hw.nc;obtain ⟨fb,fo,pre,post,T,vv,vc,hcp,-,hwin,hf,-⟩:=h.open;obtain ⟨av,cv,rfl,hvs⟩:=Gu (S:=fun _=>True) hf.v.1 (fun _ _=>trivial);obtain ⟨ac,cc,rfl,hps⟩:=Kz hf.c.1;have hrow:=hwin.blk;have HC:=Lib.hid (fun w1 h=>Ey fb fo st.calls.length sb (by omega) w1 h)
 cases hl:CJ s st.cur.vars with
 | none=>
  have hF:=fun w1 h1 h2=>KB st.cur.vars (by omega) s (fun _=>True) av cv (.slice ac st.cur.cells.length cc) (.int .i64 st.cur.locals) fb fo w1 h1 h2
  rw [show CS st.cur.vars s = -1 by unfold CS;rw [hl]] at hF;replace hF:=Lib.hid hF;rw [Re hl];clear h hf hwin hps hw
  generalize st.cur.cells.length=n2 at *
  generalize st.cur.vars=vs at *
  generalize st.calls.length=nc at *
  refine Ad func170 ntmps170 rfl rfl ?_
  focus
   refine eK ?_;refine cC rfl (HC.out _ ‹_›) ?_;rintro _ w2 ⟨⟨⟩,x1⟩;revert X hvs hrow hcp;refine eY x1 ?_;intro z3 X hvs hrow hcp;refine eK ?_;refine cC rfl (hF.out _ ‹_› ‹_›) ?_;rintro _ w5 ⟨⟨⟩,x4⟩;revert X hvs hrow hcp;refine eY x4 ?_;intro z6 X hvs hrow hcp;refine eK ?_;refine AU rfl rfl rfl ?_;rotate_left
  exact ⟨none,0,rfl,Or.inl rfl,by simp,X⟩
 | some i=>
  have hF:=fun w1 h1 h2=>KB st.cur.vars (by omega) s (fun _=>True) av cv (.slice ac st.cur.cells.length cc) (.int .i64 st.cur.locals) fb fo w1 h1 h2
  rw [show CS st.cur.vars s=(i:Int) by unfold CS;rw [hl]] at hF;replace hF:=Lib.hid hF;obtain ⟨c,a',c',e1,e2,e3,e4,hb,ho,-⟩:=h.at hw hl;have hle:=hw.look_le e3;obtain ⟨g,rfl,r1⟩:=hps.get e1
  have hlt:i<st.cur.cells.length:=by
   rcases Nat.lt_or_ge i st.cur.cells.length with h'|h'
   · exact h'
   · rw [List.getElem?_eq_none h'] at e1
     cases e1
  have r2:Row w ⟨g,0+(i:Int).toNat*1,none⟩ [IV κ c]:=r1;have hat:=ho.1.at;rw [e3];clear h hf hwin hps hw r1 ho e1 e2 e3 e4
  unfold IV at r2
  generalize κ c=cb at *
  generalize st.items c=xs at *
  generalize st.cur.cells.length=n2 at *
  generalize st.cur.vars=vs at *
  generalize st.calls.length=nc at *
  refine Ad func170 ntmps170 rfl rfl ?_
  focus
   refine eK ?_;refine cC rfl (HC.out _ ‹_›) ?_;rintro _ d ⟨⟨⟩,a⟩;revert X r2 hat hb hvs hrow hcp;refine eY a ?_;intro e X r2 hat hb hvs hrow hcp;refine eK ?_;refine cC rfl (hF.out _ ‹_› ‹_›) ?_;rintro _ f ⟨⟨⟩,b⟩;revert X r2 hat hb hvs hrow hcp;refine eY b ?_;intro j X r2 hat hb hvs hrow hcp;refine eK ?_;refine C1 (Pw hrow) ?_;refine eK ?_;refine C1 (G6 r2) ?_;refine eK ?_;refine AU rfl rfl rfl ?_;rotate_left
  exact ⟨_,_,rfl,hat,hle,X⟩
theorem Vq (hw:st.WF K m) (hm:m≤1000000) (s:List UInt8) (w:World) (h:StoreAt ρ κ w sb st) :
 Calls prog 166 #[.pointer (some ⟨sb,0,none⟩),str s] w (LookR ((st.look s).getD []) (st.look s).isSome w):=by
 have X:=Ext.refl w;have hL:=Lib.hid (NP hw hm s w h);clear h hw
 generalize (st.look s).isSome=q at *
 generalize (st.look s).getD []=xs at *
 refine Ad func166 ntmps166 rfl rfl ?_
 focus
  refine eK ?_;refine C1 (A8 Aa rfl rfl) ?_;refine eK ?_;refine eQ rfl (hL.out) ?_;rintro _ w6 ⟨a1,⟨c2,⟨⟨⟩,⟨h3,⟨h4,x5⟩⟩⟩⟩⟩;have z7:=x5.size;replace X:=X.ext x5;refine eK ?_;refine eQ rfl (Fo xs (by omega) _ _ _ ‹_›) ?_;rintro _ b ⟨a8,⟨c9,⟨⟨⟩,⟨c,⟨d,a⟩⟩⟩⟩⟩;revert h3 X;refine eY a ?_;intro e h3 X;refine eK ?_;refine AU rfl rfl rfl ?_;rotate_left
 exact ⟨_,_,rfl,OwnI.at ‹_›,by omega,X⟩
theorem KC (hw:st.WF K m) (hm:m≤1000000) (s:List UInt8) {i:Nat} (hl:CJ s st.cur.vars=some i) (w:World) (h:StoreAt ρ κ w sb st) :
 Calls prog 171 #[.pointer (some ⟨sb,0,none⟩),str s] w fun e w'=>e = .returned (.pointer (some ⟨κ (st.cellD s),0,none⟩))∧Ext w w':=by
 have X:=Ext.refl w;have hcm:=hw.curm;have hnc:=hw.nc;obtain ⟨fb,fo,pre,post,T,vv,vc,hcp,-,hwin,hf,-⟩:=h.open;obtain ⟨av,cv,rfl,hvs⟩:=Gu (S:=fun _=>True) hf.v.1 (fun _ _=>trivial);obtain ⟨ac,cc,rfl,hps⟩:=Kz hf.c.1;have hrow:=hwin.blk;have HC:=Lib.hid (fun w1 h=>Ey fb fo st.calls.length sb (by omega) w1 h)
 have hF:=fun w1 h1 h2=>KB st.cur.vars (by omega) s (fun _=>True) av cv (.slice ac st.cur.cells.length cc) (.int .i64 st.cur.locals) fb fo w1 h1 h2
 rw [show CS st.cur.vars s=(i:Int) by unfold CS;rw [hl]] at hF;replace hF:=Lib.hid hF;obtain ⟨c,a',c',e1,e2,e3,e4,-⟩:=h.at hw hl;obtain ⟨g,rfl,r1⟩:=hps.get e1
 have hlt:i<st.cur.cells.length:=by
  rcases Nat.lt_or_ge i st.cur.cells.length with h'|h'
  · exact h'
  · rw [List.getElem?_eq_none h'] at e1
    cases e1
 have r2:Row w ⟨g,0+(i:Int).toNat*1,none⟩ [IV κ c]:=r1;rw [e4];clear h hf hwin hps hw r1 e1 e2 e3 e4
 unfold IV at r2
 generalize κ c=cb at *
 generalize st.cur.cells.length=n2 at *
 generalize st.cur.vars=vs at *
 generalize st.calls.length=nc at *
 refine Ad func171 ntmps171 rfl rfl ?_
 focus
  refine eK ?_;refine cC rfl (HC.out _ ‹_›) ?_;rintro _ w2 ⟨⟨⟩,x1⟩;revert X r2 hvs hrow hcp;refine eY x1 ?_;intro z3 X r2 hvs hrow hcp;refine eK ?_;refine Ax (fun wz=>Ext w2 wz) 7 (.pure 0 (.pure 1 (.pure 2 (.pure 3 (.pure 4 (.pure 5 (.fork 6 .tail .none))))))) mixed (by kernel_rfl) (Ac Ak) ?_;intro w4 x5 _;have a:(fun wz=>Ext w2 wz) w4:=x5;simp only at a;have j:=r2;have d:=hvs;have b:=hrow;have f:=hcp;revert X r2 hvs hrow hcp;refine eY x5 ?_;intro z7 X r2 hvs hrow hcp;refine ⟨a,?_⟩;refine Tq rfl Mv (Tq rfl Pn (Tq rfl Pf (Tq rfl (Dr b) (Tq rfl Mv (Tq rfl Mv ?_)))));refine At rfl (Av (by kernel_rfl) rfl (hF.out _ ‹_› ‹_›) (fun _ _ h=>⟨_,h.1⟩)) rfl ?_ (fun _ h=>h) As;rintro _ k ⟨⟨⟩,x9⟩;revert a X r2 hvs hrow hcp;refine eY x9 ?_;intro l a X r2 hvs hrow hcp;refine ⟨a,?_⟩;refine Az rfl (C1 Pi (C1 (G6 r2) ?_));refine eK ?_;refine Af rfl rfl ?_;rotate_left
 exact ⟨rfl,X⟩
end
theorem Uk (vs:List VD) (hv:vs.length≤1000000) (av:Option Addr) (cv:Nat) (vc nl:Value) (fb fo:Nat) (N:Nat) : ∀(t:Nd) (S S':Nat→Prop) (a:Option Addr) (c:Nat) (w:World),t.size<N→t.size≤1000000000→t.sits S w a→Row w ⟨fb,fo,none⟩ [.slice av vs.length cv,vc,nl]→VDs S' w vs av →
 Calls prog 159 #[.pointer (some ⟨fb,fo,none⟩),t.val a c] w fun e w'=>e = .returned (.int .i64 (t.bad vs))∧Ext w w':=by
 induction N with
 | zero=>intro t S S' a c w h;omega
 | succ N ih=>
  rintro ⟨k,n,s,l⟩ S S' a c w hN hM hs hr hvs;have IH:=Lib.hid ih;clear ih;simp only [Nd.sits] at hs;simp only [Nd.size] at hN hM;have X:=Ext.refl w;have hl:=Em l;replace hs:=Cy _ _ hs;replace hvs:=hvs.ltV;have hfb:fb<w.heap.size:=Ca (hr.at0 rfl);have HF:=Lib.hid (fun w1 h1=>Mx vs hv s (· < w.heap.size) av cv w1 h1);rw [Nd.bad]
  change Calls prog _ #[.pointer (some ⟨fb,fo,none⟩),.agg #[.int .u8 k,.int .i64 n,str s,.slice a l.length c]] w _
  generalize hq:(D0 vs s).isSome=q at HF
  generalize hz:(D0 vs s).getD Sz=z at HF
  obtain ⟨zn,zk,zl⟩:=z
  have hu:Ff vs s (C2 k)=if q=false then 6 else if zk=C2 k then 0 else 7:=by
   unfold Ff
   cases hf:D0 vs s with
   | none=>rw [hf] at hq;subst hq;rfl
   | some v=>rw [hf] at hq hz;subst hq;simp only [Option.getD_some] at hz;rw [hz];rfl
  rw [hu];clear hq hz hu
  generalize hn:C2 k=nk at *
  have HN:=Uj k;rw [hn] at HN;replace HN:=Lib.hid HN;refine Ad func159 ntmps159 rfl rfl ?_
  focus
   refine cS (eB [_,_,_,_] ?_);intro b1 w2 h4 x5 p6 z7;revert hr X hs hvs;refine eE x5 ?_;intro hr X hs hvs;refine eK ?_;refine cC rfl (HN.out _) ?_;rintro _ w9 ⟨⟨⟩,x8⟩;revert h4 hr X hs hvs;refine eY x8 ?_;intro ao h4 hr X hs hvs;refine C1 Pa (cT ?_);rotate_left
  refine Fv (ι:=Unit) (fun _=>[(0,.pointer (some ⟨fb,fo,none⟩)),(3,.pointer (some ⟨b1,0,none⟩))]) (fun _ w'=>Row w' ⟨fb,fo,none⟩ [.slice av vs.length cv,vc,nl]∧VDs (· < w.heap.size) w' vs av∧rowSits (· < w.heap.size) w' l a∧Blk w' b1 [.int .u8 k,.int .i64 n,str s,.slice a l.length c]∧Ext w w' ∧ ¬(nk≠0∧(if q=false then (6:Int) else if zk=nk then 0 else 7)≠0)) ?_ ?_
  · focus
     refine eK ?_;refine BS rfl (fun K=>?_) (fun K=>?_);refine Am (Ax (fun wz=>Ext w9 wz) 12 (.pure 0 (.pure 1 (.pure 2 (.pure 3 (.pure 4 (.pure 5 (.fork 6 (.pure 7 (.pure 8 (.pure 9 (.fork 10 (.fork 11 .tail .none) .none)))) (.fork 10 (.fork 6 (.pure 7 (.pure 8 (.pure 9 (.fork 11 .tail .none)))) .none) .none)))))))) mixed (by kernel_rfl) (Ac (Ac Ak)) ?_);intro L r _;have b:(fun wz=>Ext w9 wz) L:=r;simp only at b;have u:=h4;have y:=hr;have U:=hs;have M:=hvs;revert h4 hr X hs hvs;refine eY r ?_;intro ap h4 hr X hs hvs;refine ⟨b,?_⟩;refine Tq rfl Mv (Tq rfl Pn (Tq rfl Pg (Tq rfl (Al Aa rfl rfl rfl (fun wz hz=>Row.at0 (Row.ext y hz) rfl)) (Tq rfl Pf (Tq rfl (Db u) ?_)))));refine At rfl (Av (by kernel_rfl) rfl (HF.out _ ‹_›) (fun _ _ h=>⟨_,h.1⟩)) rfl ?_ (fun _ h=>h) ?kra6;rintro _ aq ⟨⟨⟩,O⟩;revert b h4 hr X hs hvs;refine eY O ?_;intro ar b h4 hr X hs hvs;refine ⟨b,?_⟩;refine Tq rfl Mv (Tq rfl Px (Tq rfl Px ?_));refine At rfl (BG Bj rfl) rfl ?_ (fun _ h=>h) As;rintro _ V ⟨W,rfl,d⟩;have o:=d.blk;dsimp only at o;have A:=d.ext;have Y:=d.pos;have Z:=d.size;revert b h4 hr X hs hvs;refine eE A ?_;intro b h4 hr X hs hvs;refine ⟨b,?_⟩;refine Eg [_,_,_] [_,_,_] rfl Aa rfl rfl rfl rfl rfl rfl o rfl rfl ?_ As
     intro aa i;have ab:=i.blk;have B:=i.fr;have ac:=i.size;revert b h4 hr X hs hvs;refine eF B ?_;intro b h4 hr X hs hvs;refine ⟨b,?_⟩;refine Az rfl (C1 Pa (cT (Am (cS (C1 Mv (C1 Pt (cT ?_)))))));refine JU rfl (fun C=>?_) (fun C=>?_);refine eK ?_;refine Af rfl rfl ?_;rotate_left;refine eK ?_;refine BS rfl (fun D=>?_) (fun D=>?_);refine eK ?_;refine Af rfl rfl ?_;rotate_left;refine AH ?_;rotate_left;refine At rfl (BG Bj rfl) rfl ?_ (fun _ h=>h) As;rintro _ ad ⟨ae,rfl,f⟩;have g:=f.blk;dsimp only at g;have E:=f.ext;have af:=f.pos;have ag:=f.size;revert b h4 hr X hs hvs;refine eE E ?_;intro b h4 hr X hs hvs;refine ⟨b,?_⟩;refine At rfl (Av (by kernel_rfl) rfl (HF.out _ ‹_›) (fun _ _ h=>⟨_,h.1⟩)) rfl ?_ (fun _ h=>h) As;rintro _ ah ⟨⟨⟩,F⟩;revert g b h4 hr X hs hvs;refine eY F ?_;intro ai g b h4 hr X hs hvs;refine ⟨b,?_⟩;refine Tq rfl Mv (Tq rfl Px (Tq rfl Px ?_));refine Eg [_,_,_] [_,_,_] rfl Aa rfl rfl rfl rfl rfl rfl g rfl rfl ?_ As;intro aj m;have ak:=m.blk;have G:=m.fr;have al:=m.size;revert b h4 hr X hs hvs;refine eF G ?_
     intro b h4 hr X hs hvs;refine ⟨b,?_⟩;refine Az rfl (C1 Pa (cT (Am (cS (C1 Mv (C1 Pt (cT ?_)))))));refine JU rfl (fun H=>?_) (fun H=>?_);refine eK ?_;refine Af rfl rfl ?_;rotate_left;refine eK ?_;refine BS rfl (fun I=>?_) (fun I=>?_);refine eK ?_;refine Af rfl rfl ?_;rotate_left;refine AH ?_;rotate_left;refine AH ?_;rotate_left
    all_goals first
     | exact ⟨by rw [if_pos (show q=false by assumption),if_pos ⟨by assumption,by decide⟩],X⟩
     | exact ⟨by rw [if_neg (show ¬q=false by simp [*]),if_neg (show ¬zk=nk by assumption),if_pos ⟨by assumption,by decide⟩],X⟩
     | exact CG () sB ⟨by assumption,by assumption,by assumption,by assumption,X,fun h=>h.1 ‹_›⟩
     | exact CG () sB ⟨by assumption,by assumption,by assumption,by assumption,X,fun h=>h.2 (by rw [if_neg (show ¬q=false by simp [*]),if_pos (show zk=nk by assumption)])⟩
  clear hs hr hvs X HF HN;rintro-w1 ⟨hr,hvs,hs,hb,X,hno⟩;rw [if_neg hno];clear hno hn
  focus
   refine Am (cS (C1 Pf (C1 (Pl hb) (C1 Pz (C1 Mv (cT ?_))))));rotate_left
  clear h4 hb;refine AK ?_;refine Bn (ι:=Nat) (fun j=>[(0,.pointer (some ⟨fb,fo,none⟩)),(33,.slice a l.length c),(34,.int .i64 l.length),(35,.int .i64 j)])
   (fun j w'=>j≤l.length∧Row w' ⟨fb,fo,none⟩ [.slice av vs.length cv,vc,nl]∧VDs (· < w.heap.size) w' vs av∧rowSits (· < w.heap.size) w' l a∧Ext w w'∧EU vs l=EU vs (l.drop j))
   (fun j=>l.length-j) 0 sB ⟨Nat.zero_le _,hr,hvs,hs,X,rfl⟩ ?_
  clear hr hvs hs X;rintro j w1 ⟨hj,hr,hvs,hs,X,hbad⟩
  by_cases hlt:j<l.length
  · obtain ⟨kb,ko,rfl,hkS,hkid⟩:=Cv hs (by intro e;subst e;simp at hlt);obtain ⟨xa,xc,rx,sx⟩:=hkid j l[j] (List.getElem?_eq_getElem hlt);have hsz:=Dw (List.getElem_mem hlt);rw [List.drop_eq_getElem_cons hlt,EU] at hbad;clear hkid
    generalize l[j]=x at *
    have HX:=Lib.hid (IH.out x (· < w.heap.size) (· < w.heap.size) xa xc)
    generalize hxb:x.bad vs=xb at *
    obtain ⟨xk,xn,xs,xl⟩:=x;replace rx:Row w1 ⟨kb,ko+j*4,none⟩ [.int .u8 xk,.int .i64 xn,str xs,.slice xa xl.length xc]:=rx;clear hxb
    focus
     refine eK ?_;refine C1 (Gb rx) (AB [_,_,_,_] Bj rfl rfl ?_);intro au aw Q;refine eI [_,_,_,_] Q ?_;intro ax p R ay az;revert hr hvs X hs sx rx;refine eE R ?_;intro hr hvs X hs sx rx;refine eK ?_;refine Ae [_,_,_,_] Aa rfl rfl rfl p rfl rfl rfl (cC rfl (HX.out _ (by omega) (by omega) ‹_› ‹_› ‹_›) ?_);rintro _ am ⟨⟨⟩,T⟩;revert p hr hvs X hs sx rx;refine eY T ?_;intro an p hr hvs X hs sx rx;refine eK ?_;refine BS rfl (fun J=>?_) (fun J=>?_);refine eK ?_;refine Af rfl rfl ?_;rotate_left;refine AH (An (Ai (Ah (C1 V7 (C1 Mv (Aj ?_))))));rotate_left
    · exact ⟨by rw [hbad,if_pos ‹_›],X⟩
    · refine AW (j+1) sB ⟨by omega,hr,hvs,hs,X,?_⟩ (by omega);rw [hbad,if_neg (fun h=>h ‹_›)]
  · have:j=l.length:=by omega
    subst this;rw [List.drop_length] at hbad;rw [hbad]
    focus
     refine eK ?_;refine Af rfl rfl ?_;rotate_left
    exact ⟨rfl,X⟩
theorem Ul (k:Int) (hk:40≤k∧k≤49) (w:World):Calls prog 158 #[.int .u8 k] w fun e w'=>e = .returned (.bool true)∧Ext w w':=by
 have X:=Ext.refl w;refine Ad func158 ntmps158 rfl rfl ?_
 focus
  refine eK ?_;refine AO rfl (fun c1=>?_) (fun c1=>?_);refine eK ?_;refine Af rfl rfl ?_;rotate_left;refine eK ?_;refine AO rfl (fun c2=>?_) (fun c2=>?_);refine eK ?_;refine Af rfl rfl ?_;rotate_left;refine eK ?_;refine AO rfl (fun c3=>?_) (fun c3=>?_);refine eK ?_;refine Af rfl rfl ?_;rotate_left;refine eK ?_;refine AO rfl (fun c4=>?_) (fun c4=>?_);refine eK ?_;refine Af rfl rfl ?_;rotate_left;refine eK ?_;refine AO rfl (fun c5=>?_) (fun c5=>?_);refine eK ?_;refine Af rfl rfl ?_;rotate_left;refine eK ?_;refine AO rfl (fun c6=>?_) (fun c6=>?_);refine eK ?_;refine Af rfl rfl ?_;rotate_left;refine eK ?_;refine AO rfl (fun c7=>?_) (fun c7=>?_);refine eK ?_;refine Af rfl rfl ?_;rotate_left;refine eK ?_;refine AO rfl (fun c8=>?_) (fun c8=>?_);refine eK ?_;refine Af rfl rfl ?_;rotate_left;refine eK ?_;refine AO rfl (fun c9=>?_) (fun c9=>?_);refine eK ?_;refine Af rfl rfl ?_;rotate_left;refine eK ?_;refine Af rfl rfl ?_;rotate_left
 all_goals first
  | exact ⟨rfl,X⟩
  | (exfalso;omega)
theorem Rg (k:Int) (hk : ¬(k=50∨k=51)) (w:World):Calls prog 157 #[.int .u8 k] w fun e w'=>e = .returned (.int .u8 (BN k))∧Ext w w':=by
 have X:=Ext.refl w;refine Ad func157 ntmps157 rfl rfl ?_
 focus
  refine eK ?_;refine AO rfl (fun c1=>?_) (fun c1=>?_);refine eK ?_;refine Af rfl rfl ?_;rotate_left;refine eK ?_;refine AO rfl (fun c2=>?_) (fun c2=>?_);refine eK ?_;refine Af rfl rfl ?_;rotate_left;refine eK ?_;refine AO rfl (fun c3=>?_) (fun c3=>?_);refine eK ?_;refine Af rfl rfl ?_;rotate_left;refine eK ?_;refine AO rfl (fun c4=>?_) (fun c4=>?_);refine eK ?_;refine Af rfl rfl ?_;rotate_left;refine eK ?_;refine AO rfl (fun c5=>?_) (fun c5=>?_);refine eK ?_;refine Af rfl rfl ?_;rotate_left;refine eK ?_;refine AO rfl (fun c6=>?_) (fun c6=>?_);refine eK ?_;refine Af rfl rfl ?_;rotate_left;refine eK ?_;refine AO rfl (fun c7=>?_) (fun c7=>?_);refine eK ?_;refine Af rfl rfl ?_;rotate_left;refine eK ?_;refine AO rfl (fun c8=>?_) (fun c8=>?_);refine eK ?_;refine Af rfl rfl ?_;rotate_left;refine eK ?_;refine Af rfl rfl ?_;rotate_left
 all_goals (refine ⟨?_,X⟩;unfold BN)
 all_goals first
  | (subst k;rfl)
  | (repeat rw [if_neg (by omega)])
def Rh (ρ:Nat→Rl) (w w':World) (r:Rl):Nat→Rl:=fun b=>if w.heap.size≤b∧b<w'.heap.size then r else ρ b
theorem SE (ρ:Nat→Rl) (w w':World) (r:Rl):Ro ρ (Rh ρ w w' r) w:=fun b hb=>if_neg (by omega)
theorem PW (ρ:Nat→Rl) {w w':World} (r:Rl) {b:Nat} (h:w.heap.size≤b) (h':b<w'.heap.size):Rh ρ w w' r b=r:=if_pos ⟨h,h'⟩
theorem LX {ρ:Nat→Rl} {w w':World} {r:Rl} (h:Fresh ρ w) (hs:w.heap.size≤w'.heap.size):Fresh (Rh ρ w w' r) w':=fun b hb=>by
 unfold Rh
 rw [if_neg (by omega)]
 exact h b (by omega)
section
variable {P:Program} {n:Nat} {l:Sl} {w:World} {tab:Tab} {zt:EL} {ty:TypeId}
theorem E6 {x y:Operand} {t e sz1 sz b k m cap:Nat} {sE:Sk} {zs:List Value} {v:Value} {cs us:List Value} {p:Addr} (T:TabOk P tab) (Z:CO P zt) (ht:AL tab t=some (.slice e,sz1)) (hE:AL tab e=some (sE,sz)) (hz:Dx zt e=some zs) (hzl:zs.length=sz)
 (hby:DT P e=true) (hsz:Nat.blt 0 sz=true) (hx:ev l x=some v) (hy:ev l y=some (.slice (some p) m cap)) (hown:Own w b e sz v k cs) (hr:Row w p us) (hul:us.length=m*sz) (hu:us.all Value.one=true) (hkm:k+m≤100000000000) (hm0:0<k+m) (hb:b≤w.heap.size) :
 Cj P n l (.call ⟨.builtin .append,#[x,y],#[t,t]⟩) ty w (J8 fun o w'=> ∃g cap,o = .slice (some ⟨g,0,none⟩) (k+m) cap∧Own w' b e sz (.slice (some ⟨g,0,none⟩) (k+m) cap) (k+m) (cs++us)∧Fr (fun k=>v.ownBlock=some k) w w'∧(v.ownBlock=some g∨w.heap.size≤g)∧g<w'.heap.size):=by
 have hd:=Fz (P:=P) (n:=n) (l:=l) (ty:=ty) T Z ht hE hz hzl hby hsz hx hy hown hr hul hu hkm hm0 hb
 unfold Cj at hd ⊢
 intro a dst pos after g next Q ha hn c;refine hd a dst pos after g next Q ha (fun v' w' hG=>?_) (fun w' hG=>hG.elim);obtain ⟨g1,g2,g,cap',g3,g4⟩:=hG
 exact hn v' w' ⟨g,cap',g3,g3▸g1,g2,g4,(g1.blk (k:=g) (by rw [g3];rfl)).2⟩
end
section
variable {ρ:Nat→Rl} {κ:Nat→Nat} {j:Nat}
def AddR (ρ:Nat→Rl) (κ:Nat→Nat) (j fb fo:Nat) (pre post:List Value) (T:TypeId) (nl:Value) (f:Frm) (w:World):Ending→World→Prop:=fun e w'=> ∃vv vc ρ',e = .returned (.tuple #[])∧Ro ρ ρ' w∧Fresh ρ' w'∧Win w' fb fo [vv,vc,nl] pre post T∧FrameOk ρ' κ w' j f vv vc∧Fr (E1 ρ j fb) w w'
theorem AddR.ret {fb fo:Nat} {pre post:List Value} {T:TypeId} {nl:Value} {f:Frm} {w:World} {e:Ending} {w':World} (h:AddR ρ κ j fb fo pre post T nl f w e w') : ∃v,e = .returned v:=by
 obtain ⟨_,_,_,h,-⟩:=h
 exact ⟨_,h⟩
theorem PX (f:Frm) (v:VD) (c fb fo:Nat) (pre post:List Value) (T:TypeId) (vv vc nl:Value) (w:World) (hF:FrameOk ρ κ w j f vv vc) (hw:Win w fb fo [vv,vc,nl] pre post T) (hr:ρ fb≠.vars j∧ρ fb≠.cels j) (hfr:Fresh ρ w) (hv:f.vars.length≤1000000) (hc:f.cells.length≤1000000) :
 Calls prog 104 #[.pointer (some ⟨fb,fo,none⟩),v.val,IV κ c] w (AddR ρ κ j fb fo pre post T nl ⟨f.vars++[v],f.cells++[c],f.locals⟩ w):=by
 obtain ⟨⟨ov,rv⟩,⟨oc,rc⟩⟩:=hF;have hfb:fb<w.heap.size:=hw.1.blk.lt;have F:=Fr.refl (E1 ρ j fb) w
 have n1 : ∀k,vv.ownBlock=some k→ρ k = .vars j∧k<w.heap.size:=fun k hk=>⟨rv k hk,(ov.blk hk).2⟩
 have n2 : ∀k,vc.ownBlock=some k→ρ k = .cels j∧k<w.heap.size:=fun k hk=>⟨rc k hk,(oc.blk hk).2⟩
 have d1 : ∀k,vv.ownBlock=some k → ¬k=fb:=fun k hk e=>by subst e;exact hr.1 (n1 k hk).1
 have d2 : ∀k,vc.ownBlock=some k → ¬k=fb:=fun k hk e=>by subst e;exact hr.2 (n2 k hk).1
 have d3 : ∀k,vc.ownBlock=some k → ¬vv.ownBlock=some k:=fun k hk e=>by have:=(n1 k e).1;rw [(n2 k hk).1] at this;cases this
 obtain ⟨vn,vk,vl⟩:=v
 generalize hN:f.vars.length=N at *
 generalize hM:f.cells.length=M at *
 generalize hV:f.vars.flatMap VD.cells=V at *
 generalize hC:f.cells.map (IV κ)=C at *
 change Calls prog _ #[_,.agg #[str vn,.int .u8 vk,.int .i64 vl],.pointer (some ⟨κ c,0,none⟩)] w _
 refine Ad func104 ntmps104 rfl rfl ?_;have HFr:=Lib.hid hfr;clear hfr
 focus
  refine cS (eB [_,_,_] ?_);intro b1 w2 h4 x5 p6 z7;revert hw F ov oc;refine eE x5 ?_;intro hw F ov oc;refine eK ?_;refine Ax (fun wz=>Fr ((fun k=>vv.ownBlock=some k)) w2 wz) 8 (.pure 0 (.pure 1 (.pure 2 (.pure 3 (.pure 4 (.pure 5 (.fork 6 (.fork 7 .tail .none) .none))))))) mixed (by kernel_rfl) (Ac Ak) ?_;intro w8 x9 _;have a:(fun wz=>Fr ((fun k=>vv.ownBlock=some k)) w2 wz) w8:=Fr.of_ext x9;simp only at a;have z:=h4;have A:=hw;have L:=ov;have O:=oc;revert h4 hw F ov oc;refine eY x9 ?_;intro Q h4 hw F ov oc;refine ⟨a,?_⟩;refine Tq rfl Mv (Tq rfl Mv (Tq rfl Pn (Tq rfl Pg (Tq rfl (Al Aa rfl rfl rfl (fun wz hz=>Row.at0 (Row.fr (Win.blk A) hz (fun h=>d1 _ h rfl)) rfl)) (Tq rfl (Aw [_,_,_] Aa rfl rfl rfl (fun wz hz=>(Blk.fr z hz (fun h=>by have:=(n1 _ h).2;omega))) rfl rfl) ?_)))));refine At rfl (AM [_,_,_] Aa Bj rfl rfl rfl rfl rfl rfl rfl rfl rfl) rfl ?_ (fun _ h=>h) As;rintro _ t ⟨R,rfl,o,S⟩;have i:=o.blk;have G:=o.ext;have U:=o.pos;have W:=o.size;revert a h4 hw F ov oc;refine eE G ?_;intro a h4 hw F ov oc;refine ⟨a,?_⟩;refine At rfl (E6 Aa Bj rfl rfl rfl rfl (by kernel_rfl) rfl rfl rfl ‹_› (Blk.row ‹_›) rfl rfl (by omega) (by omega) (Nat.zero_le _)) rfl ?_ (fun _ h=>h) As
  rintro _ u ⟨p,⟨H,⟨rfl,⟨d,⟨g,⟨q,X⟩⟩⟩⟩⟩⟩;have Y:=g.size;replace i:=Blk.fr i g (fun h=>by have:=(n1 _ h).2;omega);replace a:=Fr.fr a g (fun k hk=>Or.inl hk);replace h4:=Blk.fr h4 g (fun h=>by have:=(n1 _ h).2;omega);replace hw:=Win.fr hw g (fun h=>d1 _ h rfl);replace F:=Fr.fr F g (fun k hk=>Or.inl (Or.inr (Or.inl (n1 k hk).1)));clear ov;replace oc:=Own.fr oc g (fun k hk hS=>d3 k hk hS);refine ⟨a,?_⟩;refine Az rfl ?_;refine eK ?_;refine Br (E0 fb fo [_,_,_] Aa rfl rfl rfl rfl rfl rfl ‹_› rfl rfl) (Cf ?_);rintro _ Z ⟨l,⟨m,aa⟩⟩;have ab:=m.size;replace d:=Own.fr d m (fun k hk hS=>by (obtain rfl:=Option.some.inj (show some p=some k from hk);rcases q with h|h;exact d1 _ h hS;omega));revert i h4;refine eF m ?_;intro i h4;clear hw;replace F:=Fr.fr F m (fun k hk=>Or.inl (Or.inl hk));replace oc:=Own.fr oc m (fun k hk hS=>d2 k hk hS);refine eK ?_;refine Dn Aa rfl rfl rfl (Win.blk l) rfl rfl (C1 Mv ?_);refine AQ (AM [_] Aa Bj rfl rfl rfl rfl rfl rfl rfl rfl rfl) rfl ?_ (fun _ h=>h);rintro _ x ⟨ac,rfl,r,ad⟩;have ae:=r.blk;have I:=r.ext;have af:=r.pos;have ag:=r.size;revert l d i h4 F oc;refine eE I ?_;intro l d i h4 F oc;refine AQ (E6 Aa Bj rfl rfl rfl rfl (by kernel_rfl) rfl rfl rfl ‹_› (Blk.row ‹_›) rfl rfl (by omega) (by omega) (Nat.zero_le _)) rfl ?_ (fun _ h=>h)
  rintro _ y ⟨B,⟨J,⟨rfl,⟨D,⟨n,⟨E,ah⟩⟩⟩⟩⟩⟩;have ai:=n.size;replace l:=Win.fr l n (fun h=>d2 _ h rfl);replace d:=Own.fr d n (fun k hk hS=>by (obtain rfl:=Option.some.inj (show some p=some k from hk);rcases q with h|h;exact d3 _ hS h;have:=(n2 _ hS).2;omega));replace F:=Fr.fr F n (fun k hk=>Or.inl (Or.inr (Or.inr (n2 k hk).1)));clear oc n;refine eK ?_;refine Br (CA fb fo 1 [_,_,_] Aa rfl rfl rfl rfl rfl rfl ‹_› rfl rfl) (Cf ?_);rintro _ aj ⟨K,⟨s,ak⟩⟩;have al:=s.size;replace D:=Own.fr D s (fun k hk hS=>by (obtain rfl:=Option.some.inj (show some B=some k from hk);rcases E with h|h;exact d2 _ h hS;omega));replace d:=Own.fr d s (fun k hk hS=>by (obtain rfl:=Option.some.inj (show some p=some k from hk);rcases q with h|h;exact d1 _ h hS;omega));replace F:=Fr.fr F s (fun k hk=>Or.inl (Or.inl hk));refine Aj (Bt rfl ?_);rotate_left
 have e1 : ∀b,Rh (Rh ρ t u (.vars j)) x y (.cels j) b=if x.heap.size≤b∧b<y.heap.size then .cels j else if t.heap.size≤b∧b<u.heap.size then .vars j else ρ b:=fun b=>rfl
 refine ⟨_,_,Rh (Rh ρ t u (.vars j)) x y (.cels j),rfl,fun b hb=>?_,fun b hb=>?_,K,⟨⟨?_,fun k hk=>?_⟩,⟨?_,fun k hk=>?_⟩⟩,F⟩
 · rw [e1,if_neg (by omega),if_neg (by omega)]
 · rw [e1,if_neg (by omega),if_neg (by omega)]
   exact HFr.out b (by omega)
 · rw [List.flatMap_append,hV,List.length_append,hN]
   assumption
 · obtain rfl:=Option.some.inj (show some p=some k from hk);rw [e1]
   rcases q with h|h
   · have:=(n1 _ h).2;rw [if_neg (by omega),if_neg (by omega)]
     exact (n1 _ h).1
   · rw [if_neg (by omega),if_pos (by omega)]
 · rw [List.map_append,hC,List.length_append,hM]
   assumption
 · obtain rfl:=Option.some.inj (show some B=some k from hk);rw [e1]
   rcases E with h|h
   · have:=(n2 _ h).2;rw [if_neg (by omega),if_neg (by omega)]
     exact (n2 _ h).1
   · rw [if_pos (by omega)]
end
def MA (ops:Array Oper) (wr:List Nat) (i:Nat):Prop:= ∀(listed:Array Bool) (j:Nat) (o:Oper),DC ops listed→listed.getD j true=false→wr.contains j=true→ops[j]? = some o→(∀e∈o.after,Region.binds .any e=true→listed.getD e.on false=true)→listed.getD i false=true
def MB (ops:Array Oper) (E wr:List Nat) (j0:Nat):Bool:=(E.all fun i=>Nat.blt i ops.size&&(List.range' (i+1) (ops.size-(i+1))).any fun m=>(Nat.beq m j0||E.contains m)&&Ij ops m i)&&wr.all fun j=>Nat.beq j j0||Ij ops j j0
theorem KD {ops:Array Oper} {E wr:List Nat} {j0:Nat} (h:MB ops E wr j0=true) {i:Nat} (hE:E.contains i=true):MA ops wr i:=by
 simp only [MB,Bool.and_eq_true,List.all_eq_true] at h;obtain ⟨h1,h2⟩:=h;intro listed j o hdc hun hj ho hall;have a:=h2 j (by simpa using hj);simp only [Bool.or_eq_true] at a
 have b : ∀o0,ops[j0]? = some o0 → ∀e∈o0.after,Region.binds .any e=true→listed.getD e.on false=true:=by
  intro o0 c
  rcases a with a|a
  · have hjj:=Nat.eq_of_beq_eq_true a
    subst hjj;rw [ho] at c;obtain rfl:=Option.some.inj c
    exact hall
  · obtain ⟨oj,e',hoj,he',hb',hon'⟩:=Et a
    rw [ho] at hoj;obtain rfl:=Option.some.inj hoj;have hl:=hall e' he' hb';rw [hon'] at hl
    exact hdc j0 o0 c hl
 have key : ∀d i,ops.size-i≤d→E.contains i=true→listed.getD i false=true:=by
  intro d
  induction d with
  | zero=>
   intro i hd hi;have:=Nat.le_of_ble_eq_true (h1 i (by simpa using hi)).1
   omega
  | succ d ih=>
   intro i hd hi;have hg:=h1 i (by simpa using hi);simp only [List.any_eq_true,List.mem_range'_1,Bool.and_eq_true,Bool.or_eq_true] at hg;obtain ⟨-,m,hm,hc,hw⟩:=hg;obtain ⟨om,e,hom,he,hb,hon⟩:=Et hw
   rcases hc with hc|hc
   · have hmj:=Nat.eq_of_beq_eq_true hc
     subst hmj;have:=b om hom e he hb
     rwa [hon] at this
   · have hl:=ih m (by omega) hc
     have:=hdc m om hom hl e he hb
     rwa [hon] at this
 exact key _ i (Nat.le_refl _) hE
section
variable {P:Program} {ops:Array Oper} {Q:Exit→Act→World→Prop} {S S2:World→Prop} {E wr:List Nat} {K:Nat}
def Jc (P:Program) (ops:Array Oper) (Q:Exit→Act→World→Prop) (S S2:World→Prop) (wr:List Nat) (K:Nat):Nat→Array Bool→Act→World→Prop
 | 0,listed,a,w=>Region.ready .any ops listed=[]∧Q .normal a w
 | fuel+1,listed,a,w=>
  (Region.ready .any ops listed=[]→Q .normal a w) ∧
  ∀i∈Region.ready .any ops listed,wpOp P ops Q i (fun a' w'=>(wr.contains i=false→(S w→S w')∧(S2 w→S2 w'))∧(wr.contains i=true→i<K→S2 w')∧Jc P ops Q S S2 wr K fuel (listed.setIfInBounds i true) a' w') a w
theorem KE : ∀(fuel:Nat) (listed:Array Bool) (a:Act) (w:World),Jc P ops Q S S2 wr K fuel listed a w→wpAny P .any ops Q fuel listed a w
 | 0,_,_,_,h=>h
 | fuel+1,_,_,_,h=>⟨h.1,fun i hi=>wpOp_mono (fun a' w' h'=>KE fuel _ a' w' h'.2.2) (h.2 i hi)⟩
theorem IC {i:Nat} {oi:Oper} {v:Value} {T:World→Prop} (hi:ops[i]? = some oi) (hT:(MA ops wr i∧T=S)∨(ES ops K i∧T=S2)) (hwi:wr.contains i=false) (hsel : ∀(j:Nat) (o:Oper) cs b,ops[j]? = some o→o.op≠.select cs b)
 (hQ : ∀c a w,Q (.panic c) (a.put oi.dst v) w→Q (.panic c) a w) :
 ∀(fuel:Nat) (listed:Array Bool) (a:Act) (w:World),DC ops listed →
  (∀j oj,ops[j]? = some oj→j≠i→listed.getD j true=false→(∀e∈oj.after,Region.binds .any e=true→e.on≠i)→oi.apart ops oj=true) →
  i∈Region.ready .any ops listed→YieldsIf P ops T oi v a→T w →
  Jc P ops Q S S2 wr K fuel (listed.setIfInBounds i true) (a.put oi.dst v) w→Jc P ops Q S S2 wr K (fuel+1) listed a w:=by
 intro fuel
 induction fuel with
 | zero=>
  intro listed a w _ _ hr hy hS H;refine ⟨fun h=>(by rw [h] at hr;cases hr),fun j hj=>?_⟩
  by_cases hji:j=i
  · subst hji;exact hy.wpOp hi hS ⟨fun _=>⟨id,id⟩,fun e=>(by rw [hwi] at e;cases e),H⟩
  · have:=ready_mono hj hji
    rw [H.1] at this
    cases this
 | succ fuel ih=>
  intro listed a w hdc hfree hr hy hS H;refine ⟨fun h=>(by rw [h] at hr;cases hr),fun j hj=>?_⟩
  by_cases hji:j=i
  · subst hji;exact hy.wpOp hi hS ⟨fun _=>⟨id,id⟩,fun e=>(by rw [hwi] at e;cases e),H⟩
  · have h1:=H.2 j (ready_mono hj hji)
    obtain ⟨hjun,oj,hoj,hall⟩:=mem_ready.1 hj
    have hun : ¬listed.getD i false=true:=fun hc=>by
     have h0:=(mem_ready.1 hr).1
     rcases Nat.lt_or_ge i listed.size with h'|h'
     · simp [h'] at h0 hc;rw [h0] at hc;cases hc
     · simp [Array.getElem?_eq_none h'] at hc
    have hTj : ∀w',(wr.contains j=false→(S w→S w')∧(S2 w→S2 w'))→(wr.contains j=true→j<K→S2 w')→T w':=fun w' h' h2=>by
     rcases hT with ⟨hre,rfl⟩|⟨hre,rfl⟩
     · cases hej:wr.contains j
       · exact (h' hej).1 hS
       · exact absurd (hre listed j oj hdc hjun hej hoj hall) hun
     · cases hej:wr.contains j
       · exact (h' hej).2 hS
       · rcases Nat.lt_or_ge j K with h|h
         · exact h2 hej h
         · exact absurd (hre listed j oj hdc h hoj hall) hun
    have hnot : ∀e∈oj.after,Region.binds .any e=true→e.on≠i:=fun e he hb heq=>hun (heq▸hall e he hb)
    have h2:=wpOp_putIf hoj (hfree j oj hoj hji hjun hnot) (fun cs b=>hsel i oi cs b hi) (fun cs b=>hsel j oj cs b hoj) hQ hy h1;have hfree' : ∀k ok,ops[k]? = some ok→k≠i→(listed.setIfInBounds j true).getD k true=false →
     (∀e∈ok.after,Region.binds .any e=true→e.on≠i)→oi.apart ops ok=true:=fun k ok hk hki hun hno=>by
     refine hfree k ok hk hki ?_ hno
     by_cases hjk:j=k
     · subst hjk;exact hjun
     · rw [getD_set_ne true hjk] at hun;exact hun
    refine wpOp_mono (fun a' w' h3=>⟨h3.2.1,h3.2.2.1,ih (listed.setIfInBounds j true) a' w' (hdc.set hj) hfree' (ready_mono hr (Ne.symm hji)) h3.1 (hTj w' h3.2.1 h3.2.2.1) ?_⟩) h2;rw [Array.setIfInBounds_comm _ _ hji]
    exact h3.2.2.2
end
def ScE.okW (ops:Array Oper) (E wr:List Nat) (K:Nat):ScE→Nat→Array Bool→Bool
 | .done,_,listed=>(Region.ready .any ops listed).isEmpty
 | .pure i r,f+1,listed=>E.contains i && !(wr.contains i)&&(Region.ready .any ops listed).contains i&&Region.free .any ops listed i&&ScE.okW ops E wr K r f (listed.setIfInBounds i true)
 | .free i r,f+1,listed=> !(wr.contains i)&&Nat.blt i K&&(Region.ready .any ops listed).contains i&&Region.free .any ops listed i&&ScE.okW ops E wr K r f (listed.setIfInBounds i true)
 | .put i r,f+1,listed=>wr.contains i&&(Region.ready .any ops listed==[i])&&ScE.okW ops E wr K r f (listed.setIfInBounds i true)
 | .tail k,f,listed=>Nat.ble K k&&Nat.beq (f+k) ops.size&&(List.range' k f).all (fun j=>wr.contains j)&&EV ops f k listed
 | _,_,_=>false
theorem H5 {P:Program} {ops:Array Oper} {Q:Exit→Act→World→Prop} {S S2:World→Prop} {wr:List Nat} {K:Nat} : ∀(f k:Nat) (listed:Array Bool) (a:Act) (w:World),K≤k→f+k=ops.size→(∀j,k≤j→j<k+f→wr.contains j=true)→EV ops f k listed=true→wpList P ops Q (ops.toList.drop k) a w→Jc P ops Q S S2 wr K f listed a w
 | 0,k,listed,a,w,hK,hf,hl,hc,h=>by
  have:ops.toList.drop k=[]:=List.drop_eq_nil_of_le (by simp;omega);rw [this] at h
  exact ⟨by simpa [EV] using hc,h⟩
 | f+1,k,listed,a,w,hK,hf,hl,hc,h=>by
  simp only [EV,Bool.and_eq_true,beq_iff_eq] at hc
  have hlt:k<ops.toList.length:=by simp;omega
  rw [List.drop_eq_getElem_cons hlt] at h;refine ⟨fun e=>absurd (hc.1.symm.trans e) (by simp),fun i hi=>?_⟩;rw [hc.1] at hi;simp only [List.mem_singleton] at hi;subst hi;have he:=hl i (Nat.le_refl _) (by omega)
  have hl' : ∀j,i+1≤j→j<i+1+f→wr.contains j=true:=fun j h1 h2=>hl j (by omega) (by omega)
  have ho:ops[i]? = some ops.toList[i]:=by simp
  unfold wpList at h
  unfold wpOp
  rw [ho];simp only
  split
  · rename_i hw
    rw [if_pos hw] at h
    rcases h with h|h
    · exact Or.inl (Oper.wp_mono (fun a' w' h'=>⟨fun e=>(by rw [he] at e;cases e),fun _ e=>by omega,H5 f (i+1) _ a' w' (by omega) (by omega) hl' hc.2 h'⟩) h)
    · exact Or.inr h
  · rename_i hw
    rw [if_neg hw] at h
    exact ⟨fun e=>(by rw [he] at e;cases e),fun _ e=>by omega,H5 f (i+1) _ _ w (by omega) (by omega) hl' hc.2 h⟩
theorem HTE.anyW {P:Program} {ops:Array Oper} {Q:Exit→Act→World→Prop} {S S2:World→Prop} {E wr:List Nat} {K:Nat} (hre2 : ∀i,i<K→ES ops K i) (hs:Region.noSelect ops=true) (hre : ∀i,E.contains i=true→MA ops wr i) (hQ:DI Q) :
 ∀(s:ScE) (f:Nat) (listed:Array Bool) (a:Act) (w:World),DC ops listed→HTE P ops Q S S2 s a w→ScE.okW ops E wr K s f listed=true→Jc P ops Q S S2 wr K f listed a w
 | .done,f,listed,a,w,hd,h,hk=>by
  have hr:Region.ready .any ops listed=[]:=by simpa [ScE.okW] using hk
  cases f with
  | zero=>exact ⟨hr,h⟩
  | succ f=>exact ⟨fun _=>h,by rw [hr];simp⟩
 | .tail k,f,listed,a,w,hd,h,hk=>by
  simp only [ScE.okW,Bool.and_eq_true,List.all_eq_true,List.mem_range'_1] at hk
  exact H5 f k listed a w (Nat.le_of_ble_eq_true hk.1.1.1) (Nat.eq_of_beq_eq_true hk.1.1.2) (fun j h1 h2=>hk.1.2 j ⟨h1,h2⟩) hk.2 h
 | .pure i r,0,listed,a,w,hd,h,hk=>by simp [ScE.okW] at hk
 | .pure i r,f+1,listed,a,w,hd,h,hk=>by
  simp only [ScE.okW,Bool.and_eq_true,Bool.not_eq_true'] at hk;obtain ⟨hS,o,v,ho,hy,hr⟩:=h
  have hi:ops[i]? = some o:=by simpa using ho
  have hir:i∈Region.ready .any ops listed:=by simpa using hk.1.1.2
  exact IC (T:=S) hi (Or.inl ⟨hre i hk.1.1.1.1,rfl⟩) hk.1.1.1.2 (Region.noSelect_spec hs) (fun c a w=>hQ o.dst v c a w) f listed a w hd (Region.free_spec hi hk.1.2) hir hy hS
   (HTE.anyW hre2 hs hre hQ r f _ _ w (hd.set hir) hr hk.2)
 | .free i r,0,listed,a,w,hd,h,hk=>by simp [ScE.okW] at hk
 | .free i r,f+1,listed,a,w,hd,h,hk=>by
  simp only [ScE.okW,Bool.and_eq_true,Bool.not_eq_true'] at hk;obtain ⟨hS,o,v,ho,hy,hr⟩:=h
  have hi:ops[i]? = some o:=by simpa using ho
  have hir:i∈Region.ready .any ops listed:=by simpa using hk.1.1.2
  have hiK:=Nat.le_of_ble_eq_true hk.1.1.1.2
  exact IC (T:=S2) hi (Or.inr ⟨hre2 i hiK,rfl⟩) hk.1.1.1.1 (Region.noSelect_spec hs) (fun c a w=>hQ o.dst v c a w) f listed a w hd (Region.free_spec hi hk.1.2) hir hy hS
   (HTE.anyW hre2 hs hre hQ r f _ _ w (hd.set hir) hr hk.2)
 | .put i r,0,listed,a,w,hd,h,hk=>by simp [ScE.okW] at hk
 | .put i r,f+1,listed,a,w,hd,h,hk=>by
  simp only [ScE.okW,Bool.and_eq_true,beq_iff_eq] at hk;obtain ⟨⟨h1,h2⟩,h3⟩:=hk;refine ⟨fun e=>(by rw [h2] at e;cases e),fun j hj=>?_⟩;rw [h2] at hj;simp only [List.mem_singleton] at hj;subst hj
  have hir:j∈Region.ready .any ops listed:=by rw [h2];simp
  exact wpOp_mono (fun a' w' h'=>⟨fun e=>(by rw [h1] at e;cases e),fun _ _=>h'.1,HTE.anyW hre2 hs hre hQ r f _ a' w' (hd.set hir) h'.2 h3⟩) h
theorem KF {P:Program} {n:Nat} {Q:Exit→Act→World→Prop} {l:Sl} {w:World} {id:Nat} {os:List Oper} (S S2:World→Prop) (E wr:List Nat) (j0 K:Nat) (s:ScE) (hm:P.follows .mixedOrders=true) (hs:(Region.noSelect os.toArray&&(Nat.ble os.length K||JV os.toArray K)&&MB os.toArray E wr j0&&ScE.okW os.toArray E wr K s os.length (Array.replicate os.length false))=true) (hQ:DI Q)
 (h : ∀w1,Ext w w1→w1.heap=w.heap→TG P n os.toArray Q S S2 s l w1):CW P n (.region id os.toArray true) Q l w:=by
 unfold CW
 intro a ha;simp only [Bool.and_eq_true] at hs;have h2:=h w.drew (Ext.refl w).drew rfl
 have hdc:DC os.toArray (Array.replicate os.length false):=fun k o _ hl=>by
  exfalso
  rcases Nat.lt_or_ge k os.length with h'|h'
  · simp [h'] at hl
  · simp [Array.getElem?_eq_none,h'] at hl
 have b : ∀i,i<K→ES os.toArray K i:=by
  by_cases hK:K<os.toArray.size
  · have hl:=hs.1.1.2
    simp only [Bool.or_eq_true] at hl
    rcases hl with hl|hl
    · have:=Nat.le_of_ble_eq_true hl
      simp at hK;omega
    · exact FI hl hK
  · intro i hi listed j o _ hj ho _
    have hjs:j<os.toArray.size:=(Array.getElem?_eq_some_iff.1 ho).1
    omega
 refine wp_region_any hm (KE (S:=S) (S2:=S2) (wr:=wr) (K:=K) _ _ _ _ ?_);have:=HTE.anyW b hs.1.1.1 (fun i hE=>KD hs.1.2 hE) hQ s os.length (Array.replicate os.length false) a w.drew hdc (h2 a ha) hs.2
 simpa using this
theorem Own.cut {w:World} {b e sz n m cap:Nat} {a:Option Addr} {cs us:List Value} (h:Own w b e sz (.slice a n cap) n (cs++us)) (hl:cs.length=m*sz) (hm:m≤n):Own w b e sz (.slice a m cap) m cs:=by
 obtain ⟨h1,⟨h2,h3⟩|⟨g,cap',cur,h2,h3,h4,h5,h6,h7,h8⟩⟩:=h
 · obtain rfl:m=0:=by omega
   refine ⟨by simpa using hl,Or.inl ⟨?_,rfl⟩⟩;rw [←h2,h3]
 · simp only [Value.slice.injEq] at h2
   obtain ⟨rfl,-,rfl⟩:=h2;refine ⟨by simpa using hl,Or.inr ⟨g,cap,cur,rfl,h3,h4,by omega,h6,h7,?_⟩⟩;have h9:=congrArg (List.take (m*sz)) h8;rw [List.take_take,Nat.min_eq_left (Nat.mul_le_mul_right _ hm),List.take_left' hl] at h9
   exact h9
theorem Um (l:List VD):(l.flatMap VD.cells).length=l.length*3:=by
 induction l with
 | nil=>rfl
 | cons v r ih=>rw [List.flatMap_cons,List.length_append,ih];simp;omega
theorem Own.le {w:World} {b e sz n cap:Nat} {a:Option Addr} {cs:List Value} (h:Own w b e sz (.slice a n cap) n cs):n≤cap:=by
 obtain ⟨h1,⟨h2,h3⟩|⟨g,cap',cur,h2,h3,h4,h5,h6,h7,h8⟩⟩:=h
 · omega
 · simp only [Value.slice.injEq] at h2
   obtain ⟨-,-,rfl⟩:=h2
   exact h5
section
variable {ρ:Nat→Rl} {κ:Nat→Nat} {K:List (Int×Int)} {m sb:Nat} {st:Stp} {w:World}
def StR (ρ:Nat→Rl) (sb:Nat) (st:Stp) (r:Int) (w:World):Ending→World→Prop:=fun e w'=> ∃ ρ' κ',e = .returned (.int .i64 r)∧Ro ρ ρ' w∧StoreAt ρ' κ' w' sb st∧Fr (fun k=>Kk (ρ k)) w w'
theorem StR.ret {r:Int} {e:Ending} {w':World} (h:StR ρ sb st r w e w') : ∃v,e = .returned v:=by
 obtain ⟨_,_,h,-⟩:=h
 exact ⟨_,h⟩
theorem StR.same {r:Int} {w':World} (h:StoreAt ρ κ w' sb st) (x:Ext w w'):StR ρ sb st r w (.returned (.int .i64 r)) w':=⟨ρ,κ,rfl,Ro.refl _ _,h,Fr.of_ext x⟩
theorem StoreAt.drop (h:StoreAt ρ κ w sb st) : ∃bv bc loc ca cc tp,Blk w sb [bv,bc,loc,.slice ca st.calls.length cc,tp]∧st.calls.length≤cc ∧
 ∀(l:List Frm) (f:Frm),st.calls=l++[f] → ∀w',Fr (· = sb) w w'→Blk w' sb [bv,bc,loc,.slice ca l.length cc,tp]→StoreAt ρ κ w' sb { st with calls:=l }:=by
 obtain ⟨h1,hfr,⟨bv,bc,cv,tb,cs,h2,h3,h4,h5,h6⟩,h7⟩:=h
 have hsl : ∃a c,cv = .slice a st.calls.length c:=by
  rcases h4.1.row with ⟨rfl,hn,-⟩|⟨g,cap,rfl,-⟩
  · exact ⟨none,0,by rw [hn]⟩
  · exact ⟨_,_,rfl⟩
 obtain ⟨ca,cc,rfl⟩:=hsl;refine ⟨bv,bc,_,ca,cc,_,h2,h4.1.le,fun l f hc w' x hb=>?_⟩;rw [hc] at h5;obtain ⟨b,vv,vc,rfl,h8,-⟩:=(FramesOk.snoc l 1 f cs).1 h5;have d:=FramesOk.len _ _ _ h8
 have hN : ∀ {r:Rl},r≠.store → ∀k,k=sb→ρ k≠r:=fun n1 k hk e=>by subst hk;exact n1 (by rw [←e,h1])
 have h9:=h4.1;rw [hc] at h9;rw [List.length_append,List.length_singleton] at h9;refine ⟨h1,hfr.mv x,⟨bv,bc,_,tb,b,hb,h3.move x (fun k hk=>⟨hN (by simp) k hk,hN (by simp) k hk⟩) (Ro.refl _ _) (fun _ _=>rfl),⟨?_,fun k hk=>h4.2 k ?_⟩,FramesOk.move x (Ro.refl _ _) _ _ _ h8 (fun k hk i _ _=>⟨hN (by simp) k hk,hN (by simp) k hk⟩) (fun _ _ _ _=>rfl),h6.move x (fun k hk=>⟨hN (by simp) k hk,hN (by simp) k hk,hN (by simp) k hk⟩) (Ro.refl _ _)⟩,fun c xs hx=>(h7 c xs hx).move x (fun k hk=>⟨hN (by simp) k hk,hN (by simp) k hk⟩) (Ro.refl _ _) rfl⟩
 · exact (h9.cut (m:=l.length) (by rw [d]) (by omega)).fr x (fun k hk e=>by
    subst e;have:=h4.2 k (by cases ca<;>exact hk);rw [h1] at this
    cases this)
 · cases ca<;>exact hk
theorem Un (hw:st.WF K m) (w:World) (h:StoreAt ρ κ w sb st) :
 Calls prog 156 #[.pointer (some ⟨sb,0,none⟩)] w (StR ρ sb (st.leaves).2 (st.leaves).1 w):=by
 have X:=Ext.refl w;have hnc:=hw.nc;have hrole:=h.role;obtain ⟨bv,bc,loc,ca,cc,tp,hb,hcc,hclose⟩:=h.drop
 rcases List.eq_nil_or_concat st.calls with hc|⟨l,f,hc⟩
 · have e:st.leaves=(20,st):=by unfold Stp.leaves;rw [if_pos (Or.inl hc)]
   rw [e]
   have hn:st.calls.length=0:=by rw [hc];rfl
   clear hclose
   generalize st.calls.length=n at *
   subst hn;refine Ad func156 ntmps156 rfl rfl ?_
   focus
    refine eK ?_;refine C1 (A8 Aa rfl rfl) ?_;refine eK ?_;refine Af rfl rfl ?_;rotate_left
   exact StR.same ‹_› X
 · rw [List.concat_eq_append] at hc
   have hcur:st.cur=f:=by unfold Stp.cur;rw [hc];simp
   obtain ⟨fb,fo,pre,post,T,vv,vc,hcp,-,hwin,hf,-⟩:=h.open;have hrow:=hwin.blk;have HC:=Lib.hid (fun w1 h=>Ey fb fo st.calls.length sb (by omega) w1 h)
   have hn:st.calls.length=l.length+1:=by rw [hc];simp
   have hne:st.calls≠[]:=by rw [hc];simp
   rw [hcur] at hrow;clear hf hwin;have HCl:=Lib.hid (hclose l f hc);clear hclose
   have j:((st.calls.length:Int)-1)=(l.length:Int):=by omega
   have o:l.length≤cc:=by omega
   by_cases h0:0<f.locals
   · have e:st.leaves=(20,st):=by unfold Stp.leaves;rw [if_pos (Or.inr (by rw [hcur];exact h0))]
     rw [e];clear HCl;refine Ad func156 ntmps156 rfl rfl ?_
     focus
      refine eK ?_;refine C1 (A8 Aa rfl rfl) ?_;refine eK ?_;refine cC rfl (HC.out _ ‹_›) ?_;rintro _ v ⟨⟨⟩,p⟩;revert h X hb hcp hrow;refine eY p ?_;intro x h X hb hcp hrow;refine eK ?_;refine C1 (Pw hrow) ?_;refine eK ?_;refine Af rfl rfl ?_;rotate_left
     exact StR.same ‹_› X
   · have e:st.leaves=(0,{ st with calls:=l }):=by unfold Stp.leaves;rw [if_neg (by rw [hcur];intro h;rcases h with h|h;exact hne h;exact h0 h),hc];simp
     rw [e];have F:=Fr.refl (· = sb) w;refine Ad func156 ntmps156 rfl rfl ?_
     focus
      refine eK ?_;refine C1 (A8 Aa rfl rfl) ?_;refine eK ?_;refine cC rfl (HC.out _ ‹_›) ?_;rintro _ c ⟨⟨⟩,q⟩;revert h X hb hcp hrow F;refine eY q ?_;intro y h X hb hcp hrow F;refine eK ?_;refine C1 (Pw hrow) ?_;refine eK ?_;refine Ax (fun wz=>Ext c wz) 12 (.pure 0 (.pure 1 (.pure 2 (.pure 3 (.pure 4 (.pure 5 (.pure 6 (.pure 7 (.pure 8 (.pure 9 (.pure 10 (.pure 11 .tail)))))))))))) mixed (by kernel_rfl) (Ac Ak) ?_;intro r d _;have a:(fun wz=>Ext c wz) r:=d;simp only at a;have z:=h;have b:=hb;have s:=hcp;have i:=hrow;revert h X hb hcp hrow F;refine eY d ?_;intro A h X hb hcp hrow F;refine ⟨a,?_⟩;refine Tq rfl Mv (Tq rfl Mv (Tq rfl Pn (Tq rfl Pf (Tq rfl (Db b) (Tq rfl Mv (Tq rfl Pn (Tq rfl Pf (Tq rfl (Db b) (Tq rfl Pz (Tq rfl (Bs rfl rfl (IntWalk.i64_in _ (by omega))) (Tq rfl (EF Aa rfl rfl rfl rfl j o) ?_)))))))))));refine Az rfl ?_;refine eK ?_;refine eV [_] [_,_,_,_,_] hb ?_;intro B t g u;clear hb h hrow;replace F:=F.fr g (by omega);refine eK ?_;refine Af rfl rfl ?_;rotate_left
     exact ⟨ρ,κ,rfl,Ro.refl _ _,HCl.out _ F ‹_›,F.weaken (fun k hk=>by subst hk;rw [hrole];trivial)⟩
theorem Uo (hw:st.WF K m) (hm:m≤1000000) (s:List UInt8) (x:Int) (w:World) (h:StoreAt ρ κ w sb st) :
 Calls prog 132 #[.pointer (some ⟨sb,0,none⟩),str s,.int .i64 x] w (StR ρ sb (st.closes s x).2 (st.closes s x).1 w):=by
 have X:=Ext.refl w;have hnc:=hw.nc;have hcm:=hw.curm;have hwc:=hw.cur;have hlen:=hwc.len;have hloc:=hwc.loc;obtain ⟨fb,fo,pre,post,T,vv,vc,hcp,hrole,hwin,hf,hclose⟩:=h.open;have HC:=Lib.hid (fun w1 h=>Ey fb fo st.calls.length sb (by omega) w1 h)
 rcases List.eq_nil_or_concat st.cur.vars with hv|⟨vs,v,hv⟩
 · have h0:st.cur.locals=0:=by rw [hv] at hloc;simpa using hloc
   have e:st.closes s x=(6,st):=by unfold Stp.closes;simp only;rw [if_pos (Or.inl h0)]
   rw [e];obtain ⟨av,cv,rfl,hvs⟩:=Gu (S:=fun _=>True) hf.v.1 (fun _ _=>trivial);have hrow:=hwin.blk;rw [h0] at hrow;clear hf hwin hclose hvs;refine Ad func132 ntmps132 rfl rfl ?_
   focus
    refine eK ?_;refine C1 (A8 Aa rfl rfl) ?_;refine eK ?_;refine cC rfl (HC.out _ ‹_›) ?_;rintro _ w2 ⟨⟨⟩,x1⟩;revert h X hcp hrow;refine eY x1 ?_;intro z3 h X hcp hrow;refine eK ?_;refine C1 (G6 hrow) (C1 Pz (C1 (Bs rfl rfl (IntWalk.i64_in _ (by omega))) ?_));refine eK ?_;refine C1 (Pw hrow) ?_;refine eK ?_;refine Af rfl rfl ?_;rotate_left
   exact StR.same ‹_› X
 rw [List.concat_eq_append] at hv
 have hvl:st.cur.vars.length=vs.length+1:=by rw [hv];simp
 obtain ⟨cs,c,hcs⟩ : ∃cs c,st.cur.cells=cs++[c]:=by
  rcases List.eq_nil_or_concat st.cur.cells with h'|⟨cs,c,h'⟩
  · rw [h',hvl] at hlen
    simp at hlen
  · exact ⟨cs,c,by rw [h',List.concat_eq_append]⟩
 have hcl:st.cur.cells.length=vs.length+1:=by omega
 have hcsl:cs.length=vs.length:=by rw [hcs] at hcl;simpa using hcl
 have hgv:st.cur.vars[vs.length]? = some v:=by rw [hv];simp
 have hgc:st.cur.cells[vs.length]? = some c:=by rw [hcs,List.getElem?_append_right (by omega)];simp [hcsl]
 have hch:c<st.heap.length:=by rw [hw.len];exact hwc.lt (List.mem_of_getElem? hgc)
 have hck:=hw.cell c _ (hwc.kind _ _ _ hgv hgc);obtain ⟨hrc,vi,hcb,hit⟩:=h.cells _ _ (Ez hch);obtain ⟨ai,ci,rfl⟩:=hit.1.shape
 have e:st.closes s x=if st.cur.locals=0∨v.name≠s then (6,st) else if v.kind=1∧(st.items c).getD 0 0≠x∨v.kind=3∧0<(st.items c).length then (16,st) else (0,st.setCur ⟨vs,cs,st.cur.locals-1⟩):=by
  unfold Stp.closes
  simp only;rw [hvl,Nat.add_sub_cancel];rw [List.getD_eq_getElem?_getD,hgv,List.getD_eq_getElem?_getD (l:=st.cur.cells),hgc];simp only [Option.getD_some];rw [hv,hcs]
  simp
 rw [e];clear e;obtain ⟨av,cv,rfl,hvs⟩:=Gu (S:=fun _=>True) hf.v.1 (fun _ _=>trivial);obtain ⟨ac,cc,rfl,hps⟩:=Kz hf.c.1;obtain ⟨kb,ko,rfl,-,hget⟩:=hvs.get (by intro e;rw [e] at hv;simp at hv);obtain ⟨gc,rfl,r1⟩:=hps.get hgc;have r0:=hget _ _ hgv;have rv:=hf.v.2;have rc:=hf.c.2;have ov:=hf.v.1;have oc:=hf.c.1;have lv:=ov.le;have lc:=oc.le;rw [hvl] at ov lv;rw [hcl] at oc lc;rw [hv,List.flatMap_append] at ov;rw [hcs,List.map_append] at oc;replace ov:=ov.cut (m:=vs.length) (Um _) (by omega);replace oc:=oc.cut (m:=vs.length) (by simp [hcsl]) (by omega)
 have hd : ∀k,(k:Nat)=fb→ρ k≠.vars st.calls.length∧ρ k≠.cels st.calls.length:=fun k hk=>by
  subst hk
  rcases hrole with h|h<;>rw [h]<;>exact ⟨by simp,by simp⟩
 have g : ∀k,(Value.slice (some ⟨kb,ko,none⟩) vs.length cv).ownBlock=some k → ¬k=fb:=fun k hk hS=>(hd k hS).1 (rv k hk)
 have j : ∀k,(Value.slice (some ⟨gc,0,none⟩) vs.length cc).ownBlock=some k → ¬k=fb:=fun k hk hS=>(hd k hS).2 (rc k hk)
 have HCl:=Lib.hid (hclose ρ κ);have HF:=Lib.hid h.fresh;have hat:=hit.1.at;clear hclose hvs hps hget hgv hgc hch hit hf;have F:=Fr.refl (· = fb) w;obtain ⟨vn,vk,vl⟩:=v
 unfold IV at r1
 rw [hvl] at hwin;rw [hcl] at hwin;have hrow:=hwin.blk
 have hi:(((vs.length+1:Nat):Int)-1).toNat=vs.length:=by omega
 have z:(((vs.length+1:Nat):Int)-1)=(vs.length:Int):=by omega
 have O:vs.length≤cv:=by omega
 have Q:vs.length≤cc:=by omega
 replace r0:Row w ⟨kb,ko+(((vs.length+1:Nat):Int)-1).toNat*3,none⟩ [str vn,.int .u8 vk,.int .i64 vl]:=by rw [hi];exact r0
 replace r1:Row w ⟨gc,0+(((vs.length+1:Nat):Int)-1).toNat*1,none⟩ [.pointer (some ⟨κ c,0,none⟩)]:=by rw [hi];exact r1
 simp only at hck ⊢
 by_cases h6:st.cur.locals=0∨vn≠s
 · rw [if_pos h6];clear hwin ov oc r1 hcb F
   generalize hL:st.cur.locals=L at *
   refine Ad func132 ntmps132 rfl rfl ?_
   focus
    refine eK ?_;refine C1 (A8 Aa rfl rfl) ?_;refine eK ?_;refine cC rfl (HC.out _ ‹_›) ?_;rintro _ bu ⟨⟨⟩,aj⟩;revert h X hcp hat r0 hrow;refine eY aj ?_;intro bv h X hcp hat r0 hrow;refine eK ?_;refine C1 (G6 hrow) (C1 Pz (C1 (Bs rfl rfl (IntWalk.i64_in _ (by omega))) ?_));refine eK ?_;refine C1 (Pw hrow) ?_;refine eK ?_;refine CP rfl rfl rfl (fun ak=>?_) (fun ak=>?_);refine eK ?_;refine Af rfl rfl ?_;rotate_left;refine eK ?_;refine C1 (G6 hrow) ?_;refine eK ?_;refine C1 (G6 r0) ?_;refine eK ?_;refine BS rfl (fun al=>?_) (fun al=>?_);refine eK ?_;refine Af rfl rfl ?_;rotate_left;refine AH (Ai ?_);rotate_left
   · exact StR.same ‹_› X
   · exact StR.same ‹_› X
   · exact (h6.elim (fun h=>by omega) (fun h=>h ‹_›)).elim
 rw [if_neg h6]
 have h7 : ¬st.cur.locals=0:=fun h=>h6 (Or.inl h)
 have h8:vn=s:=Decidable.byContradiction fun h=>h6 (Or.inr h)
 subst h8;have hxs:=hck.le
 have hend : ∀w',Fr (· = fb) w w'→Win w' fb fo [.slice (some ⟨kb,ko,none⟩) vs.length cv,.slice (some ⟨gc,0,none⟩) vs.length cc,.int .i64 ((st.cur.locals:Int)-1)] pre post T→Own w' 0 66 3 (.slice (some ⟨kb,ko,none⟩) vs.length cv) vs.length (vs.flatMap VD.cells)→Own w' 0 150 1 (.slice (some ⟨gc,0,none⟩) vs.length cc) vs.length (cs.map (IV κ))→StR ρ sb (st.setCur ⟨vs,cs,st.cur.locals-1⟩) 0 w (.returned (.int .i64 0)) w':=fun w' x h1 h2 h3=>by
  rw [show ((st.cur.locals:Int)-1)=((st.cur.locals-1:Nat):Int) by omega] at h1
  exact ⟨ρ,κ,rfl,Ro.refl _ _,HCl.out w' ⟨vs,cs,st.cur.locals-1⟩ _ _ (Ro.refl _ _) (HF.out.mv x) (fun _ _ _ _=>rfl) (fun _ _=>rfl) (x.weaken (fun k hk=>Or.inl hk)) h1 ⟨⟨h2,rv⟩,⟨by rw [hcsl];exact h3,rc⟩⟩,x.weaken (fun k hk=>by subst hk;rcases hrole with h|h<;>rw [h]<;>trivial)⟩
 replace hend:=Lib.hid hend
 by_cases h1:vk=1
 · have Y:(st.items c).length=1:=by rcases hck with ⟨-,h⟩|⟨h,-⟩|⟨h,-⟩<;>simp only at * <;> omega
   obtain ⟨gi,go,rfl,hri⟩:=hat.get (by intro e;rw [e] at Y;simp at Y);have r2:=IntsAt.at hri (i:=(0:Int).toNat) (by omega);clear hat hri hck hxs;simp only [show (0:Int).toNat=0 from rfl] at r2;clear hrow;subst h1
   generalize hv0:(st.items c).getD 0 0=v0 at *
   generalize (st.items c).length=xn at *
   generalize κ c=cb at *
   refine Ad func132 ntmps132 rfl rfl ?_
   focus
    refine eK ?_;refine C1 (A8 Aa rfl rfl) ?_;refine eK ?_;refine cC rfl (HC.out _ ‹_›) ?_;rintro _ G ⟨⟨⟩,am⟩;revert h X hcp hwin ov oc F r0 r2 r1 hcb;refine eY am ?_;intro bw h X hcp hwin ov oc F r0 r2 r1 hcb;refine eK ?_;refine Dy Aa rfl rfl rfl (Win.blk hwin) rfl rfl (C1 Pz (C1 (Bs rfl rfl (IntWalk.i64_in _ (by omega))) ?_));refine eK ?_;refine Dn Aa rfl rfl rfl (Win.blk hwin) rfl rfl ?_;refine eK ?_;refine Dy Aa rfl rfl rfl (Win.blk hwin) rfl rfl ?_;refine eK ?_;refine C1 (G6 r0) (JD (C1 Mv (JD (C1 V9 (C1 TF (cT (Cb rfl (not_not_intro rfl) ?_)))))));refine eK ?_;refine Dn Aa rfl rfl rfl (Win.blk hwin) rfl rfl ?_;refine eK ?_;refine C1 (G6 r1) ?_;refine eK ?_;refine Dy Aa rfl rfl rfl (Win.blk hwin) rfl rfl ?_;refine eK ?_;refine C1 (Pw r0) ?_;refine eK ?_;refine C1 (Pw r2) ?_;refine eK ?_;refine CP rfl rfl rfl (fun an=>?_) (fun an=>?_);refine PE (PE (PE (PE (PE (PE (PE (PE (PE (PE (JY rfl rfl rfl rfl (JY rfl rfl rfl rfl ?_)))))))))));refine JY rfl rfl rfl rfl ?_;refine eK ?_;refine Af rfl rfl ?_;rotate_left;refine eK ?_;refine Dy Aa rfl rfl rfl (Win.blk hwin) rfl rfl ?_;refine eK ?_;refine C1 (Pw r0) ?_;refine eK ?_;refine KF (fun wz=>Ext G wz) (fun wz=>Fr (fun x=>x=fb) G wz) [0,2,3,4,5,6,7,8,9,10,11,14,15] [16,17,18,19] 16 17 (.pure 0 (.free 1 (.pure 2 (.pure 3 (.pure 4 (.pure 5 (.pure 6 (.pure 7 (.pure 8 (.pure 9 (.pure 10 (.pure 11 (.free 12 (.free 13 (.pure 14 (.pure 15 (.put 16 (.tail 17)))))))))))))))))) mixed (by kernel_rfl) (Ac Ak) ?_
    intro Z R _;have aa:(fun wz=>Ext G wz) Z:=R;simp only at aa;have A:(fun wz=>Fr (fun x=>x=fb) G wz) Z:=Fr.of_ext R;simp only at A;have ab:=h;have B:=hcp;have a:=hwin;have H:=ov;have I:=oc;have J:=r0;have ar:=r2;have M:=r1;have C:=hcb;revert h X hcp hwin ov oc F r0 r2 r1 hcb;refine eY R ?_;intro bx h X hcp hwin ov oc F r0 r2 r1 hcb;refine Ar ‹_› rfl (Ap rfl) rfl (BI ‹_› rfl (Ap rfl) rfl (Ar ‹_› rfl (Ap rfl) rfl (Ar ‹_› rfl (A6 rfl) rfl (Ar ‹_› rfl (AR Aa rfl rfl rfl) rfl (Ar ‹_› rfl (Al Aa rfl rfl rfl (fun wz hz=>Row.at0 (Row.ext (Win.blk a) hz) rfl)) rfl (Ar ‹_› rfl (Ap rfl) rfl (Ar ‹_› rfl (EF Aa rfl rfl rfl rfl z O) rfl (Ar ‹_› rfl (Ap rfl) rfl (Ar ‹_› rfl (A6 rfl) rfl (Ar ‹_› rfl (Aq Aa rfl rfl rfl) rfl (Ar ‹_› rfl (Al Aa rfl rfl rfl (fun wz hz=>Row.at (Row.ext (Win.blk a) hz) rfl)) rfl ?_)))))))))));refine BI ‹_› rfl (Ap rfl) rfl (BI ‹_› rfl (EF Aa rfl rfl rfl rfl z Q) rfl (Ar ‹_› rfl (A6 rfl) rfl (Ar ‹_› rfl (AR Aa rfl rfl rfl) rfl (Ei rfl (E0 fb fo [_,_,_] Aa rfl rfl rfl rfl rfl rfl ‹_› rfl rfl) (Cf ?_)))))
    rintro _ au ⟨aw,⟨b,ax⟩⟩;have ay:=b.size;replace A:=A.fr b (by omega);clear h hwin;replace ov:=Own.fr ov b (fun k hk hS=>g k hk hS);replace oc:=Own.fr oc b (fun k hk hS=>j k hk hS);replace F:=F.fr b (by omega);clear r0 r2 r1 hcb b;refine ⟨by assumption,?_⟩;refine Eh rfl ?_;refine eK ?_;refine Br (CA fb fo 1 [_,_,_] Aa rfl rfl rfl rfl rfl rfl ‹_› rfl rfl) (Cf ?_);rintro _ az ⟨ad,⟨p,a0⟩⟩;have a1:=p.size;replace ov:=Own.fr ov p (fun k hk hS=>g k hk hS);replace oc:=Own.fr oc p (fun k hk hS=>j k hk hS);replace F:=F.fr p (by omega);refine eK ?_;refine Dn Aa rfl rfl rfl (Win.blk ad) rfl rfl (C1 (Bs rfl rfl (IntWalk.i64_in _ (by omega))) ?_);refine eK ?_;refine Br (CA fb fo 2 [_,_,_] Aa rfl rfl rfl rfl rfl rfl ‹_› rfl rfl) (Cf ?_);rintro _ a2 ⟨a3,⟨q,a4⟩⟩;have a5:=q.size;replace ov:=Own.fr ov q (fun k hk hS=>g k hk hS);replace oc:=Own.fr oc q (fun k hk hS=>j k hk hS);replace F:=F.fr q (by omega);refine eK ?_;refine Af rfl rfl ?_;rotate_left
   · rw [if_pos (Or.inl ⟨rfl,by assumption⟩)]
     exact StR.same ‹_› X
   · rw [if_neg (fun h=>by rcases h with ⟨-,h⟩|⟨h,-⟩;exact absurd h ‹_›;simp at h)]
     exact hend.out _ F ‹_› ‹_› ‹_›
 · clear hrow
   generalize (st.items c).length=xn at *
   generalize κ c=cb at *
   refine Ad func132 ntmps132 rfl rfl ?_
   focus
    refine eK ?_;refine C1 (A8 Aa rfl rfl) ?_;refine eK ?_;refine cC rfl (HC.out _ ‹_›) ?_;rintro _ n ⟨⟨⟩,ao⟩;revert h X hcp hwin ov oc hat F r0 r1 hcb;refine eY ao ?_;intro bz h X hcp hwin ov oc hat F r0 r1 hcb;refine eK ?_;refine Dy Aa rfl rfl rfl (Win.blk hwin) rfl rfl (C1 Pz (C1 (Bs rfl rfl (IntWalk.i64_in _ (by omega))) ?_));refine eK ?_;refine Dn Aa rfl rfl rfl (Win.blk hwin) rfl rfl ?_;refine eK ?_;refine Dy Aa rfl rfl rfl (Win.blk hwin) rfl rfl ?_;refine eK ?_;refine C1 (G6 r0) (JD (C1 Mv (JD (C1 V9 (C1 TF (cT (Cb rfl (not_not_intro rfl) ?_)))))));refine eK ?_;refine Dn Aa rfl rfl rfl (Win.blk hwin) rfl rfl ?_;refine eK ?_;refine C1 (G6 r1) ?_;refine eK ?_;refine Dy Aa rfl rfl rfl (Win.blk hwin) rfl rfl ?_;refine eK ?_;refine C1 (Pw r0) ?_;refine eK ?_;refine Dy Aa rfl rfl rfl (Win.blk hwin) rfl rfl ?_;refine eK ?_;refine C1 (Pw r0) ?_;refine eK ?_;refine CP rfl rfl rfl (fun ap=>?_) (fun ap=>?_);refine eK ?_;refine C1 (Bh rfl rfl rfl) (cT ?_);refine AO rfl (fun aq=>?_) (fun aq=>?_);refine eK ?_;refine Af rfl rfl ?_;rotate_left;refine eK ?_;refine KF (fun wz=>Ext n wz) (fun wz=>Fr (fun x=>x=fb) n wz) [0,2,3,4,5,6,7,8,9,10,11,14,15] [16,17,18,19] 16 17 (.pure 0 (.free 1 (.pure 2 (.pure 3 (.pure 4 (.pure 5 (.pure 6 (.pure 7 (.pure 8 (.pure 9 (.pure 10 (.pure 11 (.free 12 (.free 13 (.pure 14 (.pure 15 (.put 16 (.tail 17)))))))))))))))))) mixed (by kernel_rfl) (Ac Ak) ?_
    intro ae U _;have af:(fun wz=>Ext n wz) ae:=U;simp only at af;have D:(fun wz=>Fr (fun x=>x=fb) n wz) ae:=Fr.of_ext U;simp only at D;have ab:=h;have B:=hcp;have a:=hwin;have H:=ov;have I:=oc;have V:=hat;have J:=r0;have M:=r1;have C:=hcb;revert h X hcp hwin ov oc hat F r0 r1 hcb;refine eY U ?_;intro a6 h X hcp hwin ov oc hat F r0 r1 hcb;refine Ar ‹_› rfl (Ap rfl) rfl (BI ‹_› rfl (Ap rfl) rfl (Ar ‹_› rfl (Ap rfl) rfl (Ar ‹_› rfl (A6 rfl) rfl (Ar ‹_› rfl (AR Aa rfl rfl rfl) rfl (Ar ‹_› rfl (Al Aa rfl rfl rfl (fun wz hz=>Row.at0 (Row.ext (Win.blk a) hz) rfl)) rfl (Ar ‹_› rfl (Ap rfl) rfl (Ar ‹_› rfl (EF Aa rfl rfl rfl rfl z O) rfl (Ar ‹_› rfl (Ap rfl) rfl (Ar ‹_› rfl (A6 rfl) rfl (Ar ‹_› rfl (Aq Aa rfl rfl rfl) rfl (Ar ‹_› rfl (Al Aa rfl rfl rfl (fun wz hz=>Row.at (Row.ext (Win.blk a) hz) rfl)) rfl ?_)))))))))));refine BI ‹_› rfl (Ap rfl) rfl (BI ‹_› rfl (EF Aa rfl rfl rfl rfl z Q) rfl (Ar ‹_› rfl (A6 rfl) rfl (Ar ‹_› rfl (AR Aa rfl rfl rfl) rfl (Ei rfl (E0 fb fo [_,_,_] Aa rfl rfl rfl rfl rfl rfl ‹_› rfl rfl) (Cf ?_)))))
    rintro _ a7 ⟨a8,⟨d,a9⟩⟩;have ba:=d.size;replace D:=D.fr d (by omega);clear h hwin;replace ov:=Own.fr ov d (fun k hk hS=>g k hk hS);replace oc:=Own.fr oc d (fun k hk hS=>j k hk hS);replace F:=F.fr d (by omega);clear r0 r1 hcb d;refine ⟨by assumption,?_⟩;refine Eh rfl ?_;refine eK ?_;refine Br (CA fb fo 1 [_,_,_] Aa rfl rfl rfl rfl rfl rfl ‹_› rfl rfl) (Cf ?_);rintro _ bb ⟨ag,⟨r,bc⟩⟩;have bd:=r.size;replace ov:=Own.fr ov r (fun k hk hS=>g k hk hS);replace oc:=Own.fr oc r (fun k hk hS=>j k hk hS);replace F:=F.fr r (by omega);refine eK ?_;refine Dn Aa rfl rfl rfl (Win.blk ag) rfl rfl (C1 (Bs rfl rfl (IntWalk.i64_in _ (by omega))) ?_);refine eK ?_;refine Br (CA fb fo 2 [_,_,_] Aa rfl rfl rfl rfl rfl rfl ‹_› rfl rfl) (Cf ?_);rintro _ be ⟨bf,⟨t,bg⟩⟩;have bh:=t.size;replace ov:=Own.fr ov t (fun k hk hS=>g k hk hS);replace oc:=Own.fr oc t (fun k hk hS=>j k hk hS);replace F:=F.fr t (by omega);refine eK ?_;refine Af rfl rfl ?_;rotate_left;refine eK ?_;refine C1 (Bh rfl rfl rfl) ?_;refine eK ?_;refine KF (fun wz=>Ext n wz) (fun wz=>Fr (fun x=>x=fb) n wz) [0,2,3,4,5,6,7,8,9,10,11,14,15] [16,17,18,19] 16 17 (.pure 0 (.free 1 (.pure 2 (.pure 3 (.pure 4 (.pure 5 (.pure 6 (.pure 7 (.pure 8 (.pure 9 (.pure 10 (.pure 11 (.free 12 (.free 13 (.pure 14 (.pure 15 (.put 16 (.tail 17)))))))))))))))))) mixed (by kernel_rfl) (Ac Ak) ?_
    intro N E _;have W:(fun wz=>Ext n wz) N:=E;simp only at W;have o:(fun wz=>Fr (fun x=>x=fb) n wz) N:=Fr.of_ext E;simp only at o;have ab:=h;have B:=hcp;have a:=hwin;have H:=ov;have I:=oc;have V:=hat;have J:=r0;have M:=r1;have C:=hcb;revert h X hcp hwin ov oc hat F r0 r1 hcb;refine eY E ?_;intro bi h X hcp hwin ov oc hat F r0 r1 hcb;refine Ar ‹_› rfl (Ap rfl) rfl (BI ‹_› rfl (Ap rfl) rfl (Ar ‹_› rfl (Ap rfl) rfl (Ar ‹_› rfl (A6 rfl) rfl (Ar ‹_› rfl (AR Aa rfl rfl rfl) rfl (Ar ‹_› rfl (Al Aa rfl rfl rfl (fun wz hz=>Row.at0 (Row.ext (Win.blk a) hz) rfl)) rfl (Ar ‹_› rfl (Ap rfl) rfl (Ar ‹_› rfl (EF Aa rfl rfl rfl rfl z O) rfl (Ar ‹_› rfl (Ap rfl) rfl (Ar ‹_› rfl (A6 rfl) rfl (Ar ‹_› rfl (Aq Aa rfl rfl rfl) rfl (Ar ‹_› rfl (Al Aa rfl rfl rfl (fun wz hz=>Row.at (Row.ext (Win.blk a) hz) rfl)) rfl ?_)))))))))));refine BI ‹_› rfl (Ap rfl) rfl (BI ‹_› rfl (EF Aa rfl rfl rfl rfl z Q) rfl (Ar ‹_› rfl (A6 rfl) rfl (Ar ‹_› rfl (AR Aa rfl rfl rfl) rfl (Ei rfl (E0 fb fo [_,_,_] Aa rfl rfl rfl rfl rfl rfl ‹_› rfl rfl) (Cf ?_)))))
    rintro _ bj ⟨bk,⟨f,bl⟩⟩;have bm:=f.size;replace o:=o.fr f (by omega);clear h hwin;replace ov:=Own.fr ov f (fun k hk hS=>g k hk hS);replace oc:=Own.fr oc f (fun k hk hS=>j k hk hS);replace F:=F.fr f (by omega);clear r0 r1 hcb f;refine ⟨by assumption,?_⟩;refine Eh rfl ?_;refine eK ?_;refine Br (CA fb fo 1 [_,_,_] Aa rfl rfl rfl rfl rfl rfl ‹_› rfl rfl) (Cf ?_);rintro _ bn ⟨ah,⟨u,bo⟩⟩;have bp:=u.size;replace ov:=Own.fr ov u (fun k hk hS=>g k hk hS);replace oc:=Own.fr oc u (fun k hk hS=>j k hk hS);replace F:=F.fr u (by omega);refine eK ?_;refine Dn Aa rfl rfl rfl (Win.blk ah) rfl rfl (C1 (Bs rfl rfl (IntWalk.i64_in _ (by omega))) ?_);refine eK ?_;refine Br (CA fb fo 2 [_,_,_] Aa rfl rfl rfl rfl rfl rfl ‹_› rfl rfl) (Cf ?_);rintro _ bq ⟨br,⟨y,bs⟩⟩;have bt:=y.size;replace ov:=Own.fr ov y (fun k hk hS=>g k hk hS);replace oc:=Own.fr oc y (fun k hk hS=>j k hk hS);replace F:=F.fr y (by omega);refine eK ?_;refine Af rfl rfl ?_;rotate_left
   · rw [if_pos (Or.inr ⟨by assumption,by omega⟩)]
     exact StR.same ‹_› X
   · rw [if_neg (fun h=>by rcases h with ⟨h,-⟩|⟨-,h⟩;exact absurd h ‹_›;omega)]
     exact hend.out _ F ‹_› ‹_› ‹_›
   · rw [if_neg (fun h=>by rcases h with ⟨h,-⟩|⟨h,-⟩;exact absurd h ‹_›;exact absurd h ‹_›)]
     exact hend.out _ F ‹_› ‹_› ‹_›
end
section
variable {ρ:Nat→Rl} {κ:Nat→Nat} {K:List (Int×Int)} {m sb:Nat} {st:Stp} {w:World}
theorem StoreAt.newCell (h:StoreAt ρ κ w sb st) {xs:List Int} (hc:CellAt ρ κ w st.heap.length xs):StoreAt ρ κ w sb { st with heap:=st.heap++[xs] }:=by
 obtain ⟨h1,h2,h3,h4⟩:=h;refine ⟨h1,h2,h3,fun c ys hy=>?_⟩;simp only at hy
 rcases Nat.lt_trichotomy c st.heap.length with h|h|h
 · rw [List.getElem?_append_left h] at hy
   exact h4 c ys hy
 · subst h
   rw [List.getElem?_append_right (Nat.le_refl _)] at hy;simp only [Nat.sub_self,List.getElem?_cons_zero,Option.some.injEq] at hy;subst hy
   exact hc
 · rw [List.getElem?_eq_none (by simp;omega)] at hy
   cases hy
theorem Jy (st:Stp) (f:Frm):(st.setCur f).heap=st.heap:=by
 unfold Stp.setCur
 split<;>rfl
theorem Stp.WF.cells_lt (hw:st.WF K m) {f:Frm} (hf:f∈st.base::st.calls) {c:Nat} (hc:c∈f.cells):c<st.heap.length:=by
 rw [hw.len];exact (hw.all' f hf).lt hc
theorem SF {fb fo:Nat} {pre post:List Value} {T:TypeId} {vv vc:Value} {xs:List Int} {v:VD} {κ':Nat→Nat} {ρ':Nat→Rl} {w':World} {cb:Nat} (hw:st.WF K m) (hclose:Np ρ κ w sb st fb fo pre post T) (hrole:ρ fb = .store∨ρ fb = .calls) (hκ : ∀c,c≠st.heap.length→κ' c=κ c) (hκ2:κ' st.heap.length=cb) (hr:Ro ρ ρ' w) (hfr:Fresh ρ' w') (x:Fr (E1 ρ st.calls.length fb) w w')
 (hwin:Win w' fb fo [vv,vc,.int .i64 ((st.cur.locals:Int)+1)] pre post T) (hf:FrameOk ρ' κ' w' st.calls.length ⟨st.cur.vars++[v],st.cur.cells++[st.heap.length],st.cur.locals⟩ vv vc) (hrc:ρ' cb = .cell st.heap.length) (hc : ∃u,Blk w' cb [u]∧OwnR ρ' (.items st.heap.length) w' u xs) :
 StR ρ sb { st.setCur ⟨st.cur.vars++[v],st.cur.cells++[st.heap.length],st.cur.locals+1⟩ with heap:=st.heap++[xs] } 0 w (.returned (.int .i64 0)) w':=by
 have h1:=hclose ρ' κ' w' ⟨st.cur.vars++[v],st.cur.cells++[st.heap.length],st.cur.locals+1⟩ vv vc hr hfr (fun f hf c hc=>hκ c (by have:=hw.cells_lt hf hc;omega)) (fun c hc=>hκ c (by omega)) x (by simpa using hwin) ⟨hf.v,hf.c⟩
 have h2:=h1.newCell (xs:=xs) (by
  rw [Jy]
  exact ⟨by rw [hκ2];exact hrc,by rw [hκ2];exact hc⟩)
 rw [Jy] at h2;refine ⟨ρ',κ',rfl,hr,h2,x.weaken (fun k hk=>?_)⟩
 rcases hk with rfl|h|h
 · rcases hrole with h|h<;>rw [h]<;>trivial
 · rw [h];trivial
 · rw [h];trivial
def Fx (ρ:Nat→Rl) (n cb ib:Nat):Nat→Rl:=fun b=>if b=cb then .cell n else if b=ib then .items n else ρ b
def MR (κ:Nat→Nat) (n cb:Nat):Nat→Nat:=fun c=>if c=n then cb else κ c
theorem NQ {n j fb:Nat} {f:Frm} {vv vc:Value} (hf:FrameOk ρ κ w j f vv vc) (hfr:Fresh ρ w) (hfb:fb<w.heap.size) (hrole:ρ fb = .store∨ρ fb = .calls) (hlt : ∀c∈f.cells,c≠n) (w1:World) (cb ib:Nat) (X:Ext w w1) (hcb:w.heap.size≤cb) (hib:w.heap.size≤ib) (h4:cb<w1.heap.size) (h5:ib<w1.heap.size) :
 FrameOk (Fx ρ n cb ib) (MR κ n cb) w1 j f vv vc∧(Fx ρ n cb ib fb≠.vars j∧Fx ρ n cb ib fb≠.cels j)∧Fresh (Fx ρ n cb ib) w1∧(∀k,E1 (Fx ρ n cb ib) j fb k→E1 ρ j fb k∨w.heap.size≤k) ∧ ¬E1 (Fx ρ n cb ib) j fb cb ∧ ¬E1 (Fx ρ n cb ib) j fb ib:=by
 have hs:=X.size
 have e : ∀b,b<w.heap.size→Fx ρ n cb ib b=ρ b:=fun b hb=>by unfold Fx;rw [if_neg (by omega),if_neg (by omega)]
 have e1:Fx ρ n cb ib cb = .cell n:=by unfold Fx;rw [if_pos rfl]
 have e2:Fx ρ n cb ib ib = .cell n∨Fx ρ n cb ib ib = .items n:=by
  unfold Fx
  by_cases h:ib=cb
  · rw [if_pos h];exact Or.inl rfl
  · rw [if_neg h,if_pos rfl];exact Or.inr rfl
 refine ⟨hf.move (Fr.none X) (fun _ h=>h.elim) e (fun c hc=>if_neg (hlt c hc)),?_,fun b hb=>?_,fun k hk=>?_,fun hk=>?_,fun hk=>?_⟩
 · rw [e _ hfb]
   rcases hrole with h|h<;>rw [h]<;>exact ⟨by simp,by simp⟩
 · unfold Fx
   rw [if_neg (by omega),if_neg (by omega)]
   exact hfr b (by omega)
 · rcases Nat.lt_or_ge k w.heap.size with h|h
   · left
     unfold E1 at hk ⊢
     rw [e k h] at hk
     exact hk
   · exact Or.inr h
 · unfold E1 at hk
   rw [e1] at hk
   rcases hk with h|h|h
   · omega
   · cases h
   · cases h
 · unfold E1 at hk
   rcases hk with h|h|h
   · omega
   · rcases e2 with e2|e2<;>rw [e2] at h<;>cases h
   · rcases e2 with e2|e2<;>rw [e2] at h<;>cases h
theorem Vr (hw:st.WF K m) (hm:m≤100000) (v:VD) (hk:v.kind=1∨v.kind=3) (hl:v.len=0) (x:Int) (w:World) (h:StoreAt ρ κ w sb st) :
 Calls prog 131 #[.pointer (some ⟨sb,0,none⟩),v.val,.int .i64 x] w (StR ρ sb (st.opens v x).2 (st.opens v x).1 w):=by
 have X:=Ext.refl w;have hnc:=hw.nc;have hcm:=hw.curm;have hwc:=hw.cur;have hlen:=hwc.len;have hloc:=hwc.loc;obtain ⟨fb,fo,pre,post,T,vv,vc,hcp,hrole,hwin,hf,hclose⟩:=h.open;have HC:=Lib.hid (fun w1 h=>Ey fb fo st.calls.length sb (by omega) w1 h);obtain ⟨av,cv,rfl,hvs⟩:=Gu (S:=fun _=>True) hf.v.1 (fun _ _=>trivial)
 have hF:=fun w1 h1 h2=>KB st.cur.vars (by omega) v.name (fun _=>True) av cv vc (.int .i64 st.cur.locals) fb fo w1 h1 h2
 obtain ⟨vn,vk,vl⟩:=v;simp only at hk hl hF;subst hl
 change Calls prog _ #[_,.agg #[str vn,.int .u8 vk,.int .i64 0],_] w _
 cases hi:CJ vn st.cur.vars with
 | some i=>
  have e:st.opens ⟨vn,vk,0⟩ x=(22,st):=by unfold Stp.opens;rw [if_pos (by simp [hi])]
  rw [show CS st.cur.vars vn=(i:Int) by unfold CS;rw [hi]] at hF;replace hF:=Lib.hid hF;rw [e];have hrow:=hwin.blk;clear hclose hf hwin hwc
  generalize st.cur.vars=vs at *
  refine Ad func131 ntmps131 rfl rfl ?_
  focus
   refine cS (eB [_,_,_] ?_);intro b1 w2 h4 x5 p6 z7;revert h X hcp hvs hrow;refine eE x5 ?_;intro h X hcp hvs hrow;refine eK ?_;refine C1 (A8 Aa rfl rfl) ?_;refine eK ?_;refine CP rfl rfl rfl (fun c8=>?_) (fun c8=>?_);refine eK ?_;refine cC rfl (HC.out _ ‹_›) ?_;rintro _ be ⟨⟨⟩,x9⟩;revert h4 h X hcp hvs hrow;refine eY x9 ?_;intro bf h4 h X hcp hvs hrow;refine eK ?_;refine cC rfl (hF.out _ ‹_› ‹_›) ?_;rintro _ bg ⟨⟨⟩,ab⟩;revert h4 h X hcp hvs hrow;refine eY ab ?_;intro bh h4 h X hcp hvs hrow;refine eK ?_;refine Af rfl rfl ?_;rotate_left;refine eK ?_;refine C1 (Bh rfl rfl rfl) ?_;refine eK ?_;refine cC rfl (HC.out _ ‹_›) ?_;rintro _ bi ⟨⟨⟩,ac⟩;revert h4 h X hcp hvs hrow;refine eY ac ?_;intro bj h4 h X hcp hvs hrow;refine eK ?_;refine cC rfl (hF.out _ ‹_› ‹_›) ?_;rintro _ bk ⟨⟨⟩,ad⟩;revert h4 h X hcp hvs hrow;refine eY ad ?_;intro bl h4 h X hcp hvs hrow;refine eK ?_;refine Af rfl rfl ?_;rotate_left
  · exact StR.same ‹_› X
  · exact StR.same ‹_› X
 | none=>
  rw [show CS st.cur.vars vn = -1 by unfold CS;rw [hi]] at hF;replace hF:=Lib.hid hF
  have e:st.opens ⟨vn,vk,0⟩ x=(0,{ st.setCur ⟨st.cur.vars++[⟨vn,vk,0⟩],st.cur.cells++[st.heap.length],st.cur.locals+1⟩ with heap:=st.heap++[if vk=1 then [x] else []] }):=by unfold Stp.opens;rw [if_neg (by simp [hi])]
  rw [e];have hend:=Lib.hid (fun xs κ' ρ' w' vv vc cb=>SF (v:=⟨vn,vk,0⟩) (xs:=xs) (κ':=κ') (ρ':=ρ') (w':=w') (vv:=vv) (vc:=vc) (cb:=cb) hw hclose hrole);have HFr:=Lib.hid h.fresh;have hfb:fb<w.heap.size:=hwin.1.blk.lt;have hrow:=hwin.blk;have F:=Fr.refl (E1 ρ st.calls.length fb) w;have HA:=Lib.hid (fun w1 cb ib X hcb hib h4 h5=>NQ (κ:=κ) (n:=st.heap.length) hf h.fresh hfb hrole (fun c hc=>by have:=hw.cells_lt (My st) hc;omega) w1 cb ib X hcb hib h4 h5);clear hclose h hf
  rcases hk with rfl|rfl
  · refine Ad func131 ntmps131 rfl rfl ?_
    focus
     refine cS (JG rfl rfl rfl ?_);intro bm bn D a;have ae:=D.ext;have bo:=D.pos;have bp:=D.size;revert X hcp hvs hwin hrow F;refine eE ae ?_;intro X hcp hvs hwin hrow F;refine eK ?_;refine C1 (A8 Aa rfl rfl) ?_;refine eK ?_;refine A2 Aa rfl rfl rfl (TB.blk a) rfl rfl ?_;refine eK ?_;refine A2 Aa rfl rfl rfl (TB.blk a) rfl rfl ?_;refine eK ?_;refine C1 (Bh rfl rfl rfl) ?_;refine eK ?_;refine cC rfl (HC.out _ ‹_›) ?_;rintro _ bq ⟨⟨⟩,af⟩;revert a X hcp hvs hwin hrow F;refine eY af ?_;intro am a X hcp hvs hwin hrow F;refine eK ?_;refine A2 Aa rfl rfl rfl (TB.blk a) rfl rfl (cC rfl (hF.out _ ‹_› ‹_›) ?_);rintro _ an ⟨⟨⟩,I⟩;revert a X hcp hvs hwin hrow F;refine eY I ?_;intro ao a X hcp hvs hwin hrow F;refine eK ?_;refine C1 (AC [_] Aa Bj rfl rfl rfl rfl) (JG rfl rfl rfl ?_);intro j ap r s;have J:=r.ext;have aq:=r.pos;have ar:=r.size;revert a X hcp hvs hwin hrow F;refine eE J ?_;intro a X hcp hvs hwin hrow F;refine eK ?_;refine A2 Aa rfl rfl rfl (TB.blk a) rfl rfl ?_;refine eK ?_;refine AQ (AM [_] Aa Bj rfl rfl rfl rfl rfl rfl rfl rfl rfl) rfl ?_ (fun _ h=>h);rintro _ au ⟨C,rfl,t,L⟩;have f:TB _ _ _ _:=L
     have M:=t.ext;have aw:=t.pos;have ax:=t.size;revert s a X hcp hvs hwin hrow F;refine eE M ?_;intro s a X hcp hvs hwin hrow F;refine eK ?_;refine I1 [_] [_] Aa rfl rfl rfl rfl rfl rfl (TB.blk s) rfl rfl ?_;intro N u;have l:=u.blk;have y:=u.fr;have ay:=u.size;replace f:=f.fr y (by omega);revert a X;refine eF y ?_;intro a X;clear hvs;revert hwin hrow F;refine eF y ?_;intro hwin hrow F;refine cT ?_;rotate_left
    obtain ⟨k1,k2,k3,k4,k5,k6⟩:=HA.out N j C X (by omega) (by omega) (by omega) (by omega);have HAd:=Lib.hid (fun w1 h1 h2 h3=>PX (κ:=MR κ st.heap.length j) st.cur ⟨vn,1,0⟩ st.heap.length fb fo pre post T (.slice av st.cur.vars.length cv) vc (.int .i64 st.cur.locals) w1 h1 h2 k2 h3 (by omega) (by omega));replace k3:=Lib.hid k3;rw [show IV (MR κ st.heap.length j) st.heap.length = .pointer (some ⟨j,0,none⟩) by unfold IV MR;rw [if_pos rfl]] at HAd
    focus
     refine eK ?_;refine Ae [_,_,_] Aa rfl rfl rfl (TB.blk a) rfl rfl rfl (C1 Mv (eQ rfl (HAd.out _ k1 hwin k3.out) ?_));rintro _ br ⟨az,⟨a0,⟨ρ'b3,⟨⟨⟩,⟨A,⟨ag,⟨ah,⟨O,B⟩⟩⟩⟩⟩⟩⟩⟩;have a1:=B.size;replace l:=Blk.fr l B (k5);replace f:=TB.fr f B (k6);clear a hwin hrow;replace F:=Fr.fr F B (k4);refine eK ?_;refine Dn Aa rfl rfl rfl (Win.blk ah) rfl rfl ?_;refine eK ?_;refine Br (CA fb fo 2 [_,_,_] Aa rfl rfl rfl rfl rfl rfl ‹_› rfl rfl) (Cf ?_);rintro _ Q ⟨R,⟨p,a2⟩⟩;have a3:=p.size;replace O:=FrameOk.fr O p (fun k hk=>by (rw [show k=fb from hk,A fb (by omega)];exact k2));revert l f;refine eF p ?_;intro l f;replace F:=Fr.fr F p (fun k hk=>Or.inl (Or.inl hk));refine eK ?_;refine Af rfl rfl ?_;rotate_left
    refine hend.out [x] (MR κ st.heap.length j) ρ'b3 Q _ _ j (fun c hc=>if_neg hc) (if_pos rfl) (fun b hb=>?_) (fun b hb=>ag b (by omega)) F R ‹_› ?_ ⟨_,l,OwnI.mk (xs:=[x]) (zs:=[]) (Nat.zero_le _) (by exact f) Hv,fun k hk=>?_⟩
    · rw [A b (by omega)]
      unfold Fx
      rw [if_neg (by omega),if_neg (by omega)]
    · rw [A _ (by omega)]
      exact if_pos rfl
    · obtain rfl:=Option.some.inj (show some C=some k from hk);rw [A _ (by omega)]
      unfold Fx
      rw [if_neg (by omega),if_pos rfl]
  · refine Ad func131 ntmps131 rfl rfl ?_
    focus
     refine cS (JG rfl rfl rfl ?_);intro bs bt E d;have ai:=E.ext;have bu:=E.pos;have bv:=E.size;revert X hcp hvs hwin hrow F;refine eE ai ?_;intro X hcp hvs hwin hrow F;refine eK ?_;refine C1 (A8 Aa rfl rfl) ?_;refine eK ?_;refine A2 Aa rfl rfl rfl (TB.blk d) rfl rfl ?_;refine eK ?_;refine A2 Aa rfl rfl rfl (TB.blk d) rfl rfl ?_;refine eK ?_;refine A2 Aa rfl rfl rfl (TB.blk d) rfl rfl ?_;refine eK ?_;refine cC rfl (HC.out _ ‹_›) ?_;rintro _ bw ⟨⟨⟩,aj⟩;revert d X hcp hvs hwin hrow F;refine eY aj ?_;intro a4 d X hcp hvs hwin hrow F;refine eK ?_;refine A2 Aa rfl rfl rfl (TB.blk d) rfl rfl (cC rfl (hF.out _ ‹_› ‹_›) ?_);rintro _ a5 ⟨⟨⟩,U⟩;revert d X hcp hvs hwin hrow F;refine eY U ?_;intro a6 d X hcp hvs hwin hrow F;refine eK ?_;refine C1 (AC [_] Aa Bj rfl rfl rfl rfl) (JG rfl rfl rfl ?_);intro g V z o;have W:=z.ext;have a7:=z.pos;have a8:=z.size;revert d X hcp hvs hwin hrow F;refine eE W ?_;intro d X hcp hvs hwin hrow F;refine eK ?_;refine A2 Aa rfl rfl rfl (TB.blk d) rfl rfl (C1 V1 (cT (U7 (AH (Ai ?_)))));rotate_left
    obtain ⟨k1,k2,k3,k4,k5,k6⟩:=HA.out V g g X (by omega) (by omega) (by omega) (by omega);have HAd:=Lib.hid (fun w1 h1 h2 h3=>PX (κ:=MR κ st.heap.length g) st.cur ⟨vn,3,0⟩ st.heap.length fb fo pre post T (.slice av st.cur.vars.length cv) vc (.int .i64 st.cur.locals) w1 h1 h2 k2 h3 (by omega) (by omega));replace k3:=Lib.hid k3;rw [show IV (MR κ st.heap.length g) st.heap.length = .pointer (some ⟨g,0,none⟩) by unfold IV MR;rw [if_pos rfl]] at HAd
    focus
     refine eK ?_;refine Ae [_,_,_] Aa rfl rfl rfl (TB.blk d) rfl rfl rfl (C1 Mv (eQ rfl (HAd.out _ k1 hwin k3.out) ?_));rintro _ bx ⟨a9,⟨ba,⟨ρ'd3,⟨⟨⟩,⟨G,⟨ak,⟨al,⟨Y,H⟩⟩⟩⟩⟩⟩⟩⟩;have bb:=H.size;replace o:=TB.fr o H (k5);clear d hvs hwin hrow;replace F:=Fr.fr F H (k4);refine eK ?_;refine Dn Aa rfl rfl rfl (Win.blk al) rfl rfl ?_;refine eK ?_;refine Br (CA fb fo 2 [_,_,_] Aa rfl rfl rfl rfl rfl rfl ‹_› rfl rfl) (Cf ?_);rintro _ Z ⟨aa,⟨q,bc⟩⟩;have bd:=q.size;replace Y:=FrameOk.fr Y q (fun k hk=>by (rw [show k=fb from hk,G fb (by omega)];exact k2));replace o:=o.fr q (by omega);replace F:=Fr.fr F q (fun k hk=>Or.inl (Or.inl hk));refine eK ?_;refine Af rfl rfl ?_;rotate_left
    refine hend.out [] (MR κ st.heap.length g) ρ'd3 Z _ _ g (fun c hc=>if_neg hc) (if_pos rfl) (fun b hb=>?_) (fun b hb=>ak b (by omega)) F aa ‹_› ?_ ⟨_,o.blk,OwnI.nil,fun k hk=>(Option.some_ne_none _ hk.symm).elim⟩
    · rw [G b (by omega)]
      unfold Fx
      rw [if_neg (by omega),if_neg (by omega)]
    · rw [G _ (by omega)]
      exact if_pos rfl
end
section
variable {ρ ρ':Nat→Rl} {κ:Nat→Nat} {K:List (Int×Int)} {m sb:Nat} {st:Stp} {w w':World} {S:Nat→Prop}
def W0 (ρ:Nat→Rl) (n k:Nat):Prop:= ¬Kk (ρ k)∨ρ k = .vars (n+1)∨ρ k = .cels (n+1)
theorem StoreAt.moveN (h:StoreAt ρ κ w sb st) (x:Fr S w w') (hs : ∀k,S k→W0 ρ st.calls.length k) (hr:Ro ρ ρ' w) (hfr:Fresh ρ' w'):StoreAt ρ' κ w' sb st:=by
 obtain ⟨h1,-,⟨bv,bc,cv,tb,cs,h2,h3,h4,h5,h6⟩,h7⟩:=h;have hlt:=h2.lt
 have hn : ∀ {r:Rl},Kk r→r≠.vars (st.calls.length+1)→r≠.cels (st.calls.length+1) → ∀k,S k→ρ k≠r:=fun hr n1 n2 k hk e=>by
  rcases hs k hk with h|h|h
  · exact h (by rw [e];exact hr)
  · exact n1 (by rw [←e,h])
  · exact n2 (by rw [←e,h])
 exact ⟨by rw [hr _ hlt,h1],hfr,⟨bv,bc,cv,tb,cs,h2.fr x (fun hS=>hn (r:=.store) trivial (by simp) (by simp) _ hS h1),h3.move x (fun k hk=>⟨hn (by exact trivial) (by simp) (by simp) k hk,hn (by exact trivial) (by simp) (by simp) k hk⟩) hr (fun _ _=>rfl),h4.move x (hn (by exact trivial) (by simp) (by simp)) hr,
  FramesOk.move x hr _ _ _ h5 (fun k hk i h1 h2=>⟨hn (by exact trivial) (by simp;omega) (by simp) k hk,hn (by exact trivial) (by simp) (by simp;omega) k hk⟩) (fun _ _ _ _=>rfl),h6.move x (fun k hk=>⟨hn (by exact trivial) (by simp) (by simp) k hk,hn (by exact trivial) (by simp) (by simp) k hk,hn (by exact trivial) (by simp) (by simp) k hk⟩) hr⟩,
  fun c xs hc=>(h7 c xs hc).move x (fun k hk=>⟨hn (by exact trivial) (by simp) (by simp) k hk,hn (by exact trivial) (by simp) (by simp) k hk⟩) hr rfl⟩
theorem StoreAt.push (h:StoreAt ρ κ w sb st) : ∃bv bc loc cv tp cs,Blk w sb [bv,bc,loc,cv,tp]∧Own w 0 145 3 cv st.calls.length cs∧(∀k,cv.ownBlock=some k→ρ k = .calls) ∧
 ∀(ρ':Nat→Rl) (w':World) (f:Frm) (vv vc cv':Value),Ro ρ ρ' w→Fresh ρ' w'→Fr (fun k=>k=sb∨cv.ownBlock=some k) w w'→Blk w' sb [bv,bc,loc,cv',tp]→Own w' 0 145 3 cv' (st.calls.length+1) (cs++[vv,vc,.int .i64 f.locals])→(∀k,cv'.ownBlock=some k→ρ' k = .calls)→FrameOk ρ κ w (st.calls.length+1) f vv vc →
  StoreAt ρ' κ w' sb { st with calls:=st.calls++[f] }:=by
 obtain ⟨h1,-,⟨bv,bc,cv,tb,cs,h2,h3,h4,h5,h6⟩,h7⟩:=h;have hlt:=h2.lt;refine ⟨bv,bc,_,cv,_,cs,h2,h4.1,h4.2,fun ρ' w' f vv vc cv' hr hfr x hb ho hc hf=>?_⟩
 have hN : ∀ {r:Rl},r≠.store→r≠.calls → ∀k,(k=sb∨cv.ownBlock=some k)→ρ k≠r:=fun n1 n2 k hk e=>by
  rcases hk with rfl|hk
  · exact n1 (by rw [←e,h1])
  · exact n2 (by rw [←e,h4.2 k hk])
 refine ⟨by rw [hr _ hlt,h1],hfr,⟨bv,bc,cv',tb,cs++[vv,vc,.int .i64 f.locals],hb,h3.move x (fun k hk=>⟨hN (by simp) (by simp) k hk,hN (by simp) (by simp) k hk⟩) hr (fun _ _=>rfl),⟨by simpa using ho,hc⟩,(FramesOk.snoc st.calls 1 f _).2 ⟨cs,vv,vc,rfl,FramesOk.move x hr _ _ _ h5 (fun k hk i _ _=>⟨hN (by simp) (by simp) k hk,hN (by simp) (by simp) k hk⟩) (fun _ _ _ _=>rfl),?_⟩,h6.move x (fun k hk=>⟨hN (by simp) (by simp) k hk,hN (by simp) (by simp) k hk,hN (by simp) (by simp) k hk⟩) hr⟩,fun c xs hx=>(h7 c xs hx).move x (fun k hk=>⟨hN (by simp) (by simp) k hk,hN (by simp) (by simp) k hk⟩) hr rfl⟩;rw [Nat.add_comm]
 exact hf.move x (fun k hk=>⟨hN (by simp) (by simp) k hk,hN (by simp) (by simp) k hk⟩) hr (fun _ _=>rfl)
theorem H6 {ps:List VD} {qs:List (List UInt8)} {e:Int} (hl:ps.length=qs.length) (h:(DP st.cur ps qs).1=e) (he:e≠0):st.enters ps qs=(e,st):=by
 unfold Stp.enters
 rw [if_neg (by omega),if_pos (by rw [h];exact he),h]
theorem Own.shape {b e sz n:Nat} {v:Value} {cs:List Value} (h:Own w b e sz v n cs) : ∃a c,v = .slice a n c:=by
 rcases h.row with ⟨rfl,hn,-⟩|⟨g,cap,rfl,-⟩
 · exact ⟨none,0,by rw [hn]⟩
 · exact ⟨_,_,rfl⟩
theorem SG {e:TypeId} {v:Value} {n:Nat} {cs:List Value} (h:Own w 0 e 1 v n cs) (hS : ∀k,v.ownBlock=some k→S k) : ∃a c,v = .slice a n c∧Rows S w cs a:=by
 rcases h.row with ⟨rfl,hn,hc⟩|⟨g,cap,rfl,-,ho,hr⟩
 · exact ⟨none,0,by rw [hn],Or.inl hc⟩
 · exact ⟨_,cap,rfl,Or.inr ⟨g,0,rfl,hS g ho,hr⟩⟩
theorem Rows.at1 {cs:List Value} {a:Option Addr} (h:Rows S w cs a) {i:Nat} {u:Value} (hi:cs[i]? = some u) : ∃b o,a=some ⟨b,o,none⟩∧S b∧Row w ⟨b,o+i*1,none⟩ [u]:=by
 obtain ⟨b,o,h1,h2,h3⟩:=h.get (by rintro rfl;simp at hi);refine ⟨b,o,h1,h2,?_⟩;have h4:=h3.sub i 1;rw [Nat.mul_one]
 have hlt:i<cs.length:=by
  rcases Nat.lt_or_ge i cs.length with h'|h'
  · exact h'
  · rw [List.getElem?_eq_none h'] at hi;cases hi
 rw [List.drop_eq_getElem_cons hlt] at h4
 have:cs[i]=u:=by rw [List.getElem?_eq_getElem hlt] at hi;exact Option.some.inj hi
 simpa [this] using h4
theorem Up (hw:st.WF K m) (hm:m≤100000) (ps:List VD) (qs:List (List UInt8)) (hpl:ps.length≤100000) (hSp : ∀k,S k → ¬Kk (ρ k)) (pa qa:Option Addr) (pc qc:Nat) (w:World) (h:StoreAt ρ κ w sb st) (hp:VDs S w ps pa) (hq:Rows S w (qs.map str) qa) :
 Calls prog 155 #[.pointer (some ⟨sb,0,none⟩),.slice pa ps.length pc,.slice qa qs.length qc] w (StR ρ sb (st.enters ps qs).2 (st.enters ps qs).1 w):=by
 have X:=Ext.refl w
 by_cases hlen:ps.length≠qs.length
 · have e:st.enters ps qs=(7,st):=by unfold Stp.enters;rw [if_pos hlen]
   rw [e]
   generalize ps.length=n1 at *
   generalize qs.length=n2 at *
   clear hp hq;refine Ad func155 ntmps155 rfl rfl ?_
   focus
    refine eK ?_;refine C1 (A8 Aa rfl rfl) ?_;refine eK ?_;refine Af rfl rfl ?_;rotate_left
   exact StR.same ‹_› X
 have hlen:ps.length=qs.length:=Decidable.not_not.1 hlen;have hnc:=hw.nc;have hcm:=hw.curm;have hwc:=hw.cur;have hrole:=h.role;obtain ⟨fb,fo,pre,post,T,vv,vc,hcp,hfr,hwin,hf,-⟩:=h.open;have HC:=Lib.hid (fun w1 h=>Ey fb fo st.calls.length sb (by omega) w1 h);obtain ⟨av,cv,rfl,hvs⟩:=Gu (S:=fun k=>ρ k = .vars st.calls.length∧k<w.heap.size) hf.v.1 (fun k hk=>⟨hf.v.2 k hk,(hf.v.1.blk hk).2⟩);obtain ⟨ac,cc,rfl,hcs⟩:=SG (S:=fun k=>ρ k = .cels st.calls.length∧k<w.heap.size) hf.c.1 (fun k hk=>⟨hf.c.2 k hk,(hf.c.1.blk hk).2⟩);have hfb:fb<w.heap.size:=hwin.1.blk.lt;have hrow:=hwin.blk;replace hp:VDs (fun k=> ¬Kk (ρ k)∧k<w.heap.size) w ps pa:=hp.lt2.wide (fun k hk=>⟨hSp k hk.1,hk.2⟩);replace hq:Rows (fun k=> ¬Kk (ρ k)∧k<w.heap.size) w (qs.map str) qa:=hq.lt2.wide (fun k hk=>⟨hSp k hk.1,hk.2⟩);have HF:=Lib.hid (fun s w1 h1 h2=>KB st.cur.vars (by omega) s (fun k=>ρ k = .vars st.calls.length∧k<w.heap.size) av cv (.slice ac st.cur.cells.length cc) (.int .i64 st.cur.locals) fb fo w1 h1 h2);have HS:=Lib.hid h;clear h hf hwin
 generalize hn:st.calls.length=n at *
 have F:=Fr.refl (fun k=>ρ k = .vars (n+1)∨ρ k = .cels (n+1)) w;refine Ad func155 ntmps155 rfl rfl ?_
 focus
  refine eK ?_;refine C1 (A8 Aa rfl rfl) ?_;refine eK ?_;refine Qp Bj rfl rfl ?_;intro d bt ae G;have a0:=ae.ext;have bu:=ae.pos;have bw:=ae.size;revert X hrow hp hq hcp hvs hcs F;refine eE a0 ?_;intro X hrow hp hq hcp hvs hcs F;refine eK ?_;refine cC rfl (HC.out _ ‹_›) ?_;rintro _ bd ⟨⟨⟩,a1⟩;revert G X hrow hp hq hcp hvs hcs F;refine eY a1 ?_;intro be G X hrow hp hq hcp hvs hcs F;refine C1 Pa (cT (Am (cS (C1 Mv (C1 Pz (C1 Mv (cT (AK ?_))))))));rotate_left
 have hexit : ∀(e:Int) (ρ1:Nat→Rl) (w':World),Ro ρ ρ1 w→Fresh ρ1 w'→Fr (fun k=>ρ k = .vars (n+1)∨ρ k = .cels (n+1)) w w'→st.enters ps qs=(e,st)→StR ρ sb (st.enters ps qs).2 (st.enters ps qs).1 w (.returned (.int .i64 e)) w':=fun e ρ1 w' hro hfr F h=>by
  rw [h]
  exact ⟨ρ1,κ,rfl,hro,HS.out.moveN F (fun k hk=>by rw [hn];exact Or.inr hk) hro hfr,F.weaken (fun k hk=>by rcases hk with h|h<;>rw [h]<;>trivial)⟩
 replace hexit:=Lib.hid hexit;clear hcp X;refine Bn (ι:=Nat) (fun j=>[(0,.pointer (some ⟨sb,0,none⟩)),(2,.slice qa qs.length qc),(7,.pointer (some ⟨d,0,none⟩)),(8,.pointer (some ⟨fb,fo,none⟩)),(21,.slice pa ps.length pc),(22,.int .i64 ps.length),(23,.int .i64 j)])
  (fun j w'=> ∃(cs:List Nat) (ρj:Nat→Rl) (vv vc:Value),j≤ps.length∧Ro ρ ρj w∧Fresh ρj w'∧Win w' d 0 [vv,vc,.int .i64 0] [] [] 145∧FrameOk ρj κ w' (n+1) ⟨ps.take j,cs,0⟩ vv vc∧Row w' ⟨fb,fo,none⟩ [.slice av st.cur.vars.length cv,.slice ac st.cur.cells.length cc,.int .i64 st.cur.locals] ∧
   VDs (fun k=>ρ k = .vars n∧k<w.heap.size) w' st.cur.vars av∧Rows (fun k=>ρ k = .cels n∧k<w.heap.size) w' (st.cur.cells.map (IV κ)) ac∧VDs (fun k=> ¬Kk (ρ k)∧k<w.heap.size) w' ps pa∧Rows (fun k=> ¬Kk (ρ k)∧k<w.heap.size) w' (qs.map str) qa ∧
   Fr (fun k=>ρ k = .vars (n+1)∨ρ k = .cels (n+1)) w w'∧d<w'.heap.size∧ρj d = .none∧DP st.cur ps qs=((DP st.cur (ps.drop j) (qs.drop j)).1,cs++(DP st.cur (ps.drop j) (qs.drop j)).2)∧cs.length=j)
  (fun j=>ps.length-j) 0 sB
  ⟨[],ρ,.slice none 0 0,.slice none 0 0,Nat.zero_le _,Ro.refl _ _,fun b hb=>HS.out.fresh b (by omega),⟨G,rfl⟩,⟨⟨Own.nil,fun k hk=>(Option.some_ne_none _ hk.symm).elim⟩,⟨Own.nil,fun k hk=>(Option.some_ne_none _ hk.symm).elim⟩⟩,hrow,hvs,hcs,hp,hq,F,by omega,HS.out.fresh d (by omega),by simp,rfl⟩ ?_
 clear G hrow hvs hcs hp hq F;rintro j w1 ⟨cs,ρj,vvj,vcj,hj,hro,ai,hwin,hfo,hrow,hvs,hcs,hp,hq,F,hba,hbr,hb,hcl⟩;have HFr:=Lib.hid ai;have hsz:=F.size
 by_cases hlt:j<ps.length
 · obtain ⟨pb,po,rfl,hpS,hget⟩:=hp.get (by intro e;rw [e] at hlt;simp at hlt);have r0:=hget j ps[j] (List.getElem?_eq_getElem hlt);obtain ⟨qb,qo,rfl,hqS,r1⟩:=hq.at1 (i:=j) (u:=str qs[j]) (by rw [List.getElem?_map,List.getElem?_eq_getElem (by omega)];rfl)
   have htk:ps.take (j+1)=ps.take j++[ps[j]]:=by rw [List.take_add_one,List.getElem?_eq_getElem hlt];rfl
   rw [List.drop_eq_getElem_cons hlt,List.drop_eq_getElem_cons (by omega:j<qs.length),DP] at hb
   have htl:(ps.take j).length=j:=by simp;omega
   clear hget
   generalize ps[j]=v at *
   generalize qs[j]=s at *
   obtain ⟨vn,vk,vl⟩:=v;replace r0:Row w1 ⟨pb,po+j*3,none⟩ [str vn,.int .u8 vk,.int .i64 vl]:=r0;have HFs:=HF.out s
   cases hl:CJ s st.cur.vars with
   | none=>
    rw [hl] at hb;simp only at hb;rw [show CS st.cur.vars s = -1 by unfold CS;rw [hl]] at HFs;replace HFs:=Lib.hid HFs;have he:=H6 (st:=st) (e:=6) hlen (by rw [hb]) (by decide)
    focus
     refine eK ?_;refine C1 (Gb r0) (eA [_,_,_] ?_);intro bx bz a2 a3 b0 b1;revert hwin hfo hrow hvs hcs F hp hq r1 r0;refine eE a3 ?_;intro hwin hfo hrow hvs hcs F hp hq r1 r0;refine C1 Pa (eS [_,_,_] a2 ?_);intro b2 M N bf;replace hwin:=hwin.fr N (by omega);clear hfo;revert hrow hvs hcs F hp hq r1 r0;refine eF N ?_;intro hrow hvs hcs F hp hq r1 r0;refine eK ?_;refine C1 (G6 r1) (cC rfl (HFs.out _ ‹_› ‹_›) ?_);rintro _ bg ⟨⟨⟩,aj⟩;revert M hwin hrow hvs hcs F hp hq r1 r0;refine eY aj ?_;intro bh M hwin hrow hvs hcs F hp hq r1 r0;refine eK ?_;refine Af rfl rfl ?_;rotate_left
    exact hexit.out 6 ρj _ hro (fun b hb=>HFr.out b (by omega)) F he
   | some i=>
    obtain ⟨u,hu,-⟩:=Fu hl
    have hic:i<st.cur.cells.length:=by rw [←hwc.len];exact F4 hl
    have hc:=List.getElem?_eq_getElem hic;rw [hl] at hb;simp only at hb;rw [show st.cur.vars.getD i ⟨[],0,0⟩=u by rw [List.getD_eq_getElem?_getD,hu];rfl,show st.cur.cells.getD i 0=st.cur.cells[i] by rw [List.getD_eq_getElem?_getD,hc];rfl] at hb;rw [show CS st.cur.vars s=(i:Int) by unfold CS;rw [hl]] at HFs;replace HFs:=Lib.hid HFs;obtain ⟨vb,vo,rfl,hvS,hgv⟩:=hvs.get (by intro e;rw [e] at hu;simp at hu);have r2:=hgv i u hu;obtain ⟨cb,co,rfl,hcS,r3⟩:=hcs.at1 (i:=i) (u:=IV κ st.cur.cells[i]) (by rw [List.getElem?_map,hc];rfl);have hiv:=F4 hl;obtain ⟨un,uk,ul⟩:=u;replace r2:Row w1 ⟨vb,vo+i*3,none⟩ [str un,.int .u8 uk,.int .i64 ul]:=r2
    generalize st.cur.cells[i]=c at *
    unfold IV at r3
    clear hgv hu hc;dsimp only at hb
    have hNB : ∀b,b<w.heap.size→ρ b≠.vars (n+1)→ρ b≠.cels (n+1) → ¬E1 ρj (n+1) d b:=fun b h1 h2 h3 hk=>by
     rcases hk with rfl|hk|hk
     · omega
     · rw [hro b h1] at hk
       exact h2 hk
     · rw [hro b h1] at hk
       exact h3 hk
    have s1 : ∀k,E1 ρj (n+1) d k→(ρ k = .vars (n+1)∨ρ k = .cels (n+1))∨w.heap.size≤k:=fun k hk=>by
     rcases Nat.lt_or_ge k w.heap.size with h|h
     · rcases hk with rfl|hk|hk
       · omega
       · rw [hro k h] at hk
         exact Or.inl (Or.inl hk)
       · rw [hro k h] at hk
         exact Or.inl (Or.inr hk)
     · exact Or.inr h
    have s2 : ¬E1 ρj (n+1) d fb:=hNB fb hfb (by rcases hfr with h|h<;>rw [h]<;>simp) (by rcases hfr with h|h<;>rw [h]<;>simp)
    have s3 : ∀b,(ρ b = .vars n∧b<w.heap.size) → ¬E1 ρj (n+1) d b:=fun b h=>hNB b h.2 (by rw [h.1];simp) (by rw [h.1];simp)
    have s4 : ∀b,(ρ b = .cels n∧b<w.heap.size) → ¬E1 ρj (n+1) d b:=fun b h=>hNB b h.2 (by rw [h.1];simp) (by rw [h.1];simp)
    have s5 : ∀b,(¬Kk (ρ b)∧b<w.heap.size) → ¬E1 ρj (n+1) d b:=fun b h=>hNB b h.2 (fun e=>h.1 (by rw [e];trivial)) (fun e=>h.1 (by rw [e];trivial))
    have hrb:ρj d≠.vars (n+1)∧ρj d≠.cels (n+1):=by rw [hbr];exact ⟨by simp,by simp⟩
    have HAd:=Lib.hid (fun w2 h1 h2 h3=>PX (κ:=κ) (j:=n+1) ⟨ps.take j,cs,0⟩ ⟨vn,vk,vl⟩ c d 0 [] [] 145 vvj vcj (.int .i64 0) w2 h1 h2 hrb h3 (by simp only;omega) (by simp only;omega))
    unfold IV VD.val at HAd
    focus
     refine eK ?_;refine C1 (Gb r0) (eA [_,_,_] ?_);intro b3 b4 a4 a5 b5 b6;revert hwin hfo F hp hq r1 r0 hvs hcs hrow r2 r3;refine eE a5 ?_;intro hwin hfo F hp hq r1 r0 hvs hcs hrow r2 r3;refine C1 Pa (eS [_,_,_] a4 ?_);intro b7 a z bi;replace hwin:=hwin.fr z (by omega);replace hfo:=FrameOk.fr hfo z (fun k hk=>by (rw [show k=_ from hk,HFr.out _ (by omega)];exact ⟨by simp,by simp⟩));revert F hp hq r1 r0 hvs hcs hrow r2 r3;refine eF z ?_;intro F hp hq r1 r0 hvs hcs hrow r2 r3;refine eK ?_;refine C1 (G6 r1) (cC rfl (HFs.out _ ‹_› ‹_›) ?_);rintro _ t ⟨⟨⟩,ak⟩;revert a hwin hfo F hp hq r1 r0 hvs hcs hrow r2 r3;refine eY ak ?_;intro bj a hwin hfo F hp hq r1 r0 hvs hcs hrow r2 r3;refine C1 Pa (cT (Am (cS (C1 Mv (C1 V3 (cT (Hn (AH (Ai (Am ?_))))))))));rotate_left
    by_cases H:uk=vk
    · have a6 : ¬uk≠vk:=fun h=>h H
      focus
       refine Am (Ax (fun wz=>Ext t wz) 22 (.pure 0 (.pure 1 (.pure 2 (.pure 3 (.pure 4 (.pure 5 (.pure 6 (.pure 7 (.pure 8 (.pure 9 (.pure 10 (.pure 11 (.pure 12 (.pure 13 (.pure 14 (.pure 15 (.pure 16 (.pure 17 (.pure 18 (.pure 19 (.pure 20 (.pure 21 .tail)))))))))))))))))))))) mixed (by kernel_rfl) (Ac (Ac (Ao (Ac (Ac (Ao (Ac Ak))))))) ?_);intro af al _;have x:(fun wz=>Ext t wz) af:=al;simp only at x;have f:=a;have o:=hwin;have A:=hfo;have O:=hp;have Q:=hq;have R:=r1;have U:=r0;have B:=hvs;have C:=hcs;have g:=hrow;have q:=r2;have D:=r3;revert a hwin hfo F hp hq r1 r0 hvs hcs hrow r2 r3;refine eY al ?_;intro b8 a hwin hfo F hp hq r1 r0 hvs hcs hrow r2 r3;refine ⟨x,?_⟩;refine Tq rfl Mv (Tq rfl Pn (Tq rfl Pg (Tq rfl (Al Aa rfl rfl rfl (fun wz hz=>Row.at0 (Row.ext g hz) rfl)) (Tq rfl Mv (Tq rfl Pi (Tq rfl Pf (Tq rfl (Dr q) (Tq rfl Pf (Tq rfl (Db f) (Tq rfl V2 (Tq rfl Mv ?_)))))))))));refine Bb rfl rfl rfl rfl (BB ‹_›) (Ap rfl) rfl (Bb rfl rfl rfl rfl (BB ‹_›) (A6 rfl) rfl (Bb rfl rfl rfl rfl (BB ‹_›) (AR Aa rfl rfl rfl) rfl (Bb rfl rfl rfl rfl (BB ‹_›) (Al Aa rfl rfl rfl (fun wz hz=>Row.at0 (Row.ext g hz) rfl)) rfl (Bb rfl rfl rfl rfl (BB ‹_›) (Ap rfl) rfl (Bb rfl rfl rfl rfl (BB ‹_›) (A4 Aa rfl rfl rfl rfl (by omega) (by omega)) rfl (Bb rfl rfl rfl rfl (BB ‹_›) (Aq Aa rfl rfl rfl) rfl (Bb rfl rfl rfl rfl (BB ‹_›) (Al Aa rfl rfl rfl (fun wz hz=>Row.at (Row.ext q hz) rfl)) rfl (Bb rfl rfl rfl rfl (BB ‹_›) (Aq Aa rfl rfl rfl) rfl (Bb rfl rfl rfl rfl (BB ‹_›) (Al Aa rfl rfl rfl (fun wz hz=>Blk.cell (Blk.ext f hz) rfl)) rfl (Az rfl ?_))))))))))
       refine eK ?_;refine BS rfl (fun a7=>?_) (fun a7=>?_);refine eK ?_;refine Af rfl rfl ?_;rotate_left;refine eK ?_;refine Ax (fun wz=>Ext af wz) 8 (.pure 0 (.pure 1 (.pure 2 (.pure 3 (.pure 4 (.pure 5 (.pure 6 (.pure 7 .tail)))))))) mixed (by kernel_rfl) (Ao (Ac (Ac (Ao (Ac Ak))))) ?_;intro a8 am _;have V:(fun wz=>Ext af wz) a8:=am;simp only at V;have f:=a;have o:=hwin;have A:=hfo;have O:=hp;have Q:=hq;have R:=r1;have U:=r0;have B:=hvs;have C:=hcs;have g:=hrow;have q:=r2;have D:=r3;revert x a hwin hfo F hp hq r1 r0 hvs hcs hrow r2 r3;refine eY am ?_;intro b9 x a hwin hfo F hp hq r1 r0 hvs hcs hrow r2 r3;refine ⟨V,?_⟩;refine Tq rfl (Aw [_,_,_] Aa rfl rfl rfl (fun wz hz=>(Blk.ext f hz)) rfl rfl) (Tq rfl Mv (Tq rfl Pn (Tq rfl Pf (Tq rfl (Dr g) (Tq rfl Mv (Tq rfl Pi (Tq rfl (Al Aa rfl rfl rfl (fun wz hz=>Row.at0 (Row.ext D hz) rfl)) (Az rfl (eQ rfl (HAd.out _ ‹_› ‹_› (fun b hb=>HFr.out b (by omega))) ?_)))))))));rintro _ bk ⟨ag,⟨ah,⟨ρ'd12,⟨⟨⟩,⟨W,⟨bl,⟨bm,⟨bn,p⟩⟩⟩⟩⟩⟩⟩⟩;have bo:=p.size;clear a hwin hfo;replace F:=Fr.fr F p (s1);replace hp:=VDs.fr hp p (s5);replace hq:=Rows.fr hq p (s5);replace hvs:=VDs.fr hvs p (s3)
       replace hcs:=Rows.fr hcs p (s4);replace hrow:=Row.fr hrow p (s2);refine Aj (An (Ai (Ah (C1 V7 (C1 Mv (Aj ?_))))));rotate_left
      · exact hexit.out 7 ρj _ hro (fun b hb=>HFr.out b (by omega)) F (H6 (st:=st) (e:=7) hlen (by rw [hb,if_pos (Or.inr ‹_›)]) (by decide))
      · refine AW (j+1) sB ⟨cs++[c],ρ'd12,ag,ah,by omega,hro.trans W (by omega),by assumption,by assumption,by rw [htk];assumption,by assumption,by assumption,by assumption,by assumption,by assumption,by assumption,by omega,?_,?_,by simp [hcl]⟩ (by omega)
        · rw [W d (by omega),hbr]
        · rw [hb,if_neg (fun h=>by rcases h with h|h;exact h H;exact absurd h (Decidable.not_not.2 ‹_›))]
          simp
    · have a6:uk≠vk:=H;have he:=H6 (st:=st) (e:=7) hlen (by rw [hb,if_pos (Or.inl H)]) (by decide)
      focus
       refine Am (Ax (fun wz=>Ext t wz) 22 (.pure 0 (.pure 1 (.pure 2 (.pure 3 (.pure 4 (.pure 5 (.pure 6 (.pure 7 (.pure 8 (.pure 9 (.pure 10 (.pure 11 (.pure 12 (.pure 13 (.pure 14 (.pure 15 (.pure 16 (.pure 17 (.pure 18 (.pure 19 (.pure 20 (.pure 21 .tail)))))))))))))))))))))) mixed (by kernel_rfl) (Ac (Ac (Ao (Ac (Ac (Ao (Ac Ak))))))) ?_);intro a9 an _;have Y:(fun wz=>Ext t wz) a9:=an;simp only at Y;have f:=a;have o:=hwin;have A:=hfo;have O:=hp;have Q:=hq;have R:=r1;have U:=r0;have B:=hvs;have C:=hcs;have g:=hrow;have q:=r2;have D:=r3;revert a hwin hfo F hp hq r1 r0 hvs hcs hrow r2 r3;refine eY an ?_;intro ca a hwin hfo F hp hq r1 r0 hvs hcs hrow r2 r3;refine ⟨Y,?_⟩;refine Tq rfl Mv (Tq rfl Pn (Tq rfl Pg (Tq rfl (Al Aa rfl rfl rfl (fun wz hz=>Row.at0 (Row.ext g hz) rfl)) (Tq rfl Mv (Tq rfl Pi (Tq rfl Pf (Tq rfl (Dr q) (Tq rfl Pf (Tq rfl (Db f) (Tq rfl V2 (Tq rfl Mv ?_)))))))))));refine BC rfl rfl rfl rfl (Cw ‹_›) rfl (BC rfl rfl rfl rfl (Cw ‹_›) rfl (BC rfl rfl rfl rfl (Cw ‹_›) rfl (BC rfl rfl rfl rfl (Cw ‹_›) rfl (BC rfl rfl rfl rfl (Cw ‹_›) rfl (BC rfl rfl rfl rfl (Cw ‹_›) rfl (BC rfl rfl rfl rfl (Cw ‹_›) rfl (BC rfl rfl rfl rfl (Cw ‹_›) rfl (BC rfl rfl rfl rfl (Cw ‹_›) rfl (BC rfl rfl rfl rfl (Cw ‹_›) rfl (Az rfl ?_))))))))))
       refine eK ?_;refine Af rfl rfl ?_;rotate_left
      exact hexit.out 7 ρj _ hro (fun b hb=>HFr.out b (by omega)) F he
 · obtain rfl:j=ps.length:=by omega
   have hS:=HS.out.moveN F (fun k hk=>by rw [hn];exact Or.inr hk) hro HFr.out
   have ao:DP st.cur ps qs=(0,cs):=by
    rw [hb,List.drop_length]
    simp [DP]
   have hrs:ρj sb = .store:=hS.role;obtain ⟨bv,bc,loc,cv',tp,ds,hblk,hoc,hcr,ap⟩:=hS.push;rw [hn] at hoc;rw [List.take_length] at hfo;obtain ⟨qa',qc',rfl⟩:=hoc.shape;obtain ⟨xa,xc,rfl⟩:=hfo.v.1.shape;obtain ⟨ya,yc,rfl⟩:=hfo.c.1.shape
   have he:st.enters ps qs=if 100≤n then (19,st) else (0,{ st with calls:=st.calls++[⟨ps,cs,0⟩] }):=by
    unfold Stp.enters
    rw [if_neg (by omega),if_neg (by rw [ao];exact fun h=>h rfl),hn,ao]
   by_cases h100:100≤n
   · rw [if_pos h100] at he
     focus
      refine eK ?_;refine Af rfl rfl ?_;rotate_left
     exact hexit.out 19 ρj _ hro (fun b hb=>HFr.out b (by omega)) F he
   · rw [if_neg h100] at he;rw [he];have F2:=Fr.refl (fun k=>k=sb∨(Value.slice qa' n qc').ownBlock=some k) w1;have Hcl:=Lib.hid ap;have F1:=Lib.hid F;have hsb:=hblk.lt;have Hfo:=Lib.hid hfo
     have d1 : ∀k,(Value.slice qa' n qc').ownBlock=some k → ¬k=sb:=fun k hk e=>by subst e;have:=hcr k hk;rw [hrs] at this;cases this
     have d2 : ¬(Value.slice qa' n qc').ownBlock=some sb:=fun h=>d1 sb h rfl
     have d3 : ¬(Value.slice qa' n qc').ownBlock=some d:=fun h=>by have:=hcr d h;rw [hbr] at this;cases this
     have d4 : ∀k,(Value.slice qa' n qc').ownBlock=some k→k<w1.heap.size:=fun k hk=>(hoc.blk hk).2
     clear hS hfo hvs hcs hp hq hrow
     focus
      refine eK ?_;refine Ax (fun wz=>Fr ((fun k=>(Value.slice qa' n qc').ownBlock=some k)) w1 wz) 8 (.pure 0 (.pure 1 (.pure 2 (.pure 3 (.pure 4 (.pure 5 (.fork 6 (.fork 7 .tail .none) .none))))))) mixed (by kernel_rfl) (Ac Ak) ?_;intro ba aq _;have l:(fun wz=>Fr ((fun k=>(Value.slice qa' n qc').ownBlock=some k)) w1 wz) ba:=Fr.of_ext aq;simp only at l;have I:=hblk;have bb:=hoc;have o:=hwin;revert F hblk hoc hwin F2;refine eY aq ?_;intro cd F hblk hoc hwin F2;refine ⟨l,?_⟩;refine Tq rfl Mv (Tq rfl Mv (Tq rfl Pn (Tq rfl Pf (Tq rfl (Al Aa rfl rfl rfl (fun wz hz=>Blk.cell (Blk.fr I hz (by first|omega|(dsimp only;omega))) rfl)) (Tq rfl (BF Aa rfl rfl rfl (fun wz hz=>(Row.fr (Win.blk o) hz (by first|omega|(dsimp only;omega)))) rfl) ?_)))));refine At rfl (AM [_,_,_] Aa Bj rfl rfl rfl rfl rfl rfl rfl rfl rfl) rfl ?_ (fun _ h=>h) As;rintro _ J ⟨ce,rfl,L,cf⟩;have ar:=L.blk;dsimp only at ar;have au:=L.ext;have bp:=L.pos;have bq:=L.size;revert l F hblk hoc hwin F2;refine eE au ?_;intro l F hblk hoc hwin F2;refine ⟨l,?_⟩;refine At rfl (E6 Aa Bj rfl rfl rfl rfl (by kernel_rfl) rfl rfl rfl ‹_› (Blk.row ‹_›) rfl rfl (by omega) (by omega) (Nat.zero_le _)) rfl ?_ (fun _ h=>h) As
      rintro _ y ⟨Z,⟨az,⟨rfl,⟨aa,⟨r,⟨ab,aw⟩⟩⟩⟩⟩⟩;have br:=r.size;replace l:=Fr.fr l r (fun k hk=>Or.inl hk);replace hblk:=Blk.fr hblk r (d2);clear hoc;replace hwin:=Win.fr hwin r (d3);replace F2:=Fr.fr F2 r (fun k hk=>Or.inl (Or.inr hk));refine ⟨l,?_⟩;refine Az rfl ?_;refine eK ?_;refine eV [_] [_,_,_,_,_] hblk ?_;intro ax ay ad bs;clear hblk;replace aa:=Own.fr aa ad (fun k hk hS=>by (obtain rfl:=Option.some.inj (show some Z=some k from hk);rcases ab with h|h;exact d1 _ h hS;omega));clear hwin;replace F2:=Fr.fr F2 ad (fun k hk=>Or.inl (Or.inl hk));refine eK ?_;refine Af rfl rfl ?_;rotate_left
     have E:Ro ρj (Rh ρj J y .calls) w1:=fun b hb=>SE ρj J y .calls b (by omega)
     refine ⟨Rh ρj J y .calls,κ,rfl,hro.trans E hsz,Hcl.out _ ax ⟨ps,cs,0⟩ _ _ _ E (fun b hb=>LX (w:=J) (w':=y) (fun b hb=>HFr.out b (by omega)) (by omega) b (by omega)) F2 ay (by rw [hn];assumption) (fun k hk=>?_) (by rw [hn];exact Hfo.out),(F1.out.weaken (T:=fun k=>Kk (ρ k)) (fun k hk=>by rcases hk with h|h<;>rw [h]<;>trivial)).fr F2 (fun k hk=>?_)⟩
     · obtain rfl:=Option.some.inj (show some Z=some k from hk)
       rcases ab with h|h
       · have:=d4 _ h;rw [E _ this]
         exact hcr _ h
       · exact PW ρj .calls h aw
     · rcases hk with rfl|hk
       · left;rw [hrole];trivial
       · rcases Nat.lt_or_ge k w.heap.size with h|h
         · left;rw [←hro k h,hcr k hk];trivial
         · exact Or.inr h
end
theorem NR (xs:List Int) (zs:List Value) (i:Nat) (u:Int) (hi:i<xs.length):Bp (ints xs++zs) i [.int .i64 u]=ints (xs.set i u)++zs:=by
 simp only [Bp];rw [List.set_append_left _ _ (by simpa [ints] using hi)]
 simp [ints,List.map_set]
theorem Cp {P:Program} {m:Nat} {l:Sl} {tab:Tab} {ty:TypeId} {w:World} {x y:Operand} {t g i n cap:Nat} {s:Sk} {xs:List Int} {u:Int} (TT:TabOk P tab) (ht:AL tab t=some (s,1)) (hx:ev l x=some (.pointer (some ⟨g,0+i*1,none⟩))) (hy:ev l y=some (.int .i64 u))
 (ho:OwnI w 0 (.slice (some ⟨g,0,none⟩) n cap) xs) (hi:i<xs.length) :
 Cj P m l (.store t x y) ty w (Hy fun w'=>OwnI w' 0 (.slice (some ⟨g,0,none⟩) n cap) (xs.set i u)∧Fr (· = g) w w'∧w'.heap.size=w.heap.size):=by
 unfold Cj
 intro a dst pos after g' next Q ha _ hn
 rcases ho.open with ⟨h1,-⟩|⟨g0,b,zs,h1,h2,h3,h4,h5⟩
 · cases h1
 simp only [Value.slice.injEq,Option.some.injEq,Addr.mk.injEq,and_true] at h1;obtain ⟨rfl,rfl,rfl⟩:=h1;rw [Nat.zero_add,Nat.mul_one] at hx;obtain ⟨w1,e1,e2,e3⟩:=ER (P:=P) [.int .i64 u] w g i 0 (ints xs++zs) h3 (by simp [ints];omega) (by rfl)
 have e:(execOp a.eval ⟨dst,.store t x y,ty,pos,after,g'⟩).run P w = .ok .skip w1:=by
  have hcs:(Value.int .i64 u).cells.toList=[.int .i64 u]:=rfl;have hsz:(Value.int .i64 u).cells.size=1:=rfl;simp only [execOp,ha.ev hx,ha.ev hy,Instr.storeAt,Instr.sureAddr,Sem.run_bind,Sem.run_pure,Result.andThen,storeVar,Ci (TT _ _ _ ht),hsz,hcs];simp only [ne_eq,not_true,if_false,e1]
 unfold Oper.wp
 rw [e];rw [Nat.add_zero,NR xs zs i u hi] at e3;have hl:(xs.set i u).length=xs.length:=List.length_set;refine hn _ ⟨?_,e2.fr,e2.size⟩;have:=OwnI.mk (Nat.zero_le _) e3 (by rw [hl];omega);rw [hl,h4] at this
 exact this
section
variable {ρ ρ':Nat→Rl} {κ:Nat→Nat} {K:List (Int×Int)} {m sb:Nat} {st:Stp} {w w':World} {S:Nat→Prop}
theorem StoreAt.setCell (h:StoreAt ρ κ w sb st) {c:Nat} {ys:List Int} (x:Fr (fun k=>ρ k = .cell c∨ρ k = .items c) w w') (hr:Ro ρ ρ' w) (hfr:Fresh ρ' w') (hc:CellAt ρ' κ w' c ys):StoreAt ρ' κ w' sb (st.all c ys):=by
 obtain ⟨h1,-,⟨bv,bc,cv,tb,cs,h2,h3,h4,h5,h6⟩,h7⟩:=h;have hlt:=h2.lt
 have hN : ∀ {r:Rl},r≠.cell c→r≠.items c → ∀k,(ρ k = .cell c∨ρ k = .items c)→ρ k≠r:=fun n1 n2 k hk e=>by
  rcases hk with h|h
  · exact n1 (by rw [←e,h])
  · exact n2 (by rw [←e,h])
 refine ⟨by rw [hr _ hlt,h1],hfr,⟨bv,bc,cv,tb,cs,h2.fr x (fun hS=>hN (r:=.store) (by simp) (by simp) _ hS h1),h3.move x (fun k hk=>⟨hN (by simp) (by simp) k hk,hN (by simp) (by simp) k hk⟩) hr (fun _ _=>rfl),h4.move x (hN (by simp) (by simp)) hr,FramesOk.move x hr _ _ _ h5 (fun k hk i _ _=>⟨hN (by simp) (by simp) k hk,hN (by simp) (by simp) k hk⟩) (fun _ _ _ _=>rfl),h6.move x (fun k hk=>⟨hN (by simp) (by simp) k hk,hN (by simp) (by simp) k hk,hN (by simp) (by simp) k hk⟩) hr⟩,fun d xs hx=>?_⟩
 by_cases hd:d=c
 · subst hd
   unfold Stp.all at hx
   simp only [List.getElem?_set_self'] at hx
   cases hh:st.heap[d]? with
   | none=>rw [hh] at hx;cases hx
   | some q=>
    rw [hh] at hx;simp only [Option.map_eq_map,Option.map_some,Function.const,Option.some.injEq] at hx;subst hx
    exact hc
 · unfold Stp.all at hx
   simp only at hx;rw [List.getElem?_set_ne (Ne.symm hd)] at hx
   exact (h7 d xs hx).move x (fun k hk=>⟨hN (by simp [hd]) (by simp) k hk,hN (by simp) (by simp [hd]) k hk⟩) hr rfl
theorem StoreAt.set2 (h:StoreAt ρ κ w sb st) {c d:Nat} (hcd:c≠d) {xs ys:List Int} (x:Fr (fun k=>(ρ k = .cell c∨ρ k = .items c)∨ρ k = .cell d∨ρ k = .items d) w w') (hr:Ro ρ ρ' w) (hfr:Fresh ρ' w') (hc:CellAt ρ' κ w' c xs) (hd:CellAt ρ' κ w' d ys):StoreAt ρ' κ w' sb ((st.all c xs).all d ys):=by
 obtain ⟨h1,-,⟨bv,bc,cv,tb,cs,h2,h3,h4,h5,h6⟩,h7⟩:=h;have hlt:=h2.lt
 have hN : ∀ {r:Rl},r≠.cell c→r≠.items c→r≠.cell d→r≠.items d → ∀k,((ρ k = .cell c∨ρ k = .items c)∨ρ k = .cell d∨ρ k = .items d)→ρ k≠r:=fun n1 n2 n3 n4 k hk e=>by
  rcases hk with (h|h)|h|h
  · exact n1 (by rw [←e,h])
  · exact n2 (by rw [←e,h])
  · exact n3 (by rw [←e,h])
  · exact n4 (by rw [←e,h])
 have hget : ∀(e:Nat) (zs:List Int),((st.heap.set c xs).set d ys)[e]? = some zs→(e=d∧zs=ys)∨(e=c∧zs=xs)∨(e≠c∧e≠d∧st.heap[e]? = some zs):=fun e zs hz=>by
  rcases Decidable.em (e=d) with rfl|h1
  · left
    simp only [List.getElem?_set_self'] at hz
    cases hh:(st.heap.set c xs)[e]? with
    | none=>rw [hh] at hz;cases hz
    | some q=>
     rw [hh] at hz;simp only [Option.map_eq_map,Option.map_some,Function.const,Option.some.injEq] at hz
     exact ⟨rfl,hz.symm⟩
  · rw [List.getElem?_set_ne (Ne.symm h1)] at hz
    rcases Decidable.em (e=c) with rfl|h2
    · right;left
      simp only [List.getElem?_set_self'] at hz
      cases hh:st.heap[e]? with
      | none=>rw [hh] at hz;cases hz
      | some q=>
       rw [hh] at hz;simp only [Option.map_eq_map,Option.map_some,Function.const,Option.some.injEq] at hz
       exact ⟨rfl,hz.symm⟩
    · rw [List.getElem?_set_ne (Ne.symm h2)] at hz
      exact Or.inr (Or.inr ⟨h2,h1,hz⟩)
 refine ⟨by rw [hr _ hlt,h1],hfr,⟨bv,bc,cv,tb,cs,h2.fr x (fun hS=>hN (r:=.store) (by simp) (by simp) (by simp) (by simp) _ hS h1),h3.move x (fun k hk=>⟨hN (by simp) (by simp) (by simp) (by simp) k hk,hN (by simp) (by simp) (by simp) (by simp) k hk⟩) hr (fun _ _=>rfl),h4.move x (hN (by simp) (by simp) (by simp) (by simp)) hr,FramesOk.move x hr _ _ _ h5 (fun k hk i _ _=>⟨hN (by simp) (by simp) (by simp) (by simp) k hk,hN (by simp) (by simp) (by simp) (by simp) k hk⟩) (fun _ _ _ _=>rfl),h6.move x (fun k hk=>⟨hN (by simp) (by simp) (by simp) (by simp) k hk,hN (by simp) (by simp) (by simp) (by simp) k hk,hN (by simp) (by simp) (by simp) (by simp) k hk⟩) hr⟩,fun e zs hx=>?_⟩
 rcases hget e zs hx with ⟨rfl,rfl⟩|⟨rfl,rfl⟩|⟨n1,n2,hz⟩
 · exact hd
 · exact hc
 · exact (h7 e zs hz).move x (fun k hk=>⟨hN (by simp [n1]) (by simp) (by simp [n2]) (by simp) k hk,hN (by simp) (by simp [n1]) (by simp) (by simp [n2]) k hk⟩) hr rfl
theorem StoreAt.putI (h:StoreAt ρ κ w sb st) {c g n cap:Nat} {ys:List Int} (hrc:ρ (κ c) = .cell c) (hrg:ρ g = .items c) (hb:Blk w (κ c) [.slice (some ⟨g,0,none⟩) n cap]) (x:Fr (· = g) w w') (ho:OwnI w' 0 (.slice (some ⟨g,0,none⟩) n cap) ys):StoreAt ρ κ w' sb (st.all c ys):=
 h.setCell (x.weaken (fun k hk=>Or.inr (by rw [show k=g from hk];exact hrg))) (Ro.refl _ _) (h.fresh.mv x) ⟨hrc,_,hb.fr x (fun e=>by rw [show κ c=g from e,hrg] at hrc;cases hrc),ho,fun k hk=>by obtain rfl:=Option.some.inj (show some g=some k from hk);exact hrg⟩
theorem StoreAt.openT (h:StoreAt ρ κ w sb st) : ∃bv bc loc cv tb,Blk w sb [bv,bc,loc,cv,.pointer (some ⟨tb,0,none⟩)]∧TapeAt ρ w tb st.tin st.tout ∧
 ∀(ρ':Nat→Rl) (w':World) (ti to:List Int),Ro ρ ρ' w→Fr (BM ρ) w w'→TapeAt ρ' w' tb ti to → ∃ ρ'',Ro ρ' ρ'' w'∧StoreAt ρ'' κ w' sb { st with tin:=ti,tout:=to }:=by
 obtain ⟨h1,hf,⟨bv,bc,cv,tb,cs,h2,h3,h4,h5,h6⟩,h7⟩:=h;have hlt:=h2.lt;refine ⟨bv,bc,_,cv,tb,h2,h6,fun ρ' w' ti to hr x ht=>⟨fun b=>if b<w'.heap.size then ρ' b else .none,fun b hb=>if_pos hb,?_⟩⟩;have hs:=x.size
 have a:Ro ρ (fun b=>if b<w'.heap.size then ρ' b else .none) w:=fun b hb=>by
  simp only;rw [if_pos (by omega)]
  exact hr b hb
 have hN : ∀ {r:Rl},r≠.tape→r≠.tin→r≠.tout → ∀k,BM ρ k→ρ k≠r:=fun n1 n2 n3 k hk e=>by
  rcases hk with h|h|h
  · exact n1 (by rw [←e,h])
  · exact n2 (by rw [←e,h])
  · exact n3 (by rw [←e,h])
 exact ⟨(a _ hlt).trans h1,fun b hb=>if_neg (by omega),⟨bv,bc,cv,tb,cs,h2.fr x (fun hS=>hN (r:=.store) (by simp) (by simp) (by simp) _ hS h1),h3.move x (fun k hk=>⟨hN (by simp) (by simp) (by simp) k hk,hN (by simp) (by simp) (by simp) k hk⟩) a (fun _ _=>rfl),h4.move x (hN (by simp) (by simp) (by simp)) a,FramesOk.move x a _ _ _ h5 (fun k hk i _ _=>⟨hN (by simp) (by simp) (by simp) k hk,hN (by simp) (by simp) (by simp) k hk⟩) (fun _ _ _ _=>rfl),
  ht.ro (fun b hb=>if_pos hb) (Nat.le_refl _)⟩,fun c xs hx=>(h7 c xs hx).move x (fun k hk=>⟨hN (by simp) (by simp) (by simp) k hk,hN (by simp) (by simp) (by simp) k hk⟩) a rfl⟩
structure PlaceAt (ρ:Nat→Rl) (κ:Nat→Nat) (w:World) (c g n cap:Nat) (xs:List Int):Prop where
 hrc:ρ (κ c) = .cell c
 hrg:ρ g = .items c
 hb:Blk w (κ c) [.slice (some ⟨g,0,none⟩) n cap]
 ho:OwnI w 0 (.slice (some ⟨g,0,none⟩) n cap) xs
theorem PlaceAt.ext {c g n cap:Nat} {xs:List Int} (h:PlaceAt ρ κ w c g n cap xs) (x:Ext w w'):PlaceAt ρ κ w' c g n cap xs:=⟨h.hrc,h.hrg,h.hb.ext x,h.ho.ext x⟩
instance {c g n cap:Nat} {xs:List Int}:LfE w w' (PlaceAt ρ κ w c g n cap xs) (PlaceAt ρ κ w' c g n cap xs):=⟨fun x h=>Bk.PlaceAt.ext h x⟩
theorem PlaceAt.fr {c g n cap:Nat} {xs:List Int} (h:PlaceAt ρ κ w c g n cap xs) (x:Fr S w w') (hs : ∀k,S k→ρ k≠.cell c∧ρ k≠.items c):PlaceAt ρ κ w' c g n cap xs:=
 ⟨h.hrc,h.hrg,h.hb.fr x (fun e=>(hs _ e).1 h.hrc),h.ho.fr x (fun k hk hS=>by obtain rfl:=Option.some.inj (show some g=some k from hk);exact (hs _ hS).2 h.hrg)⟩
instance {c g n cap:Nat} {xs:List Int}:LfF S w w' (PlaceAt ρ κ w c g n cap xs) (∀k,S k→ρ k≠.cell c∧ρ k≠.items c) (PlaceAt ρ κ w' c g n cap xs):=⟨fun x s h=>Bk.PlaceAt.fr h x s⟩
theorem PlaceAt.row {c g n cap:Nat} {xs:List Int} (h:PlaceAt ρ κ w c g n cap xs) {i:Nat} (hi:i<xs.length):Row w ⟨g,0+i*1,none⟩ [.int .i64 (xs.getD i 0)]:=by
 rcases h.ho.at with h1|⟨b,o,h1,-,h3⟩
 · have:xs=[]:=List.map_eq_nil_iff.1 h1
   subst this;simp at hi
 · simp only [Option.some.injEq,Addr.mk.injEq,and_true] at h1
   obtain ⟨rfl,rfl⟩:=h1
   exact IntsAt.at h3 hi
theorem PlaceAt.lt {c g n cap:Nat} {xs:List Int} (h:PlaceAt ρ κ w c g n cap xs):g<w.heap.size:=(h.ho.lt (k:=g) rfl).2
theorem Vs (hw:st.WF K m) {c d g n cap i:Nat} (hd:d<st.heap.length) (hcd:c≠d) (hdl:(st.items d).length≤1000) (hi:i<(st.items c).length) (k:Int) (hk:k=44∨k=45) (w:World) (h:StoreAt ρ κ w sb st) (hp:PlaceAt ρ κ w c g n cap (st.items c)) :
 Calls prog 173 #[.int .u8 k,.pointer (some ⟨g,0+i*1,none⟩),.pointer (some ⟨κ d,0,none⟩)] w (StR ρ sb (st.move k c i d).2 (st.move k c i d).1 w):=by
 have X:=Ext.refl w;have j:=hp.row hi;obtain ⟨hrd,vd,hbd,hod,hrdi⟩:=h.cells _ _ (Ez hd);obtain ⟨ad,cd,rfl⟩:=hod.shape;have hgl:=hp.lt
 rcases hk with rfl|rfl
 · by_cases hf:1000≤(st.items d).length
   · have e:st.move 44 c i d=(5,st):=by unfold Stp.move;rw [if_pos rfl,if_pos hf]
     rw [e]
     generalize (st.items d).length=dn at *
     generalize κ d=db at *
     clear hp;refine Ad func173 ntmps173 rfl rfl ?_
     focus
      refine eK ?_;refine Af rfl rfl ?_;rotate_left
     exact StR.same ‹_› X
   · have e:st.move 44 c i d=(0,(st.all d (st.items d++[(st.items c).getD i 0])).put c i 0):=by unfold Stp.move;rw [if_pos rfl,if_neg hf]
     rw [e];have hro:Own w 0 3 1 (.slice ad (st.items d).length cd) (st.items d).length (ints (st.items d)):=hod;have F:=Fr.refl (fun k=>ρ k = .cell d∨ρ k = .items d) w
     have q1 : ∀k,(Value.slice ad (st.items d).length cd).ownBlock=some k → ¬k=κ d:=fun k hk e=>by have:=hrdi k hk;rw [e,hrd] at this;cases this
     have q2 : ∀k,(Value.slice ad (st.items d).length cd).ownBlock=some k → ¬k=g:=fun k hk e=>by have:=hrdi k hk;rw [e,hp.hrg] at this;simp at this;exact hcd this
     have q3 : ∀k,(Value.slice ad (st.items d).length cd).ownBlock=some k→ρ k≠.cell c∧ρ k≠.items c:=fun k hk=>by rw [hrdi k hk];exact ⟨by simp,by simp;omega⟩
     have q4 : ∀k,k=κ d→ρ k≠.cell c∧ρ k≠.items c:=fun k hk=>by rw [hk,hrd];exact ⟨by simp;omega,by simp⟩
     have q5 : ∀k,(Value.slice ad (st.items d).length cd).ownBlock=some k→k<w.heap.size:=fun k hk=>(hro.blk hk).2
     have H:=hbd.lt;have HS:=Lib.hid h;clear h hod;refine Ad func173 ntmps173 rfl rfl ?_
     focus
      refine eK ?_;refine Ax (fun wz=>Fr ((fun k=>(Value.slice ad (st.items d).length cd).ownBlock=some k)) w wz) 10 (.pure 0 (.pure 1 (.pure 2 (.pure 3 (.pure 4 (.pure 5 (.pure 6 (.pure 7 (.fork 8 (.fork 9 .tail .none) .none))))))))) mixed (by kernel_rfl) (Ac (Ao (Ac Ak))) ?_;intro O I _;have a:(fun wz=>Fr ((fun k=>(Value.slice ad (st.items d).length cd).ownBlock=some k)) w wz) O:=Fr.of_ext I;simp only at a;have U:=hp;have B:=j;have C:=hbd;have Q:=hro;revert hp X j hbd hro F;refine eY I ?_;intro ab hp X j hbd hro F;refine ⟨a,?_⟩;refine Tq rfl Mv (Tq rfl Mv (Tq rfl Pn (Tq rfl Pg (Tq rfl (Al Aa rfl rfl rfl (fun wz hz=>Blk.cell (Blk.fr C hz (fun h=>q1 _ h rfl)) rfl)) (Tq rfl Mv (Tq rfl Pn (Tq rfl (Al Aa rfl rfl rfl (fun wz hz=>Row.at0 (Row.fr B hz (fun h=>q2 _ h rfl)) rfl)) ?_)))))));refine At rfl (AM [_] Aa Bj rfl rfl rfl rfl rfl rfl rfl rfl rfl) rfl ?_ (fun _ h=>h) As;rintro _ q ⟨ac,rfl,t,ae⟩;have V:=t.blk;have J:=t.ext;have W:=t.pos;have Y:=t.size;revert a hp X j hbd hro F;refine eE J ?_;intro a hp X j hbd hro F;refine ⟨a,?_⟩;refine At rfl (E6 Aa Bj rfl rfl rfl rfl (by kernel_rfl) rfl rfl rfl ‹_› (Blk.row ‹_›) rfl rfl (by omega) (by omega) (Nat.zero_le _)) rfl ?_ (fun _ h=>h) As
      rintro _ l ⟨p,⟨u,⟨rfl,⟨z,⟨f,⟨A,L⟩⟩⟩⟩⟩⟩;have Z:=f.size;replace a:=Fr.fr a f (fun k hk=>Or.inl hk);replace hp:=PlaceAt.fr hp f (q3);replace j:=Row.fr j f (fun h=>q2 _ h rfl);replace hbd:=Blk.fr hbd f (fun h=>q1 _ h rfl);clear hro;replace F:=Fr.fr F f (fun k hk=>Or.inl (Or.inr (hrdi k hk)));refine ⟨a,?_⟩;refine Az rfl ?_;refine eK ?_;refine eS [_] hbd ?_;intro r M s aa;clear hbd;replace z:=Own.fr z s (fun k hk hS=>by (obtain rfl:=Option.some.inj (show some p=some k from hk);rcases A with h|h;exact q1 _ h hS;have e:p=κ d:=hS;omega));replace hp:=PlaceAt.fr hp s (q4);replace F:=Fr.fr F s (fun k hk=>Or.inl (Or.inl (by rw [show k=κ d from hk];exact hrd)));refine cT (Ah (C1 Mv (C1 Pn ?_)));rotate_left
     have o:Ro ρ (Rh ρ q l (.items d)) w:=fun b hb=>SE ρ q l _ b (by omega)
     have hfr:=HS.out.fresh
     have h1:=HS.out.setCell (ρ':=Rh ρ q l (.items d)) (ys:=st.items d++[(st.items c).getD i 0]) F o (fun b hb=>LX (w:=q) (w':=l) (fun b hb=>hfr b (by omega)) (by omega) b (by omega)) ⟨by rw [o _ H];exact hrd,_,M,(by
      have h9:Own r 0 3 1 (.slice (some ⟨p,0,none⟩) ((st.items d).length+1) u) ((st.items d).length+1) (ints (st.items d)++[.int .i64 ((st.items c).getD i 0)]):=by assumption
      unfold OwnI
      rw [GG,List.length_append]
      exact h9),fun k hk=>by
      obtain rfl:=Option.some.inj (show some p=some k from hk)
      rcases A with h|h
      · rw [o _ (q5 _ h)]
        exact hrdi _ h
      · exact PW ρ _ h L⟩
     have hcl:=hp.hb.lt
     have hcw:κ c<w.heap.size:=by
      rcases Nat.lt_or_ge (κ c) w.heap.size with h|h
      · exact h
      · have:=hp.hrc;rw [hfr _ h] at this
        cases this
     have x:PlaceAt (Rh ρ q l (.items d)) κ r c g n cap (st.items c):=⟨by rw [o _ hcw];exact hp.hrc,by rw [o _ hgl];exact hp.hrg,hp.hb,hp.ho⟩;have F2:=Fr.refl (· = g) r;have ho:=hp.ho;have HF:=Lib.hid F;have Hp:=Lib.hid x;have H1:=Lib.hid h1;clear F hp x h1
     focus
      refine Br (Cp Aa rfl rfl rfl ‹_› hi) (Cf ?_);rintro _ af ⟨R,⟨D,ag⟩⟩;have ah:=D.size;replace F2:=F2.fr D (by omega);clear ho D;refine eK ?_;refine Af rfl rfl ?_;rotate_left
     have hgs:=Hp.out.hrg;rw [o _ hgl] at hgs;have h2:=H1.out.putI Hp.out.hrc Hp.out.hrg Hp.out.hb F2 R
     exact ⟨_,κ,rfl,o,(by unfold Stp.put;rw [F5,if_neg (fun h=>hcd h.1)];exact h2),(HF.out.weaken (T:=fun k=>Kk (ρ k)) (fun k hk=>by rcases hk with h|h<;>rw [h]<;>trivial)).fr F2 (fun k hk=>Or.inl (by rw [show k=g from hk,hgs];trivial))⟩
 · rcases List.eq_nil_or_concat (st.items d) with hy|⟨ys,v,hy⟩
   · have e:st.move 45 c i d=(13,st):=by unfold Stp.move;rw [if_neg (by decide),hy];rfl
     rw [e]
     have hn:(st.items d).length=0:=by rw [hy];rfl
     generalize (st.items d).length=dn at *
     generalize κ d=db at *
     clear hp;refine Ad func173 ntmps173 rfl rfl ?_
     focus
      refine eK ?_;refine Af rfl rfl ?_;rotate_left
     exact StR.same ‹_› X
   rw [List.concat_eq_append] at hy
   have hn:(st.items d).length=ys.length+1:=by rw [hy];simp
   have hlast:(st.items d).getLast? = some v:=by rw [hy];simp
   have hdrop:(st.items d).dropLast=ys:=by rw [hy];simp
   by_cases h0:(st.items c).getD i 0≠0
   · have e:st.move 45 c i d=(14,st):=by unfold Stp.move;rw [if_neg (by decide),hlast];simp only;rw [if_pos h0]
     rw [e]
     generalize (st.items d).length=dn at *
     generalize (st.items c).getD i 0=v0 at *
     generalize κ d=db at *
     clear hp;refine Ad func173 ntmps173 rfl rfl ?_
     focus
      refine eK ?_;refine C1 (G6 j) ?_;refine eK ?_;refine Af rfl rfl ?_;rotate_left
     exact StR.same ‹_› X
   · have e:st.move 45 c i d=(0,(st.put c i v).all d ys):=by unfold Stp.move;rw [if_neg (by decide),hlast];simp only;rw [if_neg h0,hdrop]
     rw [e];have hro:Own w 0 3 1 (.slice ad (st.items d).length cd) (st.items d).length (ints (st.items d)):=hod;have hcl:=hro.le;obtain ⟨gd,go,rfl,hri⟩:=hod.at.get (by intro e;rw [e] at hn;simp at hn);have r2:=IntsAt.at hri (i:=(((st.items d).length:Int)-1).toNat) (by omega);rw [show (st.items d).getD (((st.items d).length:Int)-1).toNat 0=v by rw [hn,show (((ys.length+1:Nat):Int)-1).toNat=ys.length by omega,hy];simp] at r2
     have x:((st.items d).length:Int)-1=(ys.length:Int):=by omega
     have S:ys.length≤cd:=by omega
     rw [hn,hy,GG] at hro;replace hro:=hro.cut (m:=ys.length) (by simp [ints]) (by omega)
     have q1 : ∀k,(Value.slice (some ⟨gd,go,none⟩) ys.length cd).ownBlock=some k → ¬k=κ d:=fun k hk e=>by have:=hrdi k hk;rw [e,hrd] at this;cases this
     have q2 : ∀k,(Value.slice (some ⟨gd,go,none⟩) ys.length cd).ownBlock=some k → ¬k=g:=fun k hk e=>by have:=hrdi k hk;rw [e,hp.hrg] at this;simp at this;exact hcd this
     have q3 : ¬ κ d=g:=fun e=>by rw [e,hp.hrg] at hrd;cases hrd
     have ho:=hp.ho;have Hp:=Lib.hid hp;have HS:=Lib.hid h;have Hb:=Lib.hid hbd;have Hi:=Lib.hid hrdi;have F:=Fr.refl (fun k=>k=g∨k=κ d) w;clear h hod hp hri;refine Ad func173 ntmps173 rfl rfl ?_
     focus
      refine eK ?_;refine C1 (G6 j) ?_;refine eK ?_;refine C1 (Bs rfl rfl (IntWalk.i64_in _ (by omega))) (C1 Pi (C1 (G6 r2) (C1 Pn (Br (Cp Aa rfl rfl rfl ‹_› hi) (Cf ?_)))));rintro _ ai ⟨E,⟨y,aj⟩⟩;have ak:=y.size;replace hbd:=Blk.fr hbd y (q3);replace hro:=Own.fr hro y (q2);clear ho;replace F:=F.fr y (by omega);refine eK ?_;refine C1 (Bs rfl rfl (IntWalk.i64_in _ (by omega))) (C1 (EF Aa rfl rfl rfl rfl x S) ?_);refine eK ?_;refine eS [_] hbd ?_;intro al N G am;clear hbd;replace E:=OwnI.fr E G (fun k hk=>by simp only [Go.Value.ownBlock,Option.some.injEq] at hk;omega);replace hro:=Own.fr hro G (q1);replace F:=Fr.fr F G (fun k hk=>Or.inl (Or.inr hk));refine eK ?_;refine Af rfl rfl ?_;rotate_left
     have hgr:=Hp.out.hrg;have hrc:=Hp.out.hrc
     have hcb:=Hp.out.hb.fr F (fun e=>by
      rcases e with e|e
      · rw [e,hgr] at hrc
        cases hrc
      · rw [e,hrd] at hrc
        simp at hrc
        exact hcd hrc.symm)
     exact ⟨ρ,κ,rfl,Ro.refl _ _,HS.out.set2 hcd (F.weaken (fun k hk=>by rcases hk with rfl|rfl;exact Or.inl (Or.inr hgr);exact Or.inr (Or.inl hrd))) (Ro.refl _ _) (HS.out.fresh.mv F) ⟨hrc,_,hcb,E,fun k hk=>by obtain rfl:=Option.some.inj (show some g=some k from hk);exact hgr⟩ ⟨hrd,_,N,hro,hrdi⟩,F.weaken (fun k hk=>by rcases hk with rfl|rfl;rw [hgr];trivial;rw [hrd];trivial)⟩
theorem ID {c g n cap i:Nat} {v:Int} {ρ1:Nat→Rl} {w1 w2:World} {ti to:List Int} (hp:PlaceAt ρ κ w c g n cap (st.items c)) (hr:Ro ρ ρ1 w) (h1 : ∃ ρ'',Ro ρ1 ρ'' w1∧StoreAt ρ'' κ w1 sb { st with tin:=ti,tout:=to }) (x1:Fr (BM ρ) w w1) (x2:Fr (· = g) w1 w2) (ho:OwnI w2 0 (.slice (some ⟨g,0,none⟩) n cap) ((st.items c).set i v)) :
 StR ρ sb { st.put c i v with tin:=ti,tout:=to } 0 w (.returned (.int .i64 0)) w2:=by
 obtain ⟨ρ'',b,h2⟩:=h1;have hs:=x1.size;have a:=hr.trans b hs;have hgl:=hp.lt;have hcl:=hp.hb.lt;have d:=hp.hb.fr x1 (fun h=>by rcases h with h|h|h<;>rw [hp.hrc] at h<;>cases h);have h3:=h2.putI (c:=c) (g:=g) (n:=n) (cap:=cap) (by rw [a _ hcl];exact hp.hrc) (by rw [a _ hgl];exact hp.hrg) d x2 ho;refine ⟨ρ'',κ,rfl,a,h3,(x1.weaken (T:=fun k=>Kk (ρ k)) (fun k hk=>by rcases hk with h|h|h<;>rw [h]<;>trivial)).fr x2 (fun k hk=>Or.inl (by rw [show k=g from hk,hp.hrg];trivial))⟩
theorem F6 {r:Int} {ρ1:Nat→Rl} {w1:World} (hr:Ro ρ ρ1 w) (h1 : ∃ ρ'',Ro ρ1 ρ'' w1∧StoreAt ρ'' κ w1 sb st) (x1:Fr (BM ρ) w w1):StR ρ sb st r w (.returned (.int .i64 r)) w1:=by
 obtain ⟨ρ'',a,h2⟩:=h1
 exact ⟨ρ'',κ,rfl,hr.trans a x1.size,h2,x1.weaken (fun k hk=>by rcases hk with h|h|h<;>rw [h]<;>trivial)⟩
theorem SH {c g n cap i:Nat} (hi:i<(st.items c).length) (w:World) (h:StoreAt ρ κ w sb st) (hp:PlaceAt ρ κ w c g n cap (st.items c)) :
 Calls prog 174 #[.pointer (some ⟨sb,0,none⟩),.int .u8 46,.pointer (some ⟨g,0+i*1,none⟩)] w (StR ρ sb (st.transfer 46 c i).2 (st.transfer 46 c i).1 w):=by
 obtain ⟨bv,bc,loc,cv,tb,hb,ht,hcl⟩:=h.openT;have a:=hp.row hi;have hli:=ht.li;have hlo:=ht.lo;have hsr:=h.role;have Hcl:=Lib.hid hcl;have Hp:=Lib.hid hp;have F:=Fr.refl (BM ρ) w
 have q1 : ¬BM ρ g:=fun h=>by rcases h with h|h|h<;>rw [hp.hrg] at h<;>cases h
 have q2 : ¬BM ρ sb:=fun h=>by rcases h with h|h|h<;>rw [hsr] at h<;>cases h
 have ho:=hp.ho
 have q3 : ∀k,(Value.slice (some ⟨g,0,none⟩) n cap).ownBlock=some k → ¬BM ρ k:=fun k hk=>by obtain rfl:=Option.some.inj (show some g=some k from hk);exact q1
 have hgl:=Hp.out.lt;have hsl:=hb.lt;clear hcl hp h
 cases hti:st.tin with
 | nil=>
  have e:st.transfer 46 c i=(17,st):=by unfold Stp.transfer;rw [if_pos rfl,hti]
  rw [e];rw [hti] at ht;have hR:=Lib.hid (fun w1 h=>Sg ρ tb st.tout w1 h);refine Ad func174 ntmps174 rfl rfl ?_
  focus
   refine eK ?_;refine C1 (A8 Aa rfl rfl) ?_;refine eK ?_;refine eQ rfl (hR.out _ ‹_›) ?_;rintro _ w5 ⟨ρ'1,⟨⟨⟩,⟨h2,⟨h3,f4⟩⟩⟩⟩;have z6:=f4.size;replace hb:=Blk.fr hb f4 (q2);clear ht;replace a:=Row.fr a f4 (q1);replace F:=Fr.fr F f4 (fun k hk=>Or.inl hk);replace ho:=OwnI.fr ho f4 (q3);refine eK ?_;refine Af rfl rfl ?_;rotate_left
  exact F6 h2 (by
   have h9:=Hcl.out _ _ _ _ h2 F h3
   rwa [show ({ st with tin:=[],tout:=st.tout }:Stp)=st by rw [←hti]] at h9) F
 | cons v r=>
  rw [hti] at ht hli;simp only [List.length_cons] at hli
  have e:st.transfer 46 c i=if (st.items c).getD i 0≠0 then (14,st) else (0,{ st.put c i v with tin:=r }):=by unfold Stp.transfer;rw [if_pos rfl,hti]
  rw [e];have hR:=Lib.hid (fun w1 h=>TZ ρ tb v r st.tout w1 h);have hU:=Lib.hid (fun ρ1 w1 h=>LJ ρ1 tb v r st.tout w1 h (by omega))
  generalize hv0:(st.items c).getD i 0=v0 at *
  refine Ad func174 ntmps174 rfl rfl ?_
  focus
   refine eK ?_;refine C1 (A8 Aa rfl rfl) ?_;refine eK ?_;refine eQ rfl (hR.out _ ‹_›) ?_;rintro _ p ⟨ρ'a1,⟨⟨⟩,⟨b,⟨j,f⟩⟩⟩⟩;have u:=f.size;replace hb:=Blk.fr hb f (q2);replace F:=Fr.fr F f (fun k hk=>Or.inl hk);replace ho:=OwnI.fr ho f (q3);clear ht;replace a:=Row.fr a f (q1);refine eK ?_;refine C1 (G6 a) ?_;refine eK ?_;refine BS rfl (fun q=>?_) (fun q=>?_);refine eK ?_;refine eQ rfl (hU.out _ _ ‹_›) ?_;rintro _ s ⟨ρ'a8,⟨⟨⟩,⟨l,⟨m,d⟩⟩⟩⟩;have t:=d.size;replace hb:=Blk.fr hb d (fun h=>q2 (by unfold BM at h ⊢;rwa [b _ hsl] at h));replace F:=Fr.fr F d (fun k hk=>by (rcases Nat.lt_or_ge k w.heap.size with h|h;left;unfold BM at hk ⊢;rw [b k h] at hk;exact hk;exact Or.inr h));clear ho;replace a:=Row.fr a d (fun h=>q1 (by unfold BM at h ⊢;rwa [b _ hgl] at h));refine cT (Ah (C1 Pa (Aj (An (Ai (Am ?_))))));rotate_left;refine AH (An (Ai (Am ?_)));rotate_left
  · have h9:=Hcl.out _ _ _ _ (b.trans l (by omega)) F m;rw [show ({ st with tin:=v::r,tout:=st.tout }:Stp)=st by rw [←hti]] at h9;have H9:=Lib.hid h9;rw [if_pos ‹_›]
    focus
     refine eK ?_;refine Af rfl rfl ?_;rotate_left
    exact F6 (b.trans l (by omega)) H9.out F
  · have H9:=Lib.hid (Hcl.out _ _ _ _ b F j);have F2:=Fr.refl (· = g) p;have F1:=Lib.hid F;clear F;rw [if_neg (fun h=>h ‹_›)]
    focus
     refine eK ?_;refine Br (Cp Aa rfl rfl rfl ‹_› hi) (Cf ?_);rintro _ x ⟨y,⟨o,z⟩⟩;have A:=o.size;clear j hb ho a;replace F2:=F2.fr o (by omega);refine eK ?_;refine Af rfl rfl ?_;rotate_left
    exact ID Hp.out b H9.out F1.out F2 ‹_›
theorem SI {c g n cap i:Nat} (hi:i<(st.items c).length) (w:World) (h:StoreAt ρ κ w sb st) (hp:PlaceAt ρ κ w c g n cap (st.items c)) :
 Calls prog 174 #[.pointer (some ⟨sb,0,none⟩),.int .u8 49,.pointer (some ⟨g,0+i*1,none⟩)] w (StR ρ sb (st.transfer 49 c i).2 (st.transfer 49 c i).1 w):=by
 obtain ⟨bv,bc,loc,cv,tb,hb,ht,hcl⟩:=h.openT;have a:=hp.row hi;have hli:=ht.li;have hlo:=ht.lo;have hsr:=h.role;have Hcl:=Lib.hid hcl;have Hp:=Lib.hid hp;have F:=Fr.refl (BM ρ) w
 have q1 : ¬BM ρ g:=fun h=>by rcases h with h|h|h<;>rw [hp.hrg] at h<;>cases h
 have q2 : ¬BM ρ sb:=fun h=>by rcases h with h|h|h<;>rw [hsr] at h<;>cases h
 have ho:=hp.ho
 have q3 : ∀k,(Value.slice (some ⟨g,0,none⟩) n cap).ownBlock=some k → ¬BM ρ k:=fun k hk=>by obtain rfl:=Option.some.inj (show some g=some k from hk);exact q1
 have hgl:=Hp.out.lt;have hsl:=hb.lt;clear hcl hp h
 rcases List.eq_nil_or_concat st.tout with hti|⟨r,v,hti⟩
 · have e:st.transfer 49 c i=(17,st):=by unfold Stp.transfer;rw [if_neg (by decide),if_neg (by decide),if_neg (by decide),hti];rfl
   rw [e];rw [hti] at ht;have hR:=Lib.hid (fun w1 h=>Nn ρ tb st.tin w1 h);refine Ad func174 ntmps174 rfl rfl ?_
   focus
    refine eK ?_;refine C1 (A8 Aa rfl rfl) ?_;refine eK ?_;refine eQ rfl (hR.out _ ‹_›) ?_;rintro _ w5 ⟨ρ'1,⟨⟨⟩,⟨h2,⟨h3,f4⟩⟩⟩⟩;have z6:=f4.size;replace hb:=Blk.fr hb f4 (q2);clear ht;replace a:=Row.fr a f4 (q1);replace F:=Fr.fr F f4 (fun k hk=>Or.inl hk);replace ho:=OwnI.fr ho f4 (q3);refine eK ?_;refine Af rfl rfl ?_;rotate_left
   exact F6 h2 (by
    have h9:=Hcl.out _ _ _ _ h2 F h3
    rwa [show ({ st with tin:=st.tin,tout:=[] }:Stp)=st by rw [←hti]] at h9) F
 · rw [List.concat_eq_append] at hti;rw [hti] at ht hlo;simp only [List.length_append,List.length_singleton] at hlo
   have e:st.transfer 49 c i=if (st.items c).getD i 0≠0 then (14,st) else (0,{ st.put c i v with tout:=r }):=by unfold Stp.transfer;rw [if_neg (by decide),if_neg (by decide),if_neg (by decide),show st.tout.getLast? = some v by rw [hti];simp,show st.tout.dropLast=r by rw [hti];simp]
   rw [e];have hR:=Lib.hid (fun w1 h=>OI ρ tb v st.tin r w1 h);have hU:=Lib.hid (fun ρ1 w1 h=>No ρ1 tb v st.tin r w1 h (by omega))
   generalize hv0:(st.items c).getD i 0=v0 at *
   refine Ad func174 ntmps174 rfl rfl ?_
   focus
    refine eK ?_;refine C1 (A8 Aa rfl rfl) ?_;refine eK ?_;refine eQ rfl (hR.out _ ‹_›) ?_;rintro _ p ⟨ρ'a1,⟨⟨⟩,⟨b,⟨j,f⟩⟩⟩⟩;have u:=f.size;replace hb:=Blk.fr hb f (q2);replace F:=Fr.fr F f (fun k hk=>Or.inl hk);replace ho:=OwnI.fr ho f (q3);clear ht;replace a:=Row.fr a f (q1);refine eK ?_;refine C1 (G6 a) ?_;refine eK ?_;refine BS rfl (fun q=>?_) (fun q=>?_);refine eK ?_;refine eQ rfl (hU.out _ _ ‹_›) ?_;rintro _ s ⟨ρ'a8,⟨⟨⟩,⟨l,⟨m,d⟩⟩⟩⟩;have t:=d.size;replace hb:=Blk.fr hb d (fun h=>q2 (by unfold BM at h ⊢;rwa [b _ hsl] at h));replace F:=Fr.fr F d (fun k hk=>by (rcases Nat.lt_or_ge k w.heap.size with h|h;left;unfold BM at hk ⊢;rw [b k h] at hk;exact hk;exact Or.inr h));clear ho;replace a:=Row.fr a d (fun h=>q1 (by unfold BM at h ⊢;rwa [b _ hgl] at h));refine cT (Ah (C1 Pa (Aj (An (Ai (Am ?_))))));rotate_left;refine AH (An (Ai (Am ?_)));rotate_left
   · have h9:=Hcl.out _ _ _ _ (b.trans l (by omega)) F m;rw [show ({ st with tin:=st.tin,tout:=r++[v] }:Stp)=st by rw [←hti]] at h9;have H9:=Lib.hid h9;rw [if_pos ‹_›]
     focus
      refine eK ?_;refine Af rfl rfl ?_;rotate_left
     exact F6 (b.trans l (by omega)) H9.out F
   · have H9:=Lib.hid (Hcl.out _ _ _ _ b F j);have F2:=Fr.refl (· = g) p;have F1:=Lib.hid F;clear F;rw [if_neg (fun h=>h ‹_›)]
     focus
      refine eK ?_;refine Br (Cp Aa rfl rfl rfl ‹_› hi) (Cf ?_);rintro _ x ⟨y,⟨o,z⟩⟩;have A:=o.size;clear j hb ho a;replace F2:=F2.fr o (by omega);refine eK ?_;refine Af rfl rfl ?_;rotate_left
     exact ID Hp.out b H9.out F1.out F2 ‹_›
theorem SJ {c g n cap i:Nat} (hi:i<(st.items c).length) (w:World) (h:StoreAt ρ κ w sb st) (hp:PlaceAt ρ κ w c g n cap (st.items c)) :
 Calls prog 174 #[.pointer (some ⟨sb,0,none⟩),.int .u8 47,.pointer (some ⟨g,0+i*1,none⟩)] w (StR ρ sb (st.transfer 47 c i).2 (st.transfer 47 c i).1 w):=by
 obtain ⟨bv,bc,loc,cv,tb,hb,ht,hcl⟩:=h.openT;have a:=hp.row hi;have hli:=ht.li;have hlo:=ht.lo;have hsr:=h.role;have Hcl:=Lib.hid hcl;have Hp:=Lib.hid hp;have F:=Fr.refl (BM ρ) w
 have q1 : ¬BM ρ g:=fun h=>by rcases h with h|h|h<;>rw [hp.hrg] at h<;>cases h
 have q2 : ¬BM ρ sb:=fun h=>by rcases h with h|h|h<;>rw [hsr] at h<;>cases h
 have ho:=hp.ho
 have q3 : ∀k,(Value.slice (some ⟨g,0,none⟩) n cap).ownBlock=some k → ¬BM ρ k:=fun k hk=>by obtain rfl:=Option.some.inj (show some g=some k from hk);exact q1
 have hgl:=Hp.out.lt;have hsl:=hb.lt;clear hcl hp h
 by_cases hf:4096≤st.tin.length
 · have e:st.transfer 47 c i=(5,st):=by unfold Stp.transfer;rw [if_neg (by decide),if_pos rfl,if_pos hf]
   rw [e];have hR:=Lib.hid (fun w1 h=>OH ρ tb ((st.items c).getD i 0) st.tin st.tout w1 h (by omega))
   generalize (st.items c).getD i 0=v0 at *
   refine Ad func174 ntmps174 rfl rfl ?_
   focus
    refine eK ?_;refine C1 (A8 Aa rfl rfl) ?_;refine eK ?_;refine Ax (fun wz=>Ext w wz) 7 (.pure 0 (.pure 1 (.pure 2 (.pure 3 (.pure 4 (.pure 5 (.pure 6 .tail))))))) mixed (by kernel_rfl) (Ao (Ac Ak)) ?_;intro w1 x2 _;have l:(fun wz=>Ext w wz) w1:=x2;simp only at l;have d:=hb;have m:=ht;have o:=ho;have b:=a;revert hb ht F ho a;refine eY x2 ?_;intro z4 hb ht F ho a;refine ⟨l,?_⟩;refine Tq rfl Mv (Tq rfl Pn (Tq rfl Pf (Tq rfl (Db d) (Tq rfl Mv (Tq rfl Pn (Tq rfl (Al Aa rfl rfl rfl (fun wz hz=>Row.at0 (Row.ext b hz) rfl)) ?_))))));refine Az rfl (eQ rfl (hR.out _ ‹_›) ?_);rintro _ w9 ⟨ρ'5,⟨⟨⟩,⟨h6,⟨h7,f8⟩⟩⟩⟩;have x:=f8.size;replace hb:=Blk.fr hb f8 (q2);clear ht;replace F:=Fr.fr F f8 (fun k hk=>Or.inl hk);replace ho:=OwnI.fr ho f8 (q3);replace a:=Row.fr a f8 (q1);refine eK ?_;refine Af rfl rfl ?_;rotate_left
   exact F6 (Ro.low h6 (by omega)) (Hcl.out _ _ _ _ (Ro.low h6 (by omega)) F h7) F
 · have e:st.transfer 47 c i=(0,{ st.put c i 0 with tin:=(st.items c).getD i 0::st.tin }):=by unfold Stp.transfer;rw [if_neg (by decide),if_pos rfl,if_neg hf]
   rw [e];have hR:=Lib.hid (fun w1 h=>LJ ρ tb ((st.items c).getD i 0) st.tin st.tout w1 h (by omega))
   generalize (st.items c).getD i 0=v0 at *
   refine Ad func174 ntmps174 rfl rfl ?_
   focus
    refine eK ?_;refine C1 (A8 Aa rfl rfl) ?_;refine eK ?_;refine Ax (fun wz=>Ext w wz) 7 (.pure 0 (.pure 1 (.pure 2 (.pure 3 (.pure 4 (.pure 5 (.pure 6 .tail))))))) mixed (by kernel_rfl) (Ao (Ac Ak)) ?_;intro t p _;have j:(fun wz=>Ext w wz) t:=p;simp only at j;have d:=hb;have m:=ht;have o:=ho;have b:=a;revert hb ht F ho a;refine eY p ?_;intro y hb ht F ho a;refine ⟨j,?_⟩;refine Tq rfl Mv (Tq rfl Pn (Tq rfl Pf (Tq rfl (Db d) (Tq rfl Mv (Tq rfl Pn (Tq rfl (Al Aa rfl rfl rfl (fun wz hz=>Row.at0 (Row.ext b hz) rfl)) ?_))))));refine Az rfl (eQ rfl (hR.out _ ‹_›) ?_);rintro _ u ⟨ρ'a5,⟨⟨⟩,⟨q,⟨r,f⟩⟩⟩⟩;have v:=f.size;replace hb:=Blk.fr hb f (q2);clear ht;replace F:=Fr.fr F f (fun k hk=>Or.inl hk);replace ho:=OwnI.fr ho f (q3);replace a:=Row.fr a f (q1);refine C1 Pa (Aj (An (Ai (Am ?_))));rotate_left
   have H9:=Lib.hid (Hcl.out _ _ _ _ (Ro.low q (by omega)) F r);have F2:=Fr.refl (· = g) u;have F1:=Lib.hid F;clear F
   focus
    refine eK ?_;refine Br (Cp Aa rfl rfl rfl ‹_› hi) (Cf ?_);rintro _ z ⟨A,⟨s,B⟩⟩;have C:=s.size;clear r hb ho a;replace F2:=F2.fr s (by omega);refine eK ?_;refine Af rfl rfl ?_;rotate_left
   exact ID Hp.out (Ro.low q (by omega)) H9.out F1.out F2 ‹_›
theorem SK {c g n cap i:Nat} (hi:i<(st.items c).length) (w:World) (h:StoreAt ρ κ w sb st) (hp:PlaceAt ρ κ w c g n cap (st.items c)) :
 Calls prog 174 #[.pointer (some ⟨sb,0,none⟩),.int .u8 48,.pointer (some ⟨g,0+i*1,none⟩)] w (StR ρ sb (st.transfer 48 c i).2 (st.transfer 48 c i).1 w):=by
 obtain ⟨bv,bc,loc,cv,tb,hb,ht,hcl⟩:=h.openT;have a:=hp.row hi;have hli:=ht.li;have hlo:=ht.lo;have hsr:=h.role;have Hcl:=Lib.hid hcl;have Hp:=Lib.hid hp;have F:=Fr.refl (BM ρ) w
 have q1 : ¬BM ρ g:=fun h=>by rcases h with h|h|h<;>rw [hp.hrg] at h<;>cases h
 have q2 : ¬BM ρ sb:=fun h=>by rcases h with h|h|h<;>rw [hsr] at h<;>cases h
 have ho:=hp.ho
 have q3 : ∀k,(Value.slice (some ⟨g,0,none⟩) n cap).ownBlock=some k → ¬BM ρ k:=fun k hk=>by obtain rfl:=Option.some.inj (show some g=some k from hk);exact q1
 have hgl:=Hp.out.lt;have hsl:=hb.lt;clear hcl hp h
 by_cases hf:4096≤st.tout.length
 · have e:st.transfer 48 c i=(5,st):=by unfold Stp.transfer;rw [if_neg (by decide),if_neg (by decide),if_pos rfl,if_pos hf]
   rw [e];have hR:=Lib.hid (fun w1 h=>Q0 ρ tb ((st.items c).getD i 0) st.tin st.tout w1 h (by omega))
   generalize (st.items c).getD i 0=v0 at *
   refine Ad func174 ntmps174 rfl rfl ?_
   focus
    refine eK ?_;refine C1 (A8 Aa rfl rfl) ?_;refine eK ?_;refine Ax (fun wz=>Ext w wz) 7 (.pure 0 (.pure 1 (.pure 2 (.pure 3 (.pure 4 (.pure 5 (.pure 6 .tail))))))) mixed (by kernel_rfl) (Ao (Ac Ak)) ?_;intro w1 x2 _;have l:(fun wz=>Ext w wz) w1:=x2;simp only at l;have d:=hb;have m:=ht;have o:=ho;have b:=a;revert hb ht F ho a;refine eY x2 ?_;intro z4 hb ht F ho a;refine ⟨l,?_⟩;refine Tq rfl Mv (Tq rfl Pn (Tq rfl Pf (Tq rfl (Db d) (Tq rfl Mv (Tq rfl Pn (Tq rfl (Al Aa rfl rfl rfl (fun wz hz=>Row.at0 (Row.ext b hz) rfl)) ?_))))));refine Az rfl (eQ rfl (hR.out _ ‹_›) ?_);rintro _ w9 ⟨ρ'5,⟨⟨⟩,⟨h6,⟨h7,f8⟩⟩⟩⟩;have x:=f8.size;replace hb:=Blk.fr hb f8 (q2);clear ht;replace F:=Fr.fr F f8 (fun k hk=>Or.inl hk);replace ho:=OwnI.fr ho f8 (q3);replace a:=Row.fr a f8 (q1);refine eK ?_;refine Af rfl rfl ?_;rotate_left
   exact F6 (Ro.low h6 (by omega)) (Hcl.out _ _ _ _ (Ro.low h6 (by omega)) F h7) F
 · have e:st.transfer 48 c i=(0,{ st.put c i 0 with tout:=st.tout++[(st.items c).getD i 0] }):=by unfold Stp.transfer;rw [if_neg (by decide),if_neg (by decide),if_pos rfl,if_neg hf]
   rw [e];have hR:=Lib.hid (fun w1 h=>No ρ tb ((st.items c).getD i 0) st.tin st.tout w1 h (by omega))
   generalize (st.items c).getD i 0=v0 at *
   refine Ad func174 ntmps174 rfl rfl ?_
   focus
    refine eK ?_;refine C1 (A8 Aa rfl rfl) ?_;refine eK ?_;refine Ax (fun wz=>Ext w wz) 7 (.pure 0 (.pure 1 (.pure 2 (.pure 3 (.pure 4 (.pure 5 (.pure 6 .tail))))))) mixed (by kernel_rfl) (Ao (Ac Ak)) ?_;intro t p _;have j:(fun wz=>Ext w wz) t:=p;simp only at j;have d:=hb;have m:=ht;have o:=ho;have b:=a;revert hb ht F ho a;refine eY p ?_;intro y hb ht F ho a;refine ⟨j,?_⟩;refine Tq rfl Mv (Tq rfl Pn (Tq rfl Pf (Tq rfl (Db d) (Tq rfl Mv (Tq rfl Pn (Tq rfl (Al Aa rfl rfl rfl (fun wz hz=>Row.at0 (Row.ext b hz) rfl)) ?_))))));refine Az rfl (eQ rfl (hR.out _ ‹_›) ?_);rintro _ u ⟨ρ'a5,⟨⟨⟩,⟨q,⟨r,f⟩⟩⟩⟩;have v:=f.size;replace hb:=Blk.fr hb f (q2);clear ht;replace F:=Fr.fr F f (fun k hk=>Or.inl hk);replace ho:=OwnI.fr ho f (q3);replace a:=Row.fr a f (q1);refine C1 Pa (Aj (An (Ai (Am ?_))));rotate_left
   have H9:=Lib.hid (Hcl.out _ _ _ _ (Ro.low q (by omega)) F r);have F2:=Fr.refl (· = g) u;have F1:=Lib.hid F;clear F
   focus
    refine eK ?_;refine Br (Cp Aa rfl rfl rfl ‹_› hi) (Cf ?_);rintro _ z ⟨A,⟨s,B⟩⟩;have C:=s.size;clear r hb ho a;replace F2:=F2.fr s (by omega);refine eK ?_;refine Af rfl rfl ?_;rotate_left
   exact ID Hp.out (Ro.low q (by omega)) H9.out F1.out F2 ‹_›
end
def VD.ok (v:VD):Bool:=Cu v.name&&if v.kind=1∨v.kind=3 then v.len==0 else if v.kind=2 then decide (1≤v.len)&&decide (v.len≤16) else false
def FE (l:List VD):Bool:=l.all VD.ok
mutual
def Nd.lim:Nd→Int→Int→Bool×Int
 | .mk _ _ _ l,d,m=>if d=0∨m=0 then (false,m) else C4 l (d-1) (m-1)
def C4:List Nd→Int→Int→Bool×Int
 | [],_,m=>(true,m)
 | t::r,d,m=>if (t.lim d m).1 then C4 r d (t.lim d m).2 else (false,(t.lim d m).2)
end
def DF (t:Nd):Bool:=(t.lim 80 2000).1&&t.isBlock
def PD.ok (p:PD):Bool:=Cu p.name&&decide (p.params.length≤8)&&FE p.params&&DF p.body
def PG.ok (g:PG):Bool:=decide (g.vars.length≤32)&&decide (g.procs.length≤64)&&FE g.vars&&g.procs.all PD.ok&&DF g.main
end Bk
namespace Bk
open Go Go.RowKit Go.Proofs
structure VD.wf (v:VD):Prop where
 name:v.name.length≤9223372036854775807
 k0:0≤v.kind
 k1:v.kind≤255
 l0 : -9223372036854775808≤v.len
 l1:v.len≤9223372036854775807
theorem NS {l:List VD} {j:Nat} (h:j<l.length) (hk:l[j].ok=false):FE l=false:=by
 unfold FE
 rw [List.all_eq_false]
 exact ⟨l[j],List.getElem_mem h,by simp [hk]⟩
theorem O1 {l:List VD} (h : ∀j (hj:j<l.length),l[j].ok=true):FE l=true:=by
 unfold FE
 rw [List.all_eq_true];intro x hx;obtain ⟨i,hi,rfl⟩:=List.mem_iff_getElem.1 hx
 exact h i hi
theorem KG (l:List VD) (S:Nat→Prop) (a:Option Addr) (c:Nat) (w:World) (hl:l.length≤9223372036854775807) (hwf : ∀v∈l,v.wf) (hs:VDs S w l a) :
 Calls prog 23 #[.slice a l.length c] w fun e w'=>e = .returned (.bool (FE l))∧Ext w w':=by
 refine Ad func23 ntmps23 rfl rfl (Am (Ah (Ag (Ab (by exact AA rfl) rfl (Aj (Ai (Am (Am (Ah (Ag (Ab (by exact Ap rfl) rfl ?_)))))))))));refine Ag (Ab (by exact AS Aa rfl rfl) rfl (Ag (Ab (by exact Ap rfl) rfl ?_)));refine eK ?_;refine Bn (ι:=Nat) (fun j=>[(7,.int .i64 j),(6,.int .i64 l.length),(5,.slice a l.length c)]) (fun j w'=>Ext w w'∧j≤l.length ∧ ∀i (hi:i<l.length),i<j→l[i].ok=true) (fun j=>l.length-j) 0 sB ⟨Ext.refl _,by omega,by omega⟩ ?_;rintro j w1 ⟨x1,hj,hall⟩;have HA:=Lib.hid hall;clear hall
 by_cases hlt:j<l.length
 · obtain ⟨kb,ko,rfl,-,hkid⟩:=Arr.get (hs.ext x1) (by omega);have rx:Row w1 ⟨kb,ko+j*3,none⟩ l[j].cells:=hkid j l[j] (List.getElem?_eq_getElem hlt);have wf:=hwf l[j] (List.getElem_mem hlt);have g:=wf.name;have HF:l[j].ok=false→FE l=false:=NS hlt;have HN:=Lib.hid HF;clear HF hkid
   generalize hv:l[j]=v at *
   have HE:=Lib.hid hv;clear hv;refine Am (Ah (Ag (Ab (by exact CU rfl rfl) rfl (Aj (Ai (Am (Bi (Cs rfl (by omega) (AH (Ai (Am ?_)))))))))));refine AK (Am (Ah (Ag (Ab (by exact A4 Aa rfl rfl rfl rfl (by omega) (by omega)) rfl (Ag (Ab (by exact BF Aa rfl rfl rfl (by exact fun wz hz=>by (try subst hz);exact ‹_›) (by rfl)) rfl (EM Bj rfl rfl ?_)))))));intro b2 w2 d;refine Fy Aa rfl rfl rfl rfl rfl rfl (d) rfl ?_;clear d w2;intro w2 d;have h2:=d.blk;have x2:=d.ext;refine Aj (Ai (Am (Am (Ah (Ag (Ab (by exact AR Aa rfl rfl rfl) rfl (Ag (Ab (by exact Al Aa rfl rfl rfl (by exact fun wz hz=>by (try subst hz);exact (Blk.cell ‹_› (by rfl)))) rfl (cC rfl (Hx v.name _ g) ?_)))))))));rintro _ w3 ⟨⟨⟩,x3⟩;have b:Ext w w3:=(by refine Ext.trans ?_ ‹_›;refine Ext.trans ?_ ‹_›;assumption);have h3:=h2.ext x3
   cases hnm:Cu v.name
   · try rw [hnm]
     refine Ag (Ab (by exact Cm rfl) rfl (Aj (Ai (Bi (Ec rfl (by rfl) (Am (Ah (Ag (Ab (by exact AA rfl) rfl ?_)))))))));refine eK ?_;refine Af results23 rfl ?_
     exact ⟨AY (HN.out (by simp [VD.ok,hnm])).symm,b⟩
   try rw [hnm]
   by_cases hk:v.kind=1∨v.kind=3
   · by_cases h0:v.len=0
     · have hok:v.ok=true:=by simp [VD.ok,hnm,hk,h0]
       rcases hk with hk|hk
       · refine Ag (Ab (by exact Cm rfl) rfl (Aj (Ai (Bi (Fa rfl (by rfl) (AH (Ai (Am (Ah (Ag (Ab (by exact Aq Aa rfl rfl rfl) rfl ?_)))))))))));refine Ag (Ab (by exact Al Aa rfl rfl rfl (by exact fun wz hz=>by (try subst hz);exact (Blk.cell ‹_› (by rfl)))) rfl (Aj (Ai (AK (Am (Am (Ah (Ag (Ab (by exact B4 rfl rfl) rfl (Ag (Ab (by exact AA rfl) rfl ?_)))))))))));refine Aj (Ai (Bi (Cs rfl ‹_› (AH (Ai (Bi (Cs rfl ‹_› (Am (Ah (Ag (Ab (by exact Aq Aa rfl rfl rfl) rfl ?_)))))))))));refine Ag (Ab (by exact Al Aa rfl rfl rfl (by exact fun wz hz=>by (try subst hz);exact (Blk.cell ‹_› (by rfl)))) rfl (Ag (Ab (by exact Ic rfl rfl) rfl (Aj (Ai (Bi (Cb rfl (by omega) (AH (An (An (Ai ?_)))))))))));refine Ah (Ag (Ab (by exact Ed rfl rfl (IntWalk.i64_in _ (by omega))) rfl (Ag (Ab (by exact Ap rfl) rfl (Aj ?_)))));refine AW (j+1) sB ⟨b,by omega,fun i hi hij=>?_⟩ (by omega)
         by_cases e:i=j
         · subst e
           exact HE.out▸hok
         · exact HA.out i hi (by omega)
       · refine Ag (Ab (by exact Cm rfl) rfl (Aj (Ai (Bi (Fa rfl (by rfl) (AH (Ai (Am (Ah (Ag (Ab (by exact Aq Aa rfl rfl rfl) rfl ?_)))))))))));refine Ag (Ab (by exact Al Aa rfl rfl rfl (by exact fun wz hz=>by (try subst hz);exact (Blk.cell ‹_› (by rfl)))) rfl (Aj (Ai (AK (Am (Am (Ah (Ag (Ab (by exact B4 rfl rfl) rfl (Ag (Ab (by exact AA rfl) rfl ?_)))))))))));refine Aj (Ai (Bi (Cb rfl (by omega) (Ah (Ag (Ab (by exact B4 rfl rfl) rfl (Ag (Ab (by exact AA rfl) rfl (Aj (Ai (Bi ?_)))))))))));refine Cs rfl ‹_› (Am (Ah (Ag (Ab (by exact Aq Aa rfl rfl rfl) rfl (Ag (Ab (by exact Al Aa rfl rfl rfl (by exact fun wz hz=>by (try subst hz);exact (Blk.cell ‹_› (by rfl)))) rfl (Ag (Ab (by exact Ic rfl rfl) rfl (Aj (Ai (Bi ?_)))))))))));refine Cb rfl (by omega) (AH (An (An (Ai (Ah (Ag (Ab (by exact Ed rfl rfl (IntWalk.i64_in _ (by omega))) rfl (Ag (Ab (by exact Ap rfl) rfl (Aj ?_))))))))));refine AW (j+1) sB ⟨b,by omega,fun i hi hij=>?_⟩ (by omega)
         by_cases e:i=j
         · subst e
           exact HE.out▸hok
         · exact HA.out i hi (by omega)
     · have hok:v.ok=false:=by simp [VD.ok,hnm,hk,h0]
       rcases hk with hk|hk
       · refine Ag (Ab (by exact Cm rfl) rfl (Aj (Ai (Bi (Fa rfl (by rfl) (AH (Ai (Am (Ah (Ag (Ab (by exact Aq Aa rfl rfl rfl) rfl ?_)))))))))));refine Ag (Ab (by exact Al Aa rfl rfl rfl (by exact fun wz hz=>by (try subst hz);exact (Blk.cell ‹_› (by rfl)))) rfl (Aj (Ai (AK (Am (Am (Ah (Ag (Ab (by exact B4 rfl rfl) rfl (Ag (Ab (by exact AA rfl) rfl ?_)))))))))));refine Aj (Ai (Bi (Cs rfl ‹_› (AH (Ai (Bi (Cs rfl ‹_› (Am (Ah (Ag (Ab (by exact Aq Aa rfl rfl rfl) rfl ?_)))))))))));refine Ag (Ab (by exact Al Aa rfl rfl rfl (by exact fun wz hz=>by (try subst hz);exact (Blk.cell ‹_› (by rfl)))) rfl (Ag (Ab (by exact Ic rfl rfl) rfl (Aj (Ai (Bi (Cs rfl ‹_› (Am (Ah (Ag (Ab (by exact AA rfl) rfl ?_)))))))))));refine eK ?_;refine Af results23 rfl ?_
         exact ⟨AY (HN.out hok).symm,b⟩
       · refine Ag (Ab (by exact Cm rfl) rfl (Aj (Ai (Bi (Fa rfl (by rfl) (AH (Ai (Am (Ah (Ag (Ab (by exact Aq Aa rfl rfl rfl) rfl ?_)))))))))));refine Ag (Ab (by exact Al Aa rfl rfl rfl (by exact fun wz hz=>by (try subst hz);exact (Blk.cell ‹_› (by rfl)))) rfl (Aj (Ai (AK (Am (Am (Ah (Ag (Ab (by exact B4 rfl rfl) rfl (Ag (Ab (by exact AA rfl) rfl ?_)))))))))));refine Aj (Ai (Bi (Cb rfl (by omega) (Ah (Ag (Ab (by exact B4 rfl rfl) rfl (Ag (Ab (by exact AA rfl) rfl (Aj (Ai (Bi ?_)))))))))));refine Cs rfl ‹_› (Am (Ah (Ag (Ab (by exact Aq Aa rfl rfl rfl) rfl (Ag (Ab (by exact Al Aa rfl rfl rfl (by exact fun wz hz=>by (try subst hz);exact (Blk.cell ‹_› (by rfl)))) rfl (Ag (Ab (by exact Ic rfl rfl) rfl (Aj (Ai (Bi ?_)))))))))));refine Cs rfl ‹_› (Am (Ah (Ag (Ab (by exact AA rfl) rfl ?_))));refine eK ?_;refine Af results23 rfl ?_
         exact ⟨AY (HN.out hok).symm,b⟩
   · have h:v.kind≠1:=fun e=>hk (Or.inl e)
     have k:v.kind≠3:=fun e=>hk (Or.inr e)
     by_cases f:v.kind=2
     · by_cases hlo:v.len<1
       · have hok:v.ok=false:=by simp [VD.ok,hnm,f];omega
         refine Ag (Ab (by exact Cm rfl) rfl (Aj (Ai (Bi (Fa rfl (by rfl) (AH (Ai (Am (Ah (Ag (Ab (by exact Aq Aa rfl rfl rfl) rfl ?_)))))))))));refine Ag (Ab (by exact Al Aa rfl rfl rfl (by exact fun wz hz=>by (try subst hz);exact (Blk.cell ‹_› (by rfl)))) rfl (Aj (Ai (AK (Am (Am (Ah (Ag (Ab (by exact B4 rfl rfl) rfl (Ag (Ab (by exact AA rfl) rfl ?_)))))))))));refine Aj (Ai (Bi (Cb rfl ‹_› (Ah (Ag (Ab (by exact B4 rfl rfl) rfl (Ag (Ab (by exact AA rfl) rfl (Aj (Ai (Bi ?_)))))))))));refine Cb rfl ‹_› (Am (Ah (Ag (Ab (by exact B4 rfl rfl) rfl (Ag (Ab (by exact AA rfl) rfl (Aj (Ai (Bi (Cs rfl ‹_› (Am ?_)))))))))));refine Ah (Ag (Ab (by exact Aq Aa rfl rfl rfl) rfl (Ag (Ab (by exact Al Aa rfl rfl rfl (by exact fun wz hz=>by (try subst hz);exact (Blk.cell ‹_› (by rfl)))) rfl (Ag (Ab (by exact CU rfl rfl) rfl (Ag (Ab (by exact Ap rfl) rfl (Ay (A7 rfl rfl rfl ‹_› rfl (Ay ?_)))))))))));refine A7 rfl rfl rfl ‹_› rfl (Ay (A7 rfl rfl rfl ‹_› rfl (Ag (Ab (by exact BO rfl rfl ‹_›) rfl (Aj (Ai (Bi (Ec rfl (by rfl) (Am (Ah (Ag ?_)))))))))))
         refine Ab (by exact AA rfl) rfl ?_;refine eK ?_;refine Af results23 rfl ?_
         exact ⟨AY (HN.out hok).symm,b⟩
       · by_cases hhi:16<v.len
         · have hok:v.ok=false:=by simp [VD.ok,hnm,f];omega
           refine Ag (Ab (by exact Cm rfl) rfl (Aj (Ai (Bi (Fa rfl (by rfl) (AH (Ai (Am (Ah (Ag (Ab (by exact Aq Aa rfl rfl rfl) rfl ?_)))))))))));refine Ag (Ab (by exact Al Aa rfl rfl rfl (by exact fun wz hz=>by (try subst hz);exact (Blk.cell ‹_› (by rfl)))) rfl (Aj (Ai (AK (Am (Am (Ah (Ag (Ab (by exact B4 rfl rfl) rfl (Ag (Ab (by exact AA rfl) rfl ?_)))))))))));refine Aj (Ai (Bi (Cb rfl ‹_› (Ah (Ag (Ab (by exact B4 rfl rfl) rfl (Ag (Ab (by exact AA rfl) rfl (Aj (Ai (Bi ?_)))))))))));refine Cb rfl ‹_› (Am (Ah (Ag (Ab (by exact B4 rfl rfl) rfl (Ag (Ab (by exact AA rfl) rfl (Aj (Ai (Bi (Cs rfl ‹_› (Am ?_)))))))))));refine Ah (Ag (Ab (by exact Aq Aa rfl rfl rfl) rfl (Ag (Ab (by exact Al Aa rfl rfl rfl (by exact fun wz hz=>by (try subst hz);exact (Blk.cell ‹_› (by rfl)))) rfl (Ag (Ab (by exact CU rfl rfl) rfl (Ag (Ab (by exact Ap rfl) rfl (Ay (AV rfl rfl rfl ‹_› (Ag ?_)))))))))));refine Ab (by exact Aq Aa rfl rfl rfl) rfl (Ay (AV rfl rfl rfl ‹_› (Ag (Ab (by exact Al Aa rfl rfl rfl (by exact fun wz hz=>by (try subst hz);exact (Blk.cell ‹_› (by rfl)))) rfl (Ay (AV rfl rfl rfl ‹_› (Ag (Ab (by exact B5 rfl rfl) rfl (Ag (Ab (by exact Bo rfl rfl ‹_›) rfl (Aj ?_)))))))))))
           refine Ai (Bi (Cs rfl ‹_› (Am (Ah (Ag (Ab (by exact AA rfl) rfl ?_))))));refine eK ?_;refine Af results23 rfl ?_
           exact ⟨AY (HN.out hok).symm,b⟩
         · have hok:v.ok=true:=by simp [VD.ok,hnm,f];omega
           refine Ag (Ab (by exact Cm rfl) rfl (Aj (Ai (Bi (Fa rfl (by rfl) (AH (Ai (Am (Ah (Ag (Ab (by exact Aq Aa rfl rfl rfl) rfl ?_)))))))))));refine Ag (Ab (by exact Al Aa rfl rfl rfl (by exact fun wz hz=>by (try subst hz);exact (Blk.cell ‹_› (by rfl)))) rfl (Aj (Ai (AK (Am (Am (Ah (Ag (Ab (by exact B4 rfl rfl) rfl (Ag (Ab (by exact AA rfl) rfl ?_)))))))))));refine Aj (Ai (Bi (Cb rfl ‹_› (Ah (Ag (Ab (by exact B4 rfl rfl) rfl (Ag (Ab (by exact AA rfl) rfl (Aj (Ai (Bi ?_)))))))))));refine Cb rfl ‹_› (Am (Ah (Ag (Ab (by exact B4 rfl rfl) rfl (Ag (Ab (by exact AA rfl) rfl (Aj (Ai (Bi (Cs rfl ‹_› (Am ?_)))))))))));refine Ah (Ag (Ab (by exact Aq Aa rfl rfl rfl) rfl (Ag (Ab (by exact Al Aa rfl rfl rfl (by exact fun wz hz=>by (try subst hz);exact (Blk.cell ‹_› (by rfl)))) rfl (Ag (Ab (by exact CU rfl rfl) rfl (Ag (Ab (by exact Ap rfl) rfl (Ay (AV rfl rfl rfl ‹_› (Ag ?_)))))))))));refine Ab (by exact Aq Aa rfl rfl rfl) rfl (Ay (AV rfl rfl rfl ‹_› (Ag (Ab (by exact Al Aa rfl rfl rfl (by exact fun wz hz=>by (try subst hz);exact (Blk.cell ‹_› (by rfl)))) rfl (Ay (AV rfl rfl rfl ‹_› (Ag (Ab (by exact B5 rfl rfl) rfl (Ag (Ab (by exact Bo rfl rfl ‹_›) rfl (Aj ?_)))))))))))
           refine Ai (Bi (Cb rfl ‹_› (AH (An (An (Ai (Ah (Ag (Ab (by exact Ed rfl rfl (IntWalk.i64_in _ (by omega))) rfl (Ag (Ab (by exact Ap rfl) rfl ?_)))))))))));refine Aj ?_;refine AW (j+1) sB ⟨b,by omega,fun i hi hij=>?_⟩ (by omega)
           by_cases e:i=j
           · subst e
             exact HE.out▸hok
           · exact HA.out i hi (by omega)
     · have hok:v.ok=false:=by simp [VD.ok,hnm,h,f,k]
       refine Ag (Ab (by exact Cm rfl) rfl (Aj (Ai (Bi (Fa rfl (by rfl) (AH (Ai (Am (Ah (Ag (Ab (by exact Aq Aa rfl rfl rfl) rfl ?_)))))))))));refine Ag (Ab (by exact Al Aa rfl rfl rfl (by exact fun wz hz=>by (try subst hz);exact (Blk.cell ‹_› (by rfl)))) rfl (Aj (Ai (AK (Am (Am (Ah (Ag (Ab (by exact B4 rfl rfl) rfl (Ag (Ab (by exact AA rfl) rfl ?_)))))))))));refine Aj (Ai (Bi (Cb rfl ‹_› (Ah (Ag (Ab (by exact B4 rfl rfl) rfl (Ag (Ab (by exact AA rfl) rfl (Aj (Ai (Bi ?_)))))))))));refine Cb rfl ‹_› (Am (Ah (Ag (Ab (by exact B4 rfl rfl) rfl (Ag (Ab (by exact AA rfl) rfl (Aj (Ai (Bi (Cb rfl ‹_› (Am ?_)))))))))));refine Ah (Ag (Ab (by exact AA rfl) rfl ?_));refine eK ?_;refine Af results23 rfl ?_
       exact ⟨AY (HN.out hok).symm,b⟩
 · refine Am (Ah (Ag (Ab (by exact CU rfl rfl) rfl (Aj (Ai (Am (Bi (Cb rfl (by omega) (Ds (A5 (A5 ?_)))))))))));refine Bw (Ai (Am (Ah (Ag (Ab (by exact AA rfl) rfl ?_)))));refine eK ?_;refine Af results23 rfl ?_
   exact ⟨AY (O1 (fun i hi=>HA.out i hi (by omega))).symm,x1⟩
mutual
theorem MC : ∀(t:Nd) (d m:Int),0≤m→0≤(t.lim d m).2∧(t.lim d m).2≤m
 | .mk _ _ s l,d,m,hm=>by
  simp only [Nd.lim]
  split
  · exact ⟨hm,Int.le_refl _⟩
  · have:=LY l (d-1) (m-1) (by omega)
    omega
theorem LY : ∀(l:List Nd) (d m:Int),0≤m→0≤(C4 l d m).2∧(C4 l d m).2≤m
 | [],d,m,hm=>by simp only [C4];omega
 | t::r,d,m,hm=>by
  have h1:=MC t d m hm;simp only [C4]
  split
  · have:=LY r d (t.lim d m).2 h1.1
    omega
  · omega
end
theorem NT (l:List Nd) (j:Nat) (h:j<l.length) (d m:Int):C4 (l.drop j) d m=if (l[j].lim d m).1 then C4 (l.drop (j+1)) d (l[j].lim d m).2 else (false,(l[j].lim d m).2):=by
 rw [List.drop_eq_getElem_cons h,C4]
theorem Ri (N:Nat) : ∀(t:Nd) (S:Nat→Prop) (a:Option Addr) (c:Nat) (d m:Int) (lb:Nat) (w:World),t.size<N→t.wf→0≤d→d≤1000000→0≤m→m≤1000000→t.sits S w a → ¬S lb→Blk w lb [.int .i64 m] →
 Calls Tryz.prog 53 #[t.val a c,.int .i64 d,.pointer (some ⟨lb,0,none⟩)] w fun e w'=>e = .returned (.bool (t.lim d m).1)∧Blk w' lb [.int .i64 (t.lim d m).2]∧Fr (· = lb) w w':=by
 induction N with
 | zero=>intro t S a c d m lb w h;omega
 | succ N ih=>
  intro t S a c d m lb w hN hwf D E F G hs hS hb;have IH:=Lib.hid ih;clear ih;obtain ⟨k,n,s,l⟩:=t;simp only [Nd.wf,Nd.size] at hwf hN;simp only [Nd.val,Nd.kind,Nd.num,Nd.name,Nd.kids,Nd.lim];simp only [Nd.sits] at hs;obtain ⟨-,-,-,-,-,hll,hrw⟩:=hwf;have hlbw:=hb.lt
  by_cases hq:d=0∨m=0
  · rw [if_pos hq];refine Ad Tryz.func53 Tryz.ntmps53 rfl rfl ?_;refine eK ?_;refine IY rfl rfl rfl ?_;intro b1 w1 f;have h1:=f.blk;have x1:=f.ext;have o:=hb.ext x1
    by_cases hd:d=0
    · refine Ag (Ab (by exact AA rfl) rfl (Aj (Ai (Am (Am (Ah (Ag (Ab (by exact Ap rfl) rfl (Ag (Ab (by exact B4 rfl rfl) rfl (Ag ?_)))))))))));refine Ab (by exact Ap rfl) rfl (Ay (A7 rfl rfl rfl (by assumption) rfl (Ay (A7 rfl rfl rfl (by assumption) rfl (Ay (A7 rfl rfl rfl (by assumption) rfl (Ay (A7 rfl rfl rfl (by assumption) rfl (Ag (Ab (by exact BO rfl rfl (by assumption)) rfl (Aj ?_)))))))))));refine Ai (Bi (Ec rfl (by rfl) (Am (Ah (Ag (Ab (by exact AA rfl) rfl ?_))))));refine eK ?_;refine Af Tryz.results53 rfl ?_
      exact ⟨rfl,o,.of_ext x1⟩
    · have hm:m=0:=by omega
      refine Ag (Ab (by exact AA rfl) rfl (Aj (Ai (Am (Am (Ah (Ag (Ab (by exact Ap rfl) rfl (Ag (Ab (by exact B4 rfl rfl) rfl (Ag ?_)))))))))));refine Ab (by exact Ap rfl) rfl (Ay (AV rfl rfl rfl (by assumption) (Ag (Ab (by exact Ap rfl) rfl (Ay (AV rfl rfl rfl (by assumption) (Ag (Ab (by exact A6 rfl) rfl (Ay (AV rfl rfl rfl (by assumption) (Ag ?_)))))))))));refine Ab (by exact Al Aa rfl rfl rfl (by exact fun wz hz=>by (try subst hz);exact (Blk.cell (by assumption) (by rfl)))) rfl (Ay (AV rfl rfl rfl (by assumption) (Ag (Ab (by exact B4 rfl rfl) rfl (Ag (Ab (by exact Bo rfl rfl (by assumption)) rfl (Aj (Ai (Bi (Cs rfl (by assumption) (Am ?_)))))))))));refine Ah (Ag (Ab (by exact AA rfl) rfl ?_));refine eK ?_;refine Af Tryz.results53 rfl ?_
      exact ⟨rfl,o,.of_ext x1⟩
  · rw [if_neg hq]
    have hd:d≠0:=fun e=>hq (Or.inl e)
    have hm:m≠0:=fun e=>hq (Or.inr e)
    clear hq;refine Ad Tryz.func53 Tryz.ntmps53 rfl rfl ?_;refine eK ?_;refine IY rfl rfl rfl ?_;intro b1 w1 f;have h1:=f.blk;have x1:=f.ext;have p1:=f.pos;have o:=hb.ext x1;have z:=hs.ext x1;refine Ag (Ab (by exact AA rfl) rfl (Aj (Ai (Am (Am (Ah (Ag (Ab (by exact Ap rfl) rfl (Ag (Ab (by exact B4 rfl rfl) rfl (Ag ?_)))))))))));refine Ab (by exact Ap rfl) rfl (Ay (AV rfl rfl rfl (by assumption) (Ag (Ab (by exact Ap rfl) rfl (Ay (AV rfl rfl rfl (by assumption) (Ag (Ab (by exact A6 rfl) rfl (Ay (AV rfl rfl rfl (by assumption) (Ag ?_)))))))))));refine Ab (by exact Al Aa rfl rfl rfl (by exact fun wz hz=>by (try subst hz);exact (Blk.cell (by assumption) (by rfl)))) rfl (Ay (AV rfl rfl rfl (by assumption) (Ag (Ab (by exact B4 rfl rfl) rfl (Ag (Ab (by exact Bo rfl rfl (by assumption)) rfl (Aj (Ai (Bi (Cb rfl (by assumption) (AH ?_)))))))))));refine Ai (Am (Ah (Ag (Ab (by exact Ap rfl) rfl (Ag (Ab (by exact A6 rfl) rfl (Ag (Ab (by exact Al Aa rfl rfl rfl (by exact fun wz hz=>by (try subst hz);exact (Blk.cell (by assumption) (by rfl)))) rfl (Ag (Ab (by exact Bs rfl rfl (IntWalk.i64_in _ (by omega))) rfl (Ag ?_)))))))))));refine Ab (by exact A6 rfl) rfl (Id Aa rfl rfl rfl rfl rfl rfl (o) rfl ?_)
    intro w2 g;have A:Blk w2 lb [.int .i64 (m-1)]:=g.blk;have h2:=h1.put g (by omega);have q:rowSits S w2 l a:=z.fr g.fr (fun b hb e=>hS (e▸hb));have f2:Fr (· = lb) w w2:=(Fr.of_ext x1).trans g.fr
    have H:w2.heap.size=b1+1:=by rw [g.size,f.size]
    clear g f;have HS2:=Lib.hid q;clear q;refine Aj (Ai (Am (Am (Ah (Ag (Ab (by exact Aq Aa rfl rfl rfl) rfl (Ag (Ab (by exact Al Aa rfl rfl rfl (by exact fun wz hz=>by (try subst hz);exact (Blk.cell (by assumption) (by rfl)))) rfl (Ag (Ab (by exact AS Aa rfl rfl) rfl (Ag ?_)))))))))));refine Ab (by exact Ap rfl) rfl ?_;refine eK ?_;refine Bn (ι:=Nat) (fun x=>[(25,.int .i64 x),(24,.int .i64 l.length),(23,.slice a l.length c),(2,.pointer (some ⟨lb,0,none⟩)),(1,.int .i64 d)]) (fun x w'=>Fr (· = lb) w2 w'∧x≤l.length ∧ ∃mj,Blk w' lb [.int .i64 mj]∧0≤mj∧mj≤1000000∧C4 l (d-1) (m-1)=C4 (l.drop x) (d-1) mj) (fun x=>l.length-x) 0 sB ⟨Fr.refl _ _,Nat.zero_le _,m-1,A,by omega,by omega,rfl⟩ ?_;rintro j w3 ⟨f3,hj,mj,r,p,u,hrl⟩;have HR:=Lib.hid hrl;clear hrl
    by_cases hlt:j<l.length
    · have B:rowSits S w3 l a:=HS2.out.fr f3 (fun b hb e=>hS (e▸hb));obtain ⟨kb,ko,rfl,hkS,hkid⟩:=Cv B (by intro e;subst e;simp at hlt);obtain ⟨xa,xc,rx,sx⟩:=hkid j l[j] (List.getElem?_eq_getElem hlt);have hxw:=Ce hrw l[j] (List.getElem_mem hlt);have hxs:=Dw (List.getElem_mem hlt);have HD:=Lib.hid (NT l j hlt (d-1) mj);clear hkid
      generalize l[j]=x at *
      have hml:=MC x (d-1) mj p;refine Am (Ah (Ag (Ab (by exact CU rfl rfl) rfl (Aj (Ai (Am (Bi (Cs rfl (by omega) (AH (Ai (Am ?_)))))))))));refine AK (Am (Ah (Ag (Ab (by exact A4 Aa rfl rfl rfl rfl (by omega) (by omega)) rfl (Ag (Ab (by exact BF Aa rfl rfl rfl (by exact fun wz hz=>by (try subst hz);exact (by assumption)) (by rfl)) rfl (EM Bj rfl rfl ?_)))))));intro b4 w4 i;refine Fy Aa rfl rfl rfl rfl rfl rfl (i) rfl ?_;clear i w4;intro w4 i;have h4:=i.blk;have x4:=i.ext;have C:=r.ext x4;refine Aj (Ai (Am (Ah (Ag (Ab (by exact BF Aa rfl rfl rfl (by exact fun wz hz=>by (try subst hz);exact (Blk.row (by assumption))) (by rfl)) rfl (Ag (Ab (by exact Ap rfl) rfl (Ag (Ab (by exact Bs rfl rfl (IntWalk.i64_in _ (by omega))) rfl (Ag (Ab (by exact Ap rfl) rfl ?_)))))))))));refine cC rfl (IH.out x S xa xc (d-1) mj lb _ (by omega) hxw (by omega) (by omega) p u (sx.ext x4) hS C) ?_;rintro _ w5 ⟨⟨⟩,v,f5⟩;have y:Fr (· = lb) w2 w5:=f3.trans ((Fr.of_ext x4).trans f5)
      cases hq:(x.lim (d-1) mj).1
      · try rw [hq]
        refine Ag (Ab (by exact Cm rfl) rfl (Aj (Ai (Bi (Ec rfl (by rfl) (Am (Ah (Ag (Ab (by exact AA rfl) rfl ?_)))))))));refine eK ?_;refine Af Tryz.results53 rfl ?_;rw [HR.out,HD.out,hq]
        exact ⟨rfl,v,f2.trans y⟩
      · try rw [hq]
        refine Ag (Ab (by exact Cm rfl) rfl (Aj (Ai (Bi (Fa rfl (by rfl) (AH (An (Ai (Ah (Ag (Ab (by exact Ed rfl rfl (IntWalk.i64_in _ (by omega))) rfl ?_)))))))))));refine Ag (Ab (by exact Ap rfl) rfl (Aj ?_));refine AW (j+1) sB ⟨y,by omega,(x.lim (d-1) mj).2,v,hml.1,by omega,?_⟩ (by omega);rw [HR.out,HD.out,hq]
        rfl
    · refine Am (Ah (Ag (Ab (by exact CU rfl rfl) rfl (Aj (Ai (Am (Bi (Cb rfl (by omega) (Ds (A5 (A5 ?_)))))))))));refine Bw (Ai (Am (Ah (Ag (Ab (by exact AA rfl) rfl ?_)))));refine eK ?_;refine Af Tryz.results53 rfl ?_;have:l.drop j=[]:=List.drop_eq_nil_of_le (by omega);rw [HR.out,this]
      exact ⟨rfl,r,f2.trans f3⟩
theorem Ext.fr1 {a b c:World} {lb:Nat} (h:Ext a b) (k:Fr (· = lb) b c) (hl:a.heap.size≤lb):Ext a c:=
 ⟨k.os.trans (Below.os h),k.tape.trans (Below.tape h),k.output.trans (Below.output h),Nat.le_trans h.size k.size,fun i hi=>(k.block i (Nat.lt_of_lt_of_le hi h.size) (by omega)).trans (h.block hi)⟩
theorem SL {S:Nat→Prop} {w:World} (t:Nd) (a:Option Addr) (h:t.sits S w a):t.sits (fun b=>S b∧b<w.heap.size) w a:=by
 have key : ∀N:Nat,(∀(l:List Nd) (a:Option Addr),Au l<N→rowSits S w l a→rowSits (fun b=>S b∧b<w.heap.size) w l a):=by
  intro N
  induction N with
  | zero=>intro l a h;omega
  | succ N ih=>
   intro l a hN h
   cases l with
   | nil=>simp [rowSits]
   | cons x r=>
    simp only [rowSits] at h ⊢;obtain ⟨b,o,a',c,rfl,hS,h0,h1,h2,h3,hs,hr⟩:=h;have hb:=Ca h0;simp only [Au] at hN;have hx:=Nd.size_pos x;obtain ⟨k,n,s,l⟩:=x;simp only [Nd.size] at hN;refine ⟨b,o,a',c,rfl,⟨hS,hb⟩,h0,h1,h2,h3,?_,ih r _ (by omega) hr⟩;simp only [Nd.sits] at hs ⊢
    exact ih l a' (by omega) hs
 obtain ⟨k,n,s,l⟩:=t;simp only [Nd.sits] at h ⊢
 exact key (Au l+1) l a (by omega) h
theorem NU (t:Nd) (S:Nat→Prop) (a:Option Addr) (c:Nat) (w:World) (hwf:t.wf) (hs:t.sits S w a) :
 Calls prog 25 #[t.val a c] w fun e w'=>e = .returned (.bool (DF t))∧Ext w w':=by
 have hsl:=SL t a hs;refine Ad func25 ntmps25 rfl rfl ?_;refine eK ?_;refine IY rfl rfl rfl ?_;intro b1 w1 f;have h1:=f.blk;have x1:=f.ext;have p1:=f.pos;have z1:=f.size;refine Ag (Ab (by exact AA rfl) rfl ?_);refine eK ?_;refine EM Bj rfl rfl ?_;intro b2 w2 d;refine Fy Aa rfl rfl rfl rfl rfl rfl (d) rfl ?_;clear d w2;intro w2 d;have x2:=d.ext;have h2:=h1.ext x2;have b2p:=d.pos;refine Aj (Ai (Am (Ah (Ag (Ab (by exact BF Aa rfl rfl rfl (by exact fun wz hz=>by (try subst hz);exact (Blk.row ‹_›)) (by rfl)) rfl ?_)))));refine cC rfl (Ri (t.size+1) t _ a c 80 2000 b2 _ (by omega) hwf (by omega) (by omega) (by omega) (by omega) (hsl.ext (by refine Ext.trans ?_ ‹_›;assumption)) (fun h=>by omega) d.blk) ?_;rintro _ w3 ⟨⟨⟩,-,f3⟩;have x3:Ext w w3:=Ext.fr1 (b:=w2) (by refine Ext.trans ?_ ‹_›;assumption) f3 (by omega);have h3:=h2.fr f3 (by omega)
 cases hq:(t.lim 80 2000).1
 · try rw [hq]
   refine Ag (Ab (by exact Ap rfl) rfl (Ay (By rfl rfl rfl (by rfl) rfl (Ay (By rfl rfl rfl (by rfl) rfl (Ag (Ab (by exact Bh rfl rfl (by rfl)) rfl (Ag (Ab (by exact AA rfl) rfl ?_)))))))));refine eK ?_;refine Af results25 rfl ?_
   exact ⟨AY (by simp [DF,hq]),x3⟩
 · try rw [hq]
   refine Ag (Ab (by exact Ap rfl) rfl (Ay (BR rfl rfl rfl (by rfl) (Ag (Ab (by exact BF Aa rfl rfl rfl (by exact fun wz hz=>by (try subst hz);exact (Blk.row ‹_›)) (by rfl)) rfl (Ay (BR rfl rfl rfl (by rfl) (cC rfl (LF S t hwf a c _ (hs.ext x3)) ?_))))))));rintro _ w4 ⟨⟨⟩,x4⟩;refine Ag (Ab (by exact A0 rfl rfl (by rfl)) rfl (Ag (Ab (by exact AA rfl) rfl ?_)));refine eK ?_;refine Af results25 rfl ?_
   exact ⟨AY (by simp [DF,hq]),x3.trans x4⟩
structure PD.wf (p:PD):Prop where
 name:p.name.length≤9223372036854775807
 len:p.params.length≤9223372036854775807
 params : ∀v∈p.params,v.wf
 body:p.body.wf
structure PG.wf (g:PG):Prop where
 nv:g.vars.length≤9223372036854775807
 np:g.procs.length≤9223372036854775807
 vars : ∀v∈g.vars,v.wf
 procs : ∀p∈g.procs,p.wf
 main:g.main.wf
theorem NV {l:List PD} {j:Nat} (h:j<l.length) (hk:l[j].ok=false):l.all PD.ok=false:=by
 rw [List.all_eq_false]
 exact ⟨l[j],List.getElem_mem h,by simp [hk]⟩
theorem O2 {l:List PD} (h : ∀j (hj:j<l.length),l[j].ok=true):l.all PD.ok=true:=by
 rw [List.all_eq_true];intro x hx;obtain ⟨i,hi,rfl⟩:=List.mem_iff_getElem.1 hx
 exact h i hi
theorem Uq (g:PG) (S:Nat→Prop) (va:Option Addr) (vc:Nat) (pa:Option Addr) (pc:Nat) (ma:Option Addr) (mc:Nat) (w:World) (hwf:g.wf) (hs:g.sits S w va pa ma) :
 Calls Tryz.prog 8 #[.agg (g.cells va vc pa pc ma mc).toArray] w fun e w'=>e = .returned (.bool g.ok)∧Ext w w':=by
 have hnv:=hwf.nv;have hnp:=hwf.np;refine Ad Tryz.func8 Tryz.ntmps8 rfl rfl ?_;refine Am ?_;refine Ah ?_;refine IY rfl rfl rfl ?_;intro b1 w1 l;have h1:=l.blk;have x1:=l.ext
 by_cases c1:32<g.vars.length
 · refine Ag ?_;refine Ab (by exact AA rfl) rfl ?_;refine Aj ?_;refine Ai ?_;refine Am ?_;refine Am ?_;refine Ah ?_;refine Ag ?_;refine Ab (by exact AR Aa rfl rfl rfl) rfl ?_;refine Ag ?_;refine Ab (by exact Al Aa rfl rfl rfl (by exact fun wz hz=>by (try subst hz);exact (Blk.cell (by assumption) (by rfl)))) rfl ?_;refine Ag ?_;refine Ab (by exact AS Aa rfl rfl) rfl ?_;refine Ag ?_;refine Ab (by exact B5 rfl rfl) rfl ?_;refine Ag ?_;refine Ab (by exact Ap rfl) rfl ?_;refine Ay ?_;refine A7 rfl rfl rfl (by omega) rfl ?_;refine Ay ?_;refine A7 rfl rfl rfl (by omega) rfl ?_;refine Ay ?_;refine A7 rfl rfl rfl (by omega) rfl ?_;refine Ay ?_;refine A7 rfl rfl rfl (by omega) rfl ?_;refine Ag ?_;refine Ab (by exact BO rfl rfl (by omega)) rfl ?_;refine Ag ?_;refine Ab (by exact Ap rfl) rfl ?_;refine Ay ?_;refine By rfl rfl rfl (by rfl) rfl ?_;refine Ay ?_;refine By rfl rfl rfl (by rfl) rfl ?_;refine Ay ?_;refine By rfl rfl rfl (by rfl) rfl ?_;refine Ay ?_;refine By rfl rfl rfl (by rfl) rfl ?_;refine Ag ?_;refine Ab (by exact A0 rfl rfl (by rfl)) rfl ?_;refine Aj ?_;refine Ai ?_;refine Bi ?_;refine Ec rfl (by rfl) ?_;refine Am ?_;refine Ah ?_;refine Ag ?_;refine Ab (by exact AA rfl) rfl ?_
   refine Aj ?_;refine Ai ?_;refine B6 ?_;refine AI ?_;refine Af Tryz.results8 rfl ?_
   exact ⟨AY (by simp [PG.ok];omega),x1⟩
 by_cases c2:64<g.procs.length
 · refine Ag ?_;refine Ab (by exact AA rfl) rfl ?_;refine Aj ?_;refine Ai ?_;refine Am ?_;refine Am ?_;refine Ah ?_;refine Ag ?_;refine Ab (by exact AR Aa rfl rfl rfl) rfl ?_;refine Ag ?_;refine Ab (by exact Al Aa rfl rfl rfl (by exact fun wz hz=>by (try subst hz);exact (Blk.cell (by assumption) (by rfl)))) rfl ?_;refine Ag ?_;refine Ab (by exact AS Aa rfl rfl) rfl ?_;refine Ag ?_;refine Ab (by exact B5 rfl rfl) rfl ?_;refine Ag ?_;refine Ab (by exact Ap rfl) rfl ?_;refine Ay ?_;refine AV rfl rfl rfl (by omega) ?_;refine Ag ?_;refine Ab (by exact Aq Aa rfl rfl rfl) rfl ?_;refine Ay ?_;refine AV rfl rfl rfl (by omega) ?_;refine Ag ?_;refine Ab (by exact Al Aa rfl rfl rfl (by exact fun wz hz=>by (try subst hz);exact (Blk.cell (by assumption) (by rfl)))) rfl ?_;refine Ay ?_;refine AV rfl rfl rfl (by omega) ?_;refine Ag ?_;refine Ab (by exact AS Aa rfl rfl) rfl ?_;refine Ay ?_;refine AV rfl rfl rfl (by omega) ?_;refine Ag ?_;refine Ab (by exact B5 rfl rfl) rfl ?_;refine Ag ?_;refine Ab (by exact Bo rfl rfl (by omega)) rfl ?_;refine Ag ?_;refine Ab (by exact Ap rfl) rfl ?_;refine Ay ?_;refine A7 rfl rfl rfl (by omega) rfl ?_;refine Ay ?_;refine A7 rfl rfl rfl (by omega) rfl ?_
   refine Ay ?_;refine A7 rfl rfl rfl (by omega) rfl ?_;refine Ay ?_;refine A7 rfl rfl rfl (by omega) rfl ?_;refine Ag ?_;refine Ab (by exact BO rfl rfl (by omega)) rfl ?_;refine Aj ?_;refine Ai ?_;refine Bi ?_;refine Ec rfl (by rfl) ?_;refine Am ?_;refine Ah ?_;refine Ag ?_;refine Ab (by exact AA rfl) rfl ?_;refine Aj ?_;refine Ai ?_;refine B6 ?_;refine AI ?_;refine Af Tryz.results8 rfl ?_
   exact ⟨AY (by simp [PG.ok];omega),x1⟩
 refine Ag ?_;refine Ab (by exact AA rfl) rfl ?_;refine Aj ?_;refine Ai ?_;refine Am ?_;refine Am ?_;refine Ah ?_;refine Ag ?_;refine Ab (by exact AR Aa rfl rfl rfl) rfl ?_;refine Ag ?_;refine Ab (by exact Al Aa rfl rfl rfl (by exact fun wz hz=>by (try subst hz);exact (Blk.cell (by assumption) (by rfl)))) rfl ?_;refine Ag ?_;refine Ab (by exact AS Aa rfl rfl) rfl ?_;refine Ag ?_;refine Ab (by exact B5 rfl rfl) rfl ?_;refine Ag ?_;refine Ab (by exact Ap rfl) rfl ?_;refine Ay ?_;refine AV rfl rfl rfl (by omega) ?_;refine Ag ?_;refine Ab (by exact Aq Aa rfl rfl rfl) rfl ?_;refine Ay ?_;refine AV rfl rfl rfl (by omega) ?_;refine Ag ?_;refine Ab (by exact Al Aa rfl rfl rfl (by exact fun wz hz=>by (try subst hz);exact (Blk.cell (by assumption) (by rfl)))) rfl ?_;refine Ay ?_;refine AV rfl rfl rfl (by omega) ?_;refine Ag ?_;refine Ab (by exact AS Aa rfl rfl) rfl ?_;refine Ay ?_;refine AV rfl rfl rfl (by omega) ?_;refine Ag ?_;refine Ab (by exact B5 rfl rfl) rfl ?_;refine Ag ?_;refine Ab (by exact Bo rfl rfl (by omega)) rfl ?_;refine Ag ?_;refine Ab (by exact Ap rfl) rfl ?_;refine Ay ?_;refine AV rfl rfl rfl (by omega) ?_;refine Ag ?_;refine Ab (by exact AR Aa rfl rfl rfl) rfl ?_
 refine Ay ?_;refine AV rfl rfl rfl (by omega) ?_;refine Ag ?_;refine Ab (by exact Al Aa rfl rfl rfl (by exact fun wz hz=>by (try subst hz);exact (Blk.cell (by assumption) (by rfl)))) rfl ?_;refine Ay ?_;refine AV rfl rfl rfl (by omega) ?_;refine cC rfl (KG g.vars S va vc _ hnv hwf.vars (hs.vars.ext x1)) ?_;rintro _ w2 ⟨⟨⟩,x2⟩
 cases hq:FE g.vars
 · try rw [hq]
   refine Ay ?_;refine AV rfl rfl rfl (by omega) ?_;refine Ag ?_;refine Ab (by exact Cm rfl) rfl ?_;refine Ag ?_;refine Ab (by exact Bo rfl rfl (by omega)) rfl ?_;refine Aj ?_;refine Ai ?_;refine Bi ?_;refine Ec rfl (by rfl) ?_;refine Am ?_;refine Ah ?_;refine Ag ?_;refine Ab (by exact AA rfl) rfl ?_;refine Aj ?_;refine Ai ?_;refine B6 ?_;refine AI ?_;refine Af Tryz.results8 rfl ?_
   exact ⟨AY (by simp [PG.ok,hq]),x1.trans x2⟩
 try rw [hq]
 have h2:=h1.ext x2;refine Ay ?_;refine AV rfl rfl rfl (by omega) ?_;refine Ag ?_;refine Ab (by exact Cm rfl) rfl ?_;refine Ag ?_;refine Ab (by exact Bo rfl rfl (by omega)) rfl ?_;refine Aj ?_;refine Ai ?_;refine Bi ?_;refine Fa rfl (by rfl) ?_;refine AH ?_;refine Ai ?_;refine Am ?_;refine Am ?_;refine Ah ?_;refine Ag ?_;refine Ab (by exact Aq Aa rfl rfl rfl) rfl ?_;refine Ag ?_;refine Ab (by exact Al Aa rfl rfl rfl (by exact fun wz hz=>by (try subst hz);exact (Blk.cell (by assumption) (by rfl)))) rfl ?_;refine Ag ?_;refine Ab (by exact AS Aa rfl rfl) rfl ?_;refine Ag ?_;refine Ab (by exact Ap rfl) rfl ?_;refine Aj ?_;refine Ai ?_;refine AK ?_;refine Bn (ι:=Nat) (fun j=>[(24,.int .i64 j),(23,.int .i64 g.procs.length),(22,.slice pa g.procs.length pc),(1,.pointer (some ⟨b1,0,none⟩))]) (fun j w'=>Ext w2 w'∧j≤g.procs.length ∧ ∀i (hi:i<g.procs.length),i<j→g.procs[i].ok=true) (fun j=>g.procs.length-j) 0 sB ⟨Ext.refl _,by omega,by omega⟩ ?_;rintro j w3 ⟨x3,hj,hall⟩;have HA:=Lib.hid hall;clear hall;have b:Ext w w3:=(by refine Ext.trans ?_ (by assumption);refine Ext.trans ?_ (by assumption);assumption)
 by_cases hlt:j<g.procs.length
 · have hps:PDs S w3 g.procs pa:=hs.procs.ext b;obtain ⟨kb,ko,rfl,-,hkid⟩:=Arr.get hps (by omega);obtain ⟨qa,qc,ba,bc,rx,sv,sb⟩:=hkid j g.procs[j] (List.getElem?_eq_getElem hlt);have wf:=hwf.procs g.procs[j] (List.getElem_mem hlt);have n:=wf.name;have o:=wf.len;have HN:=Lib.hid (NV hlt);clear hkid
   generalize hv:g.procs[j]=p at *
   have HE:=Lib.hid hv;clear hv;refine Am ?_;refine Ah ?_;refine Ag ?_;refine Ab (by exact CU rfl rfl) rfl ?_;refine Aj ?_;refine Ai ?_;refine Am ?_;refine Bi ?_;refine Cs rfl (by omega) ?_;refine AH ?_;refine Ai ?_;refine Am ?_;refine AK ?_;refine Am ?_;refine Ah ?_;refine Ag ?_;refine Ab (by exact A4 Aa rfl rfl rfl rfl (by omega) (by omega)) rfl ?_;refine Ag ?_;refine Ab (by exact BF Aa rfl rfl rfl (by exact fun wz hz=>by (try subst hz);exact (by assumption)) (by rfl)) rfl ?_;refine EM Bj rfl rfl ?_;intro b4 w4 a;refine Fy Aa rfl rfl rfl rfl rfl rfl (a) rfl ?_;clear a w4;intro w4 a;have h4:=a.blk;have x4:=a.ext;refine Aj ?_;refine Ai ?_;refine Am ?_;refine Ah ?_;refine Ag ?_;refine Ab (by exact AR Aa rfl rfl rfl) rfl ?_;refine Ag ?_;refine Ab (by exact Al Aa rfl rfl rfl (by exact fun wz hz=>by (try subst hz);exact (Blk.cell (by assumption) (by rfl)))) rfl ?_;refine cC rfl (Hx p.name _ n) ?_;rintro _ w5 ⟨⟨⟩,x5⟩;have k:Ext w w5:=b.trans (x4.trans x5);have f:Ext w3 w5:=x4.trans x5;have h5:=h4.ext x5
   cases hnm:Cu p.name
   · try rw [hnm]
     refine Ag ?_;refine Ab (by exact Cm rfl) rfl ?_;refine Ag ?_;refine Ab (by exact Ap rfl) rfl ?_;refine Ay ?_;refine By rfl rfl rfl (by rfl) rfl ?_;refine Ay ?_;refine By rfl rfl rfl (by rfl) rfl ?_;refine Ay ?_;refine By rfl rfl rfl (by rfl) rfl ?_;refine Ay ?_;refine By rfl rfl rfl (by rfl) rfl ?_;refine Ag ?_;refine Ab (by exact A0 rfl rfl (by rfl)) rfl ?_;refine Ag ?_;refine Ab (by exact Ap rfl) rfl ?_;refine Ay ?_;refine By rfl rfl rfl (by rfl) rfl ?_;refine Ay ?_;refine By rfl rfl rfl (by rfl) rfl ?_;refine Ay ?_;refine By rfl rfl rfl (by rfl) rfl ?_;refine Ay ?_;refine By rfl rfl rfl (by rfl) rfl ?_;refine Ag ?_;refine Ab (by exact A0 rfl rfl (by rfl)) rfl ?_;refine Ag ?_;refine Ab (by exact Ap rfl) rfl ?_;refine Ay ?_;refine By rfl rfl rfl (by rfl) rfl ?_;refine Ay ?_;refine By rfl rfl rfl (by rfl) rfl ?_;refine Ay ?_;refine By rfl rfl rfl (by rfl) rfl ?_;refine Ay ?_;refine By rfl rfl rfl (by rfl) rfl ?_;refine Ag ?_;refine Ab (by exact A0 rfl rfl (by rfl)) rfl ?_;refine Aj ?_;refine Ai ?_;refine Bi ?_;refine Ec rfl (by rfl) ?_;refine Am ?_;refine Ah ?_;refine Ag ?_;refine Ab (by exact AA rfl) rfl ?_;refine Aj ?_;refine Ai ?_;refine B6 ?_;refine Bc ?_;refine AI ?_
     refine AI ?_;refine Bc ?_;refine AI ?_;refine Af Tryz.results8 rfl ?_
     exact ⟨AY (by simp [PG.ok,HN.out (by simp [PD.ok,hnm])]),k⟩
   try rw [hnm]
   by_cases c3:8<p.params.length
   · refine Ag ?_;refine Ab (by exact Cm rfl) rfl ?_;refine Ag ?_;refine Ab (by exact Ap rfl) rfl ?_;refine Ay ?_;refine BR rfl rfl rfl (by rfl) ?_;refine Ag ?_;refine Ab (by exact Aq Aa rfl rfl rfl) rfl ?_;refine Ay ?_;refine BR rfl rfl rfl (by rfl) ?_;refine Ag ?_;refine Ab (by exact Al Aa rfl rfl rfl (by exact fun wz hz=>by (try subst hz);exact (Blk.cell (by assumption) (by rfl)))) rfl ?_;refine Ay ?_;refine BR rfl rfl rfl (by rfl) ?_;refine Ag ?_;refine Ab (by exact AS Aa rfl rfl) rfl ?_;refine Ay ?_;refine BR rfl rfl rfl (by rfl) ?_;refine Ag ?_;refine Ab (by exact B5 rfl rfl) rfl ?_;refine Ag ?_;refine Ab (by exact Bh rfl rfl (by rfl)) rfl ?_;refine Ag ?_;refine Ab (by exact Ap rfl) rfl ?_;refine Ay ?_;refine A7 rfl rfl rfl (by omega) rfl ?_;refine Ay ?_;refine A7 rfl rfl rfl (by omega) rfl ?_;refine Ay ?_;refine A7 rfl rfl rfl (by omega) rfl ?_;refine Ay ?_;refine A7 rfl rfl rfl (by omega) rfl ?_;refine Ag ?_;refine Ab (by exact BO rfl rfl (by omega)) rfl ?_;refine Ag ?_;refine Ab (by exact Ap rfl) rfl ?_;refine Ay ?_;refine By rfl rfl rfl (by rfl) rfl ?_;refine Ay ?_;refine By rfl rfl rfl (by rfl) rfl ?_;refine Ay ?_;refine By rfl rfl rfl (by rfl) rfl ?_;refine Ay ?_
     refine By rfl rfl rfl (by rfl) rfl ?_;refine Ag ?_;refine Ab (by exact A0 rfl rfl (by rfl)) rfl ?_;refine Aj ?_;refine Ai ?_;refine Bi ?_;refine Ec rfl (by rfl) ?_;refine Am ?_;refine Ah ?_;refine Ag ?_;refine Ab (by exact AA rfl) rfl ?_;refine Aj ?_;refine Ai ?_;refine B6 ?_;refine Bc ?_;refine AI ?_;refine AI ?_;refine Bc ?_;refine AI ?_;refine Af Tryz.results8 rfl ?_
     exact ⟨AY (by simp [PG.ok,HN.out (by simp [PD.ok,hnm];omega)]),k⟩
   refine Ag ?_;refine Ab (by exact Cm rfl) rfl ?_;refine Ag ?_;refine Ab (by exact Ap rfl) rfl ?_;refine Ay ?_;refine BR rfl rfl rfl (by rfl) ?_;refine Ag ?_;refine Ab (by exact Aq Aa rfl rfl rfl) rfl ?_;refine Ay ?_;refine BR rfl rfl rfl (by rfl) ?_;refine Ag ?_;refine Ab (by exact Al Aa rfl rfl rfl (by exact fun wz hz=>by (try subst hz);exact (Blk.cell (by assumption) (by rfl)))) rfl ?_;refine Ay ?_;refine BR rfl rfl rfl (by rfl) ?_;refine Ag ?_;refine Ab (by exact AS Aa rfl rfl) rfl ?_;refine Ay ?_;refine BR rfl rfl rfl (by rfl) ?_;refine Ag ?_;refine Ab (by exact B5 rfl rfl) rfl ?_;refine Ag ?_;refine Ab (by exact Bh rfl rfl (by rfl)) rfl ?_;refine Ag ?_;refine Ab (by exact Ap rfl) rfl ?_;refine Ay ?_;refine AV rfl rfl rfl (by omega) ?_;refine Ag ?_;refine Ab (by exact Aq Aa rfl rfl rfl) rfl ?_;refine Ay ?_;refine AV rfl rfl rfl (by omega) ?_;refine Ag ?_;refine Ab (by exact Al Aa rfl rfl rfl (by exact fun wz hz=>by (try subst hz);exact (Blk.cell (by assumption) (by rfl)))) rfl ?_;refine Ay ?_;refine AV rfl rfl rfl (by omega) ?_;refine cC rfl (KG p.params S qa qc _ o wf.params (sv.ext f)) ?_;rintro _ w6 ⟨⟨⟩,x6⟩;have m:Ext w w6:=k.trans x6;have h:Ext w3 w6:=f.trans x6;have h6:=h5.ext x6
   cases c:FE p.params
   · try rw [c]
     refine Ay ?_;refine AV rfl rfl rfl (by omega) ?_;refine Ag ?_;refine Ab (by exact Cm rfl) rfl ?_;refine Ag ?_;refine Ab (by exact Bo rfl rfl (by omega)) rfl ?_;refine Ag ?_;refine Ab (by exact Ap rfl) rfl ?_;refine Ay ?_;refine By rfl rfl rfl (by rfl) rfl ?_;refine Ay ?_;refine By rfl rfl rfl (by rfl) rfl ?_;refine Ay ?_;refine By rfl rfl rfl (by rfl) rfl ?_;refine Ay ?_;refine By rfl rfl rfl (by rfl) rfl ?_;refine Ag ?_;refine Ab (by exact A0 rfl rfl (by rfl)) rfl ?_;refine Aj ?_;refine Ai ?_;refine Bi ?_;refine Ec rfl (by rfl) ?_;refine Am ?_;refine Ah ?_;refine Ag ?_;refine Ab (by exact AA rfl) rfl ?_;refine Aj ?_;refine Ai ?_;refine B6 ?_;refine Bc ?_;refine AI ?_;refine AI ?_;refine Bc ?_;refine AI ?_;refine Af Tryz.results8 rfl ?_
     exact ⟨AY (by simp [PG.ok,HN.out (by simp [PD.ok,c])]),m⟩
   try rw [c]
   refine Ay ?_;refine AV rfl rfl rfl (by omega) ?_;refine Ag ?_;refine Ab (by exact Cm rfl) rfl ?_;refine Ag ?_;refine Ab (by exact Bo rfl rfl (by omega)) rfl ?_;refine Ag ?_;refine Ab (by exact Ap rfl) rfl ?_;refine Ay ?_;refine BR rfl rfl rfl (by rfl) ?_;refine Ag ?_;refine Ab (by exact Aq Aa rfl rfl rfl) rfl ?_;refine Ay ?_;refine BR rfl rfl rfl (by rfl) ?_;refine Ag ?_;refine Ab (by exact Dm Aa rfl rfl rfl (by exact fun wz hz=>by (try subst hz);exact (by assumption)) (by rfl)) rfl ?_;refine Ay ?_;refine BR rfl rfl rfl (by rfl) ?_;refine cC rfl (NU p.body S ba bc _ wf.body (sb.ext h)) ?_;rintro _ w7 ⟨⟨⟩,x7⟩;have q:Ext w w7:=m.trans x7
   cases d:DF p.body
   · try rw [d]
     refine Ay ?_;refine BR rfl rfl rfl (by rfl) ?_;refine Ag ?_;refine Ab (by exact Cm rfl) rfl ?_;refine Ag ?_;refine Ab (by exact Bh rfl rfl (by rfl)) rfl ?_;refine Aj ?_;refine Ai ?_;refine Bi ?_;refine Ec rfl (by rfl) ?_;refine Am ?_;refine Ah ?_;refine Ag ?_;refine Ab (by exact AA rfl) rfl ?_;refine Aj ?_;refine Ai ?_;refine B6 ?_;refine Bc ?_;refine AI ?_;refine AI ?_;refine Bc ?_;refine AI ?_;refine Af Tryz.results8 rfl ?_
     exact ⟨AY (by simp [PG.ok,HN.out (by simp [PD.ok,d])]),q⟩
   try rw [d]
   have hok:p.ok=true:=by simp [PD.ok,hnm,c,d];omega
   refine Ay ?_;refine BR rfl rfl rfl (by rfl) ?_;refine Ag ?_;refine Ab (by exact Cm rfl) rfl ?_;refine Ag ?_;refine Ab (by exact Bh rfl rfl (by rfl)) rfl ?_;refine Aj ?_;refine Ai ?_;refine Bi ?_;refine Fa rfl (by rfl) ?_;refine AH ?_;refine An ?_;refine Ai ?_;refine Ah ?_;refine Ag ?_;refine Ab (by exact Ed rfl rfl (IntWalk.i64_in _ (by omega))) rfl ?_;refine Ag ?_;refine Ab (by exact Ap rfl) rfl ?_;refine Aj ?_;refine AW (j+1) sB ⟨x3.trans (h.trans x7),by omega,fun i hi hij=>?_⟩ (by omega)
   by_cases e:i=j
   · subst e
     exact HE.out▸hok
   · exact HA.out i hi (by omega)
 · have h3:=h2.ext x3;refine Am ?_;refine Ah ?_;refine Ag ?_;refine Ab (by exact CU rfl rfl) rfl ?_;refine Aj ?_;refine Ai ?_;refine Am ?_;refine Bi ?_;refine Cb rfl (by omega) ?_;refine Ds ?_;refine A5 ?_;refine A5 ?_;refine Bw ?_;refine Ai ?_;refine Am ?_;refine Ah ?_;refine Ag ?_;refine Ab (by exact Aq Aa rfl rfl rfl) rfl ?_;refine Ag ?_;refine Ab (by exact Dm Aa rfl rfl rfl (by exact fun wz hz=>by (try subst hz);exact (by assumption)) (by rfl)) rfl ?_;refine cC rfl (NU g.main S ma mc _ hwf.main (hs.main.ext b)) ?_;rintro _ w4 ⟨⟨⟩,x4⟩;refine Ag ?_;refine Ab (by exact AA rfl) rfl ?_;refine Aj ?_;refine Ai ?_;refine B6 ?_;refine Af Tryz.results8 rfl ?_;refine ⟨AY ?_,b.trans x4⟩;have:=O2 (fun i hi=>HA.out i hi (by omega))
   simp [PG.ok,hq,this]
   omega
end Bk
