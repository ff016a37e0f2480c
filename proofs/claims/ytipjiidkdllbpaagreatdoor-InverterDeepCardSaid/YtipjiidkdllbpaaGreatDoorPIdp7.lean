/- Texts that the proofs of InverterDeep need. No condition. (Part 7 of 8.) -/
import Derived.Test.YtipjiidkdllbpaaGreatDoorPIdp6
set_option linter.unusedSimpArgs false
set_option linter.unusedVariables false
set_option maxRecDepth 100000
set_option maxHeartbeats 4000000
open Go.Proofs.Tryz
namespace Bk
open Go Go.RowKit Go.Proofs
attribute [local irreducible] Go.Calls
section
variable {c:RC} {P P':Nat→Prop} {w w':World} {r:Rn} {T:Nat→Prop}
theorem UB (hc:c.fuel≤10000) {d:Nat} (IH:ED c d) (b:Bool) {n:Int} {s:List UInt8} {x y z u:Nd} (hx:x.isExpr=true) (hy:y.isBlock=true) (hz:z.isBlock=true) (hu:u.isExpr=true) (hok:StOk c.g.procs (.mk 52 n s [x,y,z,u])) (a:Option Addr) (m:Nat) (w:World)
 (hne:AF c.g.procs (d+1) b (.mk 52 n s [x,y,z,u]) r≠.error (-1)) (hs:rowSits P w [x,y,z,u] a) (h:Run c P w r) :
 Calls prog 108 #[.pointer (some ⟨c.rb,0,none⟩),.agg #[.int .u8 52,.int .i64 n,str s,.slice a 4 m],.bool b] w (DH c P (AF c.g.procs (d+1) b (.mk 52 n s [x,y,z,u]) r) w):=by
 have X:=Ext.refl w;have HR:=Lib.hid h;have F:=Fr.refl (fun k=> ¬P k) w;clear h;obtain ⟨Z,hZ⟩ : ∃Z,Z=AF c.g.procs (d+1) b (.mk 52 n s [x,y,z,u]) r:=⟨_,rfl⟩
 rw [←hZ] at hne ⊢
 replace hZ:Z=((B8 (if b then u else x) r).bind fun p=>(AT (AF c.g.procs d) b (if p.1 then y else z) p.2).bind (BK (if b then x else u) p.1)):=by rw [hZ];unfold AF;cases b<;>rfl
 have HB:Hid (∀(PP:Nat→Prop) (w1:World),rowSits PP w1 [x,y,z,u] a→Run c PP w1 r→Calls prog 126 #[.pointer (some ⟨c.rb,0,none⟩),.agg #[.int .u8 52,.int .i64 n,str s,.slice a 4 m],.bool b] w1 (Qs (RunA c PP Z w1) (NX PP Z w1))):=
  Lib.hid (fun PP w1 h1 h2=>by have h3:=SQ (c:=c) (P:=PP) (r:=r) hc IH b hx hy hz hu hok a m w1 (by rw [←hZ];exact hne) h1 h2;rw [←hZ] at h3;exact h3)
 refine Ad func108 ntmps108 rfl rfl ?_
 focus
  refine cS (eB [_,_,_,_] ?_);intro b1 w2 h4 x5 p6 z7;revert hs X F;refine eE x5 ?_;intro hs X F;refine eK ?_;refine Ae [_,_,_,_] Aa rfl rfl rfl h4 rfl rfl rfl (C1 Mv ?_);refine A9 (AP (by kernel_rfl) rfl (HB.out (Ch P w w2) _ (Dg ‹_› (fun b h=>Or.inl h)) (HR.out.more X)) (fun _ _ h=>h.ret)) rfl ?_ ?_;rotate_left;intro f i j
  rotate_right 1
  rintro _ l ⟨o,⟨⟨⟩,⟨rfl,⟨q,e⟩⟩⟩⟩;have t:=e.size;clear h4 hs;replace F:=Fr.fr F e (fun k hk=>Or.inl (fun h=>hk (Or.inl h)));refine Aj (An (Bt rfl ?_));rotate_left;refine AX (AE ?_);rotate_left
 · exact EC ‹_› F HR.out.sub (fun k=>Or.inl) rfl
 · exact Bz ‹_› F (fun k=>Or.inl) (fun _ h=>h)
theorem We (hc:c.fuel≤10000) {d:Nat} (IH:ED c d) (b:Bool) {n:Int} {s:List UInt8} {x y z u:Nd} (hx:x.isExpr=true) (hy:y.isBlock=true) (hz:z.isBlock=true) (hu:u.isExpr=true) (hok:StOk c.g.procs (.mk 53 n s [x,y,z,u])) (a:Option Addr) (m:Nat) (w:World)
 (hne:AF c.g.procs (d+1) b (.mk 53 n s [x,y,z,u]) r≠.error (-1)) (hs:rowSits P w [x,y,z,u] a) (h:Run c P w r) :
 Calls prog 108 #[.pointer (some ⟨c.rb,0,none⟩),.agg #[.int .u8 53,.int .i64 n,str s,.slice a 4 m],.bool b] w (DH c P (AF c.g.procs (d+1) b (.mk 53 n s [x,y,z,u]) r) w):=by
 have X:=Ext.refl w;have HR:=Lib.hid h;have F:=Fr.refl (fun k=> ¬P k) w;clear h;obtain ⟨Z,hZ⟩ : ∃Z,Z=AF c.g.procs (d+1) b (.mk 53 n s [x,y,z,u]) r:=⟨_,rfl⟩
 rw [←hZ] at hne ⊢
 replace hZ:Z=((BK (if b then u else x) true r).bind (C3 (AT (AF c.g.procs d) b y) (AT (AF c.g.procs d) b z) (if b then x else u) (if b then u else x) d)):=by rw [hZ];unfold AF;cases b<;>rfl
 have HB:Hid (∀(PP:Nat→Prop) (w1:World),rowSits PP w1 [x,y,z,u] a→Run c PP w1 r→Calls prog 127 #[.pointer (some ⟨c.rb,0,none⟩),.agg #[.int .u8 53,.int .i64 n,str s,.slice a 4 m],.bool b] w1 (Qs (RunA c PP Z w1) (NX PP Z w1))):=
  Lib.hid (fun PP w1 h1 h2=>by have h3:=VA (c:=c) (P:=PP) (r:=r) hc IH b hx hy hz hu hok a m w1 (by rw [←hZ];exact hne) h1 h2;rw [←hZ] at h3;exact h3)
 refine Ad func108 ntmps108 rfl rfl ?_
 focus
  refine cS (eB [_,_,_,_] ?_);intro b1 w2 h4 x5 p6 z7;revert hs X F;refine eE x5 ?_;intro hs X F;refine eK ?_;refine Ae [_,_,_,_] Aa rfl rfl rfl h4 rfl rfl rfl (C1 Mv ?_);refine A9 (AP (by kernel_rfl) rfl (HB.out (Ch P w w2) _ (Dg ‹_› (fun b h=>Or.inl h)) (HR.out.more X)) (fun _ _ h=>h.ret)) rfl ?_ ?_;rotate_left;intro f i j
  rotate_right 1
  rintro _ l ⟨o,⟨⟨⟩,⟨rfl,⟨p,e⟩⟩⟩⟩;have q:=e.size;clear h4 hs;replace F:=Fr.fr F e (fun k hk=>Or.inl (fun h=>hk (Or.inl h)));refine Aj (An (Bt rfl ?_));rotate_left;refine AX (AE ?_);rotate_left
 · exact EC ‹_› F HR.out.sub (fun k=>Or.inl) rfl
 · exact Bz ‹_› F (fun k=>Or.inl) (fun _ h=>h)
theorem VB (hc:c.fuel≤10000) {d:Nat} (IH:ED c d) (b:Bool) {n:Int} {s:List UInt8} {x y z:Nd} (hx:x.isExpr=true) (hy:y.isBlock=true) (hz:z.isExpr=true) (hok:StOk c.g.procs (.mk 54 n s [x,y,z])) (a:Option Addr) (m:Nat) (w:World)
 (hne:AF c.g.procs (d+1) b (.mk 54 n s [x,y,z]) r≠.error (-1)) (hs:rowSits P w [x,y,z] a) (h:Run c P w r) :
 Calls prog 108 #[.pointer (some ⟨c.rb,0,none⟩),.agg #[.int .u8 54,.int .i64 n,str s,.slice a 3 m],.bool b] w (DH c P (AF c.g.procs (d+1) b (.mk 54 n s [x,y,z]) r) w):=by
 have X:=Ext.refl w;have HR:=Lib.hid h;have F:=Fr.refl (fun k=> ¬P k) w;clear h;obtain ⟨Z,hZ⟩ : ∃Z,Z=AF c.g.procs (d+1) b (.mk 54 n s [x,y,z]) r:=⟨_,rfl⟩
 rw [←hZ] at hne ⊢
 replace hZ:Z=((Bu r).bind fun r=>(Cc (if b then z else x) r).bind fun v=>(C9 (·.opens ⟨s,1,0⟩ v) r).bind fun r=>(AT (AF c.g.procs d) b y r).bind fun r=>(Bu r).bind fun r=>(Cc (if b then x else z) r).bind fun v=>C9 (·.closes s v) r):=by rw [hZ];unfold AF;cases b<;>rfl
 have HB:Hid (∀(PP:Nat→Prop) (w1:World),rowSits PP w1 [x,y,z] a→Run c PP w1 r→Calls prog 128 #[.pointer (some ⟨c.rb,0,none⟩),.agg #[.int .u8 54,.int .i64 n,str s,.slice a 3 m],.bool b] w1 (Qs (RunA c PP Z w1) (NX PP Z w1))):=
  Lib.hid (fun PP w1 h1 h2=>by have h3:=Uy (c:=c) (P:=PP) (r:=r) hc IH b hx hy hz hok a m w1 (by rw [←hZ];exact hne) h1 h2;rw [←hZ] at h3;exact h3)
 refine Ad func108 ntmps108 rfl rfl ?_
 focus
  refine cS (eB [_,_,_,_] ?_);intro b1 w2 h4 x5 p6 z7;revert hs X F;refine eE x5 ?_;intro hs X F;refine eK ?_;refine Ae [_,_,_,_] Aa rfl rfl rfl h4 rfl rfl rfl (C1 Mv ?_);refine A9 (AP (by kernel_rfl) rfl (HB.out (Ch P w w2) _ (Dg ‹_› (fun b h=>Or.inl h)) (HR.out.more X)) (fun _ _ h=>h.ret)) rfl ?_ ?_;rotate_left;intro f i j
  rotate_right 1
  rintro _ l ⟨o,⟨⟨⟩,⟨rfl,⟨p,e⟩⟩⟩⟩;have q:=e.size;clear h4 hs;replace F:=Fr.fr F e (fun k hk=>Or.inl (fun h=>hk (Or.inl h)));refine Aj (An (Bt rfl ?_));rotate_left;refine AX (AE ?_);rotate_left
 · exact EC ‹_› F HR.out.sub (fun k=>Or.inl) rfl
 · exact Bz ‹_› F (fun k=>Or.inl) (fun _ h=>h)
theorem UC (hc:c.fuel≤10000) {d:Nat} (IH:ED c d) (b:Bool) (hg:ProcsOk c.g) {n:Int} {s:List UInt8} {l:List Nd} {i:Nat} (hp:B9 c.g.procs s=some i) (hl:l.length≤8) (hok:StOk c.g.procs (.mk 50 n s l)) (a:Option Addr) (m:Nat) (w:World)
 (hne:AF c.g.procs (d+1) b (.mk 50 n s l) r≠.error (-1)) (hs:rowSits P w l a) (h:Run c P w r) :
 Calls prog 108 #[.pointer (some ⟨c.rb,0,none⟩),.agg #[.int .u8 50,.int .i64 n,str s,.slice a l.length m],.bool b] w (DH c P (AF c.g.procs (d+1) b (.mk 50 n s l) r) w):=by
 have X:=Ext.refl w;have HR:=Lib.hid h;have F:=Fr.refl (fun k=> ¬P k) w;clear h;obtain ⟨Z,hZ⟩ : ∃Z,Z=AF c.g.procs (d+1) b (.mk 50 n s l) r:=⟨_,rfl⟩
 rw [←hZ] at hne ⊢
 replace hZ:Z=((Bu r).bind fun r=>(C9 (·.enters (c.g.procs.getD i ⟨[],[],.mk 0 0 [] []⟩).params (l.map Nd.name)) r).bind fun r=>(AT (AF c.g.procs d) (b != decide ((50:Int)=51)) (c.g.procs.getD i ⟨[],[],.mk 0 0 [] []⟩).body r).bind fun r=>(Bu r).bind (C9 (·.leaves))):=by rw [hZ];rw [Gv _ _ _ (by omega),hp];rfl
 have HB:Hid (∀(PP:Nat→Prop) (w1:World) (q:Bool) (hq:q=(b != decide ((50:Int)=51))),rowSits PP w1 l a→Run c PP w1 r→Calls prog 133 #[.pointer (some ⟨c.rb,0,none⟩),.agg #[.int .u8 50,.int .i64 n,str s,.slice a l.length m],.bool q] w1 (Qs (RunA c PP Z w1) (NX PP Z w1))):=
  Lib.hid (fun PP w1 q hq h1 h2=>by subst hq;have h3:=ST (k:=50) (n:=n) (c:=c) (P:=PP) (r:=r) hc hg IH (b != decide ((50:Int)=51)) hp hl a m w1 (by rw [←hZ];exact hne) h1 h2;rw [←hZ] at h3;exact h3)
 refine Ad func108 ntmps108 rfl rfl ?_
 focus
  refine cS (eB [_,_,_,_] ?_);intro b1 w2 h4 x5 p6 z7;revert hs X F;refine eE x5 ?_;intro hs X F;refine eK ?_;refine Ae [_,_,_,_] Aa rfl rfl rfl h4 rfl rfl rfl ?_;refine eK ?_;refine C1 (KN Aa rfl rfl rfl) ?_;refine A9 (AP (by kernel_rfl) rfl (HB.out (Ch P w w2) _ _ (by cases b<;>rfl) (Dg ‹_› (fun b h=>Or.inl h)) (HR.out.more X)) (fun _ _ h=>h.ret)) rfl ?_ ?_;rotate_left;intro f j o
  rotate_right 1
  rintro _ p ⟨t,⟨⟨⟩,⟨rfl,⟨u,e⟩⟩⟩⟩;have v:=e.size;clear h4 hs;replace F:=Fr.fr F e (fun k hk=>Or.inl (fun h=>hk (Or.inl h)));refine Aj (An (Bt rfl ?_));rotate_left;refine AX (AE ?_);rotate_left
 · exact EC ‹_› F HR.out.sub (fun k=>Or.inl) rfl
 · exact Bz ‹_› F (fun k=>Or.inl) (fun _ h=>h)
theorem UD (hc:c.fuel≤10000) {d:Nat} (IH:ED c d) (b:Bool) (hg:ProcsOk c.g) {n:Int} {s:List UInt8} {l:List Nd} {i:Nat} (hp:B9 c.g.procs s=some i) (hl:l.length≤8) (hok:StOk c.g.procs (.mk 51 n s l)) (a:Option Addr) (m:Nat) (w:World)
 (hne:AF c.g.procs (d+1) b (.mk 51 n s l) r≠.error (-1)) (hs:rowSits P w l a) (h:Run c P w r) :
 Calls prog 108 #[.pointer (some ⟨c.rb,0,none⟩),.agg #[.int .u8 51,.int .i64 n,str s,.slice a l.length m],.bool b] w (DH c P (AF c.g.procs (d+1) b (.mk 51 n s l) r) w):=by
 have X:=Ext.refl w;have HR:=Lib.hid h;have F:=Fr.refl (fun k=> ¬P k) w;clear h;obtain ⟨Z,hZ⟩ : ∃Z,Z=AF c.g.procs (d+1) b (.mk 51 n s l) r:=⟨_,rfl⟩
 rw [←hZ] at hne ⊢
 replace hZ:Z=((Bu r).bind fun r=>(C9 (·.enters (c.g.procs.getD i ⟨[],[],.mk 0 0 [] []⟩).params (l.map Nd.name)) r).bind fun r=>(AT (AF c.g.procs d) (b != decide ((51:Int)=51)) (c.g.procs.getD i ⟨[],[],.mk 0 0 [] []⟩).body r).bind fun r=>(Bu r).bind (C9 (·.leaves))):=by rw [hZ];rw [Gv _ _ _ (by omega),hp];rfl
 have HB:Hid (∀(PP:Nat→Prop) (w1:World) (q:Bool) (hq:q=(b != decide ((51:Int)=51))),rowSits PP w1 l a→Run c PP w1 r→Calls prog 133 #[.pointer (some ⟨c.rb,0,none⟩),.agg #[.int .u8 51,.int .i64 n,str s,.slice a l.length m],.bool q] w1 (Qs (RunA c PP Z w1) (NX PP Z w1))):=
  Lib.hid (fun PP w1 q hq h1 h2=>by subst hq;have h3:=ST (k:=51) (n:=n) (c:=c) (P:=PP) (r:=r) hc hg IH (b != decide ((51:Int)=51)) hp hl a m w1 (by rw [←hZ];exact hne) h1 h2;rw [←hZ] at h3;exact h3)
 refine Ad func108 ntmps108 rfl rfl ?_
 focus
  refine cS (eB [_,_,_,_] ?_);intro b1 w2 h4 x5 p6 z7;revert hs X F;refine eE x5 ?_;intro hs X F;refine eK ?_;refine Ae [_,_,_,_] Aa rfl rfl rfl h4 rfl rfl rfl ?_;refine eK ?_;refine C1 (KN Aa rfl rfl rfl) ?_;refine A9 (AP (by kernel_rfl) rfl (HB.out (Ch P w w2) _ _ (by cases b<;>rfl) (Dg ‹_› (fun b h=>Or.inl h)) (HR.out.more X)) (fun _ _ h=>h.ret)) rfl ?_ ?_;rotate_left;intro f j o
  rotate_right 1
  rintro _ p ⟨t,⟨⟨⟩,⟨rfl,⟨u,e⟩⟩⟩⟩;have v:=e.size;clear h4 hs;replace F:=Fr.fr F e (fun k hk=>Or.inl (fun h=>hk (Or.inl h)));refine Aj (An (Bt rfl ?_));rotate_left;refine AX (AE ?_);rotate_left
 · exact EC ‹_› F HR.out.sub (fun k=>Or.inl) rfl
 · exact Bz ‹_› F (fun k=>Or.inl) (fun _ h=>h)
theorem VC (hc:c.fuel≤10000) (hg:ProcsOk c.g) {d:Nat} (IH:ED c d):SP c (d+1):=by
 intro P b t r a m w hst hok hne hs h
 cases Dc hst with
 | upd hk hx hy=>exact JN hc d b (by omega) hst hok a m w hs h
 | swap hx hy=>exact JN hc d b (by omega) hst hok a m w hs h
 | stack hk hn hx=>exact JN hc d b (by omega) hst hok a m w hs h
 | tape hk hx=>exact JN hc d b (by omega) hst hok a m w hs h
 | call hk hn hl hv=>
  rename_i k s l
  obtain ⟨i,hi⟩:=Option.isSome_iff_exists.1 (hok.calls.1 hk)
  rcases hk with rfl|rfl
  · exact UC hc IH b hg hi hl hok a m w hne hs h
  · exact UD hc IH b hg hi hl hok a m w hne hs h
 | branch hk hx hy hz hu=>
  rcases hk with rfl|rfl
  · exact UB hc IH b hx hy hz hu hok a m w hne hs h
  · exact We hc IH b hx hy hz hu hok a m w hne hs h
 | local_ hn hx hy hz=>exact VB hc IH b hx hy hz hok a m w hne hs h
 | lstack hn hx=>exact SR hc IH b hx hok a m w hne hs h
theorem P6 (hc:c.fuel≤10000) (hg:ProcsOk c.g) : ∀d,SP c d
 | 0=>fun P b t r a m w _ _ hne _ _=>absurd (by unfold AF;rfl) hne
 | d+1=>VC hc hg (P3 (P6 hc hg d))
theorem SU (hc:c.fuel≤10000) (hg:ProcsOk c.g) (d:Nat):ED c d:=P3 (P6 hc hg d)
end
def WF (r:Option Nat):Fence:={ Fence.wide with round:=r }
section base
variable {P:Program} {r:Option Nat} {m:Nat} {Q:Exit→Act→World→Prop}
end base
def CR (P:Program) (n:Nat) (r:Option Nat) (c:Code) (Q:Exit→Act→World→Prop) (l:Sl) (w:World):Prop:= ∀a,Env n l a→c.wpIn (WF r) 0 P Q a w
section code
variable {P:Program} {n:Nat} {r:Option Nat} {Q:Exit→Act→World→Prop} {l:Sl} {w:World}
theorem CR.sub {c:Code} {m:Sl} (h:CR P n r c Q m w) (hs:Qh m l):CR P n r c Q l w:=fun a ha=>h a (ha.sub hs)
end code
section draw
variable {P:Program} {ops:Array Oper} {Q:Exit→Act→World→Prop} {S:World→Prop} {K:Nat}
def GR (P:Program) (ops:Array Oper) (Q:Exit→Act→World→Prop) (S:World→Prop) (K:Nat):Nat→Array Bool→Act→World→Prop
 | 0,listed,a,w=>Region.ready .any ops listed=[]∧Q .normal a w
 | fuel+1,listed,a,w=>
  (Region.ready .any ops listed=[]→Q .normal a w) ∧
  ∀i∈Region.ready .any ops listed,(i<K→wpOp P ops Q i (fun a' w'=>S w'∧GR P ops Q S K fuel (listed.setIfInBounds i true) a' w') a w) ∧
   (K≤i→wpOpIn (WF none) 0 P ops Q i (GR P ops Q S K fuel (listed.setIfInBounds i true)) a w)
theorem MH {i:Nat} {oi:Oper} {v:Value} (hi:ops[i]? = some oi) (hK:i<K) (hre:ES ops K i) (hsel : ∀(j:Nat) (o:Oper) cs b,ops[j]? = some o→o.op≠.select cs b)
 (hQ : ∀c a w,Q (.panic c) (a.put oi.dst v) w→Q (.panic c) a w) :
 ∀(fuel:Nat) (listed:Array Bool) (a:Act) (w:World),DC ops listed →
  (∀j oj,ops[j]? = some oj→j≠i→listed.getD j true=false→(∀e∈oj.after,Region.binds .any e=true→e.on≠i)→oi.apart ops oj=true) →
  i∈Region.ready .any ops listed→YieldsIf P ops S oi v a→S w →
  GR P ops Q S K fuel (listed.setIfInBounds i true) (a.put oi.dst v) w→GR P ops Q S K (fuel+1) listed a w:=by
 intro fuel
 induction fuel with
 | zero=>
  intro listed a w _ _ hr hy hS H;refine ⟨fun h=>(by rw [h] at hr;cases hr),fun j hj=>?_⟩
  by_cases hji:j=i
  · subst hji;exact ⟨fun _=>hy.wpOp hi hS ⟨hS,H⟩,fun h=>by omega⟩
  · have:=ready_mono hj hji
    rw [H.1] at this
    cases this
 | succ fuel ih=>
  intro listed a w hdc hfree hr hy hS H;refine ⟨fun h=>(by rw [h] at hr;cases hr),fun j hj=>?_⟩
  by_cases hji:j=i
  · subst hji;exact ⟨fun _=>hy.wpOp hi hS ⟨hS,H⟩,fun h=>by omega⟩
  · obtain ⟨hjun,oj,hoj,hall⟩:=mem_ready.1 hj
    have hun : ¬listed.getD i false=true:=fun hc=>by
     have h0:=(mem_ready.1 hr).1
     rcases Nat.lt_or_ge i listed.size with h'|h'
     · simp [h'] at h0 hc;rw [h0] at hc;cases hc
     · simp [Array.getElem?_eq_none h'] at hc
    have hjK:j<K:=by
     rcases Nat.lt_or_ge j K with h|h
     · exact h
     · exact absurd (hre listed j oj hdc h hoj hall) hun
    have h1:=(H.2 j (ready_mono hj hji)).1 hjK
    have hnot : ∀e∈oj.after,Region.binds .any e=true→e.on≠i:=fun e he hb heq=>hun (heq▸hall e he hb)
    have h2:=wpOp_putIf hoj (hfree j oj hoj hji hjun hnot) (fun cs b=>hsel i oi cs b hi) (fun cs b=>hsel j oj cs b hoj) hQ hy h1;have hfree' : ∀k ok,ops[k]? = some ok→k≠i→(listed.setIfInBounds j true).getD k true=false →
     (∀e∈ok.after,Region.binds .any e=true→e.on≠i)→oi.apart ops ok=true:=fun k ok hk hki hun hno=>by
     refine hfree k ok hk hki ?_ hno
     by_cases hjk:j=k
     · subst hjk;exact hjun
     · rw [getD_set_ne true hjk] at hun;exact hun
    refine ⟨fun _=>wpOp_mono (fun a' w' h3=>⟨h3.2.1,ih (listed.setIfInBounds j true) a' w' (hdc.set hj) hfree' (ready_mono hr (Ne.symm hji)) h3.1 h3.2.1 ?_⟩) h2,fun h=>by omega⟩;rw [Array.setIfInBounds_comm _ _ hji]
    exact h3.2.2
def HM (P:Program) (ops:Array Oper) (Q:Exit→Act→World→Prop) (S:World→Prop) (K:Nat):Sc→Act→World→Prop
 | .done,a,w=>Q .normal a w
 | .pure i r,a,w=> ∃o v,ops.toList[i]? = some o∧YieldsIf P ops S o v a∧HM P ops Q S K r (a.put o.dst v) w
 | .fork i x r,a,w=>i<K∧wpOp P ops Q i (fun a' w'=>S w'∧HM P ops Q S K x a' w') a w∧HM P ops Q S K r a w
 | .none,_,_=>True
 | .tail,a,w=>wpListIn (WF none) 0 P ops Q (ops.toList.drop K) a w
theorem H7 : ∀(f k:Nat) (listed:Array Bool) (a:Act) (w:World),K≤k→f+k=ops.size→EV ops f k listed=true→wpListIn (WF none) 0 P ops Q (ops.toList.drop k) a w→GR P ops Q S K f listed a w
 | 0,k,listed,a,w,hk,hf,hc,h=>by
  have:ops.toList.drop k=[]:=List.drop_eq_nil_of_le (by simp;omega);rw [this] at h
  exact ⟨by simpa [EV] using hc,h⟩
 | f+1,k,listed,a,w,hk,hf,hc,h=>by
  simp only [EV,Bool.and_eq_true,beq_iff_eq] at hc
  have hlt:k<ops.toList.length:=by simp;omega
  rw [List.drop_eq_getElem_cons hlt] at h;refine ⟨fun e=>absurd (hc.1.symm.trans e) (by simp),fun i hi=>?_⟩;rw [hc.1] at hi;simp only [List.mem_singleton] at hi;subst hi;refine ⟨fun h=>by omega,fun _=>?_⟩
  have ho:ops[i]? = some ops.toList[i]:=by simp
  unfold wpListIn at h
  unfold wpOpIn
  rw [ho];simp only
  split
  · rename_i hw
    rw [if_pos hw] at h
    exact Oper.wpIn_mono (fun a' w' h'=>H7 f (i+1) _ a' w' (by omega) (by omega) hc.2 h') h
  · rename_i hw
    rw [if_neg hw] at h
    exact ⟨h.1,H7 f (i+1) _ _ w (by omega) (by omega) hc.2 h.2⟩
theorem HM.any (hs:Region.noSelect ops=true) (hre : ∀i,i<K→ES ops K i) (hQ:DI Q) :
 ∀(s:Sc) (f:Nat) (listed:Array Bool) (a:Act) (w:World),DC ops listed→S w→HM P ops Q S K s a w →
  (Sc.ok ops K true s f listed=true→GR P ops Q S K f listed a w) ∧
  (Sc.ok ops K false s f listed=true → ∀i∈s.alts,∀f',f=f'+1→i<K∧wpOp P ops Q i (fun a' w'=>S w'∧GR P ops Q S K f' (listed.setIfInBounds i true) a' w') a w)
 | .done,f,listed,a,w,hd,hS,h=>by
  refine ⟨fun hk=>?_,fun hk=>by simp [Sc.ok] at hk⟩
  have hr:Region.ready .any ops listed=[]:=by simpa [Sc.ok] using hk
  cases f with
  | zero=>exact ⟨hr,h⟩
  | succ f=>exact ⟨fun _=>h,by rw [hr];simp⟩
 | .none,f,listed,a,w,hd,hS,h=>⟨fun hk=>by simp [Sc.ok] at hk,fun hk=>by simp [Sc.alts]⟩
 | .tail,f,listed,a,w,hd,hS,h=>⟨fun hk=>by
  simp only [Sc.ok,Bool.and_eq_true] at hk
  exact H7 f K listed a w (Nat.le_refl _) (Nat.eq_of_beq_eq_true hk.1) hk.2 h,fun hk=>by simp [Sc.ok] at hk⟩
 | .pure i r,0,listed,a,w,hd,hS,h=>⟨fun hk=>by simp [Sc.ok] at hk,fun hk=>by simp [Sc.ok] at hk⟩
 | .pure i r,f+1,listed,a,w,hd,hS,h=>⟨fun hk=>by
  simp only [Sc.ok,Bool.and_eq_true] at hk;obtain ⟨o,v,ho,hy,hr⟩:=h
  have hi:ops[i]? = some o:=by simpa using ho
  have hir:i∈Region.ready .any ops listed:=by simpa using hk.1.1.2
  exact MH hi (Nat.le_of_ble_eq_true hk.1.1.1) (hre i (Nat.le_of_ble_eq_true hk.1.1.1)) (Region.noSelect_spec hs) (fun c a w=>hQ o.dst v c a w) f listed a w hd (Region.free_spec hi hk.1.2) hir hy hS
   ((HM.any hs hre hQ r f _ _ w (hd.set hir) hS hr).1 hk.2),fun hk=>by simp [Sc.ok] at hk⟩
 | .fork i x r,0,listed,a,w,hd,hS,h=>⟨fun hk=>by simp [Sc.ok] at hk,fun hk=>by simp [Sc.ok] at hk⟩
 | .fork i x r,f+1,listed,a,w,hd,hS,h=>by
  have key:i∈Region.ready .any ops listed→Sc.ok ops K true x f (listed.setIfInBounds i true)=true→wpOp P ops Q i (fun a' w'=>S w'∧GR P ops Q S K f (listed.setIfInBounds i true) a' w') a w:=fun hir hk=>
   wpOp_mono (fun a' w' h'=>⟨h'.1,(HM.any hs hre hQ x f _ a' w' (hd.set hir) h'.1 h'.2).1 hk⟩) h.2.1
  have hr:=HM.any hs hre hQ r (f+1) listed a w hd hS h.2.2;refine ⟨fun hk=>?_,fun hk j hj f' hf=>?_⟩
  · simp only [Sc.ok,Bool.and_eq_true] at hk
    obtain ⟨⟨⟨h1,h4⟩,h2⟩,h3⟩:=hk;refine ⟨fun e=>by rw [e] at h4;simp at h4,fun j hj=>?_⟩;have:=List.all_eq_true.1 h1 j hj;simp only [List.contains_eq_mem,List.mem_cons,decide_eq_true_eq] at this
    rcases this with rfl|hj'
    · exact ⟨fun _=>key hj h2,fun hK=>absurd h.1 (by omega)⟩
    · obtain ⟨k1,k2⟩:=hr.2 h3 j hj' f rfl
      exact ⟨fun _=>k2,fun hK=>by omega⟩
  · simp only [Sc.ok,Bool.and_eq_true] at hk
    obtain rfl:f=f':=by omega
    simp only [Sc.alts,List.mem_cons] at hj
    rcases hj with rfl|hj
    · exact ⟨h.1,key (by simpa using hk.1.1) hk.1.2⟩
    · exact hr.2 hk.2 j hj f rfl
end draw
section draws
variable {P:Program} {n:Nat} {ops:Array Oper} {Q:Exit→Act→World→Prop} {S:World→Prop} {K:Nat} {l:Sl} {w:World}
 {d i:Nat} {ty:TypeId} {pos:String} {after:Array Edge} {r x:Sc} {rest:List Oper}
end draws
end Bk
namespace Bk
open Go Go.RowKit
def Wf {α:Type} (c:Nat) (J:(Nat→Prop)→List α→World→Prop):Prop:=
 ∀A A' xs W W',J A xs W→Fr A W W'→(∀k,A k→c≤k)→(∀k,A' k→c≤k)→(∀k,k<W.heap.size→A' k→A k)→J A' xs W'
def Keeps (S:Nat→Prop) (W W':World):Prop:=Fr (fun k=> ¬S k) W W'
theorem Keeps.size {S:Nat→Prop} {W W':World} (h:Keeps S W W'):W.heap.size≤W'.heap.size:=Fr.size h
theorem Keeps.block {S:Nat→Prop} {W W':World} (h:Keeps S W W') (k:Nat) (hk:S k) (hl:k<W.heap.size):W'.heap[k]? = W.heap[k]? := Fr.block h k hl (fun e=>e hk)
theorem Keeps.refl (S:Nat→Prop) (W:World):Keeps S W W:=Fr.refl _ _
theorem Keeps.trans {S:Nat→Prop} {A B C:World} (h:Keeps S A B) (k:Keeps S B C):Keeps S A C:=Fr.trans h k
theorem Keeps.of_ext {S:Nat→Prop} {A B:World} (h:Ext A B):Keeps S A B:=⟨h.os,h.tape,h.output,h.size,fun _ hl _=>h.block hl⟩
theorem Keeps.less {S T:Nat→Prop} {A B:World} (h:Keeps S A B) (hs : ∀k,T k→S k):Keeps T A B:=⟨Fr.os h,Fr.tape h,Fr.output h,Fr.size h,fun k hl hk=>Fr.block h k hl (fun e=>hk (fun t=>e (hs k t)))⟩
def VE {α:Type} (P:Program) (gf:Nat) (lb:List Value) (rep:Nat→World→List Value→α→Prop) (Rt:Nat→Prop) (S:List α) (w:World):Prop:=
 ∀(y:Nat) (J Jx:(Nat→Prop)→List α→World→Prop) (W:World),Keeps Rt w W→Wf W.heap.size J→Wf W.heap.size Jx →
  (∀A pre x vs W1,(∀k,A k→W.heap.size≤k∧k<W1.heap.size)→J A pre W1→rep W.heap.size W1 vs x→(pre++[x]) <+: S →
   YieldAt (WF none) 0 P y vs.toArray W1 fun e W2=>Keeps (fun k=>A k∨Rt k) W1 W2∧((e = .returned (.bool true)∧J A (pre++[x]) W2)∨(e = .returned (.bool false)∧Jx A (pre++[x]) W2))) →
  J (fun _=>False) [] W →
  Calls P gf (.func (.yield y) #[] #[]::lb).toArray W fun e W'=>(∃v,e = .returned v) ∧ ∃A,(∀k,A k→W.heap.size≤k)∧(J A S W' ∨ ∃pre,pre <+: S∧Jx A pre W')
def EnvD (D:List Deferred) (n:Nat) (l:Sl) (a:Act):Prop:=Env n l { a with defers:=[] }∧a.defers=D
def VO (P:Program) (D:List Deferred) (n:Nat) (c:Code) (Q:Exit→Act→World→Prop) (l:Sl) (w:World):Prop:= ∀a,EnvD D n l a→c.wp P Q a w
def RO (P:Program) (D:List Deferred) (n:Nat) (ops:Array Oper) (Q:Exit→Act→World→Prop) (os:List Oper) (l:Sl) (w:World):Prop:= ∀a,EnvD D n l a→wpList P ops Q os a w
def SW (D:List Deferred) (n:Nat) (Q:Exit→Act→World→Prop) (e:Exit) (l:Sl) (w:World):Prop:= ∀a,EnvD D n l a→Q e a w
theorem EnvD.ev {D:List Deferred} {n:Nat} {l:Sl} {a:Act} (h:EnvD D n l a) {x:Operand} {v:Value} (hx:ev l x=some v):a.eval x=v:=h.1.ev hx
theorem EnvD.put {D:List Deferred} {n:Nat} {l:Sl} {a:Act} (h:EnvD D n l a) {d:Nat} (hd:Nat.blt d n=true) (v:Value):EnvD D n ((d,v)::l) (a.put (some d) v):=⟨h.1.put hd v,h.2⟩
section code
variable {P:Program} {D:List Deferred} {n:Nat} {Q:Exit→Act→World→Prop} {l:Sl} {w:World} {ops:Array Oper} {rest:List Oper} {d:Nat} {ty:TypeId} {pos:String} {after:Array Edge}
theorem P7 {x y:Code} (h:VO P D n x (Exit.then (y.wp P Q) Q) l w):VO P D n (.seq x y) Q l w:=fun a ha=>wp_seq (h a ha)
theorem KS {y:Code} (h:VO P D n y Q l w):SW D n (Exit.then (y.wp P Q) Q) .normal l w:=h
theorem KT {id:Nat} {os:List Oper} (h:RO P D n os.toArray Q os l w):VO P D n (.region id os.toArray false) Q l w:=fun a ha=>wp_region_lit (h a ha)
theorem UE (h:SW D n Q .ret l w):VO P D n .ret Q l w:=fun a ha=>wp_ret (h a ha)
theorem MI (h:SW D n Q .normal l w):RO P D n ops Q [] l w:=h
theorem SX {op:Op} {v:Value} (hp:BE P n l (· = w) op ty v) (hd:Nat.blt d n=true) (k:RO P D n ops Q rest ((d,v)::l) w):RO P D n ops Q (⟨some d,op,ty,pos,after,none⟩::rest) l w:=fun a ha=>by
 unfold wpList
 rw [if_pos (Bv rfl)]
 left
 have e:(execOp a.eval ⟨some d,op,ty,pos,after,none⟩).run P w = .ok (.value v) w:=by
  unfold BE at hp
  have:=hp { a with defers:=[] } w (some d) pos after none ha.1 rfl
  exact this
 unfold Oper.wp
 rw [e]
 exact k _ (ha.put hd v)
theorem Rs {tab:Tab} {x y:Operand} {t b:Nat} {s:Sk} {v u:Value} (T:TabOk P tab) (ht:AL tab t=some (s,1)) (hx:ev l x=some (.pointer (some ⟨b,0,none⟩))) (hy:ev l y=some v) (hv:v.cells = #[v]) (h1:Value.one v=true) (hb:Blk w b [u])
 (k : ∀w1,Blk w1 b [v]→Fr (· = b) w w1→RO P D n ops Q rest l w1):RO P D n ops Q (⟨none,.store t x y,ty,pos,after,none⟩::rest) l w:=fun a ha=>by
 obtain ⟨w1,e1,e2⟩:=Fb (P:=P) [v] w b 0 0 [u] hb (by simp) (by simp [h1])
 have e:(execOp a.eval ⟨none,.store t x y,ty,pos,after,none⟩).run P w = .ok .skip w1:=by
  have hcs:v.cells.toList=[v]:=by rw [hv]
  have hsz:v.cells.size=1:=by rw [hv];rfl
  simp only [execOp,ha.ev hx,ha.ev hy,Instr.storeAt,Instr.sureAddr,Sem.run_bind,Sem.run_pure,Result.andThen,storeVar,Ci (T _ _ _ ht),hsz,hcs,e1];simp only [ne_eq,not_true,if_false,Sem.run_bind,Sem.run_pure,Result.andThen,e1]
 unfold wpList
 rw [if_pos (Bv rfl)]
 left
 unfold Oper.wp
 rw [e]
 exact k w1 e2.blk e2.fr _ ha
end code
theorem SY {P:Program} {fn:Func} {tab:Tab} {t ty sz b:Nat} {s:Sk} {v:Value} {tmps:Array Value} {w:World} (h:fn.results = #[.cell t ty]) (T:TabOk P tab) (ht:AL tab ty=some (s,sz)) (hs:s.agg=false) (hv:tmps.getD t undef = .pointer (some ⟨b,0,none⟩)) (hb:w.cell? ⟨b,0,none⟩=some v):(results fn tmps).run P w = .ok v w:=by
 have e:(loadVar ty ⟨b,0,none⟩).run P w = .ok v w:=by
  simp only [Sem.run_bind,Sem.run_pure,Result.andThen,loadVar,Dl (T _ _ _ ht),hs]
  simp [load,Sem.run,hb]
 simp only [Array.getD_eq_getD_getElem?] at hv
 simp [results,h,hv,e,asAddr]
section
variable {α:Type} {n:Nat} {Kp:Nat→Prop} {J Jx:(Nat→Prop)→List α→World→Prop} {A:Nat→Prop} {xs:List α} {W w:World} {l:Sl}
end
section
variable {P:Program} {n:Nat} {r:Option Nat} {Q:Exit→Act→World→Prop} {l:Sl} {w:World} {c:Operand} {x y:Code}
end
attribute [irreducible] VO RO SW
section
variable {P:Program} {n:Nat} {l:Sl} {w:World} {ty:TypeId} {Q:Exit→Act→World→Prop} {ops:Array Oper} {rest:List Oper} {pos:String} {after:Array Edge} {A:Ending→World→Prop} {B:List PanicEntry→World→Prop} {D:List Deferred}
theorem Ru {f:FuncId} {fn:Func} {c:Code} {args:List Value} {R:Ending→World→Prop}
 (hf:P.funcs[f]? = some fn) (hn:fn.ntmps=n) (hb:fn.body=some c) (hl:Nat.ble args.length n=true) (h:CW P n c (bodyPostD P fn R) (Gx 0 args) w):Calls P f args.toArray w R:=by
 unfold CW at h
 refine calls_of_wp_defers hf hb (h _ ?_)
 have hl':args.length≤n:=by simpa using hl
 refine ⟨by simp;omega,rfl,fun d v hv=>?_⟩;obtain ⟨-,h2⟩:=GV d v args 0 hv;simp only [Nat.sub_zero] at h2
 have:d<args.length:=by
  rcases Nat.lt_or_ge d args.length with h|h
  · exact h
  · rw [List.getElem?_eq_none h] at h2;cases h2
 rw [List.getElem?_eq_getElem this] at h2;simp only [Option.some.injEq] at h2
 simp [Array.getElem?_append,this,h2]
theorem SZ {x:Operand} {f:Fn} {fi ca:Array Value} (hx:ev l x=some (.func f fi ca)) (k:RO P [⟨.fn f ca,fi⟩] n ops Q rest l w):LW P n ops Q (⟨none,.defer ⟨.value x,#[],#[]⟩,ty,pos,after,none⟩::rest) l w:=by
 unfold RO at k
 unfold LW
 intro a ha
 unfold wpList
 rw [if_pos (Bv rfl)]
 left
 have e:(execOp a.eval ⟨none,.defer ⟨.value x,#[],#[]⟩,ty,pos,after,none⟩).run P w = .ok (.defer ⟨.fn f ca,fi⟩) w:=by
  simp [execOp,resolve,ha.ev hx,Deferred.ofValue,Result.andThen]
 unfold Oper.wp
 rw [e];refine k _ ⟨⟨ha.size,rfl,ha.has⟩,?_⟩
 show _::a.defers=_
 rw [ha.defers]
theorem Rv {f:FuncId} {x:Operand} {fi ca:List Value} {xs:List Operand} {tys:Array TypeId} {vs:List Value} {d:Nat} (hb:CV P f=true) (hx:ev l x=some (.func (.func f) fi.toArray ca.toArray)) (hxs:evs l xs=some vs) (hd:Nat.blt d n=true) (C:Calls P f (fi++vs++ca).toArray w (Qs A B))
 (hA : ∀e w1,A e w1 → ∃v,e = .returned v) (k : ∀v w1,A (.returned v) w1→RO P D n ops Q rest ((d,v)::l) w1) (kp : ∀c w1,B c w1→SW D n Q (.panic c) l w1) :
 RO P D n ops Q (⟨some d,.call ⟨.value x,xs.toArray,tys⟩,ty,pos,after,none⟩::rest) l w:=by
 unfold RO at k ⊢
 unfold SW at kp
 intro a ha
 unfold wpList
 rw [if_pos (Bv rfl)]
 left
 have hargs:xs.map a.eval=vs:=ha.1.evs hxs
 have e:(execOp a.eval ⟨some d,.call ⟨.value x,xs.toArray,tys⟩,ty,pos,after,none⟩).run P w = .ok (.enter f (fi++vs++ca).toArray) w:=by
  simp only [execOp,resolve,ha.ev hx,Deferred.ofValue,Sem.run_bind,Sem.run_pure,Result.andThen,invoke];rw [Ee hb]
  simp [←hargs]
 unfold Oper.wp
 rw [e]
 refine Calls.mono C fun e w1 h=>?_
 rcases h with h|⟨c,rfl,h⟩
 · obtain ⟨v,rfl⟩:=hA e w1 h
   exact k v w1 h _ (ha.put hd v)
 · exact kp c w1 h a ha
theorem KU {K:Act→World→Prop} {c:List PanicEntry} (h:SW D n Q (.panic c) l w):SW D n (Exit.then K Q) (.panic c) l w:=by unfold SW at h ⊢;exact h
theorem L1 {fn:Func} {R:Ending→World→Prop} {e:Exit} {u u':FrameMode} {f:FuncId} {fi ca:List Value} {t cty sz:Nat} {s:Sk} {tab:Tab} {b:Nat} (he:(e = .ret∧u = .returning) ∨ ∃c,e = .panic c∧u = .panicking c) (hb:CV P f=true)
 (h:fn.results = #[.cell t cty]) (T:TabOk P tab) (ht:AL tab cty=some (s,sz)) (hs:s.agg=false) (hv:look l t=some (.pointer (some ⟨b,0,none⟩))) (hu:settle u' = .returning)
 (C:CallsD P f (fi++ca).toArray u w fun e u1 w1=>u1=u'∧e = .returned (.tuple #[]) ∧ ∃v,Blk w1 b [v]∧R (.returned v) w1):SW [⟨.fn (.func f) ca.toArray,fi.toArray⟩] n (bodyPostD P fn R) e l w:=by
 unfold SW
 intro a ha
 have key:Leaves P fn a.tmps R a.defers u w:=by
  rw [ha.2];refine leaves_cons (f:=f) (args:=(fi++ca).toArray) ?_ ?_ (CallsD.mono C ?_)
  · rcases he with ⟨-,rfl⟩|⟨c,-,rfl⟩<;>simp
  · simp only [invoke]
    rw [Ee hb]
    simp
  · rintro e1 u1 w1 ⟨rfl,rfl,v,hbv,hR⟩
    simp only;rw [hu]
    exact ⟨v,SY h T ht hs (ha.1.has t _ hv) (hbv.cell rfl),hR⟩
 rcases he with ⟨rfl,rfl⟩|⟨c,rfl,rfl⟩<;>exact key
theorem KV {f:FuncId} {fn:Func} {t d id:Nat} {ty1 ty2:TypeId} {pos1 pos2:String} {after1 after2:Array Edge} {y:Code} {args:List Value} {u u':FrameMode} {v:Value} {R:Ending→World→Prop}
 (hf:P.funcs[f]? = some fn) (hn:fn.ntmps=n) (hb:fn.body=some (.seq (.region id #[⟨some t,.call ⟨.builtin .recover,#[],#[]⟩,ty1,pos1,after1,none⟩,⟨some d,.assign (.tmp t),ty2,pos2,after2,none⟩] false) y)) (hl:Nat.ble args.length n=true) (ht:Nat.blt t n=true) (hd:Nat.blt d n=true)
 (hr : ∀(c:Frame) (cs:List Frame),c.mode=u→recoverD (c::cs)=some (v,{ c with mode:=u' }::cs)∨(recoverD (c::cs)=none∧v = .nilIface∧u'=u))
 (h:CW P n y (bodyPost P fn R) ((d,v)::(t,v)::Gx 0 args) w):CallsD P f args.toArray u w fun e u1 w'=>u1=u'∧R e w':=by
 unfold CW at h
 refine callsD_of_wpS hf hb fun c₀ cs hu=>wpS_seq (wpS_region ?_)
 have h0:({ tmps:=args.toArray++Array.replicate (fn.ntmps-args.toArray.size) undef,defers:=[] }:Act).defers=[]:=rfl
 have henv:Env n (Gx 0 args) { tmps:=args.toArray++Array.replicate (fn.ntmps-args.toArray.size) undef,defers:=[] }:=by
  have hl':args.length≤n:=by simpa using hl
  refine ⟨by simp;omega,rfl,fun d v hv=>?_⟩;obtain ⟨-,h2⟩:=GV d v args 0 hv;simp only [Nat.sub_zero] at h2
  have:d<args.length:=by
   rcases Nat.lt_or_ge d args.length with h|h
   · exact h
   · rw [List.getElem?_eq_none h] at h2;cases h2
  rw [List.getElem?_eq_getElem this] at h2;simp only [Option.some.injEq] at h2
  simp [Array.getElem?_append,this,h2]
 generalize ({ tmps:=args.toArray++Array.replicate (fn.ntmps-args.toArray.size) undef,defers:=[] }:Act)=a at *
 have hgo : ∀(c1:Frame),c1={ c₀ with mode:=u' }→wpOpsS P #[⟨some t,.call ⟨.builtin .recover,#[],#[]⟩,ty1,pos1,after1,none⟩,⟨some d,.assign (.tmp t),ty2,pos2,after2,none⟩] (Exit.thenS (y.wpS P (bodyPostS P fn c₀ cs fun e u1 w'=>u1=u'∧R e w')) (bodyPostS P fn c₀ cs fun e u1 w'=>u1=u'∧R e w')) [1] (a.put (some t) v) (c1::cs) w:=fun c1 b=>by
  have he:=henv.put ht v;have hev:(a.put (some t) v).eval (.tmp t)=v:=he.ev (by simp [ev,GU]);simp only [wpOpsS,List.getElem?_toArray,List.getElem?_cons_succ,List.getElem?_cons_zero];rw [if_pos (Bv rfl)];simp only [execOp,Sem.run_pure,hev,Oper.upon];refine wpS_of_wp (wp_mono (h _ (he.put hd v)) fun e a1 w1 hq=>?_);subst b
  cases e with
  | normal=>
   obtain ⟨q1,v1,q2,q3⟩:=hq
   exact ⟨q1,u',rfl,v1,q2,rfl,q3⟩
  | ret=>
   obtain ⟨q1,v1,q2,q3⟩:=hq
   exact ⟨q1,u',rfl,v1,q2,rfl,q3⟩
  | panic c=>
   obtain ⟨q1,q3⟩:=hq
   exact ⟨q1,u',rfl,rfl,q3⟩
  | outgrown=>exact ⟨u',rfl,hq⟩
  | exit i=>exact hq
  | goto i=>exact hq
 simp only [List.size_toArray,List.length_cons,List.length_nil,show List.range 2=[0,1] from rfl]
 unfold wpOpsS
 simp only [List.getElem?_toArray,List.getElem?_cons_zero];rw [if_pos (Bv rfl)]
 have e1:(execOp a.eval ⟨some t,.call ⟨.builtin .recover,#[],#[]⟩,ty1,pos1,after1,none⟩).run P w = .ok .recover w:=by
  simp [execOp,resolve,invoke,builtin,Result.andThen]
 rw [e1];simp only
 rcases hr c₀ cs hu with h1|⟨h1,h2,h3⟩
 · rw [h1]
   exact hgo _ rfl
 · rw [h1]
   subst h2;refine hgo _ ?_;rw [h3,←hu]
end
open Go.Proofs
attribute [local irreducible] Go.Calls
section
variable {c:RC} {P P':Nat→Prop} {w w':World} {r:Rn} {T:Nat→Prop}
theorem Run.away (h:Run c P w r) (x:Fr T w w') (hT : ∀k,T k→P k ∧ ¬c.S k):Run c P w' r:=by
 obtain ⟨ρ,κ,h1,h2,h3,h4,⟨es,h5,h6⟩,h7,h8,h9,b,a⟩:=h;have hs:=x.size
 have hB : ∀k,Wa (ρ k) → ¬T k:=fun k hk ht=>(a k (hT k ht).1).1 hk
 exact ⟨ρ,κ,h1,h2,h3,h4.fr x (hB _ (by rw [h1];exact Or.inr (Or.inl rfl))),⟨es,h5,h6.fr x (hB _ (by rw [h2];exact Or.inr (Or.inr rfl)))⟩,h7.fr x (fun k hk ht=>hB k (Or.inl ht) hk),h8,h9.frS x (fun k hk ht=>(hT k ht).2 hk),b,fun k hk=>⟨(a k hk).1,by have:=(a k hk).2;omega⟩⟩
theorem S0 (jb:Nat) (w:World) (hj:Blk w jb [.slice none 0 0,.bool false]):Calls prog 105 #[.pointer (some ⟨jb,0,none⟩)] w fun e w'=>e = .returned (.int .i64 0)∧Ext w w':=by
 have X:=Ext.refl w;refine Ad func105 ntmps105 rfl rfl ?_
 focus
  refine eK ?_;refine C1 (A8 Aa rfl rfl) ?_;refine eK ?_;refine Af rfl rfl ?_;rotate_left
 exact ⟨rfl,X⟩
theorem S5 (b2 b5 b4:Nat) (w:World):CallsD prog 106 #[.pointer (some ⟨b2,0,none⟩),.pointer (some ⟨b5,0,none⟩),.pointer (some ⟨b4,0,none⟩)] .returning w fun e u w'=>u = .returning∧e = .returned (.tuple #[])∧Ext w w':=by
 have X:=Ext.refl w;refine KV (args:=[_,_,_]) (v:=.nilIface) func106 ntmps106 rfl rfl rfl rfl (fun c cs hc=>Or.inr ⟨by simp [recoverD,hc],rfl,rfl⟩) ?_
 focus
  refine eK ?_;refine C1 (Qu Aa rfl rfl) ?_;refine eK ?_;refine L8 rfl ?_;rotate_left
 exact ⟨rfl,X⟩
theorem O9 (b2 b5 b4 jb:Nat) (er e0:Int) (w:World) (h2:Blk w b2 [.pointer (some ⟨jb,0,none⟩)]) (hj:Blk w jb [.slice none 0 0,.bool false]) (h5:Blk w b5 [.int .i64 0]) (h4:Blk w b4 [.int .i64 e0]) (hlt:b4<w.heap.size) :
 CallsD prog 106 #[.pointer (some ⟨b2,0,none⟩),.pointer (some ⟨b5,0,none⟩),.pointer (some ⟨b4,0,none⟩)] (.panicking (KO er)) w fun e u w'=>u = .panicking [{ v:=.iface 156 (.agg #[.int .i64 er]),recovered:=true }]∧e = .returned (.tuple #[])∧Blk w' b4 [.int .i64 er]∧Fr (· = b4) w w':=by
 have F:=Fr.refl (· = b4) w;have HL:=Lib.hid (fun w1 h=>S0 jb w1 h);refine KV (args:=[_,_,_]) (v:=.iface 156 (.agg #[.int .i64 er])) func106 ntmps106 rfl rfl rfl rfl (fun c cs hc=>Or.inl (by simp [recoverD,hc,KO])) ?_
 focus
  refine eK ?_;refine C1 (RY Aa rfl rfl) ?_;refine eK ?_;refine Ax (fun wz=>Ext w wz) 3 (.pure 0 (.pure 2 (.fork 1 .tail .none))) mixed (by kernel_rfl) (Ac (Ac Ak)) ?_;intro w1 x2 _;have a:(fun wz=>Ext w wz) w1:=x2;simp only at a;have b:=h2;have k:=hj;have d:=h5;have l:=h4;revert h2 hj h5 h4 F;refine eY x2 ?_;intro z4 h2 hj h5 h4 F;refine ⟨a,?_⟩;refine Tq rfl (Db b) (Tq rfl (Db d) ?_);refine At rfl (Av (by kernel_rfl) rfl (HL.out _ ‹_›) (fun _ _ h=>⟨_,h.1⟩)) rfl ?_ (fun _ h=>h) As;rintro _ w7 ⟨⟨⟩,x6⟩;revert a h2 hj h5 h4 F;refine eY x6 ?_;intro z8 a h2 hj h5 h4 F;refine ⟨a,?_⟩;refine Az rfl ?_;refine eK ?_;refine C1 (Oy (by kernel_rfl) rfl) ?_;refine eK ?_;refine AB [_] Bj rfl rfl ?_;intro b9 m i;refine eI [_] i ?_;intro n f j o p;revert h2 hj h5 h4 F;refine eE j ?_;intro h2 hj h5 h4 F;refine eK ?_;refine eS [_] h4 ?_;intro q r g s;replace f:=f.fr g (by omega);clear h2 hj h5;replace F:=F.fr g (by omega);refine Aj (Bt rfl ?_);rotate_left
 exact ⟨rfl,by assumption,F⟩
def AttR (c:RC) (P:Nat→Prop) (Z:Except Int Rn) (w:World):Ending→World→Prop:=fun e w'=> ∃er,e = .returned (.int .i64 er)∧((er=0 ∧ ∃r,Z = .ok r∧Run c P w' r)∨(er≠0∧Z = .error er))∧Fr (fun k=> ¬P k) w w'
theorem AttR.ret {Z:Except Int Rn} {e:Ending} (h:AttR c P Z w e w') : ∃v,e = .returned v:=by
 obtain ⟨_,h,-⟩:=h
 exact ⟨_,h⟩
theorem Rw {jb:Nat} {f:FuncId} {ca:List Value} (hb:CV prog f=true) {Z:Except Int Rn} (hz:Z≠.error 0) (w:World) (hP : ∀k,P k→k<w.heap.size) (hS : ∀k,c.S k→P k) (hjP:P jb) (hj:Blk w jb [.slice none 0 0,.bool false])
 (HC : ∀w1,Ext w w1→Calls prog f ca.toArray w1 (DH c (Ch P w w1) Z w1)) :
 Calls prog 64 #[.pointer (some ⟨jb,0,none⟩),.func (.func f) #[] ca.toArray] w (AttR c P Z w):=by
 have X:=Ext.refl w;have HL:=Lib.hid (fun w1 h=>S0 jb w1 h);have HC:=Lib.hid HC;refine Ru (args:=[_,_]) func64 ntmps64 rfl rfl ?_
 focus
  refine cS (eB [_] ?_);intro b1 w2 h4 x5 p6 z7;revert hj X;refine eE x5 ?_;intro hj X;refine eA [_] ?_;intro b8 w9 a d m n;revert h4 hj X;refine eE d ?_;intro h4 hj X;refine eK ?_;refine C1 (A8 Aa rfl rfl) ?_;refine eK ?_;refine C1 (Il Aa rfl rfl) (C1 (Bh rfl rfl rfl) ?_);refine eK ?_;refine cC rfl (HL.out _ ‹_›) ?_;rintro _ o ⟨⟨⟩,g⟩;revert a h4 hj X;refine eY g ?_;intro p a h4 hj X;refine AB [_] Bj rfl rfl ?_;intro b q i;refine eI [_] i ?_;intro s j l t x;revert a h4 hj X;refine eE l ?_;intro a h4 hj X;refine cT ?_;rotate_left
 have y:=X.size;refine Am (Ah (Ab (E8 rfl) rfl (SZ rfl (MI (KS ?_)))));refine P7 (KT (SX (Ap rfl) rfl (Rv (fi:=[]) (vs:=[]) (ca:=ca) (xs:=[]) hb rfl rfl rfl (HC.out _ X) (fun _ _ h=>h.ret) ?_ ?_)))
 · rintro v w1 ⟨r,he,hr,hv,F⟩;obtain rfl:=Ending.returned.inj he;have h8:=a.fr F (fun h=>h (Or.inr ⟨by omega,by omega⟩));refine MI (KS (P7 (KT (Rs Aa rfl rfl rfl rfl rfl h8 fun w3 h9 F2=>MI (KS (UE (L1 (u':=.returning) (fi:=[]) (ca:=[.pointer (some ⟨b1,0,none⟩),.pointer (some ⟨b,0,none⟩),.pointer (some ⟨b8,0,none⟩)]) (Or.inl ⟨rfl,rfl⟩) (by kernel_rfl) rfl Aa rfl rfl rfl rfl ((S5 b1 b b8 w3).mono ?_))))))));rintro e u w4 ⟨rfl,rfl,x4⟩;have F3:Fr (fun k=> ¬P k) w w4:=(((Fr.of_ext X).fr F (fun k hk=>Or.inl (fun h=>hk (Or.inl h)))).fr F2 (fun k hk=>Or.inl (fun h=>by have:=hP k h;have e:k=b8:=hk;omega))).ext x4
   exact ⟨rfl,rfl,_,h9.ext x4,0,rfl,Or.inl ⟨rfl,r,hr,((hv.away F2 (fun k hk=>⟨Or.inr ⟨by have e:k=b8:=hk;omega,by have e:k=b8:=hk;omega⟩,fun h=>by have e:k=b8:=hk;have:=hP k (hS k h);omega⟩)).ext x4).less hS (fun k=>Or.inl)⟩,F3⟩
 · rintro ch w1 ⟨er,he,rfl,F⟩;have h8:=a.fr F (fun h=>h (Or.inr ⟨by omega,by omega⟩));refine KU (L1 (u':=.panicking [{ v:=.iface 156 (.agg #[.int .i64 er]),recovered:=true }]) (fi:=[]) (ca:=[.pointer (some ⟨b1,0,none⟩),.pointer (some ⟨b,0,none⟩),.pointer (some ⟨b8,0,none⟩)]) (Or.inr ⟨_,rfl,rfl⟩) (by kernel_rfl) rfl Aa rfl rfl rfl rfl ((O9 b1 b b8 jb er 0 w1 (h4.fr F (fun h=>h (Or.inr ⟨by omega,by omega⟩))) (hj.fr F (fun h=>h (Or.inl hjP))) (j.fr F (fun h=>h (Or.inr ⟨by omega,by omega⟩))) h8 h8.lt).mono ?_));rintro e u w4 ⟨rfl,rfl,h9,F2⟩;have F3:Fr (fun k=> ¬P k) w w4:=((Fr.of_ext X).fr F (fun k hk=>Or.inl (fun h=>hk (Or.inl h)))).fr F2 (fun k hk=>Or.inl (fun h=>by have:=hP k h;have e:k=b8:=hk;omega))
   exact ⟨rfl,rfl,_,h9,er,rfl,Or.inr ⟨fun e=>hz (e▸he),he⟩,F3⟩
end
structure SV where
 cells:List (List Int)
 tin:List Int
 tout:List Int
def U0 (S:Nat→Prop) (w:World) (b o:Nat) (xs:List Int):Prop:= ∃a c,Row w ⟨b,o,none⟩ [.slice a xs.length c]∧Rows S w (ints xs) a
def ICs (S:Nat→Prop) (w:World) (l:List (List Int)) (a:Option Addr):Prop:=Arr S 1 (U0 S) w l a
abbrev SV.row (s:SV) (a:Option Addr) (c:Nat) (ta:Option Addr) (tc:Nat) (oa:Option Addr) (oc:Nat):List Value:=[.slice a s.cells.length c,.slice ta s.tin.length tc,.slice oa s.tout.length oc]
structure SV.sits (S:Nat→Prop) (w:World) (s:SV) (a ta oa:Option Addr):Prop where
 cells:ICs S w s.cells a
 tin:Rows S w (ints s.tin) ta
 tout:Rows S w (ints s.tout) oa
section
variable {S S' T:Nat→Prop} {w w':World} {l:List (List Int)} {xs:List Int} {a ta oa:Option Addr} {s:SV}
theorem ICs.ext (h:ICs S w l a) (x:Ext w w'):ICs S w' l a:=h.mono (fun _ h=>h) (fun _ _ _ _ _ ⟨a,c,h1,h2⟩=>⟨a,c,h1.ext x,h2.ext x⟩)
instance  : LfE w w' (ICs S w l a) (ICs S w' l a):=⟨fun x h=>Bk.ICs.ext h x⟩
theorem ICs.fr (h:ICs S w l a) (x:Fr T w w') (hs : ∀b,S b → ¬T b):ICs S w' l a:=h.mono (fun _ h=>h) (fun b _ _ _ hb ⟨a,c,h1,h2⟩=>⟨a,c,h1.fr x (hs b hb),h2.fr x hs⟩)
instance  : LfF T w w' (ICs S w l a) (∀b,S b → ¬T b) (ICs S w' l a):=⟨fun x s h=>Bk.ICs.fr h x s⟩
theorem ICs.wide (h:ICs S w l a) (hS : ∀b,S b→S' b):ICs S' w l a:=h.mono hS (fun _ _ _ _ _ ⟨a,c,h1,h2⟩=>⟨a,c,h1,h2.wide hS⟩)
theorem ICs.ltA (h:ICs S w l a):ICs (· < w.heap.size) w l a:=by
 rcases h with h|⟨b,o,h1,h2,h3⟩
 · exact Or.inl h
 · cases l with
   | nil=>exact Or.inl rfl
   | cons v r=>
    refine Or.inr ⟨b,o,h1,?_,fun i x hi=>?_⟩
    · obtain ⟨a,c,h4,-⟩:=h3 0 v rfl
      exact Ca (Row.at0 h4 rfl)
    · obtain ⟨a,c,h4,h5⟩:=h3 i x hi
      exact ⟨a,c,h4,h5.ltA⟩
theorem ICs.get (h:ICs S w l a) (hl:l≠[]) : ∃b o,a=some ⟨b,o,none⟩∧S b ∧ ∀i x,l[i]? = some x→U0 S w b (o+i*1) x:=by
 rcases h with h|⟨b,o,h1,h2,h3⟩
 · exact absurd h hl
 · exact ⟨b,o,h1,h2,fun i v hi=>h3 i v hi⟩
theorem SV.sits.ext (h:s.sits S w a ta oa) (x:Ext w w'):s.sits S w' a ta oa:=⟨h.cells.ext x,h.tin.ext x,h.tout.ext x⟩
instance  : LfE w w' (s.sits S w a ta oa) (s.sits S w' a ta oa):=⟨fun x h=>Bk.SV.sits.ext h x⟩
theorem SV.sits.fr (h:s.sits S w a ta oa) (x:Fr T w w') (hs : ∀b,S b → ¬T b):s.sits S w' a ta oa:=⟨h.cells.fr x hs,h.tin.fr x hs,h.tout.fr x hs⟩
instance  : LfF T w w' (s.sits S w a ta oa) (∀b,S b → ¬T b) (s.sits S w' a ta oa):=⟨fun x s h=>Bk.SV.sits.fr h x s⟩
theorem SV.sits.wide (h:s.sits S w a ta oa) (hS : ∀b,S b→S' b):s.sits S' w a ta oa:=⟨h.cells.wide hS,h.tin.wide hS,h.tout.wide hS⟩
theorem SV.sits.ltA (h:s.sits S w a ta oa):s.sits (· < w.heap.size) w a ta oa:=⟨h.cells.ltA,h.tin.ltA,h.tout.ltA⟩
end
def N7 (v:VD):Prop:=((v.kind=1∨v.kind=3)∧v.len=0)∨(v.kind=2∧1≤v.len∧v.len≤16)
def MJ (l:List VD):Prop:=l.length≤32 ∧ ∀v∈l,N7 v
def KW (v:VD):Int:=if v.kind=1 then 1 else v.len
def N8 (v:VD) (xs:List Int):Prop:=if v.kind=3 then xs.length≤1000 else (xs.length:Int)=KW v
def FitsP (l:List VD) (s:SV):Prop:=MJ l∧s.cells.length=l.length∧s.tin.length≤4096∧s.tout.length≤4096 ∧ ∀(i:Nat) (v:VD) (xs:List Int),l[i]? = some v→s.cells[i]? = some xs→N8 v xs
theorem UF (l:List VD) (hl:l.length≤1000000) (S:Nat→Prop) (a:Option Addr) (c:Nat) (w:World) (hs:VDs S w l a) :
 Calls prog 33 #[.slice a l.length c] w fun e w'=> ∃q,e = .returned (.bool q)∧(q=true↔MJ l)∧Ext w w':=by
 have X:=Ext.refl w;refine Ad func33 ntmps33 rfl rfl ?_
 by_cases b:l.length≤32
 · focus
    refine cS (C1 Pa (cT (Am (cS (C1 Mv (C1 Pz (C1 V5 (cT (Hn (AH (Ai ?_)))))))))));refine Am (cS (C1 Mv (C1 Pz (C1 Mv (cT ?_)))));rotate_left
   refine AK ?_;refine Bn (ι:=Nat) (fun j=>[(2,.bool false),(8,.slice a l.length c),(9,.int .i64 l.length),(10,.int .i64 j)])
    (fun j w'=>j≤l.length∧(∀v∈l.take j,N7 v)∧VDs S w' l a∧Ext w w') (fun j=>l.length-j) 0 sB ⟨Nat.zero_le _,by simp,hs,X⟩ ?_
   clear hs X;rintro j w1 ⟨hj,hok,hs,X⟩
   by_cases hlt:j<l.length
   · obtain ⟨kb,ko,rfl,kS,hk⟩:=Arr.get hs (by omega);have rx:=hk j _ (List.getElem?_eq_getElem hlt)
     have hno : ¬N7 l[j] → ¬MJ l:=fun h h2=>h (h2.2 _ (List.getElem_mem hlt))
     have hnx:N7 l[j] → ∀v∈l.take (j+1),N7 v:=fun h v hv=>by
      rw [List.take_succ_eq_append_getElem hlt,List.mem_append,List.mem_singleton] at hv
      rcases hv with hv|rfl
      · exact hok v hv
      · exact h
     clear hk hok
     generalize l[j]=x at *
     obtain ⟨xn,xk,xl⟩:=x;replace rx:Row w1 ⟨kb,ko+j*3,none⟩ [str xn,.int .u8 xk,.int .i64 xl]:=rx;simp only [N7] at hno hnx
     focus
      refine eK ?_;refine C1 (Gb rx) (AB [_,_,_] Bj rfl rfl ?_);intro r s n;refine eI [_,_,_] n ?_;intro t u o y z;revert X hs rx;refine eE o ?_;intro X hs rx;refine eK ?_;refine AO rfl (fun p=>?_) (fun p=>?_);refine eK ?_;refine BS rfl (fun d=>?_) (fun d=>?_);refine eK ?_;refine Af rfl rfl ?_;rotate_left;refine AH (An (An (Ai (Ah (C1 V7 (C1 Mv (Aj ?_)))))));rotate_left;refine eK ?_;refine AO rfl (fun f=>?_) (fun f=>?_);refine eK ?_;refine BS rfl (fun g=>?_) (fun g=>?_);refine eK ?_;refine Af rfl rfl ?_;rotate_left;refine AH (An (An (Ai (Ah (C1 V7 (C1 Mv (Aj ?_)))))));rotate_left;refine eK ?_;refine AO rfl (fun i=>?_) (fun i=>?_);refine eK ?_;refine CP rfl rfl rfl (fun k=>?_) (fun k=>?_);refine eK ?_;refine Af rfl rfl ?_;rotate_left;refine eK ?_;refine AO rfl (fun m=>?_) (fun m=>?_);refine eK ?_;refine Af rfl rfl ?_;rotate_left;refine AH (An (An (Ai (Ah (C1 V7 (C1 Mv (Aj ?_)))))));rotate_left;refine eK ?_;refine Af rfl rfl ?_;rotate_left
     · exact ⟨false,rfl,⟨fun h=>(by cases h),fun h=>absurd h (hno (by omega))⟩,X⟩
     · exact AW (j+1) sB ⟨by omega,hnx (by omega),hs,X⟩ (by omega)
     · exact ⟨false,rfl,⟨fun h=>(by cases h),fun h=>absurd h (hno (by omega))⟩,X⟩
     · exact AW (j+1) sB ⟨by omega,hnx (by omega),hs,X⟩ (by omega)
     · exact ⟨false,rfl,⟨fun h=>(by cases h),fun h=>absurd h (hno (by omega))⟩,X⟩
     · exact ⟨false,rfl,⟨fun h=>(by cases h),fun h=>absurd h (hno (by omega))⟩,X⟩
     · exact AW (j+1) sB ⟨by omega,hnx (by omega),hs,X⟩ (by omega)
     · exact ⟨false,rfl,⟨fun h=>(by cases h),fun h=>absurd h (hno (by omega))⟩,X⟩
   · obtain rfl:j=l.length:=by omega
     rw [List.take_length] at hok
     focus
      refine eK ?_;refine Af rfl rfl ?_;rotate_left
     exact ⟨true,rfl,⟨fun _=>⟨b,hok⟩,fun _=>rfl⟩,X⟩
 · focus
    refine eK ?_;refine Af rfl rfl ?_;rotate_left
   exact ⟨false,rfl,⟨fun h=>(by cases h),fun h=>absurd h.1 b⟩,X⟩
theorem UG (v:VD) (w:World):Calls prog 34 #[v.val] w fun e w'=>e = .returned (.int .i64 (KW v))∧Ext w w':=by
 have X:=Ext.refl w;obtain ⟨vn,vk,vl⟩:=v
 unfold KW
 by_cases hk:vk=1
 · subst hk;refine Ad func34 ntmps34 rfl rfl ?_
   focus
    refine cS (JJ [_,_,_] rfl rfl rfl ?_);intro b1 w2 n3;have h4:=n3.blk;dsimp only at h4;have x5:=n3.ext;have p6:=n3.pos;have z7:=n3.size;replace X:=X.ext x5;refine eK ?_;refine Af rfl rfl ?_;rotate_left
   exact ⟨rfl,X⟩
 · change Calls prog _ #[.agg #[str vn,.int .u8 vk,.int .i64 vl]] w _
   simp only [if_neg hk];refine Ad func34 ntmps34 rfl rfl ?_
   focus
    refine cS (eB [_,_,_] ?_);intro b c d a f g;replace X:=X.ext a;refine eK ?_;refine Af rfl rfl ?_;rotate_left
   exact ⟨rfl,X⟩
theorem S6 (l:List VD) (hl:l.length≤1000000) (s:SV) (S:Nat→Prop) (a ca ta oa:Option Addr) (c cc tc oc:Nat) (w:World) (hn:s.cells.length≤1000000) (hs:VDs S w l a) (hv:s.sits S w ca ta oa) :
 Calls prog 10 #[.slice a l.length c,.agg (s.row ca cc ta tc oa oc).toArray] w fun e w'=> ∃q,e = .returned (.bool q)∧(q=true↔FitsP l s)∧Ext w w':=by
 have X:=Ext.refl w
 replace hs:VDs (· < w.heap.size) w l a:=hs.lt2.wide fun _ h=>h.2
 replace hv:=hv.ltA;have HV:=Lib.hid (fun w1 h=>UF l hl (· < w.heap.size) a c w1 h);obtain ⟨cells,tin,tout⟩:=s;obtain ⟨hc,-,-⟩:=hv;simp only at hc hn
 change Calls prog _ #[_,.agg #[.slice ca cells.length cc,.slice ta tin.length tc,.slice oa tout.length oc]] w _
 have hf : ¬FitsP l ⟨cells,tin,tout⟩ → ∀w',Ext w w' → ∃q,Ending.returned (.bool false) = .returned (.bool q)∧(q=true↔FitsP l ⟨cells,tin,tout⟩)∧Ext w w':=fun h w' x=>⟨false,rfl,⟨fun h=>(by cases h),fun h2=>absurd h2 h⟩,x⟩
 by_cases e1:MJ l
 · have HV2:Hid (∀w1,VDs (· < w.heap.size) w1 l a→Calls prog 33 #[.slice a l.length c] w1 fun e w'=>e = .returned (.bool true)∧Ext w1 w'):=Lib.hid fun w1 h=>(HV.out w1 h).mono fun e w' ⟨q,h1,h2,h3⟩=>⟨by rw [h1,h2.2 e1],h3⟩
   clear HV
   by_cases e2:cells.length=l.length
   · by_cases e3:tin.length≤4096
     · by_cases e4:tout.length≤4096
       · refine Ad func10 ntmps10 rfl rfl ?_
         focus
          refine cS (eB [_,_,_] ?_);intro b1 w2 h4 x5 p6 z7;revert X hs hc;refine eE x5 ?_;intro X hs hc;refine eK ?_;refine cC rfl (HV2.out _ ‹_›) ?_;rintro _ w9 ⟨⟨⟩,x8⟩;revert h4 X hs hc;refine eY x8 ?_;intro af h4 X hs hc;refine eK ?_;refine C1 (Bh rfl rfl rfl) (C1 Mv (JD (C1 Pf (JD (C1 (Pl h4) (JD (C1 Pz (JD (C1 V5 (C1 TF (C1 Mv ?_)))))))))));refine JD (C1 Pf (JD (C1 (Pl h4) (JD (C1 Pz (JD (C1 V5 (C1 TF (cT (Hn (AH ?_)))))))))));refine Ai (Am (cS (C1 Mv (C1 Pz (C1 Mv (cT ?_))))));rotate_left
         refine AK ?_;refine Bn (ι:=Nat) (fun j=>[(3,.pointer (some ⟨b1,0,none⟩)),(4,.bool false),(30,.slice a l.length c),(31,.int .i64 l.length),(32,.int .i64 j)])
          (fun j w'=>j≤l.length∧(∀(i:Nat) (v:VD) (xs:List Int),i<j→l[i]? = some v→cells[i]? = some xs→N8 v xs)∧Blk w' b1 [.slice ca cells.length cc,.slice ta tin.length tc,.slice oa tout.length oc]∧VDs (· < w.heap.size) w' l a∧ICs (· < w.heap.size) w' cells ca∧Ext w w'∧b1+1≤w'.heap.size) (fun j=>l.length-j) 0 sB ⟨Nat.zero_le _,fun i v xs h=>by omega,h4,hs,hc,X,by omega⟩ ?_
         clear h4 hs hc X;rintro j w1 ⟨hj,hok,h4,hs,hc,X,hz⟩
         by_cases hlt:j<l.length
         · obtain ⟨kb,ko,rfl,kS,hk⟩:=Arr.get hs (by omega);obtain ⟨db,dof,rfl,dS,hd⟩:=hc.get (by intro e;rw [e] at e2;simp at e2;omega);have rx:=hk j _ (List.getElem?_eq_getElem hlt);obtain ⟨xa,xc,ry,-⟩:=hd j _ (List.getElem?_eq_getElem (by omega))
           have hno : ¬N8 l[j] cells[j] → ¬FitsP l ⟨cells,tin,tout⟩:=fun h h2=>h (h2.2.2.2.2 j _ _ (List.getElem?_eq_getElem hlt) (List.getElem?_eq_getElem (show j<cells.length by omega)))
           have hnx:N8 l[j] cells[j] → ∀(i:Nat) (v:VD) (xs:List Int),i<j+1→l[i]? = some v→cells[i]? = some xs→N8 v xs:=fun h i v xs hi h1 h2=>by
            by_cases e:i=j
            · subst e;rw [List.getElem?_eq_getElem hlt] at h1;rw [List.getElem?_eq_getElem (by omega)] at h2
              rw [←Option.some.inj h1,←Option.some.inj h2]
              exact h
            · exact hok i v xs (by omega) h1 h2
           have HX:=Lib.hid (fun w1=>UG l[j] w1);clear hk hd hok
           generalize l[j]=x at *
           generalize cells[j]=xs at *
           obtain ⟨xn,xk,xl⟩:=x;replace rx:Row w1 ⟨kb,ko+j*3,none⟩ [str xn,.int .u8 xk,.int .i64 xl]:=rx
           unfold VD.val at HX
           unfold N8 at hno hnx
           dsimp only at hno hnx HX
           by_cases hx3:xk=3
           · rw [if_pos hx3] at hno hnx
             focus
              refine eK ?_;refine C1 (Gb rx) (eA [_,_,_] ?_);intro ag ah D E ai aj;revert X hs h4 hc ry rx;refine eE E ?_;intro X hs h4 hc ry rx;refine C1 Pa (eS [_,_,_] D ?_);intro ak Q k R;revert X hs h4 hc ry rx;refine eF k ?_;intro X hs h4 hc ry rx;refine eK ?_;refine C1 (G6 ry) ?_;refine eK ?_;refine AO rfl (fun m=>?_) (fun m=>?_);refine eK ?_;refine Af rfl rfl ?_;rotate_left;refine AH (An (Ai (Ah (C1 V7 (C1 Mv (Aj ?_))))));rotate_left
             · exact hf (hno (by omega)) _ X
             · exact AW (j+1) sB ⟨by omega,hnx (by omega),h4,hs,hc,X,by omega⟩ (by omega)
           · rw [if_neg hx3] at hno hnx
             focus
              refine eK ?_;refine C1 (Gb rx) (eA [_,_,_] ?_);intro al am F G an ao;revert X hs h4 hc ry rx;refine eE G ?_;intro X hs h4 hc ry rx;refine C1 Pa (eS [_,_,_] F ?_);intro n d o T;revert X hs h4 hc ry rx;refine eF o ?_;intro X hs h4 hc ry rx;refine eK ?_;refine Ax (fun wz=>Ext n wz) 8 (.pure 0 (.pure 1 (.pure 2 (.pure 3 (.pure 4 (.pure 5 (.pure 6 (.fork 7 .tail .none)))))))) mixed (by kernel_rfl) (Ac (Ao (Ac (Ac (Ao (Ac Ak)))))) ?_;intro p g _;have b:(fun wz=>Ext n wz) p:=g;simp only at b;have f:=d;have U:=hs;have r:=h4;have V:=hc;have t:=ry;have W:=rx;revert d X hs h4 hc ry rx;refine eY g ?_;intro Y d X hs h4 hc ry rx;refine ⟨b,?_⟩;refine Tq rfl Pg (Tq rfl (Db r) (Tq rfl Mv (Tq rfl Pi (Tq rfl (Al Aa rfl rfl rfl (fun wz hz=>Row.at0 (Row.ext t hz) rfl)) (Tq rfl Pz (Tq rfl (Aw [_,_,_] Aa rfl rfl rfl (fun wz hz=>(Blk.ext f hz)) rfl rfl) ?_))))));refine At rfl (Av (by kernel_rfl) rfl (HX.out _) (fun _ _ h=>⟨_,h.1⟩)) rfl ?_ (fun _ h=>h) As;rintro _ Z ⟨⟨⟩,u⟩;revert b d X hs h4 hc ry rx;refine eY u ?_;intro aa b d X hs h4 hc ry rx;refine ⟨b,?_⟩
              refine Az rfl ?_;refine eK ?_;refine BS rfl (fun y=>?_) (fun y=>?_);refine eK ?_;refine Af rfl rfl ?_;rotate_left;refine AH (An (Ai (Ah (C1 V7 (C1 Mv (Aj ?_))))));rotate_left
             · exact hf (hno (by omega)) _ X
             · exact AW (j+1) sB ⟨by omega,hnx (by omega),h4,hs,hc,X,by omega⟩ (by omega)
         · obtain rfl:j=l.length:=by omega
           focus
            refine eK ?_;refine Af rfl rfl ?_;rotate_left
           exact ⟨true,rfl,⟨fun _=>⟨e1,e2,e3,e4,fun i v xs h1 h2=>hok i v xs (by have:=List.getElem?_eq_some_iff.1 h1;exact this.1) h1 h2⟩,fun _=>rfl⟩,X⟩
       · refine Ad func10 ntmps10 rfl rfl ?_
         focus
          refine cS (eB [_,_,_] ?_);intro ap aq z H ar au;revert X hs hc;refine eE H ?_;intro X hs hc;refine eK ?_;refine cC rfl (HV2.out _ ‹_›) ?_;rintro _ av ⟨⟨⟩,I⟩;revert z X hs hc;refine eY I ?_;intro ab z X hs hc;refine eK ?_;refine C1 (Bh rfl rfl rfl) ?_;refine eK ?_;refine Af rfl rfl ?_;rotate_left
         exact hf (fun h=>e4 h.2.2.2.1) _ X
     · refine Ad func10 ntmps10 rfl rfl ?_
       focus
        refine cS (eB [_,_,_] ?_);intro aw ax A J ay az;revert X hs hc;refine eE J ?_;intro X hs hc;refine eK ?_;refine cC rfl (HV2.out _ ‹_›) ?_;rintro _ a0 ⟨⟨⟩,K⟩;revert A X hs hc;refine eY K ?_;intro ac A X hs hc;refine eK ?_;refine C1 (Bh rfl rfl rfl) ?_;refine eK ?_;refine Af rfl rfl ?_;rotate_left
       exact hf (fun h=>e3 h.2.2.1) _ X
   · refine Ad func10 ntmps10 rfl rfl ?_
     focus
      refine cS (eB [_,_,_] ?_);intro a1 a2 B L a3 a4;revert X hs hc;refine eE L ?_;intro X hs hc;refine eK ?_;refine cC rfl (HV2.out _ ‹_›) ?_;rintro _ a5 ⟨⟨⟩,M⟩;revert B X hs hc;refine eY M ?_;intro ad B X hs hc;refine eK ?_;refine C1 (Bh rfl rfl rfl) ?_;refine eK ?_;refine C1 (A0 rfl rfl rfl) ?_;refine eK ?_;refine Af rfl rfl ?_;rotate_left
     exact hf (fun h=>e2 h.2.1) _ X
 · have HV2:Hid (∀w1,VDs (· < w.heap.size) w1 l a→Calls prog 33 #[.slice a l.length c] w1 fun e w'=>e = .returned (.bool false)∧Ext w1 w'):=Lib.hid fun w1 h=>(HV.out w1 h).mono fun e w' ⟨q,h1,h2,h3⟩=>⟨by rw [h1,show q=false by cases q with|false=>rfl|true=>exact absurd (h2.1 rfl) e1],h3⟩
   clear HV;refine Ad func10 ntmps10 rfl rfl ?_
   focus
    refine cS (eB [_,_,_] ?_);intro a6 a7 C N a8 a9;revert X hs hc;refine eE N ?_;intro X hs hc;refine eK ?_;refine cC rfl (HV2.out _ ‹_›) ?_;rintro _ ba ⟨⟨⟩,O⟩;revert C X hs hc;refine eY O ?_;intro ae C X hs hc;refine eK ?_;refine C1 (A0 rfl rfl rfl) ?_;refine eK ?_;refine C1 (A0 rfl rfl rfl) ?_;refine eK ?_;refine C1 (A0 rfl rfl rfl) ?_;refine eK ?_;refine Af rfl rfl ?_;rotate_left
   exact hf (fun h=>e1 h.1) _ X
def FF:Shape (List Int) where
 sz:=1
 rep:=fun w S xs cs=> ∃a c,cs=[.slice a xs.length c]∧Rows S w (ints xs) a
 len:=fun ⟨_,_,h,_⟩=>by rw [h];rfl
 one:=fun ⟨_,_,h,_⟩=>by rw [h];rfl
 mono:=fun ⟨a,c,h,h2⟩ hS hc=>⟨a,c,h,h2.move hS (fun b o v hb h=>hc b o v hb h)⟩
 lt:=fun ⟨a,c,h,h2⟩=>⟨a,c,h,h2.lt2⟩
theorem OwnQ.ics {w:World} {R:Nat→Prop} {B e:Nat} {a:Option Addr} {len cap:Nat} {xs:List (List Int)} {S:Nat→Prop} (h:OwnQ FF w R B e (.slice a len cap) xs) (hR : ∀b,R b→S b) (hS : ∀b,B≤b→b<w.heap.size→S b):ICs S w xs a:=by
 by_cases hx:xs=[]
 · exact Or.inl hx
 · obtain ⟨g,cap',hv,hg,hl,hall⟩:=h.rows hx
   simp only [Value.slice.injEq] at hv;obtain ⟨rfl,-,-⟩:=hv;refine Or.inr ⟨g,0,rfl,hS g hg hl,fun i x hi=>?_⟩;obtain ⟨cs,hr,a,c,rfl,h2⟩:=hall i x hi
   exact ⟨a,c,by simpa [FF] using hr,h2.wide hR⟩
theorem Jd {S:Nat→Prop} {w:World} {xs:List Int} {a:Option Addr} (h:Rows S w (ints xs) a):IntsAt w xs a:=h.wide fun _ _=>trivial
theorem OwnI.rowsI {w:World} {B:Nat} {a:Option Addr} {n c:Nat} {xs:List Int} {S:Nat→Prop} (h:OwnI w B (.slice a n c) xs) (hS : ∀k,(Value.slice a n c).ownBlock=some k→S k):Rows S w (ints xs) a:=by
 rcases h.open with ⟨h1,h2⟩|⟨g,cap,zs,h1,h2,h3,h4,h5⟩
 · subst h2
   exact Or.inl rfl
 · simp only [Value.slice.injEq] at h1
   obtain ⟨rfl,-,-⟩:=h1;refine Or.inr ⟨g,0,rfl,hS g rfl,fun i v hi=>?_⟩
   exact (h3.blk.row) i v (by rw [List.getElem?_append_left];exact hi;exact (List.getElem?_eq_some_iff.1 hi).1)
def SvR (s:SV) (w:World):Ending→World→Prop:=fun e w'=> ∃a c ta tc oa oc,e = .returned (.agg (s.row a c ta tc oa oc).toArray)∧s.sits (fun b=>w.heap.size≤b∧b<w'.heap.size) w' a ta oa∧Ext w w'
theorem SvR.ret {s:SV} {w w':World} {e:Ending} (h:SvR s w e w') : ∃v,e = .returned v:=by
 obtain ⟨_,_,_,_,_,_,h,-⟩:=h
 exact ⟨_,h⟩
def CloneS (xs:List Int) (w:World):Ending→World→Prop:=fun e w'=> ∃a c,e = .returned (.slice a xs.length c)∧Rows (fun b=>w.heap.size≤b∧b<w'.heap.size) w' (ints xs) a∧Ext w w'
theorem CloneS.ret {xs:List Int} {w w':World} {e:Ending} (h:CloneS xs w e w') : ∃v,e = .returned v:=by
 obtain ⟨_,_,h,-⟩:=h
 exact ⟨_,h⟩
theorem IP (xs:List Int) (hx:xs.length≤1000000) (S:Nat→Prop) (a:Option Addr) (c:Nat) (w:World) (h:Rows S w (ints xs) a):Calls prog 27 #[.slice a xs.length c] w (CloneS xs w):=
 (Fo xs hx a c w (Jd h)).mono fun _ _ ⟨a,c,h1,h2,h3,h4⟩=>⟨a,c,h1,h2.rowsI h3,h4⟩
theorem Rx (s:SV) (S:Nat→Prop) (a ta oa:Option Addr) (c tc oc:Nat) (w:World) (hn:s.cells.length≤1000000) (hc : ∀xs∈s.cells,xs.length≤1000000) (ht:s.tin.length≤1000000) (ho:s.tout.length≤1000000) (hv:s.sits S w a ta oa) :
 Calls prog 62 #[.agg (s.row a c ta tc oa oc).toArray] w (SvR s w):=by
 have X:=Ext.refl w;replace hv:=hv.ltA;obtain ⟨cells,tin,tout⟩:=s;obtain ⟨hcl,hti,hto⟩:=hv;simp only at hcl hti hto hn hc ht ho;have H1:=Lib.hid (fun w1 h=>IP tin ht (· < w.heap.size) ta tc w1 h);have H2:=Lib.hid (fun w1 h=>IP tout ho (· < w.heap.size) oa oc w1 h);have HC:=Lib.hid hc;clear hc
 change Calls prog _ #[.agg #[.slice a cells.length c,.slice ta tin.length tc,.slice oa tout.length oc]] w _
 refine Ad func62 ntmps62 rfl rfl ?_
 focus
  refine cS (eB [_,_,_] ?_);intro b1 w2 h4 x5 p6 z7;revert X hcl hti hto;refine eE x5 ?_;intro X hcl hti hto;refine eA [_,_,_] ?_;intro b8 w9 h12 x13 p14 z15;revert h4 X hcl hti hto;refine eE x13 ?_;intro h4 X hcl hti hto;refine cT ?_;rotate_left
 refine G1 (ι:=Nat×Option Addr×Nat×Option Addr×Nat) (fun x=>[(1,.pointer (some ⟨b1,0,none⟩)),(2,.pointer (some ⟨b8,0,none⟩)),(3,.pointer (some ⟨x.1,0,none⟩))])
  (fun x w'=>Blk w' x.1 [.slice none 0 0,.slice x.2.1 tin.length x.2.2.1,.slice x.2.2.2.1 tout.length x.2.2.2.2]∧Rows (fun b=>b8<b∧b≠x.1∧b<w'.heap.size) w' (ints tin) x.2.1∧Rows (fun b=>b8<b∧b≠x.1∧b<w'.heap.size) w' (ints tout) x.2.2.2.1∧b8<x.1∧x.1<w'.heap.size∧Blk w' b1 [.slice a cells.length c,.slice ta tin.length tc,.slice oa tout.length oc]∧Blk w' b8 [.slice none 0 0,.slice none 0 0,.slice none 0 0]∧ICs (· < w.heap.size) w' cells a∧Ext w w') ?_ ?_
 · focus
    refine Ax (fun wz=>Ext w9 wz) 8 (.pure 0 (.pure 1 (.pure 3 (.pure 4 (.fork 2 (.fork 5 (.pure 6 (.fork 7 .tail .none)) (.fork 7 (.fork 5 (.pure 6 .tail) .none) .none)) (.fork 7 (.fork 2 (.fork 5 (.pure 6 .tail) .none) .none) .none)))))) mixed (by kernel_rfl) (Ac Ak) ?_;intro wa1 xa2 _;have qsa3:(fun wz=>Ext w9 wz) wa1:=xa2;simp only at qsa3;have d_h12:=h12;have d_h4:=h4;have d_hcl:=hcl;have d_hti:=hti;have d_hto:=hto;revert h12 h4 X hcl hti hto;refine eY xa2 ?_;intro za4 h12 h4 X hcl hti hto;refine ⟨qsa3,?_⟩;refine Tq rfl Pf (Tq rfl (Db d_h4) (Tq rfl Pf (Tq rfl (Db d_h4) ?_)));refine At rfl (Av (by kernel_rfl) rfl (H1.out _ ‹_›) (fun _ _ h=>h.ret)) rfl ?_ (fun _ h=>h) ?kra5;rintro _ wa10 ⟨aa6,⟨ca7,⟨⟨⟩,⟨ha8,xa9⟩⟩⟩⟩;revert qsa3 h12 h4 X hcl hti hto;refine eY xa9 ?_;intro za11 qsa3 h12 h4 X hcl hti hto;refine ⟨qsa3,?_⟩;refine At rfl (Av (by kernel_rfl) rfl (H2.out _ ‹_›) (fun _ _ h=>h.ret)) rfl ?_ (fun _ h=>h) ?kra12;rintro _ wa17 ⟨aa13,⟨ca14,⟨⟨⟩,⟨ha15,xa16⟩⟩⟩⟩;revert ha8 qsa3 h12 h4 X hcl hti hto;refine eY xa16 ?_;intro za18 ha8 qsa3 h12 h4 X hcl hti hto;refine ⟨qsa3,?_⟩;refine Tq rfl (AC [_,_,_] Aa Bj rfl rfl rfl rfl) ?_;refine At rfl (BG Bj rfl) rfl ?_ (fun _ h=>h) As;rintro _ wa21 ⟨ba20,rfl,na22⟩;have ha23:=na22.blk
    dsimp only at ha23;have xa24:=na22.ext;have pa25:=na22.pos;have za26:=na22.size;revert ha15 ha8 qsa3 h12 h4 X hcl hti hto;refine eE xa24 ?_;intro ha15 ha8 qsa3 h12 h4 X hcl hti hto;refine ⟨qsa3,?_⟩;refine Az rfl (eS [_,_,_] ha23 ?_);intro wa27 ha31 fa29 za30;revert ha15 ha8 h12 h4 X hcl hti hto;refine eF fa29 ?_;intro ha15 ha8 h12 h4 X hcl hti hto;refine Aj ?_;rotate_left;refine At rfl (BG Bj rfl) rfl ?_ (fun _ h=>h) As;rintro _ wa34 ⟨ba33,rfl,na35⟩;have ha36:=na35.blk;dsimp only at ha36;have xa37:=na35.ext;have pa38:=na35.pos;have za39:=na35.size;revert ha8 qsa3 h12 h4 X hcl hti hto;refine eE xa37 ?_;intro ha8 qsa3 h12 h4 X hcl hti hto;refine ⟨qsa3,?_⟩;refine At rfl (Av (by kernel_rfl) rfl (H2.out _ ‹_›) (fun _ _ h=>h.ret)) rfl ?_ (fun _ h=>h) As;rintro _ wa45 ⟨aa41,⟨ca42,⟨⟨⟩,⟨ha43,xa44⟩⟩⟩⟩;revert ha36 ha8 qsa3 h12 h4 X hcl hti hto;refine eY xa44 ?_;intro za46 ha36 ha8 qsa3 h12 h4 X hcl hti hto;refine ⟨qsa3,?_⟩;refine Tq rfl (AC [_,_,_] Aa Bj rfl rfl rfl rfl) ?_;refine Az rfl (eS [_,_,_] ha36 ?_);intro wa47 ha51 fa49 za50;revert ha43 ha8 h12 h4 X hcl hti hto;refine eF fa49 ?_;intro ha43 ha8 h12 h4 X hcl hti hto;refine Aj ?_
    rotate_left;refine At rfl (BG Bj rfl) rfl ?_ (fun _ h=>h) As;rintro _ wa54 ⟨ba53,rfl,na55⟩;have ha56:=na55.blk;dsimp only at ha56;have xa57:=na55.ext;have pa58:=na55.pos;have za59:=na55.size;revert qsa3 h12 h4 X hcl hti hto;refine eE xa57 ?_;intro qsa3 h12 h4 X hcl hti hto;refine ⟨qsa3,?_⟩;refine At rfl (Av (by kernel_rfl) rfl (H1.out _ ‹_›) (fun _ _ h=>h.ret)) rfl ?_ (fun _ h=>h) As;rintro _ wa65 ⟨aa61,⟨ca62,⟨⟨⟩,⟨ha63,xa64⟩⟩⟩⟩;revert ha56 qsa3 h12 h4 X hcl hti hto;refine eY xa64 ?_;intro za66 ha56 qsa3 h12 h4 X hcl hti hto;refine ⟨qsa3,?_⟩;refine At rfl (Av (by kernel_rfl) rfl (H2.out _ ‹_›) (fun _ _ h=>h.ret)) rfl ?_ (fun _ h=>h) As;rintro _ wa72 ⟨aa68,⟨ca69,⟨⟨⟩,⟨ha70,xa71⟩⟩⟩⟩;revert ha63 ha56 qsa3 h12 h4 X hcl hti hto;refine eY xa71 ?_;intro za73 ha63 ha56 qsa3 h12 h4 X hcl hti hto;refine ⟨qsa3,?_⟩;refine Tq rfl (AC [_,_,_] Aa Bj rfl rfl rfl rfl) ?_;refine Az rfl (eS [_,_,_] ha56 ?_);intro wa74 ha78 fa76 za77;revert ha70 ha63 h12 h4 X hcl hti hto;refine eF fa76 ?_;intro ha70 ha63 h12 h4 X hcl hti hto;refine Aj ?_;rotate_left
   all_goals exact CG (_,_,_,_,_) (by (repeat (first|exact Dq|refine Be rfl ?_|refine BZ rfl (by go_num) ?_))) ⟨by assumption,Rows.wide ‹_› (fun b h=>⟨by omega,by simp only;omega,by omega⟩),Rows.wide ‹_› (fun b h=>⟨by omega,by simp only;omega,by omega⟩),by simp only;omega,by simp only;omega,by assumption,by assumption,by assumption,X⟩
 · clear h4 h12 hcl hti hto X H1 H2;rintro ⟨bq,a1,c1,a2,c2⟩ w1 ⟨hbq,hr1,hr2,o1,o2,hb1,hb8,hcl,X⟩;simp only at hbq hr1 hr2 o1 o2
   focus
    refine Am (cS (C1 Pg (C1 (Pl hb1) (C1 Pz (C1 Mv (cT ?_))))));rotate_left
   refine AK ?_;refine Bn (ι:=Nat) (fun j=>[(1,.pointer (some ⟨b1,0,none⟩)),(2,.pointer (some ⟨b8,0,none⟩)),(3,.pointer (some ⟨bq,0,none⟩)),(14,.slice a cells.length c),(15,.int .i64 cells.length),(16,.int .i64 j)])
    (fun j w'=> ∃ra rc,j≤cells.length∧OwnQ FF w' (fun b=>w1.heap.size≤b) w1.heap.size 30 (.slice ra (cells.take j).length rc) (cells.take j)∧Blk w' bq [.slice ra (cells.take j).length rc,.slice a1 tin.length c1,.slice a2 tout.length c2]∧Rows (fun b=>b8<b∧b≠bq∧b<w1.heap.size) w' (ints tin) a1∧Rows (fun b=>b8<b∧b≠bq∧b<w1.heap.size) w' (ints tout) a2∧Blk w' b8 [.slice none 0 0,.slice none 0 0,.slice none 0 0]∧ICs (· < w.heap.size) w' cells a∧Ext w w'∧w1.heap.size≤w'.heap.size)
    (fun j=>cells.length-j) 0 sB ⟨none,0,Nat.zero_le _,OwnQ.nil,hbq,hr1,hr2,hb8,hcl,X,Nat.le_refl _⟩ ?_
   clear hbq hr1 hr2 hb8 hcl X hb1;rintro j w3 ⟨ra,rc,hj,hown,hbq,hr1,hr2,hb8,hcl,X,hz⟩
   have hob : ∀g',(Value.slice ra (cells.take j).length rc).ownBlock=some g'→w1.heap.size≤g'∧g'<w3.heap.size:=fun g' h=>⟨hown.ge h,hown.lt h⟩
   have hxl:(cells.take j).length≤1000000:=by rw [List.length_take];omega
   by_cases hlt:j<cells.length
   · replace hown:=hown.ltR;obtain ⟨db,dof,rfl,dS,hd⟩:=hcl.get (by intro e;subst e;simp at hlt);obtain ⟨xa,xc,ry,hxr⟩:=hd j _ (List.getElem?_eq_getElem hlt);have HX:=Lib.hid (fun w1 (h:Rows (· < w.heap.size) w1 (ints cells[j]) xa)=>IP cells[j] (HC.out _ (List.getElem_mem hlt)) (· < w.heap.size) xa xc w1 h);have hnext:cells.take j++[cells[j]]=cells.take (j+1):=(List.take_succ_eq_append_getElem hlt).symm;clear hd HC
     generalize cells[j]=x at *
     generalize cells.take j=ys at *
     focus
      refine eK ?_;refine C1 (G6 ry) ?_;refine eK ?_;refine Ax (fun wz=>Ext w3 wz) 5 (.pure 0 (.pure 1 (.pure 2 (.fork 3 (.fork 4 .tail .none) .none)))) mixed (by kernel_rfl) (Ao (Ac (Ac (Ao (Ac Ak))))) ?_;intro wc1 xc2 _;have qsc3:(fun wz=>Ext w3 wz) wc1:=xc2;simp only at qsc3;have d_hr1:=hr1;have d_hr2:=hr2;have d_hb8:=hb8;have d_hcl:=hcl;have d_ry:=ry;have d_hxr:=hxr;have d_hbq:=hbq;have d_hown:=hown;revert hr1 hr2 hb8 X hcl ry hxr hbq hown;refine eY xc2 ?_;intro zc4 hr1 hr2 hb8 X hcl ry hxr hbq hown;refine ⟨qsc3,?_⟩;refine Tq rfl Pg (Tq rfl (Db d_hbq) (Tq rfl Mv ?_));refine At rfl (Av (by kernel_rfl) rfl (HX.out _ ‹_›) (fun _ _ h=>h.ret)) rfl ?_ (fun _ h=>h) As;rintro _ wc10 ⟨ac6,⟨cc7,⟨⟨⟩,⟨hc8,xc9⟩⟩⟩⟩;revert qsc3 hr1 hr2 hb8 X hcl ry hxr hbq hown;refine eY xc9 ?_;intro zc11 qsc3 hr1 hr2 hb8 X hcl ry hxr hbq hown;refine ⟨qsc3,?_⟩;refine At rfl (AM [_] Aa Bj rfl rfl rfl rfl rfl rfl rfl rfl rfl) rfl ?_ (fun _ h=>h) As;rintro _ wc14 ⟨bc13,rfl,nc15,tc16⟩;have hc17:=nc15.blk;have xc18:=nc15.ext;have pc19:=nc15.pos;have zc20:=nc15.size;revert hc8 qsc3 hr1 hr2 hb8 X hcl ry hxr hbq hown;refine eE xc18 ?_;intro hc8 qsc3 hr1 hr2 hb8 X hcl ry hxr hbq hown;refine ⟨qsc3,?_⟩
      refine Az rfl (O8 (R:=fun b=>w1.heap.size≤b) (sh:=FF) (z:=x) Aa Bj rfl rfl rfl rfl (by kernel_rfl) rfl rfl rfl ‹_› (fun _ h=>by exact h.1) (Blk.row ‹_›) ⟨_,_,rfl,Rows.wide ‹_› (fun b h=>by (try dsimp only at h);exact ⟨by omega,fun e=>by have:=hob _ e;omega⟩)⟩ (by omega) (by omega) rfl ?_);rintro gc21 cap'c22 wc23 hc24 hc25 hc26 fc27;have zc28:=fc27.size;replace hc17:=Blk.fr hc17 fc27 (fun e=>by have:=hob _ e;omega);replace hc8:=Rows.fr hc8 fc27 (fun b hb hT=>by have:=hob _ hT;(try dsimp only at hb);omega);replace hr1:=Rows.fr hr1 fc27 (fun b hb hT=>by have:=hob _ hT;(try dsimp only at hb);omega);replace hr2:=Rows.fr hr2 fc27 (fun b hb hT=>by have:=hob _ hT;(try dsimp only at hb);omega);replace hb8:=Blk.fr hb8 fc27 (fun e=>by have:=hob _ e;omega);replace X:=Ext.fr X fc27 (fun k hk=>by have:=hob _ hk;omega);replace hcl:=ICs.fr hcl fc27 (fun b hb hT=>by have:=hob _ hT;(try dsimp only at hb);omega);clear ry;replace hxr:=Rows.fr hxr fc27 (fun b hb hT=>by have:=hob _ hT;(try dsimp only at hb);omega);replace hbq:=Blk.fr hbq fc27 (fun e=>by have:=hob _ e;omega);clear hown fc27;refine C1 Pg (eV [_] [_,_,_] hbq ?_);intro wc29 hc33 fc31 zc32;clear hbq;replace hc24:=OwnQ.fr hc24 fc31 (fun k hk=>⟨fun h=>by (try dsimp only at hk h);omega,fun e=>by have:=OwnQ.ge ‹_› e;(try dsimp only at hk);omega⟩)
      revert hc17 hc8 hr1 hr2 hb8 X hcl hxr;refine eF fc31 ?_;intro hc17 hc8 hr1 hr2 hb8 X hcl hxr;refine Aj (An (Ai (Ah (C1 V7 (C1 Mv (Aj ?_))))));rotate_left
     exact AW (j+1) sB ⟨some ⟨_,0,none⟩,_,by omega,by rw [←hnext];assumption,by rw [←hnext];assumption,hr1,hr2,hb8,hcl,X,by omega⟩ (by omega)
   · obtain rfl:j=cells.length:=by omega
     rw [List.take_length] at *
     focus
      refine eK ?_;refine Ae [_,_,_] Aa rfl rfl rfl hbq rfl rfl rfl (eS [_,_,_] hb8 ?_);intro wd1 hd5 fd3 zd4;revert hr1 hr2 hcl X;refine eF fd3 ?_;intro hr1 hr2 hcl X;replace hown:=OwnQ.fr hown fd3 (fun k hk=>⟨fun h=>by (try dsimp only at hk h);omega,fun e=>by have:=OwnQ.ge ‹_› e;(try dsimp only at hk);omega⟩);replace hbq:=hbq.fr fd3 (by omega);refine eK ?_;refine AZ rfl Aa rfl rfl rfl hd5 rfl ?_;rotate_left
     exact ⟨_,_,_,_,_,_,rfl,⟨hown.ltR.ics (fun b h=>⟨by omega,by omega⟩) (fun b h1 h2=>⟨by omega,h2⟩),hr1.wide (fun b h=>⟨by omega,by omega⟩),hr2.wide (fun b h=>⟨by omega,by omega⟩)⟩,X⟩
structure SV.small (s:SV):Prop where
 few:s.cells.length≤1000000
 each : ∀xs∈s.cells,xs.length≤1000000
 tin:s.tin.length≤1000000
 tout:s.tout.length≤1000000
theorem KX (xs:List Int) (hx:xs.length≤1000000) (S S':Nat→Prop) (a a':Option Addr) (c c':Nat) (w:World) (h:Rows S w (ints xs) a) (h':Rows S' w (ints xs) a') :
 Calls prog 42 #[.slice a xs.length c,.slice a' xs.length c'] w fun e w'=>e = .returned (.bool true)∧Ext w w':=
 (Sf xs xs hx hx a a' c c' w (Jd h) (Jd h')).mono fun e w' ⟨h1,h2⟩=>⟨by rw [h1];simp,h2⟩
theorem Pb (l:List (List Int)) (S S':Nat→Prop) (a a':Option Addr) (c c':Nat) (w:World) (hl:l.length≤1000000) (hf : ∀xs∈l,xs.length≤1000000) (hs:ICs S w l a) (hs':ICs S' w l a') :
 Calls prog 41 #[.slice a l.length c,.slice a' l.length c',.func (.func 42) #[] #[]] w fun e w'=>e = .returned (.bool true)∧Ext w w':=by
 have X:=Ext.refl w;refine Ad func41 ntmps41 rfl rfl ?_
 focus
  refine cS (C1 Pa (cT (Am (cS (C1 Mv (C1 Pz (C1 Mv (C1 Pz (C1 V2 (cT (Hn ?_)))))))))));refine AH (Ai (Am (cS (C1 Mv (C1 Pz (C1 Mv (cT (AK ?_))))))));rotate_left
 replace hs:=hs.ltA;replace hs':=hs'.ltA;refine Bn (ι:=Nat) (fun j=>[(1,.slice a' l.length c'),(2,.func (.func 42) #[] #[]),(15,.slice a l.length c),(16,.int .i64 l.length),(17,.int .i64 j)])
  (fun j w'=>j≤l.length∧ICs (· < w.heap.size) w' l a∧ICs (· < w.heap.size) w' l a'∧Ext w w') (fun j=>l.length-j) 0 sB ⟨Nat.zero_le _,hs,hs',X⟩ ?_
 clear hs hs' X;rintro j w1 ⟨hj,hs,hs',X⟩
 by_cases hlt:j<l.length
 · have hsz:=X.size;obtain ⟨kb,ko,rfl,kS,hk⟩:=hs.get (by intro e;subst e;simp at hlt);obtain ⟨kb',ko',rfl,kS',hk'⟩:=hs'.get (by intro e;subst e;simp at hlt);obtain ⟨xa,xc,r1,v1⟩:=hk j _ (List.getElem?_eq_getElem hlt);obtain ⟨xa',xc',r2,v2⟩:=hk' j _ (List.getElem?_eq_getElem hlt);have p1:=hf _ (List.getElem_mem hlt);clear hk hk'
   generalize l[j]=x at *
   have HP:=Lib.hid (KX x p1 (· < w.heap.size) (· < w.heap.size) xa xa' xc xc' ·)
   focus
    refine eK ?_;refine C1 (G6 r1) ?_;refine eK ?_;refine C1 (G6 r2) ?_;refine eK ?_;refine AQ (BQ (fi:=[]) (ca:=[]) (by kernel_rfl) rfl rfl (HP.out _ ‹_› ‹_›) (fun _ _ h=>⟨_,h.1⟩)) rfl ?_ (fun _ h=>h);rintro d f ⟨⟨⟩,b⟩;revert X hs hs' r1 v1 r2 v2;refine eY b ?_;intro g X hs hs' r1 v1 r2 v2;refine C1 Pt (cT (Ep rfl (AH (An (Ai (Ah (C1 V7 (C1 Mv (Aj ?_)))))))));rotate_left
   exact AW (j+1) sB ⟨by omega,hs,hs',X⟩ (by omega)
 · focus
    refine eK ?_;refine Af rfl rfl ?_;rotate_left
   exact ⟨rfl,X⟩
theorem Ry (s:SV) (hsm:s.small) (S S':Nat→Prop) (a ta oa a' ta' oa':Option Addr) (c tc oc c' tc' oc':Nat) (w:World) (hs:s.sits S w a ta oa) (hs':s.sits S' w a' ta' oa') :
 Calls prog 17 #[.agg (s.row a c ta tc oa oc).toArray,.agg (s.row a' c' ta' tc' oa' oc').toArray] w fun e w'=>e = .returned (.bool true)∧Ext w w':=by
 have X:=Ext.refl w;obtain ⟨cells,tin,tout⟩:=s;obtain ⟨h1,h2,h3⟩:=hs;obtain ⟨h1',h2',h3'⟩:=hs';obtain ⟨m1,m2,m3,m4⟩:=hsm;simp only at *;have HE:=Lib.hid (fun w1 h h'=>Pb cells S S' a a' c c' w1 m1 m2 h h');have HI:=Lib.hid (fun w1 h h'=>KX tin m3 S S' ta ta' tc tc' w1 h h');have HO:=Lib.hid (fun w1 h h'=>KX tout m4 S S' oa oa' oc oc' w1 h h')
 change Calls prog _ #[.agg #[.slice a cells.length c,.slice ta tin.length tc,.slice oa tout.length oc],.agg #[.slice a' cells.length c',.slice ta' tin.length tc',.slice oa' tout.length oc']] w _
 refine Ad func17 ntmps17 rfl rfl ?_
 focus
  refine cS (eB [_,_,_] ?_);intro b1 w2 h4 x5 p6 z7;revert X h1 h2 h3 h1' h2' h3';refine eE x5 ?_;intro X h1 h2 h3 h1' h2' h3';refine eB [_,_,_] ?_;intro b8 w9 b d j k;revert h4 X h1 h2 h3 h1' h2' h3';refine eE d ?_;intro h4 X h1 h2 h3 h1' h2' h3';refine eK ?_;refine cC rfl (HE.out _ ‹_› ‹_›) ?_;rintro _ l ⟨⟨⟩,f⟩;revert b h4 X h1 h2 h3 h1' h2' h3';refine eY f ?_;intro m b h4 X h1 h2 h3 h1' h2' h3';refine eK ?_;refine cC rfl (HI.out _ ‹_› ‹_›) ?_;rintro _ n ⟨⟨⟩,g⟩;revert b h4 X h1 h2 h3 h1' h2' h3';refine eY g ?_;intro o b h4 X h1 h2 h3 h1' h2' h3';refine C1 (A0 rfl rfl rfl) ?_;refine eK ?_;refine cC rfl (HO.out _ ‹_› ‹_›) ?_;rintro _ p ⟨⟨⟩,i⟩;revert b h4 X h1 h2 h3 h1' h2' h3';refine eY i ?_;intro q b h4 X h1 h2 h3 h1' h2' h3';refine C1 (A0 rfl rfl rfl) ?_;refine eK ?_;refine Af rfl rfl ?_;rotate_left
 exact ⟨rfl,X⟩
structure ResV where
 st:SV
 steps:Int
 err:Int
abbrev ResV.row (r:ResV) (a:Option Addr) (c:Nat) (ta:Option Addr) (tc:Nat) (oa:Option Addr) (oc:Nat):List Value:=[.slice a r.st.cells.length c,.slice ta r.st.tin.length tc,.slice oa r.st.tout.length oc,.int .i64 r.steps,.int .i64 r.err]
theorem P8 (r:ResV) (hsm:r.st.small) (S S':Nat→Prop) (a ta oa a' ta' oa':Option Addr) (c tc oc c' tc' oc':Nat) (w:World) (hs:r.st.sits S w a ta oa) (hs':r.st.sits S' w a' ta' oa') :
 Calls prog 12 #[.agg (r.row a c ta tc oa oc).toArray,.agg (r.row a' c' ta' tc' oa' oc').toArray] w fun e w'=>e = .returned (.bool true)∧Ext w w':=by
 have X:=Ext.refl w;obtain ⟨⟨cells,tin,tout⟩,n,er⟩:=r;have HE:=Lib.hid (fun w1 h h'=>Ry ⟨cells,tin,tout⟩ hsm S S' a ta oa a' ta' oa' c tc oc c' tc' oc' w1 h h');simp only at hs hs'
 change Calls prog _ #[.agg #[.slice a cells.length c,.slice ta tin.length tc,.slice oa tout.length oc,.int .i64 n,.int .i64 er],.agg #[.slice a' cells.length c',.slice ta' tin.length tc',.slice oa' tout.length oc',.int .i64 n,.int .i64 er]] w _
 refine Ad func12 ntmps12 rfl rfl ?_
 focus
  refine cS (eB [_,_,_,_,_] ?_);intro b1 w2 h4 x5 p6 z7;revert X hs hs';refine eE x5 ?_;intro X hs hs';refine eB [_,_,_,_,_] ?_;intro b8 w9 b d g i;revert h4 X hs hs';refine eE d ?_;intro h4 X hs hs';refine eK ?_;refine Ae [_,_,_] Aa rfl rfl rfl h4 rfl rfl rfl ?_;refine eK ?_;refine Ae [_,_,_] Aa rfl rfl rfl b rfl rfl rfl (RM (cC rfl (HE.out _ ‹_› ‹_›) ?_));rintro _ j ⟨⟨⟩,f⟩;revert b h4 X hs hs';refine eY f ?_;intro k b h4 X hs hs';refine eK ?_;refine Af rfl rfl ?_;rotate_left
 exact ⟨rfl,X⟩
end Bk
namespace Bk
open Go Go.RowKit Go.Proofs
def Dv (vs:List VD) (s:SV) (j:Nat):Stp:=⟨s.cells.take j,⟨vs.take j,List.range j,0⟩,[],s.tin,s.tout⟩
def NewS (B sb:Nat) (st:Stp) (w:World):Prop:= ∃ ρ κ,(∀k,k<B→ρ k = .none)∧StoreAt ρ κ w sb st
theorem NewS.ext {B sb:Nat} {st:Stp} {w w':World} (h:NewS B sb st w) (x:Ext w w'):NewS B sb st w':=by
 obtain ⟨ρ,κ,h1,h2⟩:=h
 exact ⟨ρ,κ,h1,h2.ext x⟩
instance {B sb:Nat} {st:Stp} {w w':World}:LfE w w' (NewS B sb st w) (NewS B sb st w'):=⟨fun x h=>Bk.NewS.ext h x⟩
def AddN (B sb:Nat) (st:Stp) (w:World):Ending→World→Prop:=fun e w'=>e = .returned (.tuple #[])∧NewS B sb st w'∧Fr (fun k=>B≤k) w w'
theorem AddN.ret {B sb:Nat} {st:Stp} {w w':World} {e:Ending} (h:AddN B sb st w e w') : ∃v,e = .returned v:=⟨_,h.1⟩
theorem S7 {B sb:Nat} {st:Stp} {w0:World} (h:NewS B sb st w0) (hc:st.calls=[]) (hl : ∀c∈st.base.cells,c<st.heap.length) (hv:st.base.vars.length≤1000000) (hn:st.base.cells.length≤1000000) (hB:B≤sb) (hB0:B≤w0.heap.size)
 (v:VD) (xs:List Int) (u:Value) (cb:Nat) (w1:World) (X:Ext w0 w1) (hcb:w0.heap.size≤cb) (hb:Blk w1 cb [u]) (hu:OwnI w1 w0.heap.size u xs) (hne:u.ownBlock≠some cb) :
 Calls prog 104 #[.pointer (some ⟨sb,0,none⟩),v.val,.pointer (some ⟨cb,0,none⟩)] w1 (AddN B sb { st with base:=⟨st.base.vars++[v],st.base.cells++[st.heap.length],st.base.locals⟩,heap:=st.heap++[xs] } w1):=by
 obtain ⟨ρ,κ,h0,h⟩:=h
 have hcur:st.cur=st.base:=by unfold Stp.cur;rw [hc];rfl
 obtain ⟨fb,fo,pre,post,T,vv,vc,hcp,hrole,hwin,hf,hclose⟩:=h.open
 obtain ⟨rfl,rfl⟩:fb=sb∧fo=0:=by
  obtain ⟨_,_,_,_,_,_,-,h2|h2⟩:=hcp
  · exact h2.2
  · rw [hc] at h2;exact absurd h2.1 (by simp)
 have hlen:st.calls.length=0:=by rw [hc];rfl
 rw [hlen,hcur] at hf;rw [hcur] at hwin;have hfb:fb<w0.heap.size:=hwin.1.blk.lt;have hcl:=hb.lt
 obtain ⟨ib,hib,hibl,hui⟩ : ∃ib,w0.heap.size≤ib∧ib<w1.heap.size ∧ ∀k,u.ownBlock=some k→k=ib:=by
  cases a:u.ownBlock with
  | none=>exact ⟨cb,hcb,hcl,fun k hk=>by cases hk⟩
  | some g=>exact ⟨g,(hu.lt a).1,(hu.lt a).2,fun k hk=>(Option.some.inj hk).symm⟩
 obtain ⟨k1,k2,k3,k4,k5,k6⟩:=NQ (κ:=κ) (n:=st.heap.length) hf h.fresh hfb hrole (fun c hc=>by have:=hl c hc;omega) w1 cb ib X hcb hib hcl hibl;have d:Win w1 fb 0 [vv,vc,.int .i64 st.base.locals] pre post T:=hwin.ext X;have hadd:=PX (κ:=MR κ st.heap.length cb) st.base v st.heap.length fb 0 pre post T vv vc (.int .i64 st.base.locals) w1 k1 d k2 k3 hv hn;rw [show IV (MR κ st.heap.length cb) st.heap.length = .pointer (some ⟨cb,0,none⟩) by unfold IV MR;rw [if_pos rfl]] at hadd;refine hadd.mono ?_;rintro e w' ⟨vv',vc',ρ',rfl,q1,q2,q3,q4,q5⟩;have hs:=X.size
 have eo : ∀b,b<w0.heap.size→Fx ρ st.heap.length cb ib b=ρ b:=fun b hb=>by unfold Fx;rw [if_neg (by omega),if_neg (by omega)]
 have hr:Ro ρ ρ' w0:=fun b hb=>by rw [q1 b (by omega),eo b hb]
 have F:Fr (E1 ρ st.calls.length fb) w0 w':=(Fr.of_ext X).fr q5 (fun k hk=>by rw [hlen];exact k4 k hk)
 have hκ : ∀c,c≠st.heap.length→MR κ st.heap.length cb c=κ c:=fun c hc=>if_neg hc
 have h1:=hclose ρ' (MR κ st.heap.length cb) w' ⟨st.base.vars++[v],st.base.cells++[st.heap.length],st.base.locals⟩ vv' vc' hr q2 (fun f hf c hcc=>hκ c (by rw [hc] at hf;obtain rfl:=List.mem_singleton.1 hf;have:=hl c hcc;omega)) (fun c hc=>hκ c (by omega)) F q3 (by rw [hlen];exact q4)
 have hse:st.setCur ⟨st.base.vars++[v],st.base.cells++[st.heap.length],st.base.locals⟩={ st with base:=⟨st.base.vars++[v],st.base.cells++[st.heap.length],st.base.locals⟩ }:=by unfold Stp.setCur;rw [if_pos hc]
 rw [hse] at h1
 have hcell:CellAt ρ' (MR κ st.heap.length cb) w' st.heap.length xs:=by
  refine ⟨?_,u,?_,?_,fun k hk=>?_⟩
  · rw [show MR κ st.heap.length cb st.heap.length=cb from if_pos rfl,q1 cb hcl]
    exact if_pos rfl
  · rw [show MR κ st.heap.length cb st.heap.length=cb from if_pos rfl]
    exact hb.fr q5 k5
  · exact (hu.low (fun _ _=>Nat.zero_le _)).fr q5 (fun k hk hS=>by rw [hui k hk] at hS;exact k6 hS)
  · rw [hui k hk,q1 ib hibl]
    unfold Fx
    rw [if_neg (fun e=>hne (by rw [hk,hui k hk,e])),if_pos rfl]
 refine ⟨rfl,⟨ρ',MR κ st.heap.length cb,fun k hk=>by rw [hr k (by omega),h0 k hk],h1.newCell hcell⟩,q5.weaken (fun k hk=>?_)⟩
 rcases Nat.lt_or_ge k B with h|h
 · exfalso
   have e1:Fx ρ st.heap.length cb ib k = .none:=by rw [eo k (by omega),h0 k h]
   unfold E1 at hk
   rw [e1] at hk
   rcases hk with rfl|hk|hk
   · omega
   · cases hk
   · cases hk
 · exact h
attribute [local irreducible] Go.Calls
theorem Rz (vs:List VD) (s:SV) (j:Nat) (hj:j<vs.length) (hc:j<s.cells.length):({ Dv vs s j with base:=⟨(Dv vs s j).base.vars++[vs[j]],(Dv vs s j).base.cells++[(Dv vs s j).heap.length],(Dv vs s j).base.locals⟩,heap:=(Dv vs s j).heap++[s.cells[j]] }:Stp)=Dv vs s (j+1):=by
 simp only [Dv,List.length_take,Nat.min_eq_left (Nat.le_of_lt hc),List.take_succ_eq_append_getElem hj,List.take_succ_eq_append_getElem hc,List.range_succ]
def CloneI (B:Nat) (xs:List Int) (w:World):Ending→World→Prop:=fun e w'=> ∃a c,e = .returned (.slice a xs.length c)∧OwnI w' B (.slice a xs.length c) xs∧(∀k,(Value.slice a xs.length c).ownBlock=some k→k<w'.heap.size)∧Ext w w'
theorem CloneI.ret {B:Nat} {xs:List Int} {w w':World} {e:Ending} (h:CloneI B xs w e w') : ∃v,e = .returned v:=by
 obtain ⟨_,_,h,-⟩:=h
 exact ⟨_,h⟩
theorem S8 (xs:List Int) (hx:xs.length≤1000000) (B:Nat) (S:Nat→Prop) (a:Option Addr) (c:Nat) (w:World) (hB:B≤w.heap.size) (h:Rows S w (ints xs) a):Calls prog 27 #[.slice a xs.length c] w (CloneI B xs w):=
 (Fo xs hx a c w (Jd h)).mono fun _ _ ⟨a,c,h1,h2,h3,h4⟩=>⟨a,c,h1,h2.low (fun k hk=>by have:=h3 k hk;omega),fun k hk=>(h3 k hk).2,h4⟩
theorem FitsP.each {vs:List VD} {s:SV} (h:FitsP vs s) : ∀xs∈s.cells,xs.length≤1000:=fun xs hx=>by
 obtain ⟨⟨h1,h2⟩,h3,h4,h5,h6⟩:=h;obtain ⟨i,hi,rfl⟩:=List.mem_iff_getElem.1 hx;have h7:=h6 i vs[i] s.cells[i] (List.getElem?_eq_getElem (by omega)) (List.getElem?_eq_getElem hi);have h8:=h2 vs[i] (List.getElem_mem _)
 unfold N8 KW at h7
 unfold N7 at h8
 split at h7
 · exact h7
 · split at h7<;>omega
theorem FitsP.small {vs:List VD} {s:SV} (h:FitsP vs s):s.small:=
 ⟨by have:=h.1.1;have:=h.2.1;omega,fun xs hx=>by have:=h.each xs hx;omega,by have:=h.2.2.1;omega,by have:=h.2.2.2.1;omega⟩
def NewR (vs:List VD) (s:SV) (w:World):Ending→World→Prop:=fun e w'=> ∃sb,e = .returned (.tuple #[.pointer (some ⟨sb,0,none⟩),.int .i64 0])∧NewS w.heap.size sb (Dv vs s vs.length) w'∧w.heap.size≤sb∧Ext w w'
theorem NewR.ret {vs:List VD} {s:SV} {w w':World} {e:Ending} (h:NewR vs s w e w') : ∃v,e = .returned v:=by
 obtain ⟨_,h,-⟩:=h
 exact ⟨_,h⟩
theorem NewS.first {B sb tb:Nat} {w0 w1 w:World} {vs:List VD} {s:SV} {ρ:Nat→Rl} (hB:B≤w0.heap.size) (h01:w0.heap.size≤w1.heap.size) (hr:Ro (fun _=>.none) ρ w0) (ht:TapeAt ρ w1 tb s.tin s.tout) (X:Ext w1 w) (hs:sb=w1.heap.size) (hsb:w.heap.size=sb+1) (hb:Blk w sb [.slice none 0 0,.slice none 0 0,.int .i64 0,.slice none 0 0,.pointer (some ⟨tb,0,none⟩)]):NewS B sb (Dv vs s 0) w:=by
 have e1:Ro ρ (fun b=>if b=sb then .store else if b<sb then ρ b else .none) w1:=fun b hb=>by
  simp only;rw [if_neg (by omega),if_pos (by omega)]
 have a:=(ht.ro e1 (Nat.le_refl _)).ext X;refine ⟨_,fun _=>0,fun k hk=>?_,⟨if_pos rfl,fun b hb=>?_,⟨_,_,_,tb,[],hb,⟨⟨?_,fun k hk=>by cases hk⟩,⟨?_,fun k hk=>by cases hk⟩⟩,⟨?_,fun k hk=>by cases hk⟩,?_,a⟩,fun c xs hx=>?_⟩⟩
 · rw [if_neg (by omega),if_pos (by omega)]
   exact hr k (by omega)
 · rw [if_neg (by omega),if_neg (by omega)]
 · exact Own.nil
 · exact Own.nil
 · exact Own.nil
 · rfl
 · simp [Dv] at hx
theorem NewS.low {B B' sb:Nat} {st:Stp} {w:World} (h:NewS B sb st w) (hB:B'≤B):NewS B' sb st w:=by
 obtain ⟨ρ,κ,h1,h2⟩:=h
 exact ⟨ρ,κ,fun k hk=>h1 k (by omega),h2⟩
theorem Wg (vs:List VD) (s:SV) (hf:FitsP vs s) (S:Nat→Prop) (a ca ta oa:Option Addr) (c cc tc oc:Nat) (w:World) (hs:VDs S w vs a) (hv:s.sits S w ca ta oa) :
 Calls prog 63 #[.slice a vs.length c,.agg (s.row ca cc ta tc oa oc).toArray] w (NewR vs s w):=by
 have X:=Ext.refl w;have hsm:=hf.small;have hn:=hf.1.1;have hcl:=hf.2.1
 replace hs:VDs (· < w.heap.size) w vs a:=hs.lt2.wide fun _ h=>h.2
 replace hv:=hv.ltA;have HF:=Lib.hid (fun w1 h1 h2=>(S6 vs (by omega) s (· < w.heap.size) a ca ta oa c cc tc oc w1 (by omega) h1 h2).mono (R':=fun e w'=>e = .returned (.bool true)∧Ext w1 w') fun e w' ⟨q,h1,h2,h3⟩=>⟨by rw [h1,h2.2 hf],h3⟩);have HT:=Lib.hid (fun w1 h1 h2=>Vl (fun _=>.none) s.tin s.tout hf.2.2.1 hf.2.2.2.1 ta oa tc oc w1 (Jd (S:=(· < w.heap.size)) h1) (Jd (S:=(· < w.heap.size)) h2));have Hf:=Lib.hid hf;clear hf;have hti:=hv.tin;have hto:=hv.tout;have hci:=hv.cells
 change Calls prog _ #[_,.agg #[.slice ca s.cells.length cc,.slice ta s.tin.length tc,.slice oa s.tout.length oc]] w _
 refine Ad func63 ntmps63 rfl rfl ?_
 focus
  refine cS (eB [_,_,_] ?_);intro b1 w2 h4 x5 p6 z7;revert X hs hv hti hto hci;refine eE x5 ?_;intro X hs hv hti hto hci;refine eK ?_;refine Ae [_,_,_] Aa rfl rfl rfl h4 rfl rfl rfl (cC rfl (HF.out _ ‹_› ‹_›) ?_);rintro _ w9 ⟨⟨⟩,x8⟩;revert h4 X hs hv hti hto hci;refine eY x8 ?_;intro aj h4 X hs hv hti hto hci;refine eK ?_;refine eQ rfl (HT.out _ ‹_› ‹_›) ?_;rintro _ C ⟨Q,⟨ρ'12,⟨⟨⟩,⟨D,⟨ak,⟨E,F⟩⟩⟩⟩⟩⟩;revert h4 X hs hv hti hto hci;refine eY F ?_;intro G h4 X hs hv hti hto hci;refine C1 Mv (C1 Px (C1 Px (C1 Pa (C1 Pa (cT (Am (cS (C1 Mv (C1 V2 (cT (U7 ?_)))))))))));refine AH (Ai ?_);rotate_left
 have HTA:=Lib.hid E;have X1:=Ext.refl C
 focus
  refine eK ?_;refine C1 (AC [_,_,_,_,_] Aa Bj rfl rfl rfl rfl) (eB [_,_,_,_,_] ?_);intro g H p I J K;revert h4 X hs hv hti hto hci X1;refine eE I ?_;intro h4 X hs hv hti hto hci X1;refine C1 Pa (cT (Am (cS (C1 Mv (C1 Pz (C1 Mv (cT ?_)))))));rotate_left
 have hN:NewS (b1+1) g (Dv vs s 0) H:=NewS.first (by omega) G D HTA.out X1 J K p
 have hob:b1+1≤g:=by omega
 clear X1 p HTA HF HT hti hto hv;refine AK ?_;refine Bn (ι:=Nat) (fun j=>[(3,.pointer (some ⟨b1,0,none⟩)),(8,.pointer (some ⟨g,0,none⟩)),(28,.slice a vs.length c),(29,.int .i64 vs.length),(30,.int .i64 j)])
  (fun j w'=>j≤vs.length∧NewS (b1+1) g (Dv vs s j) w'∧Blk w' b1 [.slice ca s.cells.length cc,.slice ta s.tin.length tc,.slice oa s.tout.length oc]∧VDs (· < w.heap.size) w' vs a∧ICs (· < w.heap.size) w' s.cells ca∧Ext w w'∧b1+1≤w'.heap.size) (fun j=>vs.length-j) 0 sB ⟨Nat.zero_le _,hN,h4,hs,hci,X,by omega⟩ ?_
 clear hN h4 hs hci X;rintro j w3 ⟨hj,hN,h4,hs,hci,X,hz⟩
 by_cases hlt:j<vs.length
 · obtain ⟨kb,ko,rfl,kS,hk⟩:=Arr.get hs (by omega);obtain ⟨db,dof,rfl,dS,hd⟩:=hci.get (by intro e;rw [e] at hcl;simp at hcl;omega);have rx:=hk j _ (List.getElem?_eq_getElem hlt);obtain ⟨xa,xc,ry,hxr⟩:=hd j _ (List.getElem?_eq_getElem (by omega));have hxl:=Hf.out.each s.cells[j] (List.getElem_mem _)
   have g1 : ∀c∈(Dv vs s j).base.cells,c<(Dv vs s j).heap.length:=fun c hc=>by simp only [Dv,List.mem_range,List.length_take] at hc ⊢;omega
   have g2:(Dv vs s j).base.vars.length≤1000000:=by simp only [Dv,List.length_take];omega
   have g3:(Dv vs s j).base.cells.length≤1000000:=by simp only [Dv,List.length_range];omega
   have HA:=Lib.hid (S7 hN rfl g1 g2 g3 hob hz vs[j] s.cells[j]);have hnext:=Rz vs s j hlt (by omega);rw [hnext] at HA;clear hk hd hnext hN
   generalize vs[j]=x at *
   generalize s.cells[j]=xs at *
   have HX:=Lib.hid (fun w1 hB (h:Rows (· < w.heap.size) w1 (ints xs) xa)=>S8 xs (by omega) w3.heap.size (· < w.heap.size) xa xc w1 hB h);obtain ⟨xn,xk,xl⟩:=x;replace rx:Row w3 ⟨kb,ko+j*3,none⟩ [str xn,.int .u8 xk,.int .i64 xl]:=rx
   unfold VD.val at HA
   dsimp only at HA;have HA2:=Lib.hid (fun (u:Value) (cb:Nat) (w1:World) (X:Ext w3 w1) (hcb:w3.heap.size≤cb) (hb:Blk w1 cb [u]) (hu:OwnI w1 w3.heap.size u xs) (b2:Nat) (h1 : ∀k,u.ownBlock=some k→k<b2) (h2:b2≤cb)=>HA.out u cb w1 X hcb hb hu (fun e=>by have:=h1 _ e;omega));clear HA;have X1:=Ext.refl w3
   focus
    refine eK ?_;refine C1 (Gb rx) (eA [_,_,_] ?_);intro al am L M an ao;revert X hs h4 hci ry hxr rx X1;refine eE M ?_;intro X hs h4 hci ry hxr rx X1;refine C1 Pa (eS [_,_,_] L ?_);intro r d t R;revert X hs h4 hci ry hxr rx X1;refine eF t ?_;intro X hs h4 hci ry hxr rx X1;refine cT (Ax (fun wz=>Ext r wz) 12 (.pure 0 (.pure 1 (.pure 2 (.pure 3 (.pure 4 (.pure 5 (.pure 6 (.pure 7 (.pure 8 (.fork 9 (.pure 10 (.fork 11 .tail .none)) .none)))))))))) mixed (by kernel_rfl) (Ao (Ac (Ac (Ao (Ac Ak))))) ?_);intro v l _;have b:(fun wz=>Ext r wz) v:=l;simp only at b;have i:=d;have T:=hs;have y:=h4;have N:=hci;have z:=ry;have O:=hxr;have U:=rx;revert d X hs h4 hci ry hxr rx X1;refine eY l ?_;intro V d X hs h4 hci ry hxr rx X1;refine ⟨b,?_⟩;refine Tq rfl Mv (Tq rfl Pn (Tq rfl Pg (Tq rfl (Aw [_,_,_] Aa rfl rfl rfl (fun wz hz=>(Blk.ext i hz)) rfl rfl) (Tq rfl Pg (Tq rfl (Db y) (Tq rfl Mv (Tq rfl Pi (Tq rfl (Al Aa rfl rfl rfl (fun wz hz=>Row.at0 (Row.ext z hz) rfl)) ?_))))))));refine At rfl (Av (by kernel_rfl) rfl (HX.out _ (by omega) ‹_›) (fun _ _ h=>h.ret)) rfl ?_ (fun _ h=>h) As;rintro _ W ⟨Y,⟨Z,⟨⟨⟩,⟨m,⟨aa,n⟩⟩⟩⟩⟩;have ab:=n.size
    revert b d X hs h4 hci ry hxr rx X1;refine eE n ?_;intro b d X hs h4 hci ry hxr rx X1;refine ⟨b,?_⟩;refine Tq rfl (AC [_] Aa Bj rfl rfl rfl rfl) ?_;refine At rfl (Gy rfl rfl) rfl ?_ (fun _ h=>h) As;rintro _ ac ⟨ad,rfl,f⟩;have ae:=f.blk;have A:=f.ext;have af:=f.pos;have ag:=f.size;revert m b d X hs h4 hci ry hxr rx X1;refine eE A ?_;intro m b d X hs h4 hci ry hxr rx X1;refine ⟨b,?_⟩;refine Az rfl (cC rfl (HA2.out _ _ _ ‹_› (by omega) ‹_› ‹_› _ ‹_› (by omega)) ?_);rintro _ ah ⟨⟨⟩,⟨B,o⟩⟩;have ai:=o.size;revert X hs h4 hci ry hxr rx;refine eF o ?_;intro X hs h4 hci ry hxr rx;refine Aj (An (Ai (Ah (C1 V7 (C1 Mv (Aj ?_))))));rotate_left
   exact AW (j+1) sB ⟨by omega,B,h4,hs,hci,X,by omega⟩ (by omega)
 · obtain rfl:j=vs.length:=by omega
   focus
    refine eK ?_;refine AU rfl rfl rfl ?_;rotate_left
   exact ⟨_,rfl,hN.low (by omega),by omega,X⟩
def Stp.sv (st:Stp):SV:=⟨(st.base.cells.take (st.base.cells.length-st.base.locals)).map st.items,st.tin,st.tout⟩
def FN (l:List (List Int)) (j:Nat):List (List Int):=l.take j++List.replicate (l.length-j) []
theorem Pc (l:List (List Int)) (j:Nat) (hj:j≤l.length):(FN l j).length=l.length:=by simp [FN];omega
theorem Pd (l:List (List Int)) (j:Nat) (hj:j<l.length):(FN l j).set j l[j]=FN l (j+1):=by
 unfold FN
 have h1:(l.take j).length=j:=by simp;omega
 have h2:(List.replicate (l.length-j) ([]:List Int))=[]::List.replicate (l.length-(j+1)) []:=by
  rw [show l.length-j=(l.length-(j+1))+1 by omega,List.replicate_succ]
 rw [List.set_append_right _ _ (by omega),h1,Nat.sub_self,h2,List.set_cons_zero,List.take_succ_eq_append_getElem hj,List.append_assoc]
 rfl
theorem Pe (l:List (List Int)):FN l l.length=l:=by simp [FN]
theorem ArrS.ics {C D g:Nat} {w:World} {xs:List (List Int)} (h:ArrS FF C D w g xs) {S:Nat→Prop} (hg:S g) (hS : ∀b,C≤b→b<D→S b):ICs S w xs (some ⟨g,0,none⟩):=
 Or.inr ⟨g,0,rfl,hg,fun i x hi=>by
  obtain ⟨cs,hr,a,c,rfl,hs⟩:=h.row hi
  exact ⟨a,c,hr,hs.wide (fun b hb=>hS b hb.1 hb.2)⟩⟩
section
variable {ρ:Nat→Rl} {κ:Nat→Nat} {K:List (Int×Int)} {m sb:Nat} {st:Stp} {w:World}
theorem VF {tb:Nat} {ti to:List Int} (w:World) (h:TapeAt ρ w tb ti to):Calls prog 109 #[.pointer (some ⟨tb,0,none⟩)] w (CloneS ti w):=
 (VW ρ tb ti to w h).mono fun _ _ ⟨a,c,h1,h2,h3,h4⟩=>⟨a,c,h1,h2.rowsI h3,h4⟩
theorem UH {tb:Nat} {ti to:List Int} (w:World) (h:TapeAt ρ w tb ti to):Calls prog 110 #[.pointer (some ⟨tb,0,none⟩)] w (CloneS to w):=
 (Vk ρ tb ti to w h).mono fun _ _ ⟨a,c,h1,h2,h3,h4⟩=>⟨a,c,h1,h2.rowsI h3,h4⟩
theorem Stp.WF.items_le (hw:st.WF K m) (c:Nat):(st.items c).length≤1000000:=by
 rcases Nat.lt_or_ge c K.length with h|h
 · exact (hw.cell c _ (List.getElem?_eq_getElem h)).le
 · unfold Stp.items
   rw [List.getD_eq_getElem?_getD,List.getElem?_eq_none (by rw [hw.len];exact h)]
   exact Nat.zero_le _
theorem StoreAt.read (h:StoreAt ρ κ w sb st) (hlt : ∀c∈st.base.cells,c<st.heap.length) : ∃bv ca cc cv tb,Blk w sb [bv,.slice ca st.base.cells.length cc,.int .i64 st.base.locals,cv,.pointer (some ⟨tb,0,none⟩)]∧TapeAt ρ w tb st.tin st.tout ∧
 (st.base.cells≠[] → ∃g,ca=some ⟨g,0,none⟩∧g<w.heap.size ∧ ∀i c,st.base.cells[i]? = some c → ∃a e,Row w ⟨g,0+i*1,none⟩ [.pointer (some ⟨κ c,0,none⟩)]∧Blk w (κ c) [.slice a (st.items c).length e]∧Rows (· < w.heap.size) w (ints (st.items c)) a):=by
 obtain ⟨h1,-,⟨bv,bc,cv,tb,cs,h2,h3,h4,h5,h6⟩,h7⟩:=h
 rcases h3.c.1.row with ⟨rfl,hn,-⟩|⟨g,cap,rfl,-,-,hr⟩
 · refine ⟨bv,none,0,cv,tb,by rw [hn];exact h2,h6,fun hne=>absurd (List.length_eq_zero_iff.1 hn) hne⟩
 · refine ⟨bv,_,_,cv,tb,h2,h6,fun hne=>⟨g,rfl,(h3.c.1.blk (k:=g) rfl).2,fun i c hi=>?_⟩⟩
   have hc:=hlt c (List.mem_of_getElem? hi);obtain ⟨-,v,k1,k2⟩:=h7 c (st.items c) (by unfold Stp.items;rw [List.getD_eq_getElem?_getD,List.getElem?_eq_getElem hc];rfl);obtain ⟨a,e,rfl⟩:=k2.1.shape;refine ⟨a,e,fun j v hj=>?_,k1,(k2.1.rowsI (S:=fun _=>True) (fun _ _=>trivial)).ltA⟩
   cases j with
   | zero=>
    simp only [List.getElem?_cons_zero,Option.some.injEq] at hj;subst hj;have:=hr.at (i:=i) (v:=IV κ c) (by rw [List.getElem?_map,hi];rfl);rw [Nat.mul_one,show (⟨g,0+i,none⟩:Addr).add 0=⟨g,0+i,none⟩ by simp [Addr.add]]
    simpa using this
   | succ j=>simp at hj
theorem UI (hw:st.WF K m) (hm:m≤1000000) (w:World) (h:StoreAt ρ κ w sb st):Calls prog 67 #[.pointer (some ⟨sb,0,none⟩)] w (SvR st.sv w):=by
 have X:=Ext.refl w;have H:=Lib.hid h
 have hlt : ∀c∈st.base.cells,c<st.heap.length:=fun c hc=>hw.cells_lt (by simp) hc
 have hcl:st.base.cells.length≤1000000:=by have:=hw.base.len;have:=hw.vb _ (List.mem_cons_self ..);omega
 have hloc:st.base.locals≤st.base.cells.length:=by have:=hw.base.len;have:=hw.base.loc;omega
 have hil : ∀c,(st.items c).length≤1000000:=hw.items_le;obtain ⟨bv,ca,cc,cv,tb,hb,ht,hr⟩:=h.read hlt;clear h;refine Ad func67 ntmps67 rfl rfl ?_
 focus
  refine cS (eA [_,_,_] ?_);intro b1 w2 h5 x6 p7 z8;revert X hb ht;refine eE x6 ?_;intro X hb ht;refine eK ?_;refine C1 (A8 Aa rfl rfl) ?_;refine eK ?_;refine Ax (fun wz=>Ext w2 wz) 11 (.pure 0 (.pure 1 (.pure 2 (.pure 3 (.pure 4 (.pure 5 (.pure 6 (.pure 7 (.pure 8 (.pure 9 (.pure 10 .tail))))))))))) mixed (by kernel_rfl) (Ac Ak) ?_;intro w9 s _;have o:(fun wz=>Ext w2 wz) w9:=s;simp only at o;have t:=h5;have f:=hb;have u:=ht;revert h5 X hb ht;refine eY s ?_;intro ab h5 X hb ht;refine ⟨o,?_⟩;refine Tq rfl Mv (Tq rfl Pn (Tq rfl Pg (Tq rfl Pf (Tq rfl (Db f) (Tq rfl Pz (Tq rfl Mv (Tq rfl Pn (Tq rfl Pg (Tq rfl Pf (Tq rfl (Db f) ?_))))))))));refine Az rfl (C1 (Bs rfl rfl (IntWalk.i64_in _ (by omega))) (C1 Pa (cT ?_)));rotate_left
 obtain ⟨M,hM⟩ : ∃M,M=st.base.cells.length-st.base.locals:=⟨_,rfl⟩;rw [show ((st.base.cells.length:Int)-(st.base.locals:Int))=(M:Int) by omega];obtain ⟨L,hL⟩ : ∃L,L=st.sv.cells:=⟨_,rfl⟩
 have hLM:L.length=M:=by rw [hL,hM];simp [Stp.sv]
 clear hb ht hr
 focus
  refine eK ?_;refine AQ (E7 (sh:=FF) (C:=w9.heap.size+1) (D:=w9.heap.size+1) (N:=M) (z:=[]) Aa Bj rfl rfl rfl rfl (by kernel_rfl) rfl rfl (by omega) (fun _ _=>⟨none,0,rfl,Or.inl rfl⟩)) rfl ?_ (fun _ h=>h);rintro _ ac ⟨l,⟨rfl,⟨r,⟨ad,⟨ae,F⟩⟩⟩⟩⟩;revert h5 X;refine eY F ?_;intro af h5 X;refine C1 Pa (cT (Am (cS (C1 Mv (C1 Pz (C1 Mv (cT ?_)))))));rotate_left
 have e0:List.replicate M []=FN L 0:=by simp [FN,hLM]
 rw [e0] at r;refine AK ?_;refine Bn (ι:=Nat) (fun j=>[(0,.pointer (some ⟨sb,0,none⟩)),(2,.pointer (some ⟨b1,0,none⟩)),(4,.slice (some ⟨l,0,none⟩) M M),(24,.int .i64 M),(25,.int .i64 j)])
  (fun j w'=>j≤M∧ArrS FF (w9.heap.size+1) w'.heap.size w' l (FN L j)∧Blk w' b1 [.slice none 0 0,.slice none 0 0,.slice none 0 0]∧Ext w w'∧w9.heap.size+1≤w'.heap.size) (fun j=>M-j) 0 sB ⟨Nat.zero_le _,r.wide (by omega),h5,X,by omega⟩ ?_
 clear r h5 X e0;rintro j w3 ⟨hj,hA,h5,X,hz⟩;obtain ⟨bv,ca,cc,cv,tb,hb,ht,hr⟩:=(H.out.ext X).read hlt
 by_cases hlt2:j<M
 · obtain ⟨g,rfl,hgl,hrow⟩:=hr (by intro e;rw [e] at hM;simp at hM;omega);obtain ⟨a,e,r1,r2,r3⟩:=hrow j st.base.cells[j] (List.getElem?_eq_getElem (by omega))
   have hLj:L[j]=st.items st.base.cells[j]:=by simp [hL,Stp.sv]
   have hnext:=Pd L j (by omega);have hnl:=Pc L j (by omega);have HX:=Lib.hid (IP (st.items st.base.cells[j]) (hil _) (· < w3.heap.size) a e);rw [hLj] at hnext;clear hrow hr hLj hlt hil
   generalize st.base.cells[j]=c at *
   generalize st.items c=x at *
   focus
    refine eK ?_;refine C1 (G6 r1) ?_;refine eK ?_;refine eQ rfl (HX.out _ ‹_›) ?_;rintro _ ag ⟨ah,⟨ai,⟨⟨⟩,⟨v,G⟩⟩⟩⟩;revert hA h5 X ht hb r1 r2 r3;refine eY G ?_;intro aj hA h5 X ht hb r1 r2 r3;refine C1 Pi (Br (FD (sh:=FF) (j:=j) (z:=x) (us:=[_]) Aa rfl rfl rfl rfl rfl rfl ‹_› (by omega) (by omega) (by omega) ⟨_,_,rfl,Rows.wide ‹_› (fun b h=>by omega)⟩) (Cf ?_));rintro _ Q ⟨I,⟨n,ak⟩⟩;have R:=n.size;replace v:=v.fr n (by omega);clear hA;revert h5 X;refine eF n ?_;intro h5 X;clear ht hb r1 r2 r3 n;refine Aj (An (Ai (Ah (C1 V7 (C1 Mv (Aj ?_))))));rotate_left
   exact AW (j+1) sB ⟨by omega,by rw [←hnext];exact I.wide (by omega),h5,X,by omega⟩ (by omega)
 · obtain rfl:j=M:=by omega
   rw [←hLM,Pe] at hA
   clear hr;have HI:=Lib.hid (fun w1 h=>VF (ρ:=ρ) (tb:=tb) (ti:=st.tin) (to:=st.tout) w1 h);have HO:=Lib.hid (fun w1 h=>UH (ρ:=ρ) (tb:=tb) (ti:=st.tin) (to:=st.tout) w1 h)
   focus
    refine eK ?_;refine Ax (fun wz=>Ext w3 wz) 11 (.pure 0 (.pure 1 (.pure 2 (.pure 3 (.pure 4 (.pure 6 (.pure 7 (.pure 8 (.pure 9 (.fork 5 (.fork 10 .tail .none) .none)))))))))) mixed (by kernel_rfl) (Ac Ak) ?_;intro J y _;have d:(fun wz=>Ext w3 wz) J:=y;simp only at d;have S:=hA;have t:=h5;have f:=hb;have u:=ht;revert hA h5 X hb ht;refine eY y ?_;intro al hA h5 X hb ht;refine ⟨d,?_⟩;refine Tq rfl Mv (Tq rfl Mv (Tq rfl Pn (Tq rfl Pf (Tq rfl (Db f) (Tq rfl Mv (Tq rfl Pn (Tq rfl Pf (Tq rfl (Db f) ?_))))))));refine At rfl (Av (by kernel_rfl) rfl (HI.out _ ‹_›) (fun _ _ h=>h.ret)) rfl ?_ (fun _ h=>h) As;rintro _ T ⟨A,⟨am,⟨⟨⟩,⟨i,O⟩⟩⟩⟩;revert d hA h5 X hb ht;refine eY O ?_;intro U d hA h5 X hb ht;refine ⟨d,?_⟩;refine At rfl (Av (by kernel_rfl) rfl (HO.out _ ‹_›) (fun _ _ h=>h.ret)) rfl ?_ (fun _ h=>h) As;rintro _ V ⟨p,⟨W,⟨⟨⟩,⟨k,B⟩⟩⟩⟩;revert i d hA h5 X hb ht;refine eY B ?_;intro Y i d hA h5 X hb ht;refine ⟨d,?_⟩;refine Az rfl (C1 (AC [_,_,_] Aa Bj rfl rfl rfl rfl) (eS [_,_,_] h5 ?_));intro Z E q aa;revert k i hA X;refine eF q ?_;intro k i hA X;clear hb ht q;refine eK ?_
    refine AZ rfl Aa rfl rfl rfl E rfl ?_;rotate_left
   exact ⟨some ⟨l,0,none⟩,j,A,_,p,_,(by show _=Ending.returned (.agg #[.slice (some ⟨l,0,none⟩) st.sv.cells.length j,.slice A st.tin.length _,.slice p st.tout.length _]);rw [←hL,hLM]),⟨by rw [←hL];exact hA.ics ⟨by omega,by omega⟩ (fun b h1 h2=>⟨by omega,by omega⟩),i.wide (fun b h=>⟨by omega,by omega⟩),k.wide (fun b h=>⟨by omega,by omega⟩)⟩,X⟩
end
theorem MK (v:VD):v.cells.length=3:=rfl
theorem VG (v:VD):v.cells.all Value.one=true:=rfl
theorem N9 {S:Nat→Prop} {w:World} {l:List VD} {a:Option Addr} (h:VDs S w l a):Rows S w (l.flatMap VD.cells) a:=by
 rcases h with h|⟨b,o,h1,h2,h3⟩
 · subst h;exact Or.inl rfl
 · exact Or.inr ⟨b,o,h1,h2,LC MK l o (fun i x hi=>h3 i x hi)⟩
theorem KY {S:Nat→Prop} {w:World} {l:List VD} {a:Option Addr} (h:Rows S w (l.flatMap VD.cells) a):VDs S w l a:=by
 cases l with
 | nil=>exact Or.inl rfl
 | cons v r=>
  rcases h with h|⟨b,o,h1,h2,h3⟩
  · simp at h
  · exact Or.inr ⟨b,o,h1,h2,fun i x hi=>LD MK (v::r) o h3 i x hi⟩
def VCopyR (l:List VD) (w:World):Ending→World→Prop:=fun e w'=> ∃a c,e = .returned (.slice a l.length c)∧VDs (fun b=>w.heap.size≤b∧b<w'.heap.size) w' l a∧Ext w w'∧l.length≤c
theorem VCopyR.ret {l:List VD} {w:World} {e:Ending} {w':World} (h:VCopyR l w e w') : ∃v,e = .returned v:=by
 obtain ⟨_,_,h,-⟩:=h
 exact ⟨_,h⟩
theorem Ph {w w':World} (X:Ext w w'):VCopyR [] w (.returned (.slice none 0 0)) w':=⟨none,0,rfl,Or.inl rfl,X,Nat.le_refl _⟩
theorem Pj {l:List VD} {e B g cap m:Nat} {w w':World} (hm:0+l.length=m) (h:OwnF e 3 B w' g cap m ([]++l.flatMap VD.cells)) (hB:w.heap.size≤g) (X:Ext w w'):VCopyR l w (.returned (.slice (some ⟨g,0,none⟩) m cap)) w':=by
 have hl:=h.lt;subst hm
 exact ⟨some ⟨g,0,none⟩,cap,by rw [Nat.zero_add],KY (h.rows ⟨hB,hl⟩),X,by have:=h.le;omega⟩
theorem L2 (l:List VD) (hl:l.length≤1000000000) (S:Nat→Prop) (a:Option Addr) (c:Nat) (w:World) (hs:VDs S w l a) :
 Calls prog 61 #[.slice a l.length c] w (VCopyR l w):=by
 have X:=Ext.refl w;have hd:=GF MK l;have ho:=Jm VG l
 cases a with
 | none=>
  have h0:l=[]:=by
   rcases hs with h|⟨b,o,h,-⟩
   · exact h
   · cases h
  subst h0;refine Ad func61 ntmps61 rfl rfl ?_
  focus
   refine eK ?_;refine C1 (J9 Aa rfl rfl) ?_;refine eK ?_;refine Af rfl rfl ?_;rotate_left
  exact Ph X
 | some p=>
  replace hs:=(N9 hs).ltA;refine Ad func61 ntmps61 rfl rfl ?_
  focus
   refine eK ?_;refine C1 (Ka Aa rfl rfl) ?_;refine eK ?_;refine AQ (Iv (B:=w.heap.size) Aa rfl rfl (by omega)) rfl ?_ (fun _ h=>h);rintro _ q ⟨r,⟨rfl,⟨s,⟨t,⟨u,f⟩⟩⟩⟩⟩;revert X hs;refine eY f ?_;intro v X hs;refine C1 Mv ?_;refine AQ (Iw Aa Bj rfl rfl rfl rfl (by kernel_rfl) rfl rfl rfl ‹_› ‹_› hd ho (by omega)) rfl ?_ (fun _ h=>h);rintro _ g ⟨i,⟨e,⟨rfl,⟨j,⟨k,⟨m,d⟩⟩⟩⟩⟩⟩;have n:=d.size;revert X hs;refine eF d ?_;intro X hs;refine eK ?_;refine Af rfl rfl ?_;rotate_left
  exact Pj rfl ‹_› (by omega) X
mutual
def Nd.walk:Nd→List Nd
 | .mk k n s l=>.mk k n s l::P9 l
def P9:List Nd→List Nd
 | []=>[]
 | t::r=>t.walk++P9 r
end
def WK (b0:Nat) (W:World) (vs:List Value) (t:Nd):Prop:= ∃pa pn pc a c,vs=[.slice pa pn pc,t.val a c]∧t.sits (fun b=>b0≤b) W a∧t.kids.length≤c
def SliceR (n:Nat) (w:World):Ending→World→Prop:=fun e w'=> ∃a c,e = .returned (.slice a n c)∧Ext w w'
theorem SliceR.ret {n:Nat} {w:World} {e:Ending} {w':World} (h:SliceR n w e w') : ∃v,e = .returned v:=by
 obtain ⟨_,_,h,-⟩:=h
 exact ⟨_,h⟩
theorem Pk {cs:List Value} {e B g cap m k:Nat} {w w':World} (hm:0+k=m) (_:OwnF e 1 B w' g cap m ([]++cs)) (X:Ext w w'):SliceR k w (.returned (.slice (some ⟨g,0,none⟩) m cap)) w':=⟨_,_,by rw [←hm,Nat.zero_add],X⟩
theorem Oa (cs:List Value) (n:Nat) (hn:cs.length=n*1) (ho:cs.all Value.one=true) (hl:n≤1000000000) (S:Nat→Prop) (p:Addr) (c:Nat) (w:World) (hs:Rows S w cs (some p)) :
 Calls prog 27 #[.slice (some p) n c] w (SliceR n w):=by
 have X:=Ext.refl w;replace hs:=hs.ltA;refine Ad func27 ntmps27 rfl rfl ?_
 focus
  refine eK ?_;refine C1 (Ka Aa rfl rfl) ?_;refine eK ?_;refine AQ (Iv (B:=w.heap.size) Aa rfl rfl (by omega)) rfl ?_ (fun _ h=>h);rintro _ w6 ⟨g1,⟨rfl,⟨h2,⟨h3,⟨h4,x5⟩⟩⟩⟩⟩;revert X hs;refine eY x5 ?_;intro z7 X hs;refine C1 Mv ?_;refine AQ (Iw Aa Bj rfl rfl rfl rfl (by kernel_rfl) rfl rfl rfl ‹_› ‹_› hn ho (by omega)) rfl ?_ (fun _ h=>h);rintro _ d ⟨e,⟨b,⟨rfl,⟨f,⟨g,⟨i,a⟩⟩⟩⟩⟩⟩;have j:=a.size;revert X hs;refine eF a ?_;intro X hs;refine eK ?_;refine Af rfl rfl ?_;rotate_left
 exact Pk rfl ‹_› X
theorem Ob (w:World):Calls prog 27 #[.slice none 0 0] w (SliceR 0 w):=by
 have X:=Ext.refl w;refine Ad func27 ntmps27 rfl rfl ?_
 focus
  refine eK ?_;refine C1 (J9 Aa rfl rfl) ?_;refine eK ?_;refine Af rfl rfl ?_;rotate_left
 exact ⟨_,_,rfl,X⟩
section
variable {P:Program} {n:Nat} {l:Sl} {S:World→Prop} {tab:Tab} {zt:EL} {ty:TypeId} {w:World} {ops:Array Oper} {Q:Exit→Act→World→Prop} {rest:List Oper} {d:Nat} {pos:String} {after:Array Edge}
end
structure VSt (y c bY bP bV:Nat) (A:Nat→Prop) (W:World) (pv:Value) (d:Nat):Prop where
 y0:Blk W bY [.func (.yield y) #[] #[]]
 p0:Blk W bP [pv]
 v0:Blk W bV [.func (.func 137) #[] #[.pointer (some ⟨bY,0,none⟩),.pointer (some ⟨bP,0,none⟩),.pointer (some ⟨bV,0,none⟩)]]
 own : ∃cs:List Value,cs.all Value.one=true∧Own W c 3 1 pv d cs
 a0:A bY
 a1:A bP
 a2:A bV
 ap : ∀g,pv.ownBlock=some g→A g∧g≠bY∧g≠bP∧g≠bV
 ne:bY≠bP∧bV≠bP
 lt : ∀k,A k→c≤k∧k<W.heap.size
def W3 (Rt A:Nat→Prop) (bP:Nat) (pv:Value):Nat→Prop:=fun k=>Rt k∨(A k∧k≠bP∧pv.ownBlock≠some k)
def WL (y c bY bP bV:Nat) (Rt:Nat→Prop) (J Jx:(Nat→Prop)→List Nd→World→Prop) (S:List Nd) (A:Nat→Prop) (xs:List Nd) (W:World) (pv:Value) (d:Nat) (q:Bool) (W':World):Prop:=
 ∃A':Nat→Prop,(∀k,A k→A' k)∧(∀k,A' k→c≤k) ∧
  ((q=true ∧ ∃pv',VSt y c bY bP bV A' W' pv' d∧J A' xs W'∧(∀g,pv'.ownBlock=some g→pv.ownBlock=some g∨W.heap.size≤g)∧Keeps (W3 Rt A bP pv) W W')∨(q=false ∧ ∃pre,pre <+: S∧Jx A' pre W'))
def VEnd (y c bY bP bV:Nat) (Rt:Nat→Prop) (J Jx:(Nat→Prop)→List Nd→World→Prop) (S:List Nd) (A:Nat→Prop) (xs:List Nd) (W:World) (pv:Value) (d:Nat):Ending→World→Prop:=fun e W'=>
 ∃q,e = .returned (.bool q)∧WL y c bY bP bV Rt J Jx S A xs W pv d q W'
theorem VEnd.ret {y c bY bP bV:Nat} {Rt:Nat→Prop} {J Jx:(Nat→Prop)→List Nd→World→Prop} {S:List Nd} {A:Nat→Prop} {xs:List Nd} {W:World} {pv:Value} {d:Nat} {e:Ending} {W':World} (h:VEnd y c bY bP bV Rt J Jx S A xs W pv d e W') : ∃v,e = .returned v:=by
 obtain ⟨_,h,-⟩:=h
 exact ⟨_,h⟩
def YRes (Rt:Nat→Prop) (J Jx:(Nat→Prop)→List Nd→World→Prop) (A:Nat→Prop) (xs:List Nd) (W:World):Ending→World→Prop:=fun e W'=>
 Keeps (fun k=>A k∨Rt k) W W'∧((e = .returned (.bool true)∧J A xs W')∨(e = .returned (.bool false)∧Jx A xs W'))
theorem YRes.ret {Rt:Nat→Prop} {J Jx:(Nat→Prop)→List Nd→World→Prop} {A:Nat→Prop} {xs:List Nd} {W:World} {e:Ending} {W':World} (h:YRes Rt J Jx A xs W e W') : ∃v,e = .returned v:=by
 obtain ⟨-,⟨h,-⟩|⟨h,-⟩⟩:=h<;>exact ⟨_,h⟩
def WalkR (t:Nd) (w:World):Ending→World→Prop:=fun e w'=> ∃br,e = .returned (.func (.func 136) #[] #[.pointer (some ⟨br,0,none⟩)])∧VE prog 136 [.pointer (some ⟨br,0,none⟩)] WK (fun k=>w.heap.size≤k∧k<w'.heap.size) t.walk w'∧Ext w w'
theorem WalkR.ret {t:Nd} {w:World} {e:Ending} {w':World} (h:WalkR t w e w') : ∃v,e = .returned v:=by
 obtain ⟨_,h,-⟩:=h
 exact ⟨_,h⟩
def Oc (k:Nat):Shape Unit where
 sz:=k
 rep _ _ _ cs:=cs.length=k∧cs.all Value.one=true
 len h:=h.1
 one h:=h.2
 mono h _ _:=h
 lt h:=h
def NodeR (w:World):Ending→World→Prop:=fun e w'=> ∃(k n:Int) (s:List UInt8) (a:Option Addr) (m c:Nat),e = .returned (.agg #[.int .u8 k,.int .i64 n,str s,.slice a m c])∧Ext w w'
theorem NodeR.ret {w:World} {e:Ending} {w':World} (h:NodeR w e w') : ∃v,e = .returned v:=by
 obtain ⟨_,_,_,_,_,_,h,-⟩:=h
 exact ⟨_,h⟩
def VH (k n:Int) (kids:List (Int×Bool)):Int×Bool:=
 if kids.all (·.2)=true then
  if k=1 then (n,true) else if k=2∨k=3∨k=4∨k=5 then (0,false)
  else if k=6∨k=7 then ((Gd k (kids.getD 0 (0,false)).1).1,decide ((Gd k (kids.getD 0 (0,false)).1).2=0))
  else ((Gc k (kids.getD 0 (0,false)).1 (kids.getD 1 (0,false)).1).1,decide ((Gc k (kids.getD 0 (0,false)).1 (kids.getD 1 (0,false)).1).2=0))
 else (0,false)
def Wh (x:Int×Bool):Int×Bool:=if x.2=true then x else (0,false)
mutual
def Nd.cval:Nd→Int×Bool
 | .mk k n _ l=>Wh (VH k n (Qa l))
def Qa:List Nd→List (Int×Bool)
 | []=>[]
 | t::r=>t.cval::Qa r
end
def FoldR (t:Nd) (w:World):Ending→World→Prop:=fun e w'=> ∃(k n:Int) (s:List UInt8) (a:Option Addr) (m c:Nat),e = .returned (.agg #[.int .u8 k,.int .i64 n,str s,.slice a m c,.int .i64 t.cval.1,.bool t.cval.2])∧Ext w w'
theorem FoldR.ret {t:Nd} {w:World} {e:Ending} {w':World} (h:FoldR t w e w') : ∃v,e = .returned v:=by
 obtain ⟨_,_,_,_,_,_,h,-⟩:=h
 exact ⟨_,h⟩
def EachR {α:Type} (sh:Shape α) (e:Nat) (xs:List α) (w:World):Ending→World→Prop:=fun r w'=> ∃a c,r = .returned (.slice a xs.length c)∧OwnQ sh w' (fun _=>False) w.heap.size e (.slice a xs.length c) xs∧Ext w w'
theorem EachR.ret {α:Type} {sh:Shape α} {e:Nat} {xs:List α} {w:World} {r:Ending} {w':World} (h:EachR sh e xs w r w') : ∃v,r = .returned v:=by
 obtain ⟨_,_,h,-⟩:=h
 exact ⟨_,h⟩
def KidsAt (w:World) (a:Option Addr) (kids:List (Int×Bool)):Prop:=kids=[] ∨ ∃b o,a=some ⟨b,o,none⟩∧b<w.heap.size ∧ ∀(i:Nat) (x:Int×Bool),kids[i]? = some x → ∃(k n:Int) (s:List UInt8) (c:Option Addr) (m d:Nat),Row w ⟨b,o+i*6,none⟩ [.int .u8 k,.int .i64 n,str s,.slice c m d,.int .i64 x.1,.bool x.2]
theorem KidsAt.ext {w w':World} {a:Option Addr} {kids:List (Int×Bool)} (h:KidsAt w a kids) (x:Ext w w'):KidsAt w' a kids:=h.imp id fun ⟨b,o,h1,h2,h3⟩=>⟨b,o,h1,Nat.lt_of_lt_of_le h2 x.size,fun i y hy=>by
 obtain ⟨k,n,s,c,m,d,r⟩:=h3 i y hy
 exact ⟨k,n,s,c,m,d,r.ext x⟩⟩
instance {w w':World} {a:Option Addr} {kids:List (Int×Bool)}:LfE w w' (KidsAt w a kids) (KidsAt w' a kids):=⟨fun x h=>Bk.KidsAt.ext h x⟩
theorem KidsAt.fr {S:Nat→Prop} {w w':World} {a:Option Addr} {kids:List (Int×Bool)} (h:KidsAt w a kids) (x:Fr S w w') (hs : ∀k,k<w.heap.size → ¬S k):KidsAt w' a kids:=h.imp id fun ⟨b,o,h1,h2,h3⟩=>⟨b,o,h1,Nat.lt_of_lt_of_le h2 x.size,fun i y hy=>by
 obtain ⟨k,n,s,c,m,d,r⟩:=h3 i y hy
 exact ⟨k,n,s,c,m,d,r.fr x (hs b h2)⟩⟩
instance {S:Nat→Prop} {w w':World} {a:Option Addr} {kids:List (Int×Bool)}:LfF S w w' (KidsAt w a kids) (∀k,k<w.heap.size → ¬S k) (KidsAt w' a kids):=⟨fun x s h=>Bk.KidsAt.fr h x s⟩
theorem RA {k n:Int} {s:List UInt8} {l:List Nd} (h:(Nd.mk k n s l).isExpr=true):1≤k∧(∀x∈l,x.isExpr=true)∧(k=6∨k=7→l.length=1)∧(8≤k→l.length=2):=by
 rw [Nd.isExpr.eq_def] at h;simp only at h
 split at h
 · rename_i h1
   simp only [Bool.and_eq_true,List.isEmpty_iff] at h;rw [h.2]
   exact ⟨by omega,by simp,by omega,by omega⟩
 split at h
 · simp only [Bool.and_eq_true,List.isEmpty_iff] at h
   rw [h.2]
   exact ⟨by omega,by simp,by omega,by omega⟩
 split at h
 · match l,h with
   | [x],h=>
    simp only [Bool.and_eq_true] at h
    exact ⟨by omega,by simpa using h.2,by omega,by omega⟩
   | [],h=>simp at h
   | _::_::_,h=>simp at h
 split at h
 · match l,h with
   | [x],h=>
    simp only [Bool.and_eq_true] at h
    exact ⟨by omega,by simpa using h.2,fun _=>rfl,by omega⟩
   | [],h=>simp at h
   | _::_::_,h=>simp at h
 split at h
 · match l,h with
   | [x,y],h=>
    simp only [Bool.and_eq_true] at h
    exact ⟨by omega,by simpa using h.2,by omega,fun _=>rfl⟩
   | [],h=>simp at h
   | [_],h=>simp at h
   | _::_::_::_,h=>simp at h
 · simp at h
def Nd.const (t:Nd):Int×Bool:=if t.isExpr=true then t.cval else (0,false)
theorem Od {k:Int} {s:List UInt8} {i:Nat} {v:List VD} (h:k≠54) (h2:k≠55):Cn k s i v=v:=by
 unfold Cn
 rw [if_neg (fun e=>h e.1),if_neg (fun e=>h2 e.1)]
def F8 (ps:List PD) (v:List VD):List Nd→Nat
 | []=>0
 | t::r=>t.flt ps v+F8 ps v r
theorem L3 {ps:List PD} {v:List VD} {k:Int} {s:List UInt8} (h:k≠54) (h2:k≠55) : ∀(l:List Nd) (i:Nat),Ck ps v k s i l=F8 ps v l
 | [],_=>by rw [Ck,F8]
 | t::r,i=>by rw [Ck,F8,Od h h2,L3 h h2 r]
theorem Oe {ps:List PD} {v:List VD} : ∀l m:List Nd,F8 ps v (l++m)=F8 ps v l+F8 ps v m
 | [],m=>by simp [F8]
 | t::r,m=>by rw [List.cons_append,F8,F8,Oe r m];omega
theorem Of {ps:List PD} {v:List VD} : ∀l:List Nd,F8 ps v l.reverse=F8 ps v l
 | []=>rfl
 | t::r=>by rw [List.reverse_cons,Oe,Of r];simp only [F8];omega
theorem CI {ps:List PD} {v:List VD} {k n:Int} {s:List UInt8} {l:List Nd} (h:k≠54) (h2:k≠55) (h3:k≠50) (h4:k≠51):(Nd.mk k n s l).flt ps v=Mg (B7 ps v k s l.length)+F8 ps v l:=by
 rw [Nd.flt,if_neg (by omega),L3 h h2]
theorem Da {ps:List PD} {v:List VD} {k:Int} {s:List UInt8} {m:Nat} (h:6≤k) (h2 : ¬(k=44∨k=45)) (h3 : ¬(k=54∨k=55)) (h4 : ¬(k=50∨k=51)):B7 ps v k s m=0:=by
 unfold B7
 rw [if_neg (by omega),if_neg (by omega),if_neg (by omega),if_neg h3,if_neg h4]
theorem Qb (ps:List PD) (q:Bool) (N:Nat) : ∀(t:Nd) (v:List VD),t.size<N→t.isStmt=true∨t.isBlock=true→(t.inv q).flt ps v=t.flt ps v:=by
 induction N with
 | zero=>intro t v h;omega
 | succ N ih=>
  intro t v hN h
  by_cases hs:t.isStmt=true
  · cases Dc hs with
    | @upd k x y hk hx hy=>
     have a:=J6 hk;rw [JL q hk (Bl hx) hy,CI (by omega) (by omega) (by omega) (by omega),CI (by omega) (by omega) (by omega) (by omega),Da (by omega) (by omega) (by omega) (by omega),Da (by omega) (by omega) (by omega) (by omega)]
    | @swap x y hx hy=>rw [Iq q (Bl hx) (Bl hy)]
    | @stack k s x hk hn hx=>
     have a:=Ht hk;rw [FC q (by omega) (Bl hx),CI (by omega) (by omega) (by omega) (by omega),CI (by omega) (by omega) (by omega) (by omega)]
     have : ∀k:Int,k=44∨k=45→B7 ps v k s 1=Ff v s 3:=fun k h=>by
      unfold B7
      rw [if_neg (by omega),if_neg (by omega),if_pos (by omega)]
     simp only [List.length_cons,List.length_nil,Nat.zero_add];rw [this _ a,this _ hk]
    | @tape k x hk hx=>
     have a:=I4 hk;rw [FC q (by omega) (Bl hx),CI (by omega) (by omega) (by omega) (by omega),CI (by omega) (by omega) (by omega) (by omega),Da (by omega) (by omega) (by omega) (by omega),Da (by omega) (by omega) (by omega) (by omega)]
    | @call k s l hk hn hl ha=>
     have a:(if q then k else BN k)=50∨(if q then k else BN k)=51:=by
      cases q
      · exact LB hk
      · exact hk
     have : ∀k:Int,k=50∨k=51→B7 ps v k s l.length=Jj ps s l.length:=fun k h=>by
      unfold B7
      rw [if_neg (by omega),if_neg (by omega),if_neg (by omega),if_neg (by omega),if_pos h]
     rw [Ir q hk ha,Nd.flt,Nd.flt,if_pos a,if_pos hk,this _ a,this _ hk]
    | @branch k x y z u hk hx hy hz hu=>
     simp only [Nd.size,Au] at hN;have iy:=ih y v (by omega) (Or.inr hy);have iz:=ih z v (by omega) (Or.inr hz);rw [Gg q hk hx hy hz hu,CI (by omega) (by omega) (by omega) (by omega),CI (by omega) (by omega) (by omega) (by omega),Da (by omega) (by omega) (by omega) (by omega),Da (by omega) (by omega) (by omega) (by omega)]
     simp only [F8,iy,iz];omega
    | @local_ s x y z hn hx hy hz=>
     simp only [Nd.size,Au] at hN;have iy:=ih y (v++[⟨s,1,0⟩]) (by omega) (Or.inr hy);rw [GY q hx hy hz,Nd.flt,Nd.flt,if_neg (by omega),if_neg (by omega)]
     have e0 : ∀i:Nat,i≠1→Cn 54 s i v=v:=fun i h=>by unfold Cn;rw [if_neg (fun e=>h e.2),if_neg (fun e=>absurd e.1 (by decide))]
     have e1:Cn 54 s 1 v=v++[⟨s,1,0⟩]:=by unfold Cn;rw [if_pos ⟨rfl,rfl⟩]
     simp only [Ck,Nat.zero_add,e0 0 (by decide),e1,e0 (1+1) (by decide),iy,List.length_cons,List.length_nil];omega
    | @lstack s x hn hx=>
     simp only [Nd.size,Au] at hN;have ix:=ih x (v++[⟨s,3,0⟩]) (by omega) (Or.inr hx);rw [Gh q hx,Nd.flt,Nd.flt,if_neg (by omega),if_neg (by omega)]
     have e0:Cn 55 s 0 v=v++[⟨s,3,0⟩]:=by unfold Cn;rw [if_neg (fun e=>absurd e.1 (by decide)),if_pos ⟨rfl,rfl⟩]
     simp only [Ck,e0,ix,List.length_cons,List.length_nil]
  · have hb:t.isBlock=true:=h.resolve_left hs
    obtain ⟨e,hr⟩:=Ev hb;obtain ⟨k,n,s,l⟩:=t;simp only [Nd.kids,Nd.mk.injEq,and_true] at e;obtain ⟨rfl,rfl,rfl⟩:=e;simp only [Nd.kids] at hr;simp only [Nd.size] at hN;have hst:=rowStmt_iff.1 hr;rw [D1,CI (by omega) (by omega) (by omega) (by omega),CI (by omega) (by omega) (by omega) (by omega),Da (by omega) (by omega) (by omega) (by omega),Da (by omega) (by omega) (by omega) (by omega),Of]
    have key : ∀r:List Nd,(∀t∈r,t∈l)→F8 ps v (BY q r)=F8 ps v r:=by
     intro r
     induction r with
     | nil=>intro _;rfl
     | cons x r ihr=>
      intro hm;have hx:=hm x (by simp);simp only [BY,F8];rw [ih x v (by have:=EZ hx;omega) (Or.inl (hst x hx)),ihr (fun t ht=>hm t (by simp [ht]))]
    rw [key l (fun _ h=>h)]
def ProgR (u:PG) (k:Int) (w:World):Ending→World→Prop:=fun e w'=> ∃va vc pa pc ma mc,e = .returned (.tuple #[.agg (u.cells va vc pa pc ma mc).toArray,.int .i64 k])∧u.sits (fun b=>w.heap.size≤b∧b<w'.heap.size) w' va pa ma∧Ext w w'
theorem ProgR.ret {u:PG} {k:Int} {w:World} {e:Ending} {w':World} (h:ProgR u k w e w') : ∃v,e = .returned v:=by
 obtain ⟨_,_,_,_,_,_,h,-⟩:=h
 exact ⟨_,h⟩
theorem IQ {g:PG} {b:Bool} (hwf:g.wf) (h:g.ok=b) (S:Nat→Prop) (va:Option Addr) (vc:Nat) (pa:Option Addr) (pc:Nat) (ma:Option Addr) (mc:Nat) (w:World) (hs:g.sits S w va pa ma) :
 Calls prog 8 #[.agg (g.cells va vc pa pc ma mc).toArray] w fun e w'=>e = .returned (.bool b)∧Ext w w':=by
 have:=Uq g S va vc pa pc ma mc w hwf hs
 rw [h] at this;exact this
theorem PG.sits.ltA {S:Nat→Prop} {w:World} {g:PG} {va pa ma:Option Addr} (h:g.sits S w va pa ma):g.sits (· < w.heap.size) w va pa ma:=⟨h.vars.lt2.wide fun _ h=>h.2,h.procs.ltA,BP _ _ h.main⟩
theorem Pm (f:Nd→Nd) (l:List PD) (j:Nat) (h:j<l.length):(l.take (j+1)).map (PD.map f)=(l.take j).map (PD.map f)++[(l[j]).map f]:=by
 rw [List.take_succ_eq_append_getElem h,List.map_append];rfl
theorem PDs.lt2 {S:Nat→Prop} {w:World} {l:List PD} {a:Option Addr} (h:PDs S w l a):PDs (fun b=>S b∧b<w.heap.size) w l a:=by
 rcases h with h|⟨b,o,h1,h2,h3⟩
 · exact Or.inl h
 · cases l with
   | nil=>exact Or.inl rfl
   | cons v r=>
    obtain ⟨_,_,_,_,hr,-,-⟩:=h3 0 v rfl;refine Or.inr ⟨b,o,h1,⟨h2,Ca (Row.at0 hr rfl)⟩,fun i x hi=>?_⟩;obtain ⟨pa,pc,ba,bc,hr,hv,hs⟩:=h3 i x hi
    exact ⟨pa,pc,ba,bc,hr,hv.lt2,EN _ _ hs⟩
def KZ (u:PG) (k:Int) (w:World):Ending→World→Prop:=fun e w'=> ∃va vc pa pc ma mc,e = .returned (.tuple #[.agg (u.cells va vc pa pc ma mc).toArray,.int .i64 k])∧u.sits (fun b=>w.heap.size≤b∧b<w'.heap.size) w' va pa ma∧PDsC (fun b=>w.heap.size≤b∧b<w'.heap.size) w' u.procs pa∧u.vars.length≤vc∧Ext w w'
theorem PDsC.lt2 {S:Nat→Prop} {w:World} {l:List PD} {a:Option Addr} (h:PDsC S w l a):PDsC (fun b=>S b∧b<w.heap.size) w l a:=by
 rcases h with h|⟨b,o,h1,h2,h3⟩
 · exact Or.inl h
 · cases l with
   | nil=>exact Or.inl rfl
   | cons v r=>
    obtain ⟨_,_,_,_,hr,-,-⟩:=h3 0 v rfl;refine Or.inr ⟨b,o,h1,⟨h2,Ca (Row.at0 hr rfl)⟩,fun i x hi=>?_⟩;obtain ⟨pa,pc,ba,bc,hr,hv,hs,hc⟩:=h3 i x hi
    exact ⟨pa,pc,ba,bc,hr,hv.lt2,EN _ _ hs,hc⟩
theorem S9 {f:Nd→Nd} {q:Bool} {g:PG} {w w':World} {va ra ma:Option Addr} {vc rc mc M e:Nat} {xs:List PD} {S1 S2:Nat→Prop} (hx:xs=g.procs.map (PD.map f)) (hv:VDs S1 w' g.vars va) (hc:g.vars.length≤vc) (ho:OwnL GP w' M e (.slice ra xs.length rc) xs) (hm:(g.main.inv q).sits S2 w' ma) (X:Ext w w') (k1 : ∀b,S1 b→w.heap.size≤b) (k2 : ∀b,S2 b→w.heap.size≤b) (kM:w.heap.size≤M) :
 KZ (g.inv f q) 0 w (.returned (.tuple #[.agg #[.slice va g.vars.length vc,.slice ra xs.length rc,.int .u8 (g.main.inv q).kind,.int .i64 (g.main.inv q).num,str (g.main.inv q).name,.slice ma (g.main.inv q).kids.length mc],.int .i64 0])) w':=by
 subst hx
 have h1:=PDsC.wide (PDsC.lt2 (ho.pdsC (S:=fun b=>M≤b) (fun b hb=>hb))) (S':=fun b=>w.heap.size≤b∧b<w'.heap.size) fun b h=>⟨by omega,h.2⟩
 exact ⟨va,vc,ra,rc,ma,mc,rfl,⟨hv.lt2.wide fun b h=>⟨k1 b h.1,h.2⟩,h1.pds,Nd.sits.wide (EN _ _ hm) fun b h=>⟨k2 b h.1,h.2⟩⟩,h1,hc,X⟩
theorem Po (q:Bool) (fid:Nat) (f:Nd→Nd) (hbd:CV prog fid=true) (g:PG) (hwf:g.wf) (hok:g.ok=true) (hf:g.few) (hm:g.main.isBlock=true)
 (HB : ∀p∈g.procs,∀(S:Nat→Prop) (a:Option Addr) (c:Nat) (w:World),p.body.sits S w a→Calls prog fid #[p.body.val a c] w (CopyR (f p.body) w))
 (S:Nat→Prop) (va:Option Addr) (vc:Nat) (pa:Option Addr) (pc:Nat) (ma:Option Addr) (mc:Nat) (w:World) (hs:g.sits S w va pa ma) :
 Calls prog 35 #[.agg (g.cells va vc pa pc ma mc).toArray,.func (.func fid) #[] #[],.bool q] w (KZ (g.inv f q) 0 w):=by
 have X:=Ext.refl w;obtain ⟨nv,np,hmz,hps⟩:=hf;have HV:=Lib.hid (IQ hwf hok);have HI:=Lib.hid (IB q g.main hmz (Or.inr hm));have HC:=Lib.hid (L2 g.vars (by omega));have HP:=Lib.hid HB;have HQ:=Lib.hid hps;clear hwf hok hm HB hps;replace hs:=hs.ltA;refine Ad func35 ntmps35 rfl rfl ?_
 focus
  refine cS (eB [_,_,_,_,_,_] ?_);intro b1 w2 h4 x5 p6 z7;revert X hs;refine eE x5 ?_;intro X hs;refine eA [_,_,_,_,_,_] ?_;intro b8 w9 i av c2 c3;revert h4 X hs;refine eE av ?_;intro h4 X hs;refine eK ?_;refine Ae [_,_,_,_,_,_] Aa rfl rfl rfl h4 rfl rfl rfl (cC rfl (HV.out _ _ _ _ _ _ _ _ ‹_›) ?_);rintro _ V ⟨⟨⟩,aw⟩;revert i h4 X hs;refine eY aw ?_;intro c4 i h4 X hs;refine C1 Pt (cT (Ep rfl (AH (Ai ?_))));rotate_left
 refine G1 (ι:=Nat×Option Addr×Nat×Option Addr×Nat) (fun x=>[(1,.func (.func fid) #[] #[]),(3,.pointer (some ⟨b1,0,none⟩)),(6,.pointer (some ⟨b8,0,none⟩)),(8,.pointer (some ⟨x.1,0,none⟩))])
  (fun x w'=>Blk w' x.1 [.slice x.2.1 g.vars.length x.2.2.1,.slice none 0 0,.int .u8 (g.main.inv q).kind,.int .i64 (g.main.inv q).num,str (g.main.inv q).name,.slice x.2.2.2.1 (g.main.inv q).kids.length x.2.2.2.2]∧VDs (fun b=>b8<b∧b≠x.1∧b<w'.heap.size) w' g.vars x.2.1∧(g.main.inv q).sits (fun b=>b8<b∧b≠x.1∧b<w'.heap.size) w' x.2.2.2.1∧b8<x.1∧x.1<w'.heap.size∧g.vars.length≤x.2.2.1 ∧
   Blk w' b1 [.slice va g.vars.length vc,.slice pa g.procs.length pc,.int .u8 g.main.kind,.int .i64 g.main.num,str g.main.name,.slice ma g.main.kids.length mc]∧Blk w' b8 [.slice none 0 0,.slice none 0 0,.int .u8 0,.int .i64 0,str [],.slice none 0 0]∧g.sits (· < w.heap.size) w' va pa ma∧Ext w w') ?_ ?_
 · clear HP HQ HV;have hv:=hs.vars;have hmm:=hs.main
   focus
    refine Ax (fun wz=>Ext V wz) 9 (.pure 0 (.pure 1 (.pure 3 (.pure 4 (.pure 5 (.fork 2 (.fork 6 (.pure 7 (.fork 8 .tail .none)) (.fork 8 (.fork 6 (.pure 7 .tail) .none) .none)) (.fork 8 (.fork 2 (.fork 6 (.pure 7 .tail) .none) .none) .none))))))) mixed (by kernel_rfl) (Ac Ak) ?_;intro ax W _;have d:(fun wz=>Ext V wz) ax:=W;simp only at d;have ay:=i;have I:=h4;have a5:=hs;have a6:=hv;have az:=hmm;revert i h4 X hs hv hmm;refine eY W ?_;intro c5 i h4 X hs hv hmm;refine ⟨d,?_⟩;refine Tq rfl Pg (Tq rfl (Db I) (Tq rfl Pf (Tq rfl (Aw [_,_,_,_] Aa rfl rfl rfl (fun wz hz=>(Blk.ext I hz)) rfl rfl) (Tq rfl Mv ?_))));refine At rfl (Av (by kernel_rfl) rfl (HC.out _ _ _ _ ‹_›) (fun _ _ h=>h.ret)) rfl ?_ (fun _ h=>h) ?kra5;rintro _ a7 ⟨c6,⟨c7,⟨⟨⟩,⟨o,⟨a0,a8⟩⟩⟩⟩⟩;revert d i h4 X hs hv hmm;refine eY a0 ?_;intro a9 d i h4 X hs hv hmm;refine ⟨d,?_⟩;refine At rfl (Av (by kernel_rfl) rfl (HI.out _ _ _ _ ‹_›) (fun _ _ h=>h.ret)) rfl ?_ (fun _ h=>h) ?kra13;rintro _ ba ⟨bb,⟨bc,⟨⟨⟩,⟨v,Y⟩⟩⟩⟩;revert o d i h4 X hs hv hmm;refine eY Y ?_;intro bd o d i h4 X hs hv hmm;refine ⟨d,?_⟩;refine Tq rfl (AC [_,_,_,_,_,_] Aa Bj rfl rfl rfl rfl) ?_;refine At rfl (BG Bj rfl) rfl ?_ (fun _ h=>h) As
    rintro _ be ⟨bf,rfl,y⟩;have J:=y.blk;dsimp only at J;have Z:=y.ext;have bg:=y.pos;have bh:=y.size;revert v o d i h4 X hs hv hmm;refine eE Z ?_;intro v o d i h4 X hs hv hmm;refine ⟨d,?_⟩;refine Az rfl (eS [_,_,_,_,_,_] J ?_);intro bi bj aa bk;revert v o i h4 X hs hv hmm;refine eF aa ?_;intro v o i h4 X hs hv hmm;refine Aj ?_;rotate_left;refine At rfl (BG Bj rfl) rfl ?_ (fun _ h=>h) As;rintro _ bl ⟨bm,rfl,A⟩;have B:=A.blk;dsimp only at B;have ab:=A.ext;have bn:=A.pos;have bo:=A.size;revert o d i h4 X hs hv hmm;refine eE ab ?_;intro o d i h4 X hs hv hmm;refine ⟨d,?_⟩;refine At rfl (Av (by kernel_rfl) rfl (HI.out _ _ _ _ ‹_›) (fun _ _ h=>h.ret)) rfl ?_ (fun _ h=>h) As;rintro _ bp ⟨br,⟨bs,⟨⟨⟩,⟨K,ac⟩⟩⟩⟩;revert B o d i h4 X hs hv hmm;refine eY ac ?_;intro bt B o d i h4 X hs hv hmm;refine ⟨d,?_⟩;refine Tq rfl (AC [_,_,_,_,_,_] Aa Bj rfl rfl rfl rfl) ?_;refine Az rfl (eS [_,_,_,_,_,_] B ?_);intro bu bv ad bw;revert K o i h4 X hs hv hmm;refine eF ad ?_
    intro K o i h4 X hs hv hmm;refine Aj ?_;rotate_left;refine At rfl (BG Bj rfl) rfl ?_ (fun _ h=>h) As;rintro _ bx ⟨bz,rfl,C⟩;have s:=C.blk;dsimp only at s;have ae:=C.ext;have b0:=C.pos;have b2:=C.size;revert d i h4 X hs hv hmm;refine eE ae ?_;intro d i h4 X hs hv hmm;refine ⟨d,?_⟩;refine At rfl (Av (by kernel_rfl) rfl (HC.out _ _ _ _ ‹_›) (fun _ _ h=>h.ret)) rfl ?_ (fun _ h=>h) As;rintro _ b3 ⟨b4,⟨b5,⟨⟨⟩,⟨D,⟨af,b6⟩⟩⟩⟩⟩;revert s d i h4 X hs hv hmm;refine eY af ?_;intro b7 s d i h4 X hs hv hmm;refine ⟨d,?_⟩;refine At rfl (Av (by kernel_rfl) rfl (HI.out _ _ _ _ ‹_›) (fun _ _ h=>h.ret)) rfl ?_ (fun _ h=>h) As;rintro _ b9 ⟨cb,⟨cc,⟨⟨⟩,⟨L,ag⟩⟩⟩⟩;revert D s d i h4 X hs hv hmm;refine eY ag ?_;intro cd D s d i h4 X hs hv hmm;refine ⟨d,?_⟩;refine Tq rfl (AC [_,_,_,_,_,_] Aa Bj rfl rfl rfl rfl) ?_;refine Az rfl (eS [_,_,_,_,_,_] s ?_);intro ce cf ah cg;revert L D i h4 X hs hv hmm;refine eF ah ?_;intro L D i h4 X hs hv hmm;refine Aj ?_;rotate_left
   · exact CG (_,_,_,_,_) sB ⟨by assumption,VDs.wide ‹_› (fun b h=>⟨by omega,by omega,by omega⟩),Nd.sits.wide ‹_› (fun b h=>⟨by omega,by omega,by omega⟩),by omega,by omega,by assumption,by assumption,by assumption,by assumption,by assumption⟩
   · exact CG (_,_,_,_,_) sB ⟨by assumption,VDs.wide ‹_› (fun b h=>⟨by omega,by omega,by omega⟩),Nd.sits.wide ‹_› (fun b h=>⟨by omega,by omega,by omega⟩),by omega,by omega,by assumption,by assumption,by assumption,by assumption,by assumption⟩
   · exact CG (_,_,_,_,_) sB ⟨by assumption,VDs.wide ‹_› (fun b h=>⟨by omega,by omega,by omega⟩),Nd.sits.wide ‹_› (fun b h=>⟨by omega,by omega,by omega⟩),by omega,by omega,by assumption,by assumption,by assumption,by assumption,by assumption⟩
 · clear h4 i hs X;rintro ⟨bq,va',vc',ma',mc'⟩ w1 ⟨hbq,hv',hm',o1,o2,hvc,l,n,hs,X⟩;simp only at hbq hv' hm' o1 o2 hvc;have hp:=hs.procs;have hz:=Nat.le_refl w1.heap.size;clear hs HV HI HC
   focus
    refine Am (cS (C1 Pf (C1 (Pl l) (C1 Pz (C1 Mv (cT (AK ?_)))))));rotate_left
   refine Bn (ι:=Nat×List PD×Option Addr×Nat) (fun x=>[(1,.func (.func fid) #[] #[]),(3,.pointer (some ⟨b1,0,none⟩)),(6,.pointer (some ⟨b8,0,none⟩)),(8,.pointer (some ⟨bq,0,none⟩)),(24,.slice pa g.procs.length pc),(25,.int .i64 g.procs.length),(26,.int .i64 x.1)])
    (fun x w'=>OwnL GP w' w1.heap.size 59 (.slice x.2.2.1 x.2.1.length x.2.2.2) x.2.1∧x.2.1=(g.procs.take x.1).map (PD.map f)∧x.1≤g.procs.length∧Blk w' bq [.slice va' g.vars.length vc',.slice x.2.2.1 x.2.1.length x.2.2.2,.int .u8 (g.main.inv q).kind,.int .i64 (g.main.inv q).num,str (g.main.inv q).name,.slice ma' (g.main.inv q).kids.length mc']∧VDs (fun b=>b8<b∧b≠bq∧b<w1.heap.size) w' g.vars va'∧(g.main.inv q).sits (fun b=>b8<b∧b≠bq∧b<w1.heap.size) w' ma' ∧
     Blk w' b1 [.slice va g.vars.length vc,.slice pa g.procs.length pc,.int .u8 g.main.kind,.int .i64 g.main.num,str g.main.name,.slice ma g.main.kids.length mc]∧Blk w' b8 [.slice none 0 0,.slice none 0 0,.int .u8 0,.int .i64 0,str [],.slice none 0 0]∧PDs (· < w.heap.size) w' g.procs pa∧Ext w w'∧w1.heap.size≤w'.heap.size)
    (fun x=>g.procs.length-x.1) (0,[],none,0) sB ⟨OwnL.nil,by simp,Nat.zero_le _,hbq,hv',hm',l,n,hp,X,hz⟩ ?_
   clear hbq hv' hm' l n hp X hz;rintro ⟨j,xs,ra,rc⟩ w3 ⟨hown,hxs,hj,hbq,hv',hm',l,n,hp,X,hz⟩;simp only at hown hxs hj hbq
   have hob : ∀g',(Value.slice ra xs.length rc).ownBlock=some g'→w1.heap.size≤g'∧g'<w3.heap.size:=fun g' h=>⟨hown.ge h,hown.lt h⟩
   have hxl:xs.length≤1000000:=by rw [hxs,List.length_map,List.length_take];omega
   refine CW.sub (m:=[(1,.func (.func fid) #[] #[]),(3,.pointer (some ⟨b1,0,none⟩)),(6,.pointer (some ⟨b8,0,none⟩)),(8,.pointer (some ⟨bq,0,none⟩)),(24,.slice pa g.procs.length pc),(25,.int .i64 g.procs.length),(26,.int .i64 (j:Int))]) ?_ sB
   by_cases hlt:j<g.procs.length
   · obtain ⟨kb,ko,rfl,kS,hk⟩:=Arr.get hp (by omega);obtain ⟨xa,xc,ya,yc,rx,vx,sx⟩:=hk j _ (List.getElem?_eq_getElem hlt);have HX:=Lib.hid (HP.out _ (List.getElem_mem hlt));have hxz:=HQ.out _ (List.getElem_mem hlt);have HC:=Lib.hid (L2 g.procs[j].params (by omega))
     have hnext:xs++[(g.procs[j]).map f]=(g.procs.take (j+1)).map (PD.map f):=by rw [hxs,Pm f _ j hlt]
     clear hk HP HQ hxs
     generalize g.procs[j]=x at *
     focus
      refine eK ?_;refine C1 (Gb rx) (AB [_,_,_,_,_,_] Bj rfl rfl ?_);intro c8 c9 a1;refine eI [_,_,_,_,_,_] a1 ?_;intro ai r a2 da db;revert hown hbq hv' hm' n X l hp rx vx sx;refine eE a2 ?_;intro hown hbq hv' hm' n X l hp rx vx sx;refine cT (Ax (fun wz=>Ext ai wz) 13 (.pure 0 (.pure 1 (.pure 2 (.pure 3 (.pure 4 (.pure 5 (.pure 7 (.pure 8 (.pure 9 (.fork 6 (.fork 10 (.pure 11 (.fork 12 .tail .none)) .none) .none)))))))))) mixed (by kernel_rfl) (Ao (Ac (Ac (Ao (Ac Ak))))) ?_);intro a3 M _;have k:(fun wz=>Ext ai wz) a3:=M;simp only at k;have t:=r;have H:=hown;have F:=hbq;have Q:=hv';have R:=hm';have T:=n;have U:=l;have aj:=hp;have ak:=rx;have al:=vx;have am:=sx;revert r hown hbq hv' hm' n X l hp rx vx sx;refine eY M ?_;intro ch r hown hbq hv' hm' n X l hp rx vx sx;refine ⟨k,?_⟩;refine Tq rfl Pf (Tq rfl (Db F) (Tq rfl Pg (Tq rfl (Db t) (Tq rfl Pf (Tq rfl (Db t) (Tq rfl Mv (Tq rfl Pf (Tq rfl (Aw [_,_,_,_] Aa rfl rfl rfl (fun wz hz=>(Blk.ext t hz)) rfl rfl) ?_))))))));refine At rfl (Av (by kernel_rfl) rfl (HC.out _ _ _ _ ‹_›) (fun _ _ h=>h.ret)) rfl ?_ (fun _ h=>h) As;rintro _ ci ⟨cj,⟨ck,⟨⟨⟩,⟨u,⟨an,cl⟩⟩⟩⟩⟩
      revert k r hown hbq hv' hm' n X l hp rx vx sx;refine eY an ?_;intro cm k r hown hbq hv' hm' n X l hp rx vx sx;refine ⟨k,?_⟩;refine At rfl (BQ (fi:=[]) (ca:=[]) hbd rfl rfl (HX.out _ _ _ _ ‹_›) (fun _ _ h=>h.ret)) rfl ?_ (fun _ h=>h) As;rintro _ cn ⟨co,⟨cp,⟨⟨⟩,⟨G,ao⟩⟩⟩⟩;revert u k r hown hbq hv' hm' n X l hp rx vx sx;refine eY ao ?_;intro cq u k r hown hbq hv' hm' n X l hp rx vx sx;refine ⟨k,?_⟩;refine Tq rfl (AC [_,_,_,_,_,_] Aa Bj rfl rfl rfl rfl) ?_;refine At rfl (AM [_,_,_,_,_,_] Aa Bj rfl rfl rfl rfl rfl rfl rfl rfl rfl) rfl ?_ (fun _ h=>h) As;rintro _ cr ⟨cs,rfl,E,ct⟩;have ap:=E.blk;have aq:=E.ext;have cu:=E.pos;have cv:=E.size;revert G u k r hown hbq hv' hm' n X l hp rx vx sx;refine eE aq ?_;intro G u k r hown hbq hv' hm' n X l hp rx vx sx;refine ⟨k,?_⟩;clear t H F Q R T U aj ak al am k;refine Az rfl ?_;refine AQ (Iu (sh:=GP) (z:=x.map f) Aa Bj rfl rfl rfl rfl (by kernel_rfl) rfl rfl rfl ‹_› (Blk.row ‹_›) ⟨_,_,_,_,rfl,VDs.wide ‹_› (fun b h=>⟨by omega,fun e=>by have:=hob _ e;omega⟩),Nd.sits.wide ‹_› (fun b h=>⟨by omega,fun e=>by have:=hob _ e;omega⟩),by assumption⟩ (by omega) (by omega)) rfl ?_ (fun _ h=>h)
      rintro _ cw ⟨cx,⟨au,⟨rfl,⟨N,O⟩⟩⟩⟩;have cy:=O.size;clear ap G u r hown;revert hbq hv' hm' n X l hp rx vx sx;refine eF O ?_;intro hbq hv' hm' n X l hp rx vx sx;refine C1 Pf (eV [_] [_,_,_,_,_,_] hbq ?_);intro cz c0 ar c1;clear hbq;revert N hv' hm' n X l hp rx vx sx;refine eF ar ?_;intro N hv' hm' n X l hp rx vx sx;refine Aj (An (Ai (Ah (C1 V7 (C1 Mv (Aj ?_))))));rotate_left
     exact AW (j+1,xs++[x.map f],some ⟨_,0,none⟩,_) sB ⟨by assumption,hnext,by simp only;omega,by assumption,hv',hm',l,n,hp,X,by omega⟩ (by simp only;omega)
   · have hje:j=g.procs.length:=by omega
     subst hje;rw [List.take_length] at hxs
     focus
      refine eK ?_;refine Ae [_,_,_,_,_,_] Aa rfl rfl rfl hbq rfl rfl rfl (eS [_,_,_,_,_,_] n ?_);intro dc dd a4 de;revert hown hbq hv' hm' l hp X;refine eF a4 ?_;intro hown hbq hv' hm' l hp X;refine C1 Pa (cT (B6 ?_));rotate_left
     refine FZ rfl Aa rfl rfl rfl ‹_› rfl rfl ?_
     exact S9 hxs hv' hvc hown hm' X (fun b h=>by omega) (fun b h=>by omega) (by omega)
theorem ML {g:PG} (h:g.ok=true):g.few:=by
 obtain ⟨h1,h2,-,h4,h5⟩:=DG h;obtain ⟨-,-,b3⟩:=body_iff.1 h5;refine ⟨by omega,by omega,by omega,fun p hp=>?_⟩;obtain ⟨-,c1,-,c4⟩:=D9 (h4 p hp);obtain ⟨-,-,c3⟩:=body_iff.1 c4
 exact ⟨by omega,by omega⟩
theorem UJ (t:Nd) (hz:t.size≤1000000) (hb:t.isBlock=true) (S:Nat→Prop) (a:Option Addr) (c:Nat) (w:World) (hs:t.sits S w a):Calls prog 38 #[t.val a c] w (CopyR (t.inv true) w):=by
 have X:=Ext.refl w;replace hs:=BP _ _ hs;have HI:=Lib.hid (IB true t hz (Or.inr hb));clear hb;refine Ad func38 ntmps38 rfl rfl ?_
 focus
  refine cS (eB [_,_,_,_] ?_);intro b1 w2 h4 x5 p6 z7;revert X hs;refine eE x5 ?_;intro X hs;refine eA [_,_,_,_] ?_;intro b8 w9 d f k l;revert h4 X hs;refine eE f ?_;intro h4 X hs;refine cN (Ae [_,_,_,_] Aa rfl rfl rfl h4 rfl rfl rfl (eQ rfl (HI.out _ _ _ _ ‹_›) ?_));rintro _ m ⟨n,⟨o,⟨⟨⟩,⟨e,g⟩⟩⟩⟩;revert d h4 X hs;refine eY g ?_;intro p d h4 X hs;refine eS [_,_,_,_] d ?_;intro q i j r;revert e h4 X hs;refine eF j ?_;intro e h4 X hs;refine eK ?_;refine AZ rfl Aa rfl rfl rfl i rfl ?_;rotate_left
 exact ⟨_,_,rfl,Nd.sits.wide ‹_› (fun b h=>by omega),X⟩
theorem VI {g:PG} (hwf:g.wf) (hok:g.ok=true) (S:Nat→Prop) (va:Option Addr) (vc:Nat) (pa:Option Addr) (pc:Nat) (ma:Option Addr) (mc:Nat) (w:World) (hs:g.sits S w va pa ma) :
 Calls prog 35 #[.agg (g.cells va vc pa pc ma mc).toArray,.func (.func 38) #[] #[],.bool true] w (KZ (g.inv (·.inv true) true) 0 w):=
 Po true 38 (·.inv true) (by kernel_rfl) g hwf hok (ML hok) (IG hok) (fun p hp S a c w hs=>UJ p.body ((ML hok).procs p hp).2 (II hok p hp) S a c w hs) S va vc pa pc ma mc w hs
theorem RB {u:PG} {k:Int} {w w':World} {va pa ma:Option Addr} {vc pc mc lo hi:Nat} (hs:u.sits (fun b=>lo≤b∧b<hi) w' va pa ma) (hp:PDsC (fun b=>lo≤b∧b<hi) w' u.procs pa) (hc:u.vars.length≤vc) (X:Ext w w') (hl:w.heap.size≤lo) (hh:hi≤w'.heap.size):KZ u k w (.returned (.tuple #[.agg #[.slice va u.vars.length vc,.slice pa u.procs.length pc,.int .u8 u.main.kind,.int .i64 u.main.num,str u.main.name,.slice ma u.main.kids.length mc],.int .i64 k])) w':=
 ⟨va,vc,pa,pc,ma,mc,rfl,⟨hs.vars.wide fun b h=>by omega,PDs.wide hs.procs fun b h=>by omega,Nd.sits.wide hs.main fun b h=>by omega⟩,PDsC.wide hp fun b h=>by omega,hc,X⟩
theorem Ta {k:Int} (u g:PG) (HI : ∀(S:Nat→Prop) (va:Option Addr) (vc:Nat) (pa:Option Addr) (pc:Nat) (ma:Option Addr) (mc:Nat) (w:World),g.sits S w va pa ma →
      Calls prog 35 #[.agg (g.cells va vc pa pc ma mc).toArray,.func (.func 38) #[] #[],.bool true] w (KZ u k w))
 (S:Nat→Prop) (va:Option Addr) (vc:Nat) (pa:Option Addr) (pc:Nat) (ma:Option Addr) (mc:Nat) (w:World) (hs:g.sits S w va pa ma) :
 Calls prog 15 #[.agg (g.cells va vc pa pc ma mc).toArray] w (KZ u k w):=by
 have X:=Ext.refl w;replace hs:=hs.ltA;replace HI:=Lib.hid HI;refine Ad func15 ntmps15 rfl rfl ?_
 focus
  refine cS (eB [_,_,_,_,_,_] ?_);intro b1 w2 h4 x5 p6 z7;revert X hs;refine eE x5 ?_;intro X hs;refine eA [_,_,_,_,_,_] ?_;intro b8 w9 a d p q;revert h4 X hs;refine eE d ?_;intro h4 X hs;refine eK ?_;refine Ae [_,_,_,_,_,_] Aa rfl rfl rfl h4 rfl rfl rfl (C1 Mv ?_);refine AQ (Av (by kernel_rfl) rfl (HI.out _ _ _ _ _ _ _ _ ‹_›) (fun _ _ ⟨_,_,_,_,_,_,h⟩=>⟨_,h.1⟩)) rfl ?_ (fun _ h=>h);rintro _ r ⟨i,⟨j,⟨l,⟨m,⟨n,⟨o,⟨⟨⟩,⟨b,⟨c,⟨s,e⟩⟩⟩⟩⟩⟩⟩⟩⟩⟩;revert a h4 X hs;refine eY e ?_;intro t a h4 X hs;refine eK ?_;refine eS [_,_,_,_,_,_] a ?_;intro v x f y;revert b c h4 X hs;refine eF f ?_;intro b c h4 X hs;refine C1 Pa (cT (B6 ?_));rotate_left
 refine FZ rfl Aa rfl rfl rfl ‹_› rfl rfl ?_
 exact RB ‹_› ‹_› ‹_› X (by omega) (by omega)
theorem Tb {g:PG} (hwf:g.wf) (hok:g.ok=true) (S:Nat→Prop) (va:Option Addr) (vc:Nat) (pa:Option Addr) (pc:Nat) (ma:Option Addr) (mc:Nat) (w:World) (hs:g.sits S w va pa ma) :
 Calls prog 15 #[.agg (g.cells va vc pa pc ma mc).toArray] w (KZ (g.inv (·.inv true) true) 0 w):=Ta _ g (VI hwf hok) S va vc pa pc ma mc w hs
def NZ {α:Type} (X:Except Int α):Prop:=X≠.error 0
theorem NZ.bind {α β:Type} {X:Except Int α} {K:α→Except Int β} (h:NZ X) (hk : ∀v,NZ (K v)):NZ (X.bind K):=by
 cases X with
 | error e=>exact fun h2=>h (by simpa [Except.bind] using h2)
 | ok v=>exact hk v
theorem Tc {α:Type} (v:α):NZ (Except.ok v:Except Int α):=by unfold NZ;simp
theorem FG (r:Rn):NZ (Bu r):=by unfold NZ Bu;split<;>simp
theorem K0 (f:Stp→Int×Stp) (r:Rn):NZ (C9 f r):=by
 unfold NZ C9
 split
 · rename_i h
   intro e
   exact h (by simpa using e)
 · simp
theorem K1 (t:Nd) (r:Rn):NZ (Cc t r):=by
 unfold NZ Cc
 split
 · rename_i h
   intro e
   exact h (by simpa using e)
 · simp
theorem K2 (t:Nd) (r:Rn):NZ (B8 t r):=(FG r).bind fun r=>(K1 t r).bind fun _=>Tc _
theorem Je (t:Nd) (b:Bool) (r:Rn):NZ (BK t b r):=(K2 t r).bind fun p=>by unfold NZ;split<;>simp
theorem Td {f:Nd→Rn→Except Int Rn} (h : ∀t r,NZ (f t r)) : ∀(l:List Nd) (r:Rn),NZ (FU f l r)
 | [],r=>Tc r
 | t::l,r=>(h t r).bind fun r=>Td h l r
theorem Og {f:Bool→Nd→Rn→Except Int Rn} (h : ∀b t r,NZ (f b t r)) (b:Bool) (t:Nd) (r:Rn):NZ (AT f b t r):=Td (fun t r=>h b t r) _ r
theorem Qc {b1 b2:Rn→Except Int Rn} {x y:Nd} (h1 : ∀r,NZ (b1 r)) (h2 : ∀r,NZ (b2 r)) : ∀(m:Nat) (r:Rn),NZ (C3 b1 b2 x y m r)
 | 0,r=>by unfold NZ C3;simp
 | m+1,r=>by
  unfold C3
  refine (h1 r).bind fun r=>(K2 x r).bind fun p=>?_
  split
  · exact Tc _
  · exact (h2 _).bind fun r=>(Je y false r).bind fun r=>Qc h1 h2 m r
theorem Qd (ps:List PD) : ∀(d:Nat) (b:Bool) (t:Nd) (r:Rn),NZ (AF ps d b t r)
 | 0,b,t,r=>by unfold NZ AF;simp
 | d+1,b,.mk k n s l,r=>by
  have HB:=Og (Qd ps d)
  unfold AF
  simp only
  split
  · exact (K2 _ r).bind fun p=>(HB b _ _).bind fun r=>Je _ _ r
  split
  · exact (Je _ _ r).bind fun r=>Qc (HB b _) (HB b _) d r
  split
  · exact (FG r).bind fun r=>(K1 _ r).bind fun v=>(K0 _ r).bind fun r=>(HB b _ r).bind fun r=>(FG r).bind fun r=>(K1 _ r).bind fun v=>K0 _ r
  split
  · exact (FG r).bind fun r=>(K0 _ r).bind fun r=>(HB b _ r).bind fun r=>(FG r).bind fun r=>K0 _ r
  split
  · exact (FG r).bind fun r=>(K0 _ r).bind fun r=>(HB _ _ r).bind fun r=>(FG r).bind fun r=>K0 _ r
  · exact (FG r).bind fun r=>K0 _ r
theorem IR (ps:List PD) (b:Bool) (t:Nd) (r:Rn) : ∃d,AT (AF ps d) b t r≠.error (-1):=
 Jw (F:=fun d=>AF ps d) (fun d d' b t h=>Jb ps b t h) (fun d b t=>GN ps d b t) r.rem b t (fun x _ r hr=>OZ ps r.rem b x r (Nat.le_refl _)) r (Nat.le_refl _)
theorem JP {ps:List PD} : ∀ {l:List Nd},(∀t∈l,Vz ps t)→SO ps l
 | [],_=>trivial
 | t::r,h=>⟨h t (by simp),JP fun x hx=>h x (by simp [hx])⟩
theorem IS {ps:List PD} {v:List VD} : ∀ {l:List Nd},F8 ps v l=0 → ∀t∈l,t.flt ps v=0
 | [],_,_,h=>by simp at h
 | x::r,h0,t,h=>by
  simp only [F8,Nat.add_eq_zero_iff] at h0
  rcases List.mem_cons.1 h with rfl|h
  · exact h0.1
  · exact IS h0.2 t h
theorem Te (ps:List PD) (N:Nat) : ∀t:Nd,t.size<N→t.isExpr=true→Vz ps t:=by
 induction N with
 | zero=>intro t h;omega
 | succ N ih=>
  rintro ⟨k,n,s,l⟩ hN h;have hk:=I3 h;simp only [Nd.kind] at hk;simp only [Nd.size] at hN
  exact ⟨fun e=>by omega,JP fun x hx=>ih x (by have:=D2 hx;omega) ((RA h).2.1 x hx)⟩
theorem En (ps:List PD) {t:Nd} (h:t.isExpr=true):Vz ps t:=Te ps (t.size+1) t (by omega) h
theorem Tf {e:Int} (h:Mg e=0):e=0:=by unfold Mg at h;split at h<;>first|assumption|cases h
theorem UK (ps:List PD) (N:Nat) : ∀(t:Nd) (v:List VD),t.size<N→(t.isStmt=true∨t.isBlock=true)→t.flt ps v=0→Vz ps t:=by
 induction N with
 | zero=>intro t v h;omega
 | succ N ih=>
  intro t v hN h h0
  rcases h with h|h
  · cases Dc h with
    | upd hk hx hy=>
     exact ⟨fun e=>by omega,En ps (Bl hx),En ps hy,trivial⟩
    | swap hx hy=>exact ⟨fun e=>by omega,En ps (Bl hx),En ps (Bl hy),trivial⟩
    | stack hk hn hx=>exact ⟨fun e=>by omega,En ps (Bl hx),trivial⟩
    | tape hk hx=>exact ⟨fun e=>by omega,En ps (Bl hx),trivial⟩
    | call hk hn hl hv=>
     rename_i k s l
     refine ⟨fun _=>?_,JP fun x hx=>En ps (Hr (List.all_eq_true.1 hv x hx))⟩;rw [Nd.flt,if_pos hk,Nat.add_eq_zero_iff] at h0;have h1:=Tf h0.1
     unfold B7 Jj at h1
     rw [if_neg (by omega),if_neg (by omega),if_neg (by omega),if_neg (by omega),if_pos hk] at h1
     cases hp:B9 ps s with
     | some i=>rfl
     | none=>rw [hp] at h1;simp at h1
    | branch hk hx hy hz hu=>
     rename_i k x y z u
     rw [CI (by omega) (by omega) (by omega) (by omega)] at h0;simp only [Nd.size,Au] at hN;have h1:=(Nat.add_eq_zero_iff.1 h0).2
     exact ⟨fun e=>by omega,En ps hx,ih y v (by omega) (Or.inr hy) (IS h1 y (by simp)),ih z v (by omega) (Or.inr hz) (IS h1 z (by simp)),En ps hu,trivial⟩
    | local_ hn hx hy hz=>
     rename_i s x y z
     rw [Nd.flt,if_neg (by omega)] at h0;simp only [Nd.size,Au] at hN;simp only [Ck,Nat.add_eq_zero_iff] at h0
     exact ⟨fun e=>by omega,En ps hx,ih y _ (by omega) (Or.inr hy) h0.2.2.1,En ps hz,trivial⟩
    | lstack hn hx=>
     rename_i s x
     rw [Nd.flt,if_neg (by omega)] at h0;simp only [Nd.size,Au] at hN;simp only [Ck,Nat.add_eq_zero_iff] at h0
     exact ⟨fun e=>by omega,ih x _ (by omega) (Or.inr hx) h0.2.1,trivial⟩
  · obtain ⟨k,n,s,l⟩:=t
    obtain ⟨e,hr⟩:=Ev h;simp only [Nd.kids] at hr;obtain ⟨rfl,-⟩:=Nd.mk.inj e;rw [CI (by omega) (by omega) (by omega) (by omega)] at h0;have h1:=(Nat.add_eq_zero_iff.1 h0).2;simp only [Nd.size] at hN
    exact ⟨fun e=>by omega,JP fun x hx=>ih x v (by have:=D2 hx;omega) (Or.inl (rowStmt_iff.1 hr x hx)) (IS h1 x hx)⟩
theorem K3 {ps:List PD} : ∀ {l:List PD} {i:Nat},CZ ps i l=0 → ∀p∈l,p.body.flt ps p.params=0
 | [],_,_,_,h=>by simp at h
 | x::r,i,h0,p,h=>by
  simp only [CZ,Nat.add_eq_zero_iff] at h0
  rcases List.mem_cons.1 h with rfl|h
  · exact h0.1.2
  · exact K3 h0.2 p h
theorem L4 {ps:List PD} {t:Nd} {v:List VD} (hw:t.wf) (hb:DF t=true) (h0:t.flt ps v=0):StOk ps t:=by
 obtain ⟨h1,h2,h3⟩:=body_iff.1 hb
 exact ⟨hw,by omega,UK ps (t.size+1) t v (by omega) (Or.inr h1) h0⟩
theorem RD {g:PG} (hwf:g.wf) (hok:g.ok=true) (h0:g.flt=0):StOk g.procs g.main:=by
 unfold PG.flt at h0
 exact L4 hwf.main (DG hok).2.2.2.2 (Nat.add_eq_zero_iff.1 h0).2
theorem Tg {g:PG} (hwf:g.wf) (hok:g.ok=true) (h0:g.flt=0):ProcsOk g:=by
 unfold PG.flt at h0
 have h1:=(Nat.add_eq_zero_iff.1 (Nat.add_eq_zero_iff.1 h0).1).2;obtain ⟨-,h2,-,h4,-⟩:=DG hok;refine ⟨by omega,fun p hp=>?_⟩;obtain ⟨-,p2,-,p4⟩:=D9 (h4 p hp)
 exact ⟨(body_iff.1 p4).1,L4 (hwf.procs p hp).body p4 (K3 h1 p hp),by omega⟩
theorem UL {vs:List VD} {s:SV} (h:FitsP vs s):(Dv vs s vs.length).WF (vs.map fun v=>(v.kind,v.len)) 1000:=by
 have he:=h.each;obtain ⟨⟨h1,h2⟩,h3,h4,h5,h6⟩:=h;have e1:s.cells.take vs.length=s.cells:=List.take_of_length_le (by omega);have e2:vs.take vs.length=vs:=List.take_length
 unfold Dv
 rw [e1,e2]
 have hb:FrmWF (vs.map fun v=>(v.kind,v.len)) ⟨vs,List.range vs.length,0⟩:=⟨by simp,Nat.zero_le _,fun i v c hv hc=>by
  have hi:=(List.getElem?_eq_some_iff.1 hv).1;rw [List.getElem?_range (by simpa using hi)] at hc;obtain rfl:=Option.some.inj hc
  simp [hv]⟩
 refine ⟨by simp [h3],hb,fun f hf=>by simp at hf,fun c x hx=>?_,Nat.zero_le _,fun f hf=>?_⟩
 · rw [List.getElem?_map] at hx
   cases hv:vs[c]? with
   | none=>rw [hv] at hx;cases hx
   | some v=>
    rw [hv] at hx;obtain rfl:=Option.some.inj hx;have hi:=(List.getElem?_eq_some_iff.1 hv).1;have h7:=h6 c v _ hv (List.getElem?_eq_getElem (show c<s.cells.length by omega));have h8:=h2 v (List.mem_of_getElem? hv)
    have h9:(Stp.items ⟨s.cells,⟨vs,List.range vs.length,0⟩,[],s.tin,s.tout⟩ c)=s.cells[c]:=by
     unfold Stp.items
     simp [List.getD_eq_getElem?_getD,List.getElem?_eq_getElem (show c<s.cells.length by omega)]
    rw [h9]
    unfold N8 KW at h7
    unfold N7 at h8
    unfold cellOk
    simp only
    split at h7
    · omega
    · split at h7<;>omega
 · simp only [List.mem_singleton] at hf
   rw [hf];simp only
   omega
def MM (s:SV) (f:Nat):Except Int Rn→ResV
 | .error e=>⟨s,0,e⟩
 | .ok r=>⟨r.st.sv,(f:Int)-r.rem,0⟩
theorem Oh {P:Program} {n:Nat} {l:Sl} {tab:Tab} {sz:Nat} {w:World} {fn:Func} {R:Ending→World→Prop} {ct cty b s:Nat} {sk:Sk} {vs:List Value} {v1:Value} (h:fn.results = #[.tmp s,.cell ct cty]) (T:TabOk P tab) (ht:AL tab cty=some (sk,sz)) (hs:sk.agg=true)
 (hv:look l ct=some (.pointer (some ⟨b,0,none⟩))) (h1:look l s=some v1) (hb:Blk w b vs) (hl:vs.length=sz) (hR:R (.returned (.tuple #[v1,.agg vs.toArray])) w):QW n (bodyPost P fn R) .ret l w:=by
 unfold QW
 intro a ha;refine ⟨ha.defers,.tuple #[v1,.agg vs.toArray],?_,hR⟩
 have e:(loadVar cty ⟨b,0,none⟩).run P w = .ok (.agg vs.toArray) w:=by
  simp only [Sem.run_bind,Sem.run_pure,Result.andThen,loadVar,Dl (T _ _ _ ht),hs,if_true,Ci (T _ _ _ ht)];rw [←hl,CC hb.row]
 have c:=ha.has ct _ hv;have d:=ha.has s _ h1;simp only [Array.getD_eq_getD_getElem?] at c d
 simp [results,h,c,d,e,asAddr]
section
variable {c:RC} {P P':Nat→Prop} {w w':World} {r:Rn} {T:Nat→Prop}
theorem Th (hc:c.fuel≤10000) (hg:ProcsOk c.g) (hok:StOk c.g.procs c.g.main) (hmb:c.g.main.isBlock=true) (d:Nat) (b:Bool) (hne:AT (AF c.g.procs d) b c.g.main r≠.error (-1)) (b12 b4 b7 vc pc mc:Nat) (va pa ma:Option Addr) (w:World) (h:Run c P w r)
 (h12:Blk w b12 [.pointer (some ⟨c.rb,0,none⟩)]) (h4:Blk w b4 (c.g.cells va vc pa pc ma mc)) (h7:Blk w b7 [.bool b]) (hm:c.g.main.sits P w ma) :
 Calls prog 65 #[.pointer (some ⟨b12,0,none⟩),.pointer (some ⟨b4,0,none⟩),.pointer (some ⟨b7,0,none⟩)] w (DH c P (AT (AF c.g.procs d) b c.g.main r) w):=by
 have HB:=Lib.hid (SU hc hg d P b c.g.main r ma mc w hmb hok hne hm h)
 generalize AT (AF c.g.procs d) b c.g.main r=Z at *
 unfold DH at HB
 clear h hm hok hmb;have F:=Fr.refl (fun k=> ¬P k) w
 unfold PG.cells at h4
 generalize c.g.main=t at *
 obtain ⟨k,n,s,l⟩:=t;replace h4:Blk w b4 [.slice va c.g.vars.length vc,.slice pa c.g.procs.length pc,.int .u8 k,.int .i64 n,str s,.slice ma l.length mc]:=h4;refine Ad func65 ntmps65 rfl rfl ?_
 focus
  refine eK ?_;refine Ae [_,_,_,_] Aa rfl rfl rfl h4 rfl rfl rfl (C1 (Pl h7) ?_);refine A9 (AP (by kernel_rfl) rfl (HB.out) (fun _ _ h=>h.ret)) rfl ?_ ?_;rotate_left;intro c7 w8 q9
  rotate_right 1
  rintro _ e ⟨f,⟨⟨⟩,⟨rfl,⟨i,a⟩⟩⟩⟩;have j:=a.size;replace F:=Fr.fr F a (fun k hk=>Or.inl hk);refine Aj (Bt rfl ?_);rotate_left;refine AE ?_;rotate_left
 · exact Or.inl ⟨_,rfl,rfl,by assumption,F⟩
 · exact Or.inr ⟨_,rfl,by assumption⟩
end
def PathAt (S:Nat→Prop) (w:World) (a:Option Addr) (n c:Nat):Prop:=(n≤c∧(a=none→c=0)) ∧ ∃cs:List Value,cs.length=n*1∧cs.all Value.one=true∧Rows S w cs a
theorem PathAt.nil {S:Nat→Prop} {w:World}:PathAt S w none 0 0:=⟨⟨Nat.le_refl _,fun _=>rfl⟩,[],rfl,rfl,Or.inl rfl⟩
theorem PathAt.ext {S:Nat→Prop} {w w':World} {a:Option Addr} {n c:Nat} (h:PathAt S w a n c) (x:Ext w w'):PathAt S w' a n c:=⟨h.1,by obtain ⟨cs,h1,h2,h3⟩:=h.2;exact ⟨cs,h1,h2,h3.ext x⟩⟩
instance {S:Nat→Prop} {w w':World} {a:Option Addr} {n c:Nat}:LfE w w' (PathAt S w a n c) (PathAt S w' a n c):=⟨fun x h=>Bk.PathAt.ext h x⟩
theorem PathAt.fr {S T:Nat→Prop} {w w':World} {a:Option Addr} {n c:Nat} (h:PathAt S w a n c) (x:Fr T w w') (hs : ∀b,S b → ¬T b):PathAt S w' a n c:=⟨h.1,by obtain ⟨cs,h1,h2,h3⟩:=h.2;exact ⟨cs,h1,h2,h3.fr x hs⟩⟩
instance {S T:Nat→Prop} {w w':World} {a:Option Addr} {n c:Nat}:LfF T w w' (PathAt S w a n c) (∀b,S b → ¬T b) (PathAt S w' a n c):=⟨fun x s h=>Bk.PathAt.fr h x s⟩
theorem PathAt.wide {S S':Nat→Prop} {w:World} {a:Option Addr} {n c:Nat} (h:PathAt S w a n c) (hS : ∀b,S b→S' b):PathAt S' w a n c:=⟨h.1,by obtain ⟨cs,h1,h2,h3⟩:=h.2;exact ⟨cs,h1,h2,h3.wide hS⟩⟩
theorem PathAt.clone {S:Nat→Prop} {w:World} {a:Option Addr} {n c:Nat} (h:PathAt S w a n c) (hn:n≤1000000):Calls prog 27 #[.slice a n c] w (SliceR n w):=by
 obtain ⟨⟨h1,h0⟩,cs,h2,h3,h4⟩:=h
 cases a with
 | some p=>exact Oa cs n h2 h3 (by omega) S p c w h4
 | none=>
  have hc:=h0 rfl;subst hc
  obtain rfl:n=0:=by omega
  exact Ob w
def ChildR (n:Nat) (w:World):Ending→World→Prop:=fun e w'=> ∃g c,e = .returned (.slice (some ⟨g,0,none⟩) (n+1) c)∧PathAt (fun b=>w.heap.size≤b∧b<w'.heap.size) w' (some ⟨g,0,none⟩) (n+1) c∧Ext w w'
theorem ChildR.ret {n:Nat} {w:World} {e:Ending} {w':World} (h:ChildR n w e w') : ∃v,e = .returned v:=by
 obtain ⟨_,_,h,-⟩:=h
 exact ⟨_,h⟩
theorem Qe (i:Int) (S:Nat→Prop) (a:Option Addr) (n c:Nat) (w:World) (hn:n≤1000000) (hp:PathAt S w a n c):Calls prog 58 #[.slice a n c,.int .i64 i] w (ChildR n w):=by
 have X:=Ext.refl w;obtain ⟨⟨hc,-⟩,cs,h1,h2,h3⟩:=hp;replace h3:=h3.ltA;refine Ad func58 ntmps58 rfl rfl ?_
 focus
  refine eK ?_;refine cC rfl (UA _ _ _ _ hc hn) ?_;rintro _ w1 ⟨⟨⟩,rfl⟩;refine C1 Mv ?_;refine AQ (AM [_] Aa Bj rfl rfl rfl rfl rfl rfl rfl rfl rfl) rfl ?_ (fun _ h=>h);rintro _ w3 ⟨b2,rfl,n4,t5⟩;have h6:=n4.blk;have x7:=n4.ext;have p8:=n4.pos;have z9:=n4.size;revert X h3;refine eE x7 ?_;intro X h3;refine AQ (C5 Aa Bj rfl rfl rfl rfl (by kernel_rfl) rfl rfl rfl ‹_› h1 (Blk.row ‹_›) rfl rfl (by omega)) rfl ?_ (fun _ h=>h);rintro _ g ⟨j,⟨b,⟨rfl,⟨d,⟨k,⟨l,⟨m,f⟩⟩⟩⟩⟩⟩⟩;revert h6 X h3;refine eY f ?_;intro o h6 X h3;refine eK ?_;refine Af rfl rfl ?_;rotate_left
 exact ⟨_,_,rfl,⟨⟨d,fun e=>by cases e⟩,cs++[.int .i64 i],by simp [h1],by rw [List.all_append,h2];rfl,Or.inr ⟨_,_,rfl,⟨by omega,by omega⟩,by assumption⟩⟩,X⟩
def InnerR (S:Nat→Prop) (L:List VD) (w:World):Ending→World→Prop:=fun e w'=> ∃a c,e = .returned (.slice a L.length c)∧L.length≤c∧VDs (fun b=>S b∨(w.heap.size≤b∧b<w'.heap.size)) w' L a∧Ext w w'
theorem InnerR.ret {S:Nat→Prop} {L:List VD} {w:World} {e:Ending} {w':World} (h:InnerR S L w e w') : ∃v,e = .returned v:=by
 obtain ⟨_,_,h,-⟩:=h
 exact ⟨_,h⟩
theorem K4 {S:Nat→Prop} {l:List VD} {v:VD} {g c:Nat} {w w':World} (hc:l.length+1≤c) (hr:Row w' ⟨g,0,none⟩ (l.flatMap VD.cells++v.cells)) (h1:w.heap.size≤g) (h2:g<w'.heap.size) (X:Ext w w'):InnerR S (l++[v]) w (.returned (.slice (some ⟨g,0,none⟩) (l.length+1) c)) w':=by
 refine ⟨some ⟨g,0,none⟩,c,by simp,by simpa using hc,KY (Or.inr ⟨g,0,rfl,Or.inr ⟨h1,h2⟩,?_⟩),X⟩;rw [List.flatMap_append]
 simpa using hr
theorem UM (k n:Int) (s:List UInt8) (kl:List Nd) (ka:Option Addr) (kc i:Nat) (l:List VD) (hl:l.length≤1000000) (S:Nat→Prop) (a:Option Addr) (c:Nat) (w:World) (hc:l.length≤c) (hs:VDs S w l a) :
 Calls prog 60 #[(Nd.mk k n s kl).val ka kc,.int .i64 i,.slice a l.length c] w (InnerR S (Cn k s i l) w):=by
 have X:=Ext.refl w;have h1:=GF MK l;replace hs:=N9 hs;have h0:=hs.ltA
 show Calls prog 60 #[.agg #[.int .u8 k,.int .i64 n,str s,.slice ka kl.length kc],.int .i64 i,.slice a l.length c] w (InnerR S (Cn k s i l) w)
 by_cases j:k=54∧i=1
 · have hv:Cn k s i l=l++[⟨s,1,0⟩]:=by unfold Cn;rw [if_pos j]
   rw [hv];obtain ⟨rfl,rfl⟩:=j;refine Ad func60 ntmps60 rfl rfl ?_
   focus
    refine cS (eB [_,_,_,_] ?_);intro b1 w2 h4 x5 p6 z7;revert X hs h0;refine eE x5 ?_;intro X hs h0;refine eK ?_;refine Ax (fun wz=>Ext w2 wz) 6 (.pure 0 (.pure 2 (.pure 3 (.pure 4 (.fork 1 (.fork 5 .tail .none) (.fork 5 (.fork 1 .tail .none) .none)))))) mixed (by kernel_rfl) (Ac (Ao (Ac Ak))) ?_;intro w8 x9 _;have d:(fun wz=>Ext w2 wz) w8:=x9;simp only at d;have u:=h4;have x:=hs;have y:=h0;revert h4 X hs h0;refine eY x9 ?_;intro a0 h4 X hs h0;refine ⟨d,?_⟩;refine Tq rfl Mv (Tq rfl Pf (Tq rfl (Db u) (Tq rfl (AC [_,_,_] Aa Bj rfl rfl rfl rfl) ?_)));refine At rfl (Av (by kernel_rfl) rfl (JO _ _ _ _ hc hl) (fun _ _ h=>⟨_,h.1⟩)) rfl ?_ (fun _ h=>h) ?kr12;rintro _ a1 ⟨⟨⟩,rfl⟩;refine ⟨d,?_⟩;refine At rfl (AM [_,_,_] Aa Bj rfl rfl rfl rfl rfl rfl rfl rfl rfl) rfl ?_ (fun _ h=>h) As;rintro _ a2 ⟨a3,rfl,m,a4⟩;have z:=m.blk;have L:=m.ext;have a5:=m.pos;have a6:=m.size;revert d h4 X hs h0;refine eE L ?_;intro d h4 X hs h0;refine ⟨d,?_⟩;refine Az rfl ?_;refine AQ (C5 Aa Bj rfl rfl rfl rfl (by kernel_rfl) rfl rfl rfl ‹_› h1 (Blk.row ‹_›) rfl rfl (by omega)) rfl ?_ (fun _ h=>h);rintro _ a7 ⟨a8,⟨J,⟨rfl,⟨a9,⟨ba,⟨bb,⟨bc,M⟩⟩⟩⟩⟩⟩⟩
    revert z h4 X hs h0;refine eY M ?_;intro bd z h4 X hs h0;refine eK ?_;refine Af rfl rfl ?_;rotate_left;refine At rfl (AM [_,_,_] Aa Bj rfl rfl rfl rfl rfl rfl rfl rfl rfl) rfl ?_ (fun _ h=>h) As;rintro _ be ⟨bf,rfl,o,bg⟩;have A:=o.blk;have N:=o.ext;have bh:=o.pos;have bi:=o.size;revert d h4 X hs h0;refine eE N ?_;intro d h4 X hs h0;refine ⟨d,?_⟩;refine At rfl (Av (by kernel_rfl) rfl (JO _ _ _ _ hc hl) (fun _ _ h=>⟨_,h.1⟩)) rfl ?_ (fun _ h=>h) As;rintro _ bj ⟨⟨⟩,rfl⟩;refine ⟨d,?_⟩;refine Az rfl ?_;refine AQ (C5 Aa Bj rfl rfl rfl rfl (by kernel_rfl) rfl rfl rfl ‹_› h1 (Blk.row ‹_›) rfl rfl (by omega)) rfl ?_ (fun _ h=>h);rintro _ bk ⟨bl,⟨K,⟨rfl,⟨bm,⟨bn,⟨bo,⟨bp,O⟩⟩⟩⟩⟩⟩⟩;revert A h4 X hs h0;refine eY O ?_;intro bq A h4 X hs h0;refine eK ?_;refine Af rfl rfl ?_;rotate_left
   all_goals exact K4 (v:=⟨s,1,0⟩) ‹_› ‹_› (by omega) ‹_› X
 by_cases r:k=55∧i=0
 · have hv:Cn k s i l=l++[⟨s,3,0⟩]:=by unfold Cn;rw [if_neg j,if_pos r]
   rw [hv];obtain ⟨rfl,rfl⟩:=r;refine Ad func60 ntmps60 rfl rfl ?_
   focus
    refine cS (eB [_,_,_,_] ?_);intro br B e Q bs bt;revert X hs h0;refine eE Q ?_;intro X hs h0;refine eK ?_;refine Ax (fun wz=>Ext B wz) 6 (.pure 0 (.pure 2 (.pure 3 (.pure 4 (.fork 1 (.fork 5 .tail .none) (.fork 5 (.fork 1 .tail .none) .none)))))) mixed (by kernel_rfl) (Ac (Ao (Ac Ak))) ?_;intro R C _;have b:(fun wz=>Ext B wz) R:=C;simp only at b;have t:=e;have x:=hs;have y:=h0;revert e X hs h0;refine eY C ?_;intro W e X hs h0;refine ⟨b,?_⟩;refine Tq rfl Mv (Tq rfl Pf (Tq rfl (Db t) (Tq rfl (AC [_,_,_] Aa Bj rfl rfl rfl rfl) ?_)));refine At rfl (Av (by kernel_rfl) rfl (JO _ _ _ _ hc hl) (fun _ _ h=>⟨_,h.1⟩)) rfl ?_ (fun _ h=>h) ?kra12;rintro _ Y ⟨⟨⟩,rfl⟩;refine ⟨b,?_⟩;refine At rfl (AM [_,_,_] Aa Bj rfl rfl rfl rfl rfl rfl rfl rfl rfl) rfl ?_ (fun _ h=>h) As;rintro _ Z ⟨aa,rfl,f,ab⟩;have p:=f.blk;have D:=f.ext;have ac:=f.pos;have ad:=f.size;revert b e X hs h0;refine eE D ?_;intro b e X hs h0;refine ⟨b,?_⟩;refine Az rfl ?_;refine AQ (C5 Aa Bj rfl rfl rfl rfl (by kernel_rfl) rfl rfl rfl ‹_› h1 (Blk.row ‹_›) rfl rfl (by omega)) rfl ?_ (fun _ h=>h)
    rintro _ ae ⟨af,⟨E,⟨rfl,⟨ag,⟨ah,⟨ai,⟨aj,F⟩⟩⟩⟩⟩⟩⟩;revert p e X hs h0;refine eY F ?_;intro ak p e X hs h0;refine eK ?_;refine Af rfl rfl ?_;rotate_left;refine At rfl (AM [_,_,_] Aa Bj rfl rfl rfl rfl rfl rfl rfl rfl rfl) rfl ?_ (fun _ h=>h) As;rintro _ al ⟨am,rfl,g,an⟩;have q:=g.blk;have G:=g.ext;have ao:=g.pos;have ap:=g.size;revert b e X hs h0;refine eE G ?_;intro b e X hs h0;refine ⟨b,?_⟩;refine At rfl (Av (by kernel_rfl) rfl (JO _ _ _ _ hc hl) (fun _ _ h=>⟨_,h.1⟩)) rfl ?_ (fun _ h=>h) As;rintro _ aq ⟨⟨⟩,rfl⟩;refine ⟨b,?_⟩;refine Az rfl ?_;refine AQ (C5 Aa Bj rfl rfl rfl rfl (by kernel_rfl) rfl rfl rfl ‹_› h1 (Blk.row ‹_›) rfl rfl (by omega)) rfl ?_ (fun _ h=>h);rintro _ ar ⟨au,⟨H,⟨rfl,⟨av,⟨aw,⟨ax,⟨ay,I⟩⟩⟩⟩⟩⟩⟩;revert q e X hs h0;refine eY I ?_;intro az q e X hs h0;refine eK ?_;refine Af rfl rfl ?_;rotate_left
   all_goals exact K4 (v:=⟨s,3,0⟩) ‹_› ‹_› (by omega) ‹_› X
 · have hv:Cn k s i l=l:=by unfold Cn;rw [if_neg j,if_neg r]
   rw [hv];refine Ad func60 ntmps60 rfl rfl ?_
   focus
    refine cS (eB [_,_,_,_] ?_);intro bu bv bw T bx bz;revert X hs;refine eE T ?_;intro X hs;refine eK ?_;refine CP rfl rfl rfl (fun U=>?_) (fun U=>?_);refine eK ?_;refine Af rfl rfl ?_;rotate_left;refine eK ?_;refine CP rfl rfl rfl (fun V=>?_) (fun V=>?_);refine eK ?_;refine Af rfl rfl ?_;rotate_left;refine eK ?_;refine Af rfl rfl ?_;rotate_left
   all_goals exact ⟨_,_,rfl,hc,(KY ‹_›).wide (fun _ h=>Or.inl h),X⟩
theorem Oi {ps:List PD} {s:List UInt8} {i:Nat} (h:B9 ps s=some i):i<ps.length:=by
 unfold B9 at h
 obtain ⟨hi,-⟩:=List.findIdx?_eq_some_iff_getElem.1 h
 exact hi
set_option maxHeartbeats 8000000 in
theorem UN (g:PG) (hg:g.procs.length≤1000000) (k n:Int) (s:List UInt8) (l:List Nd) (ka:Option Addr) (kc:Nat) (v:List VD) (hv:v.length≤1000000) (S S':Nat→Prop) (va:Option Addr) (vc:Nat) (pa:Option Addr) (pc:Nat) (ma:Option Addr) (mc:Nat) (a:Option Addr) (c:Nat) (w:World) (hps:PDs S w g.procs pa) (hs:VDs S' w v a) :
 Calls prog 57 #[.agg (g.cells va vc pa pc ma mc).toArray,(Nd.mk k n s l).val ka kc,.slice a v.length c] w fun e w'=>e = .returned (.int .i64 (B7 g.procs v k s l.length))∧Ext w w':=by
 have X:=Ext.refl w;replace hps:=hps.ltA;have HU:=Lib.hid (Wd v hv s);have HF:=Lib.hid (MF v hv s);have HP:=Lib.hid (MG g hg s)
 show Calls prog 57 #[.agg (g.cells va vc pa pc ma mc).toArray,.agg #[.int .u8 k,.int .i64 n,str s,.slice ka l.length kc],.slice a v.length c] w _
 refine Ad func57 ntmps57 rfl rfl ?_
 focus
  refine cS (eB [_,_,_,_,_,_] ?_);intro b1 w2 h4 x5 p6 z7;revert hs X hps;refine eE x5 ?_;intro hs X hps;refine eB [_,_,_,_] ?_;intro b8 w9 b r R T;revert h4 hs X hps;refine eE r ?_;intro h4 hs X hps;refine eK ?_;refine AO rfl (fun t=>?_) (fun t=>?_);rotate_left;rotate_left
 · have he:B7 g.procs v k s l.length=Ff v s 1:=by unfold B7;rw [if_pos (by omega)]
   rw [he]
   focus
    refine eK ?_;refine cC rfl (HU.out _ _ _ _ _ ‹_›) ?_;rintro _ U ⟨⟨⟩,u⟩;revert b h4 hs X hps;refine eY u ?_;intro V b h4 hs X hps;refine eK ?_;refine Af rfl rfl ?_;rotate_left
   exact ⟨rfl,X⟩
 focus
  refine eK ?_;refine AO rfl (fun x=>?_) (fun x=>?_);rotate_left;refine Am ?_;rotate_left
 · have he:B7 g.procs v k s l.length=Ff v s 2:=by unfold B7;rw [if_neg (by omega),if_pos (by omega)]
   rw [he]
   focus
    refine eK ?_;refine cC rfl (HU.out _ _ _ _ _ ‹_›) ?_;rintro _ W ⟨⟨⟩,z⟩;revert b h4 hs X hps;refine eY z ?_;intro Y b h4 hs X hps;refine eK ?_;refine Af rfl rfl ?_;rotate_left
   exact ⟨rfl,X⟩
 refine Fv (ι:=Unit) (fun _=>[(2,.slice a v.length c),(3,.pointer (some ⟨b1,0,none⟩)),(4,.pointer (some ⟨b8,0,none⟩)),(9,.int .u8 k),(22,.bool (decide (k=4∨k=5∨k=44∨k=45)))]) (fun _ w'=>w'=w9) ?_ ?_
 · focus
    refine eK ?_;refine AO rfl (fun A=>?_) (fun A=>?_);refine AH ?_;rotate_left;refine eK ?_;refine AO rfl (fun B=>?_) (fun B=>?_);refine AH ?_;rotate_left;refine eK ?_;refine AO rfl (fun C=>?_) (fun C=>?_);refine AH ?_;rotate_left;refine Ah (C1 V1 (C1 Pa (Aj ?_)));rotate_left
   all_goals exact CG () (Be rfl (Be rfl (Be rfl (Be rfl (BZ rfl (congrArg Value.bool (decide_eq_decide.2 (by omega))) Dq))))) rfl
 rintro-u1 h;subst h
 focus
  refine AO rfl (fun D=>?_) (fun D=>?_);rotate_left;refine Am ?_;rotate_left
 · have he:B7 g.procs v k s l.length=Ff v s 3:=by unfold B7;rw [if_neg (by omega),if_neg (by omega),if_pos (by omega)]
   rw [he]
   focus
    refine eK ?_;refine cC rfl (HU.out _ _ _ _ _ ‹_›) ?_;rintro _ Z ⟨⟨⟩,E⟩;revert b h4 hs X hps;refine eY E ?_;intro aa b h4 hs X hps;refine eK ?_;refine Af rfl rfl ?_;rotate_left
   exact ⟨rfl,X⟩
 refine Fv (ι:=Unit) (fun _=>[(2,.slice a v.length c),(3,.pointer (some ⟨b1,0,none⟩)),(4,.pointer (some ⟨b8,0,none⟩)),(9,.int .u8 k),(31,.bool (decide (k=54∨k=55)))]) (fun _ w'=>w'=u1) ?_ ?_
 · focus
    refine eK ?_;refine AO rfl (fun F=>?_) (fun F=>?_);refine AH ?_;rotate_left;refine Ah (C1 V1 (C1 Pa (Aj ?_)));rotate_left
   all_goals exact CG () (Be rfl (Be rfl (Be rfl (Be rfl (BZ rfl (congrArg Value.bool (decide_eq_decide.2 (by omega))) Dq))))) rfl
 rintro-u2 h;subst h
 focus
  refine AO rfl (fun G=>?_) (fun G=>?_);rotate_left;refine Am ?_;rotate_left
 · have he:B7 g.procs v k s l.length=ET v s:=by unfold B7;rw [if_neg (by omega),if_neg (by omega),if_neg (by omega),if_pos (by omega)]
   rw [he]
   focus
    refine eK ?_;refine cC rfl (HF.out _ _ _ _ ‹_›) ?_;rintro _ ab ⟨⟨⟩,H⟩;revert b h4 hs X hps;refine eY H ?_;intro ac b h4 hs X hps;refine eK ?_;refine Af rfl rfl ?_;rotate_left
   exact ⟨rfl,X⟩
 refine Fv (ι:=Unit) (fun _=>[(2,.slice a v.length c),(3,.pointer (some ⟨b1,0,none⟩)),(4,.pointer (some ⟨b8,0,none⟩)),(9,.int .u8 k),(38,.bool (decide (k=50∨k=51)))]) (fun _ w'=>w'=u2) ?_ ?_
 · focus
    refine eK ?_;refine AO rfl (fun I=>?_) (fun I=>?_);refine AH ?_;rotate_left;refine Ah (C1 V1 (C1 Pa (Aj ?_)));rotate_left
   all_goals exact CG () (Be rfl (Be rfl (Be rfl (Be rfl (BZ rfl (congrArg Value.bool (decide_eq_decide.2 (by omega))) Dq))))) rfl
 rintro-u3 h;subst h
 focus
  refine AO rfl (fun J=>?_) (fun J=>?_);rotate_left;refine eK ?_;refine Af rfl rfl ?_;rotate_left
 · have he:B7 g.procs v k s l.length=Jj g.procs s l.length:=by unfold B7;rw [if_neg (by omega),if_neg (by omega),if_neg (by omega),if_neg (by omega),if_pos (by omega)]
   rw [he]
   unfold Jj
   have HP2:=Lib.hid (HP.out (· < w.heap.size) va vc pa pc ma mc)
   unfold F7 at HP2
   cases hq:B9 g.procs s with
   | none=>
    rw [hq] at HP2;dsimp only at HP2
    focus
     refine cS (Ae [_,_,_,_,_,_] Aa rfl rfl rfl h4 rfl rfl rfl ?_);refine eK ?_;refine cC rfl (HP2.out _ ‹_›) ?_;rintro _ ad ⟨⟨⟩,K⟩;revert b h4 hs X hps;refine eY K ?_;intro ae b h4 hs X hps;refine eK ?_;refine Af rfl rfl ?_;rotate_left
    exact ⟨rfl,X⟩
   | some i=>
    rw [hq] at HP2;dsimp only at HP2;have hi:=Oi hq;obtain ⟨kb,ko,rfl,kS,hget⟩:=hps.get (by intro e;rw [e] at hi;simp at hi);obtain ⟨qa,qc,ba,bc,r0,-,-⟩:=hget i g.procs[i] (List.getElem?_eq_getElem hi)
    have hm:((g.procs[i]?.map fun p=>p.params.length).getD 0)=g.procs[i].params.length:=by rw [List.getElem?_eq_getElem hi];rfl
    dsimp only;rw [hm];clear hget hm hq
    generalize g.procs[i]=y at *
    focus
     refine cS (Ae [_,_,_,_,_,_] Aa rfl rfl rfl h4 rfl rfl rfl ?_);refine eK ?_;refine cC rfl (HP2.out _ ‹_›) ?_;rintro _ j ⟨⟨⟩,L⟩;revert b hs X h4 hps r0;refine eY L ?_;intro af b hs X h4 hps r0;refine eK ?_;refine Ax (fun wz=>Ext j wz) 10 (.pure 0 (.pure 1 (.pure 2 (.pure 3 (.pure 4 (.pure 5 (.pure 6 (.pure 7 (.pure 8 (.pure 9 .tail)))))))))) mixed (by kernel_rfl) (Ac (Ao (Ac Ak))) ?_;intro M m _;have d:(fun wz=>Ext j wz) M:=m;simp only at d;have f:=b;have Q:=hs;have o:=h4;have N:=hps;have q:=r0;revert b hs X h4 hps r0;refine eY m ?_;intro ag b hs X h4 hps r0;refine ⟨d,?_⟩;refine Tq rfl Pf (Tq rfl (Db f) (Tq rfl Pz (Tq rfl Pf (Tq rfl (Db o) (Tq rfl Mv (Tq rfl Pi (Tq rfl Pf (Tq rfl (Dr q) (Tq rfl Pz ?_)))))))));refine Az rfl ?_;refine eK ?_;refine BS rfl (fun O=>?_) (fun O=>?_);refine eK ?_;refine Af rfl rfl ?_;rotate_left;refine eK ?_;refine Af rfl rfl ?_;rotate_left
    · rw [if_neg (by omega)]
      exact ⟨rfl,X⟩
    · rw [if_pos (by omega)]
      exact ⟨rfl,X⟩
 · have he:B7 g.procs v k s l.length=0:=by unfold B7;rw [if_neg (by omega),if_neg (by omega),if_neg (by omega),if_neg (by omega),if_neg (by omega)]
   rw [he]
   exact ⟨rfl,X⟩
set_option maxHeartbeats 8000000 in
theorem Oj (g:PG) (hg:g.procs.length≤1000000) (k n:Int) (s:List UInt8) (l:List Nd) (hl:l.length≤1000000) (i:Nat) (hi:i<l.length) (v:List VD) (hv:v.length≤1000000) (S S' S'':Nat→Prop) (va:Option Addr) (vc:Nat) (pa:Option Addr) (pc:Nat) (ma:Option Addr) (mc:Nat) (ka:Option Addr) (kc:Nat) (a:Option Addr) (c:Nat) (w:World) (hps:PDs S w g.procs pa) (hks:rowSits S'' w l ka) (hs:VDs S' w v a) :
 Calls prog 59 #[.agg (g.cells va vc pa pc ma mc).toArray,(Nd.mk k n s l).val ka kc,.int .i64 i,.slice a v.length c] w fun e w'=>e = .returned (.int .i64 (J3 g.procs v s l.length i (l[i]'hi).name))∧Ext w w':=by
 have X:=Ext.refl w;replace hps:=hps.ltA;replace hks:=Cy _ _ hks;obtain ⟨xb,xo,rfl,xS,hkid⟩:=Cv hks (by intro e;subst e;simp at hi);obtain ⟨xa,xc,rx,-⟩:=hkid i l[i] (List.getElem?_eq_getElem hi);clear hkid hks;have HF:=Lib.hid (Mx v hv (l[i]).name);have HP:=Lib.hid (MG g hg s (· < w.heap.size) va vc pa pc ma mc)
 unfold F7 at HP
 unfold J3
 generalize l[i]=x at *
 show Calls prog 59 #[.agg (g.cells va vc pa pc ma mc).toArray,.agg #[.int .u8 k,.int .i64 n,str s,.slice (some ⟨xb,xo,none⟩) l.length kc],.int .i64 i,.slice a v.length c] w _
 generalize D0 v x.name=o at *
 cases o with
 | none=>
  dsimp only [Option.isSome,Option.getD] at HF;refine Ad func59 ntmps59 rfl rfl ?_
  focus
   refine cS (eB [_,_,_,_,_,_] ?_);intro b1 w2 h4 x5 p6 z7;revert hs X hps rx;refine eE x5 ?_;intro hs X hps rx;refine eB [_,_,_,_] ?_;intro b8 w9 I ax ce cf;revert h4 hs X hps rx;refine eE ax ?_;intro h4 hs X hps rx;refine eK ?_;refine C1 (Pw rx) (cC rfl (HF.out _ _ _ _ ‹_›) ?_);rintro _ cg ⟨⟨⟩,ay⟩;revert I h4 hs X hps rx;refine eY ay ?_;intro ch I h4 hs X hps rx;refine eK ?_;refine AB [_,_,_] Bj rfl rfl ?_;intro ci cj az;refine eI [_,_,_] az ?_;intro ck cl a0 cm cn;revert I h4 hs X hps rx;refine eE a0 ?_;intro I h4 hs X hps rx;refine eK ?_;refine Af rfl rfl ?_;rotate_left
  exact ⟨rfl,X⟩
 | some d=>
  obtain ⟨dn,dk,dl⟩:=d;dsimp only [Option.isSome,Option.getD] at HF ⊢
  cases hq:B9 g.procs s with
  | none=>
   rw [hq] at HP;dsimp only [Option.bind] at HP ⊢;refine Ad func59 ntmps59 rfl rfl ?_
   focus
    refine cS (eB [_,_,_,_,_,_] ?_);intro co cp r a1 cq cr;revert hs X hps rx;refine eE a1 ?_;intro hs X hps rx;refine eB [_,_,_,_] ?_;intro cs ct f Y a5 a6;revert r hs X hps rx;refine eE Y ?_;intro r hs X hps rx;refine eK ?_;refine C1 (Pw rx) (cC rfl (HF.out _ _ _ _ ‹_›) ?_);rintro _ a7 ⟨⟨⟩,Z⟩;revert f r hs X hps rx;refine eY Z ?_;intro a8 f r hs X hps rx;refine eK ?_;refine AB [_,_,_] Bj rfl rfl ?_;intro a9 bb u;refine DR [_,_,_] Aa rfl rfl rfl rfl rfl rfl u rfl ?_;intro bd u;have z:=u.blk;dsimp only at z;have aa:=u.ext;have be:=u.pos;have bf:=u.size;revert f r hs X hps rx;refine eE aa ?_;intro f r hs X hps rx;refine eK ?_;refine Ae [_,_,_,_,_,_] Aa rfl rfl rfl r rfl rfl rfl ?_;refine eK ?_;refine cC rfl (HP.out _ ‹_›) ?_;rintro _ L ⟨⟨⟩,ab⟩;revert z f r hs X hps rx;refine eY ab ?_;intro bg z f r hs X hps rx;refine eK ?_;refine Ax (fun wz=>Ext L wz) 13 (.pure 0 (.pure 1 (.pure 2 (.pure 3 (.pure 4 (.pure 5 (.pure 6 (.pure 7 (.pure 8 (.pure 9 (.pure 10 (.pure 11 (.pure 12 .tail))))))))))))) mixed (by kernel_rfl) (Ac (Ac Ak)) ?_;intro ac M _;have D:(fun wz=>Ext L wz) ac:=M
    simp only at D;have ar:=z;have au:=f;have a2:=r;have N:=hs;have E:=hps;have O:=rx;revert z f r hs X hps rx;refine eY M ?_;intro bh z f r hs X hps rx;refine ⟨D,?_⟩;refine Tq rfl Mv (Tq rfl V3 (Tq rfl Mv (BC rfl rfl rfl rfl (Cw (by decide)) rfl (BC rfl rfl rfl rfl (Cw (by decide)) rfl (BC rfl rfl rfl rfl (Cw (by decide)) rfl (BC rfl rfl rfl rfl (Cw (by decide)) rfl (BC rfl rfl rfl rfl (Cw (by decide)) rfl (BC rfl rfl rfl rfl (Cw (by decide)) rfl (BC rfl rfl rfl rfl (Cw (by decide)) rfl (BC rfl rfl rfl rfl (Cw (by decide)) rfl (BC rfl rfl rfl rfl (Cw (by decide)) rfl ?_)))))))))));refine BC rfl rfl rfl rfl (Cw (by decide)) rfl ?_;refine Az rfl ?_;refine eK ?_;refine Af rfl rfl ?_;rotate_left
   exact ⟨rfl,X⟩
  | some j=>
   rw [hq] at HP;have hj:=Oi hq;dsimp only [Option.bind] at HP ⊢;rw [List.getElem?_eq_getElem hj];dsimp only;obtain ⟨kb,ko,rfl,kS,hget⟩:=hps.get (by intro e;rw [e] at hj;simp at hj);obtain ⟨qa,qc,ba,bc,r0,hvs,-⟩:=hget j g.procs[j] (List.getElem?_eq_getElem hj);clear hget hq
   generalize g.procs[j]=y at *
   by_cases hm:l.length=y.params.length
   · rw [if_neg (by omega)];obtain ⟨zb,zo,rfl,zS,hgv⟩:=hvs.get (by intro e;rw [e] at hm;simp only [List.length_nil] at hm;omega);have r1:=hgv i (y.params[i]'(by omega)) (List.getElem?_eq_getElem (by omega));rw [List.getElem?_eq_getElem (by omega)];dsimp only;clear hgv hvs
     generalize y.params[i]'(by omega)=q at *
     obtain ⟨qn,qk,ql⟩:=q;replace r1:Row w ⟨zb,zo+i*3,none⟩ [str qn,.int .u8 qk,.int .i64 ql]:=r1;dsimp only;refine Ad func59 ntmps59 rfl rfl ?_
     focus
      refine cS (eB [_,_,_,_,_,_] ?_);intro cu cv h a3 cw cx;revert hs X rx hps r0 r1;refine eE a3 ?_;intro hs X rx hps r0 r1;refine eB [_,_,_,_] ?_;intro cy cz b ad bi bj;revert h hs X rx hps r0 r1;refine eE ad ?_;intro h hs X rx hps r0 r1;refine eK ?_;refine C1 (Pw rx) (cC rfl (HF.out _ _ _ _ ‹_›) ?_);rintro _ bk ⟨⟨⟩,ae⟩;revert b h hs X rx hps r0 r1;refine eY ae ?_;intro bl b h hs X rx hps r0 r1;refine eK ?_;refine AB [_,_,_] Bj rfl rfl ?_;intro bm bn A;refine DR [_,_,_] Aa rfl rfl rfl rfl rfl rfl A rfl ?_;intro bo A;have p:=A.blk;dsimp only at p;have af:=A.ext;have bp:=A.pos;have bq:=A.size;revert b h hs X rx hps r0 r1;refine eE af ?_;intro b h hs X rx hps r0 r1;refine eK ?_;refine Ae [_,_,_,_,_,_] Aa rfl rfl rfl h rfl rfl rfl ?_;refine eK ?_;refine cC rfl (HP.out _ ‹_›) ?_;rintro _ Q ⟨⟨⟩,ag⟩;revert p b h hs X rx hps r0 r1;refine eY ag ?_;intro br p b h hs X rx hps r0 r1;refine eK ?_;refine Ax (fun wz=>Ext Q wz) 13 (.pure 0 (.pure 1 (.pure 2 (.pure 3 (.pure 4 (.pure 5 (.pure 6 (.pure 7 (.pure 8 (.pure 9 (.pure 10 (.pure 11 (.pure 12 .tail))))))))))))) mixed (by kernel_rfl) (Ac (Ac Ak)) ?_
      intro ah R _;have F:(fun wz=>Ext Q wz) ah:=R;simp only at F;have av:=p;have J:=b;have V:=h;have N:=hs;have O:=rx;have E:=hps;have G:=r0;have bs:=r1;revert p b h hs X rx hps r0 r1;refine eY R ?_;intro bt p b h hs X rx hps r0 r1;refine ⟨F,?_⟩;refine Tq rfl Mv (Tq rfl V3 (Tq rfl Mv (Bb rfl rfl rfl rfl (BB (by omega)) (Aq Aa rfl rfl rfl) rfl (Bb rfl rfl rfl rfl (BB (by omega)) (Al Aa rfl rfl rfl (fun wz hz=>Blk.cell (Blk.ext J hz) rfl)) rfl (Bb rfl rfl rfl rfl (BB (by omega)) (AS Aa rfl rfl) rfl (Bb rfl rfl rfl rfl (BB (by omega)) (Aq Aa rfl rfl rfl) rfl (Bb rfl rfl rfl rfl (BB (by omega)) (Al Aa rfl rfl rfl (fun wz hz=>Blk.cell (Blk.ext V hz) rfl)) rfl (Bb rfl rfl rfl rfl (BB (by omega)) (Ap rfl) rfl (Bb rfl rfl rfl rfl (BB (by omega)) (A4 Aa rfl rfl rfl rfl (by omega) (by omega)) rfl (Bb rfl rfl rfl rfl (BB (by omega)) (Aq Aa rfl rfl rfl) rfl (Bb rfl rfl rfl rfl (BB (by omega)) (Al Aa rfl rfl rfl (fun wz hz=>Row.at (Row.ext G hz) rfl)) rfl ?_)))))))))));refine Bb rfl rfl rfl rfl (BB (by omega)) (AS Aa rfl rfl) rfl ?_;refine Az rfl ?_;refine eK ?_;refine C1 (Pw r0) ?_;refine eK ?_
      refine C1 (Gb r1) (AB [_,_,_] Bj rfl rfl ?_);intro bu bv ai;refine eI [_,_,_] ai ?_;intro bw bx aj bz b0;revert p b h hs X rx hps r0 r1;refine eE aj ?_;intro p b h hs X rx hps r0 r1;refine eK ?_;refine CP rfl rfl rfl (fun ak=>?_) (fun ak=>?_);refine eK ?_;refine Af rfl rfl ?_;rotate_left;refine eK ?_;refine BS rfl (fun al=>?_) (fun al=>?_);refine eK ?_;refine Af rfl rfl ?_;rotate_left;refine eK ?_;refine Af rfl rfl ?_;rotate_left
     all_goals exact ⟨by simp [*],X⟩
   · rw [if_pos (by omega)];clear hvs;refine Ad func59 ntmps59 rfl rfl ?_
     focus
      refine cS (eB [_,_,_,_,_,_] ?_);intro c0 c1 t a4 c2 c3;revert hs X rx hps r0;refine eE a4 ?_;intro hs X rx hps r0;refine eB [_,_,_,_] ?_;intro c4 c5 m am b2 b3;revert t hs X rx hps r0;refine eE am ?_;intro t hs X rx hps r0;refine eK ?_;refine C1 (Pw rx) (cC rfl (HF.out _ _ _ _ ‹_›) ?_);rintro _ b4 ⟨⟨⟩,an⟩;revert m t hs X rx hps r0;refine eY an ?_;intro b5 m t hs X rx hps r0;refine eK ?_;refine AB [_,_,_] Bj rfl rfl ?_;intro b6 b7 B;refine DR [_,_,_] Aa rfl rfl rfl rfl rfl rfl B rfl ?_;intro b9 B;have C:=B.blk;dsimp only at C;have ao:=B.ext;have ca:=B.pos;have cb:=B.size;revert m t hs X rx hps r0;refine eE ao ?_;intro m t hs X rx hps r0;refine eK ?_;refine Ae [_,_,_,_,_,_] Aa rfl rfl rfl t rfl rfl rfl ?_;refine eK ?_;refine cC rfl (HP.out _ ‹_›) ?_;rintro _ T ⟨⟨⟩,ap⟩;revert C m t hs X rx hps r0;refine eY ap ?_;intro cc C m t hs X rx hps r0;refine eK ?_;refine Ax (fun wz=>Ext T wz) 13 (.pure 0 (.pure 1 (.pure 2 (.pure 3 (.pure 4 (.pure 5 (.pure 6 (.pure 7 (.pure 8 (.pure 9 (.pure 10 (.pure 11 (.pure 12 .tail))))))))))))) mixed (by kernel_rfl) (Ac (Ac Ak)) ?_;intro aq U _
      have H:(fun wz=>Ext T wz) aq:=U;simp only at H;have aw:=C;have K:=m;have W:=t;have N:=hs;have O:=rx;have E:=hps;have G:=r0;revert C m t hs X rx hps r0;refine eY U ?_;intro cd C m t hs X rx hps r0;refine ⟨H,?_⟩;refine Tq rfl Mv (Tq rfl V3 (Tq rfl Mv (Bb rfl rfl rfl rfl (BB (by omega)) (Aq Aa rfl rfl rfl) rfl (Bb rfl rfl rfl rfl (BB (by omega)) (Al Aa rfl rfl rfl (fun wz hz=>Blk.cell (Blk.ext K hz) rfl)) rfl (Bb rfl rfl rfl rfl (BB (by omega)) (AS Aa rfl rfl) rfl (Bb rfl rfl rfl rfl (BB (by omega)) (Aq Aa rfl rfl rfl) rfl (Bb rfl rfl rfl rfl (BB (by omega)) (Al Aa rfl rfl rfl (fun wz hz=>Blk.cell (Blk.ext W hz) rfl)) rfl (Bb rfl rfl rfl rfl (BB (by omega)) (Ap rfl) rfl (Bb rfl rfl rfl rfl (BB (by omega)) (A4 Aa rfl rfl rfl rfl (by omega) (by omega)) rfl (Bb rfl rfl rfl rfl (BB (by omega)) (Aq Aa rfl rfl rfl) rfl (Bb rfl rfl rfl rfl (BB (by omega)) (Al Aa rfl rfl rfl (fun wz hz=>Row.at (Row.ext G hz) rfl)) rfl ?_)))))))))));refine Bb rfl rfl rfl rfl (BB (by omega)) (AS Aa rfl rfl) rfl ?_;refine Az rfl ?_;refine eK ?_;refine Af rfl rfl ?_;rotate_left
     all_goals exact ⟨rfl,X⟩
structure FS (c fb m:Nat) (w:World) (v:Value):Prop where
 cell:Blk w fb [v]
 own:OwnQ (Oc 4) w (fun _=>False) c 63 v (List.replicate m ())
 ne:v.ownBlock≠some fb
 le:c≤w.heap.size
structure Eff (fb:Nat) (w:World) (v:Value) (w':World) (v':Value):Prop where
 fr:Fr (fun k=>k=fb∨v.ownBlock=some k) w w'
 new : ∀g,v'.ownBlock=some g→v.ownBlock=some g∨w.heap.size≤g
theorem Eff.of_ext {fb:Nat} {w w':World} {v:Value} (x:Ext w w'):Eff fb w v w' v:=⟨⟨x.os,x.tape,x.output,x.size,fun _ hl _=>x.block hl⟩,fun _ h=>Or.inl h⟩
theorem Eff.trans {fb:Nat} {w w1 w2:World} {v v1 v2:Value} (h:Eff fb w v w1 v1) (k:Eff fb w1 v1 w2 v2):Eff fb w v w2 v2:=by
 have hs:=h.fr.size;refine ⟨⟨k.fr.os.trans h.fr.os,k.fr.tape.trans h.fr.tape,k.fr.output.trans h.fr.output,Nat.le_trans hs k.fr.size,fun i hi hn=>?_⟩,fun g hg=>?_⟩
 · refine (k.fr.block i (by omega) (fun e=>?_)).trans (h.fr.block i hi hn)
   rcases e with e|e
   · exact hn (Or.inl e)
   · rcases h.new i e with e|e
     · exact hn (Or.inr e)
     · omega
 · rcases k.new g hg with h1|h1
   · exact h.new g h1
   · exact Or.inr (by omega)
def Kp (fb:Nat) (w:World) (v:Value) (b:Nat):Prop:=b<w.heap.size∧b≠fb∧v.ownBlock≠some b
theorem Kp.eff {fb:Nat} {w w':World} {v v':Value} {b:Nat} (h:Kp fb w v b) (k:Eff fb w v w' v'):Kp fb w' v' b:=by
 have:=k.fr.size;refine ⟨by have:=h.1;omega,h.2.1,fun e=>?_⟩
 rcases k.new b e with e|e
 · exact h.2.2 e
 · have:=h.1;omega
theorem Kp.grow {fb:Nat} {w w':World} {v:Value} {b:Nat} (h:Kp fb w v b) (hs:w.heap.size≤w'.heap.size):Kp fb w' v b:=⟨Nat.lt_of_lt_of_le h.1 hs,h.2⟩
theorem Kp.not {fb:Nat} {w:World} {v:Value} {b:Nat} (h:Kp fb w v b) : ¬(b=fb∨v.ownBlock=some b):=fun e=>e.elim h.2.1 h.2.2
theorem FS.ext {c fb m:Nat} {w w':World} {v:Value} (h:FS c fb m w v) (x:Ext w w'):FS c fb m w' v:=⟨h.cell.ext x,h.own.ext x,h.ne,Nat.le_trans h.le x.size⟩
instance {c fb m:Nat} {w w':World} {v:Value}:LfE w w' (FS c fb m w v) (FS c fb m w' v):=⟨fun x h=>Bk.FS.ext h x⟩
theorem FS.fr {c fb m:Nat} {S:Nat→Prop} {w w':World} {v:Value} (h:FS c fb m w v) (x:Fr S w w') (hs : ∀k,S k→k≠fb∧v.ownBlock≠some k):FS c fb m w' v:=⟨h.cell.fr x (fun e=>(hs _ e).1 rfl),h.own.fr x (fun k hk=>⟨id,(hs k hk).2⟩),h.ne,Nat.le_trans h.le x.size⟩
instance {c fb m:Nat} {S:Nat→Prop} {w w':World} {v:Value}:LfF S w w' (FS c fb m w v) (∀k,S k→k≠fb∧v.ownBlock≠some k) (FS c fb m w' v):=⟨fun x s h=>Bk.FS.fr h x s⟩
def RepR (c fb m:Nat) (w:World) (v:Value):Ending→World→Prop:=fun e w'=>e = .returned (.tuple #[]) ∧ ∃v',FS c fb m w' v'∧Fr (fun k=>k=fb∨v.ownBlock=some k) w w' ∧ ∀g,v'.ownBlock=some g→v.ownBlock=some g∨w.heap.size≤g
theorem RepR.ret {c fb m:Nat} {w:World} {v:Value} {e:Ending} {w':World} (h:RepR c fb m w v e w') : ∃v,e = .returned v:=⟨_,h.1⟩
theorem GS (c fb m:Nat) (v:Value) (p err:Int) (s:List UInt8) (S:Nat→Prop) (pa:Option Addr) (pn pc:Nat) (w:World) (hm:m≤1000000000) (hn:pn≤1000000) (hp:PathAt S w pa pn pc) (hf:FS c fb m w v) :
 Calls prog 26 #[.int .i64 p,.slice pa pn pc,str s,.int .i64 err,.pointer (some ⟨fb,0,none⟩)] w (RepR c fb (m+Mg err) w v):=by
 obtain ⟨hb,ho,hne,hc⟩:=hf;have HC:=Lib.hid (fun (w:World) (h:PathAt S w pa pn pc)=>h.clone hn);have X:=Ext.refl w
 by_cases he:err=0
 · subst he;have e0:m+Mg 0=m:=rfl;rw [e0];refine Ad func26 ntmps26 rfl rfl ?_
   focus
    refine cS (C1 Mv (C1 V2 (cT (U7 (AH (Bt rfl ?_))))));rotate_left
   exact ⟨rfl,v,⟨hb,ho,hne,by have:=X.size;omega⟩,(Eff.of_ext X).fr,fun _ h=>Or.inl h⟩
 · have e1:Mg err=1:=if_neg he;rw [e1]
   have hob : ∀g,v.ownBlock=some g→g<w.heap.size∧g≠fb:=fun g hg=>⟨ho.lt hg,fun e=>hne (e▸hg)⟩
   have hbl:=hb.lt
   have hnext:List.replicate m ()++[()]=List.replicate (m+1) ():=by rw [List.replicate_succ']
   have hlen:(List.replicate m ()).length≤1000000000:=by simp;omega
   have X2:=Fr.refl (fun k=>k=fb∨v.ownBlock=some k) w;refine Ad func26 ntmps26 rfl rfl ?_
   focus
    refine eK ?_;refine Ax (fun wz=>Ext w wz) 8 (.pure 0 (.pure 1 (.pure 2 (.pure 4 (.pure 5 (.fork 3 (.pure 6 (.fork 7 .tail .none)) .none)))))) mixed (by kernel_rfl) Ak ?_;intro u o _;have a:(fun wz=>Ext w wz) u:=o;simp only at a;have y:=hp;have q:=hb;have A:=ho;revert hp hb ho X X2;refine eY o ?_;intro N hp hb ho X X2;refine ⟨a,?_⟩;refine Tq rfl (Db q) (Tq rfl Mv (Tq rfl Mv (Tq rfl Mv (Tq rfl Mv ?_))));refine At rfl (Av (by kernel_rfl) rfl (HC.out _ ‹_›) (fun _ _ h=>h.ret)) rfl ?_ (fun _ h=>h) As;rintro _ O ⟨Q,⟨T,⟨⟨⟩,x⟩⟩⟩;revert a hp hb ho X X2;refine eY x ?_;intro B a hp hb ho X X2;refine ⟨a,?_⟩;refine Tq rfl (AC [_,_,_,_] Aa Bj rfl rfl rfl rfl) ?_;refine At rfl (AM [_,_,_,_] Aa Bj rfl rfl rfl rfl rfl rfl rfl rfl rfl) rfl ?_ (fun _ h=>h) As;rintro _ C ⟨D,rfl,b,E⟩;have d:=b.blk;have r:=b.ext;have F:=b.pos;have G:=b.size;revert a hp hb ho X X2;refine eE r ?_;intro a hp hb ho X X2;refine ⟨a,?_⟩;refine Az rfl ?_;refine AQ (IN (R:=fun _=>False) (sh:=Oc 4) (z:=()) Aa Bj rfl rfl rfl rfl (by kernel_rfl) rfl rfl rfl ‹_› (fun _ h=>by exact h) (Blk.row ‹_›) ⟨rfl,rfl⟩ (by omega) (by omega)) rfl ?_ (fun _ h=>h)
    rintro _ H ⟨i,⟨t,⟨rfl,⟨l,⟨j,⟨I,f⟩⟩⟩⟩⟩⟩;have J:=f.size;replace d:=Blk.fr d f (fun h=>by have:=hob _ h;omega);clear hp;replace hb:=Blk.fr hb f (fun h=>by have:=hob _ h;omega);clear ho;replace X2:=Fr.fr X2 f (fun k hk=>Or.inl (Or.inr hk));refine eS [_] hb ?_;intro K L n M;clear hb;replace l:=OwnQ.fr l n (fun k hk=>⟨id,fun e=>by (obtain rfl:=Option.some.inj (show some i=some k from e);rcases j with h|h;have:=hob _ h;omega;omega)⟩);revert d X2;refine eF n ?_;intro d X2;refine Aj (Bt rfl ?_);rotate_left
   have hsz:=X2.size;refine ⟨rfl,_,⟨by assumption,by rw [←hnext];assumption,fun e=>?_,by omega⟩,X2,fun g hg=>?_⟩
   · obtain rfl:=Option.some.inj (show some i=some fb from e)
     rcases j with h|h
     · exact hne h
     · omega
   obtain rfl:=Option.some.inj (show some i=some g from hg)
   rcases j with h|h
   · exact Or.inl h
   · exact Or.inr (by omega)
def Ti (c fb:Nat) (rf:FuncId) (ca:List Value) (E:World→Value→Prop):Prop:=
 (∀w v w' v',E w v→Eff fb w v w' v'→E w' v') ∧
 ∀(m:Nat) (v:Value) (err:Int) (s:List UInt8) (S:Nat→Prop) (pa:Option Addr) (pn pc:Nat) (w:World),m≤1000000000→pn≤1000000→PathAt S w pa pn pc→FS c fb m w v→E w v →
  Calls prog rf ([.slice pa pn pc,str s,.int .i64 err]++ca).toArray w (RepR c fb (m+Mg err) w v)
def K5 (fb:Nat):Value:=.func (.func 26) #[] #[.pointer (some ⟨fb,0,none⟩)]
theorem RE (c fb bR bI:Nat) (i:Int):Ti c fb 31 [.pointer (some ⟨bR,0,none⟩),.pointer (some ⟨bI,0,none⟩)] (fun w v=>Blk w bR [K5 fb]∧Blk w bI [.int .i64 i]∧Kp fb w v bR∧Kp fb w v bI):=by
 refine ⟨fun w v w' v' ⟨h1,h2,h3,h4⟩ k=>⟨h1.fr k.fr h3.not,h2.fr k.fr h4.not,h3.eff k,h4.eff k⟩,?_⟩;rintro m v err s S pa pn pc w hm hn hp hf ⟨h1,h2,-,-⟩;have HR:=Lib.hid (GS c fb m v i err s S pa pn pc w hm hn hp hf)
 unfold K5 at h1
 clear hp hf
 show Calls prog 31 #[.slice pa pn pc,str s,.int .i64 err,.pointer (some ⟨bR,0,none⟩),.pointer (some ⟨bI,0,none⟩)] w _
 have X2:=Fr.refl (fun k=>k=fb∨v.ownBlock=some k) w;refine Ad func31 ntmps31 rfl rfl ?_
 focus
  refine eK ?_;refine AQ (BQ (fi:=[]) (ca:=[.pointer (some ⟨fb,0,none⟩)]) (by kernel_rfl) rfl rfl HR.out (fun _ _ h=>h.ret)) rfl ?_ (fun _ h=>h);rintro _ w5 ⟨⟨⟩,⟨a,⟨h2,⟨f3,h4⟩⟩⟩⟩;have z6:=f3.size;replace X2:=Fr.fr X2 f3 (fun k hk=>Or.inl hk);refine Aj (Bt rfl ?_);rotate_left
 exact ⟨rfl,_,by assumption,X2,by assumption⟩
theorem RF (c fb bR bP:Nat) (g:PG) (va:Option Addr) (vc:Nat) (pa':Option Addr) (pc':Nat) (ma:Option Addr) (mc:Nat):Ti c fb 32 [.pointer (some ⟨bR,0,none⟩),.pointer (some ⟨bP,0,none⟩)] (fun w v=>Blk w bR [K5 fb]∧Blk w bP (g.cells va vc pa' pc' ma mc)∧Kp fb w v bR∧Kp fb w v bP):=by
 refine ⟨fun w v w' v' ⟨h1,h2,h3,h4⟩ k=>⟨h1.fr k.fr h3.not,h2.fr k.fr h4.not,h3.eff k,h4.eff k⟩,?_⟩;rintro m v err s S pa pn pc w hm hn hp hf ⟨h1,h2,-,-⟩;have HR:=Lib.hid (GS c fb m v g.procs.length err s S pa pn pc w hm hn hp hf)
 unfold K5 at h1
 clear hp hf
 show Calls prog 32 #[.slice pa pn pc,str s,.int .i64 err,.pointer (some ⟨bR,0,none⟩),.pointer (some ⟨bP,0,none⟩)] w _
 have X2:=Fr.refl (fun k=>k=fb∨v.ownBlock=some k) w;refine Ad func32 ntmps32 rfl rfl ?_
 focus
  refine eK ?_;refine AQ (BQ (fi:=[]) (ca:=[.pointer (some ⟨fb,0,none⟩)]) (by kernel_rfl) rfl rfl HR.out (fun _ _ h=>h.ret)) rfl ?_ (fun _ h=>h);rintro _ w5 ⟨⟨⟩,⟨a,⟨h2,⟨f3,h4⟩⟩⟩⟩;have z6:=f3.size;replace X2:=Fr.fr X2 f3 (fun k hk=>Or.inl hk);refine Aj (Bt rfl ?_);rotate_left
 exact ⟨rfl,_,by assumption,X2,by assumption⟩
end Bk
