/- Texts that the proofs of InverterDeep need. No condition. (Part 6 of 8.) -/
import Derived.Test.YtipjiidkdllbpaaGreatDoorPIdp5
set_option linter.unusedSimpArgs false
set_option linter.unusedVariables false
set_option maxRecDepth 100000
set_option maxHeartbeats 4000000
open Go.Proofs.Tryz
namespace Bk
open Go
theorem IE : ∀l:List Nd,0≤Bg l
 | []=>by simp [Bg]
 | t::r=>by have:=IE r;simp only [Bg];omega
mutual
theorem PY : ∀(t:Nd) (d m:Int),t.depth≤d→(t.size:Int)≤m→t.lim d m=(true,m-t.size)
 | .mk _ _ _ l,d,m,hd,hm=>by
  simp only [Nd.depth] at hd;simp only [Nd.size] at hm;have h0:0≤Bg l:=IE l
  unfold Nd.lim
  rw [if_neg (by omega),KH l (d-1) (m-1) (by omega) (by omega)];simp only [Nd.size]
  congr 1
  omega
theorem KH : ∀(l:List Nd) (d m:Int),Bg l≤d→(Au l:Int)≤m→C4 l d m=(true,m-Au l)
 | [],d,m,_,_=>by simp [C4,Au]
 | t::r,d,m,hd,hm=>by
  simp only [Bg] at hd;simp only [Au] at hm;have h1:=PY t d m (by omega) (by omega)
  unfold C4
  rw [h1];simp only [if_true];rw [KH r d _ (by omega) (by omega)];simp only [Au]
  congr 1
  omega
end
mutual
theorem KI : ∀(t:Nd) (d m:Int),0≤d→(t.lim d m).1=true→t.depth≤d
 | .mk _ _ s l,d,m,hd,h=>by
  simp only [Nd.lim] at h
  split at h
  · simp at h
  · have:=Hk l (d-1) (m-1) (by omega) h
    simp only [Nd.depth];omega
theorem Hk : ∀(l:List Nd) (d m:Int),0≤d→(C4 l d m).1=true→Bg l≤d
 | [],d,m,hd,_=>by simp only [Bg];exact hd
 | t::r,d,m,hd,h=>by
  simp only [C4] at h
  split at h
  · rename_i ht
    have h1:=KI t d m hd ht;have h2:=Hk r d _ hd h
    simp only [Bg];omega
  · simp at h
end
mutual
theorem LZ : ∀(t:Nd) (d m:Int),0≤m→(t.lim d m).1=true→(t.size:Int)+(t.lim d m).2≤m
 | .mk _ _ s l,d,m,hm,h=>by
  simp only [Nd.lim] at h ⊢
  split at h
  · simp at h
  · rename_i hn
    rw [if_neg hn];have:=IF l (d-1) (m-1) (by omega) h
    simp only [Nd.size];omega
theorem IF : ∀(l:List Nd) (d m:Int),0≤m→(C4 l d m).1=true→(Au l:Int)+(C4 l d m).2≤m
 | [],d,m,hm,_=>by simp only [C4,Au];omega
 | t::r,d,m,hm,h=>by
  simp only [C4] at h ⊢
  split at h
  · rename_i ht
    rw [if_pos ht];have h1:=LZ t d m hm ht;have h0:=MC t d m hm;have h2:=IF r d (t.lim d m).2 h0.1 h
    simp only [Au];omega
  · simp at h
end
theorem body_iff {t:Nd}:DF t=true↔t.isBlock=true∧t.depth≤80∧t.size≤2000:=by
 constructor
 · intro h
   simp only [DF,Bool.and_eq_true] at h;have h1:=LZ t 80 2000 (by omega) h.1;have h2:=MC t 80 2000 (by omega)
   exact ⟨h.2,KI t 80 2000 (by omega) h.1,by omega⟩
 · rintro ⟨h1,h2,h3⟩
   simp only [DF,Bool.and_eq_true];refine ⟨?_,h1⟩;rw [PY t 80 2000 h2 (by omega)]
theorem DG {g:PG} (h:g.ok=true):g.vars.length≤32∧g.procs.length≤64∧FE g.vars=true∧(∀p∈g.procs,p.ok=true)∧DF g.main=true:=by
 simp only [PG.ok,Bool.and_eq_true,decide_eq_true_eq] at h;obtain ⟨⟨⟨⟨h1,h2⟩,h3⟩,h4⟩,h5⟩:=h
 exact ⟨h1,h2,h3,List.all_eq_true.1 h4,h5⟩
theorem SM {g:PG} (h1:g.vars.length≤32) (h2:g.procs.length≤64) (h3:FE g.vars=true) (h4 : ∀p∈g.procs,p.ok=true) (h5:DF g.main=true):g.ok=true:=by
 simp only [PG.ok,Bool.and_eq_true,decide_eq_true_eq]
 exact ⟨⟨⟨⟨h1,h2⟩,h3⟩,List.all_eq_true.2 h4⟩,h5⟩
theorem D9 {p:PD} (h:p.ok=true):Cu p.name=true∧p.params.length≤8∧FE p.params=true∧DF p.body=true:=by
 simp only [PD.ok,Bool.and_eq_true,decide_eq_true_eq] at h;obtain ⟨⟨⟨h1,h2⟩,h3⟩,h4⟩:=h
 exact ⟨h1,h2,h3,h4⟩
theorem Rj {p:PD} (h1:Cu p.name=true) (h2:p.params.length≤8) (h3:FE p.params=true) (h4:DF p.body=true):p.ok=true:=by
 simp only [PD.ok,Bool.and_eq_true,decide_eq_true_eq]
 exact ⟨⟨⟨h1,h2⟩,h3⟩,h4⟩
theorem NW (q:Bool) {t:Nd} (h:DF t=true):DF (t.inv q)=true:=by
 obtain ⟨h1,h2,h3⟩:=body_iff.1 h;have:=OA q (t.size+1) t (by omega) (Or.inr h1)
 exact body_iff.2 ⟨this.bl h1,by rw [this.depth];exact h2,by rw [this.size];exact h3⟩
def PD.map (f:Nd→Nd) (p:PD):PD:=⟨p.name,p.params,f p.body⟩
def PG.inv (f:Nd→Nd) (q:Bool) (g:PG):PG:=⟨g.vars,g.procs.map (PD.map f),g.main.inv q⟩
theorem Rk {f:Nd→Nd} (q:Bool) {g:PG} (h:g.ok=true) (hf : ∀p∈g.procs,DF (f p.body)=true):(g.inv f q).ok=true:=by
 obtain ⟨h1,h2,h3,h4,h5⟩:=DG h;refine SM h1 (by simpa [PG.inv] using h2) h3 (fun p hp=>?_) (NW q h5);obtain ⟨x,hx,rfl⟩:=List.mem_map.1 hp;obtain ⟨p1,p2,p3,p4⟩:=D9 (h4 x hx)
 exact Rj p1 p2 p3 (hf x hx)
theorem Rm {f:Nd→Nd} (q:Bool) {g:PG} (h:g.wf) (hok:g.ok=true) (hf : ∀p∈g.procs,(f p.body).wf):(g.inv f q).wf:=by
 obtain ⟨h1,h2,h3,h4,h5⟩:=DG hok;refine ⟨h.nv,by simpa [PG.inv] using h.np,h.vars,fun p hp=>?_,(OA q (g.main.size+1) g.main (by omega) (Or.inr (body_iff.1 h5).1)).wf h.main⟩;obtain ⟨x,hx,rfl⟩:=List.mem_map.1 hp;have:=h.procs x hx
 exact ⟨this.name,this.len,this.params,hf x hx⟩
theorem IG {g:PG} (h:g.ok=true):g.main.isBlock=true:=(body_iff.1 (DG h).2.2.2.2).1
theorem II {g:PG} (h:g.ok=true) : ∀p∈g.procs,p.body.isBlock=true:=fun p hp=>(body_iff.1 (D9 ((DG h).2.2.2.1 p hp)).2.2.2).1
theorem CN (ps:List PD) (d:Nat) (b:Bool) {k n:Int} {s:List UInt8} {l:List Nd} (hk:k<50∨55<k) (r:Rn):AF ps (d+1) b (.mk k n s l) r=(Bu r).bind (C9 (·.run1 (if b then BN k else k) n s l)):=by
 conv=>lhs;unfold AF
 rw [if_neg (by omega),if_neg (by omega),if_neg (by omega),if_neg (by omega),if_neg (by omega)]
theorem Gv (ps:List PD) (d:Nat) (b:Bool) {k n:Int} {s:List UInt8} {l:List Nd} (hk:k=50∨k=51) (r:Rn):AF ps (d+1) b (.mk k n s l) r =
 (Bu r).bind fun r=>(C9 (·.enters (ps.getD ((B9 ps s).getD 0) ⟨[],[],.mk 0 0 [] []⟩).params (l.map Nd.name)) r).bind fun r=>
  (AT (AF ps d) (b != decide (k=51)) (ps.getD ((B9 ps s).getD 0) ⟨[],[],.mk 0 0 [] []⟩).body r).bind fun r=>(Bu r).bind (C9 (·.leaves)):=by
 conv=>lhs;unfold AF
 rw [if_neg (by omega),if_neg (by omega),if_neg (by omega),if_neg (by omega),if_pos hk]
theorem KJ {f g:Nd→Rn→Except Int Rn} {q:Bool} : ∀(l:List Nd),(∀t∈l,f (t.inv q)=g t)→FU f (BY q l)=FU g l
 | [],_=>rfl
 | t::l,h=>by
  funext r
  simp only [FU,BY];rw [h t (by simp),KJ l (fun x hx=>h x (by simp [hx]))]
theorem O3 {t:Nd} (h:t.isBlock=true):t = .mk 57 0 [] t.kids ∧ ∀x∈t.kids,x.isStmt=true:=by
 obtain ⟨k,n,s,l⟩:=t;simp only [Nd.isBlock,Bool.and_eq_true,beq_iff_eq,plain,List.isEmpty_iff] at h;obtain ⟨⟨rfl,rfl,rfl⟩,h⟩:=h
 exact ⟨rfl,rowStmt_iff.1 h⟩
theorem KK {f g:Bool→Nd→Rn→Except Int Rn} {q:Bool} (H : ∀b t,t.isStmt=true→f b (t.inv q)=g (!b) t) {t:Nd} (h:t.isBlock=true) (b:Bool):AT f b (t.inv q)=AT g (!b) t:=by
 obtain ⟨e,hk⟩:=O3 h
 generalize t.kids=l at *
 subst e;rw [D1]
 funext r
 unfold AT
 simp only [Nd.kids]
 cases b
 · simp only [Bool.false_eq_true,if_false,Bool.not_false,if_true]
   rw [←Hs,KJ l.reverse (fun t ht=>H false t (hk t (by simpa using ht)))]
   rfl
 · simp only [if_true,List.reverse_reverse,Bool.not_true,Bool.false_eq_true,if_false]
   rw [KJ l (fun t ht=>H true t (hk t ht))]
   rfl
theorem KL (f:Bool→Nd→Rn→Except Int Rn) (b:Bool) {t:Nd} (h:t.kids=[]):AT f b t=fun r=>.ok r:=by
 funext r
 unfold AT
 rw [h]
 cases b<;>rfl
def DZ (q:Bool) (ps:List PD):List PD:=if q then ps.map (PD.map (·.inv true)) else ps
theorem Rp (f:Nd→Nd) (ps:List PD) (s:List UInt8):B9 (ps.map (PD.map f)) s=B9 ps s:=by
 unfold B9
 rw [List.findIdx?_map]
 rfl
theorem Ur (q:Bool) (ps:List PD) (s:List UInt8):B9 (DZ q ps) s=B9 ps s:=by
 unfold DZ
 split
 · exact Rp _ _ _
 · rfl
theorem EA {t:Nd} (h:t.isPlace=true):t.isExpr=true:=by
 simp only [Nd.isPlace,Bool.and_eq_true] at h
 exact h.2
theorem VZ (a b:Bool):((!a) != b) = !(a != b):=by cases a<;>cases b<;>rfl
theorem PZ (q:Bool) {ps:List PD} (hps : ∀p∈ps,p.body.isBlock=true) : ∀(d:Nat) (b:Bool) (t:Nd),t.isStmt=true→AF (DZ q ps) d b (t.inv q)=AF ps d (!b) t
 | 0,b,t,_=>by funext r;simp [AF]
 | d+1,b,t,h=>by
  have IH:=PZ q hps d
  have HB : ∀ {x:Nd},x.isBlock=true → ∀b,AT (AF (DZ q ps) d) b (x.inv q)=AT (AF ps d) (!b) x:=fun h b=>KK IH h b
  have hsh:=Dc h
  cases hsh with
  | upd hk hx hy=>
   rename_i k x y
   rw [JL q hk (EA hx) hy]
   funext r
   have e1:BN k=40∨BN k=41∨BN k=42∨BN k=56:=by unfold BN;rcases hk with rfl|rfl|rfl|rfl<;>simp
   rw [CN _ _ _ (by omega),CN _ _ _ (by omega)]
   cases b<;>simp [Ex]
  | swap hx hy=>
   rename_i x y
   rw [Iq q (EA hx) (EA hy)]
   funext r
   rw [CN _ _ _ (by omega),CN _ _ _ (by omega)]
   cases b<;>simp [BN]
  | stack hk hn hx=>
   rename_i k s x
   rw [FC q (by omega) (EA hx)]
   funext r
   have e1:BN k=44∨BN k=45:=by unfold BN;rcases hk with rfl|rfl<;>simp
   rw [CN _ _ _ (by omega),CN _ _ _ (by omega)]
   cases b<;>simp [Ex]
  | tape hk hx=>
   rename_i k x
   rw [FC q (by omega) (EA hx)]
   funext r
   have e1:BN k=46∨BN k=47∨BN k=48∨BN k=49:=by unfold BN;rcases hk with rfl|rfl|rfl|rfl<;>simp
   rw [CN _ _ _ (by omega),CN _ _ _ (by omega)]
   cases b<;>simp [Ex]
  | call hk hn hl hv=>
   rename_i k s l
   rw [Ir q hk hv]
   funext r
   have e1:(if q=true then k else BN k)=50∨(if q=true then k else BN k)=51:=by unfold BN;cases q<;>rcases hk with rfl|rfl<;>simp
   rw [Gv _ _ _ e1,Gv _ _ _ hk];simp only [Ur]
   generalize (B9 ps s).getD 0=i
   cases q
   · simp only [DZ,Bool.false_eq_true,if_false]
     have e2:(b != decide (BN k=51))=((!b) != decide (k=51)):=by
      rw [VZ]
      rcases hk with rfl|rfl<;>cases b<;>rfl
     rw [e2]
   · simp only [if_true] at HB ⊢
     rw [VZ]
     have e2:((DZ true ps).getD i ⟨[],[],.mk 0 0 [] []⟩).params=(ps.getD i ⟨[],[],.mk 0 0 [] []⟩).params:=by
      simp only [DZ,if_true,List.getD_eq_getElem?_getD,List.getElem?_map]
      cases ps[i]? <;> rfl
     have e3 : ∀c,AT (AF (DZ true ps) d) c ((DZ true ps).getD i ⟨[],[],.mk 0 0 [] []⟩).body=AT (AF ps d) (!c) (ps.getD i ⟨[],[],.mk 0 0 [] []⟩).body:=fun c=>by
      rcases Nat.lt_or_ge i ps.length with hi|hi
      · have h1:((DZ true ps).getD i ⟨[],[],.mk 0 0 [] []⟩).body=(ps.getD i ⟨[],[],.mk 0 0 [] []⟩).body.inv true:=by
         simp only [DZ,if_true,List.getD_eq_getElem?_getD,List.getElem?_map,List.getElem?_eq_getElem hi]
         rfl
        rw [h1];refine HB (hps _ ?_) c;simp only [List.getD_eq_getElem?_getD,List.getElem?_eq_getElem hi,Option.getD_some]
        exact List.getElem_mem hi
      · have h1:(ps.getD i ⟨[],[],.mk 0 0 [] []⟩).body = .mk 0 0 [] []:=by simp [List.getD_eq_getElem?_getD,List.getElem?_eq_none hi]
        have h2:((DZ true ps).getD i ⟨[],[],.mk 0 0 [] []⟩).body = .mk 0 0 [] []:=by simp [DZ,List.getD_eq_getElem?_getD,List.getElem?_eq_none hi]
        rw [h1,h2,KL _ _ rfl,KL _ _ rfl]
     rw [e2,e3]
  | branch hk hx hy hz hu=>
   rename_i k x y z u
   rw [Gg q hk hx hy hz hu]
   funext r
   unfold AF
   have f1 : ∀p:Bool,AT (AF (DZ q ps) d) b (if p=true then y.inv q else z.inv q)=AT (AF ps d) (!b) (if p=true then y else z):=fun p=>by
    cases p
    · exact HB hz b
    · exact HB hy b
   rcases hk with rfl|rfl
   · cases b<;>simp [BW,f1]
   · cases b<;>simp [BW,HB hy,HB hz]
  | local_ hn hx hy hz=>
   rename_i s x y z
   rw [GY q hx hy hz]
   funext r
   unfold AF
   cases b<;>simp [BW,HB hy]
  | lstack hn hx=>
   rename_i s x
   rw [Gh q hx]
   funext r
   unfold AF
   simp [BW,HB hx]
theorem Rq (q:Bool) {ps:List PD} (hps : ∀p∈ps,p.body.isBlock=true) (d:Nat) (b:Bool) {t:Nd} (h:t.isBlock=true):AT (AF (DZ q ps) d) b (t.inv q)=AT (AF ps d) (!b) t:=
 KK (PZ q hps d) h b
open Go.RowKit Go.Proofs
attribute [local irreducible] Go.Calls
section
variable {at_:List UInt8→Option (List Int)} {f:FuncId} {fi:List Value} {I:World→Prop}
theorem MD (hf:CV prog f=true) (HL:Jn at_ f fi I) (t:Nd) (hw:t.wf) (hx:t.isExpr=true) (S:Nat→Prop) (a:Option Addr) (c:Nat) (w:World) (hs:t.sits S w a) (hI:Keep I w) :
 Calls prog 167 #[t.val a c,.func (.func f) fi.toArray #[]] w (EvR (Bd at_ t) w):=by
 have hE:=FV (· < w.heap.size) t hw
 unfold El at hE
 rw [hx] at hE;have HE:=Lib.hid hE;have HV:=Nk hf HL (t.size+1) t (by omega) hx
 unfold Vj at HV
 replace HV:=Lib.hid HV;replace hs:=BP _ _ hs;have X:=Ext.refl w;clear HL hE
 generalize Bd at_ t=r at *
 refine Ad func167 ntmps167 rfl rfl ?_
 focus
  refine cS (eB [_,_,_,_] ?_);intro b1 w2 h4 x5 p6 z7;revert hI hs X;refine eE x5 ?_;intro hI hs X;refine eK ?_;refine C1 (Il Aa rfl rfl) ?_;refine eK ?_;refine Ae [_,_,_,_] Aa rfl rfl rfl h4 rfl rfl rfl (cC rfl (HE.out _ _ _ ‹_›) ?_);rintro _ w9 ⟨⟨⟩,x8⟩;revert h4 hI hs X;refine eY x8 ?_;intro d h4 hI hs X;refine eK ?_;refine Ae [_,_,_,_] Aa rfl rfl rfl h4 rfl rfl rfl (C1 Mv (cC rfl (HV.out _ _ _ _ ‹_› ‹_›) ?_));rintro _ e ⟨⟨⟩,b⟩;revert h4 hI hs X;refine eY b ?_;intro g h4 hI hs X;refine eK ?_;refine AU rfl rfl rfl ?_;rotate_left
 exact ⟨rfl,X⟩
theorem Us (hf:CV prog f=true) (HL:Jn at_ f fi I) (t:Nd) (hw:t.wf) (hx:t.isExpr=true) (S:Nat→Prop) (a:Option Addr) (c:Nat) (w:World) (hs:t.sits S w a) (hI:Keep I w) :
 Calls prog 165 #[t.val a c,.func (.func f) fi.toArray #[]] w fun e w'=>e = .returned (.tuple #[.bool (decide ((Bd at_ t).1≠0)),.int .i64 (Bd at_ t).2])∧Ext w w':=by
 have HV:=Lib.hid (MD hf HL t hw hx);replace hs:=BP _ _ hs;have X:=Ext.refl w;clear HL
 generalize Bd at_ t=r at *
 refine Ad func165 ntmps165 rfl rfl ?_
 focus
  refine cS (eB [_,_,_,_] ?_);intro b1 w2 h4 x5 p6 z7;revert hI hs X;refine eE x5 ?_;intro hI hs X;refine eK ?_;refine Ae [_,_,_,_] Aa rfl rfl rfl h4 rfl rfl rfl (C1 Mv (cC rfl (HV.out _ _ _ _ ‹_› ‹_›) ?_));rintro _ w9 ⟨⟨⟩,x8⟩;revert h4 hI hs X;refine eY x8 ?_;intro b h4 hI hs X;refine eK ?_;refine AU rfl rfl rfl ?_;rotate_left
 exact ⟨rfl,X⟩
theorem IJ (hf:CV prog f=true) (HL:Jn at_ f fi I) (t:Nd) (hw:t.wf) (hx:t.isPlace=true) (S:Nat→Prop) (a:Option Addr) (c:Nat) (w:World) (hs:t.sits S w a) (hI:Keep I w) :
 Calls prog 169 #[t.val a c,.func (.func f) fi.toArray #[]] w (EvR (BA at_ t) w):=by
 have hE:=FW (· < w.heap.size) t hw
 unfold El at hE
 rw [hx] at hE;have HE:=Lib.hid hE;replace hs:=BP _ _ hs;have X:=Ext.refl w;have hex:=EA hx
 have hk:t.kind=2∨t.kind=3:=by
  simp only [Nd.isPlace,Bool.and_eq_true,Bool.or_eq_true,beq_iff_eq] at hx
  exact hx.1
 have hsh:=Kh hex
 cases hsh with
 | ref h1 h2=>
  rename_i k s
  have g:k=2:=by simp only [Nd.kind] at hk;omega
  subst g;have e:BA at_ (.mk 2 0 s [])=(0,0):=rfl;rw [e]
  change Calls prog 169 #[.agg #[.int .u8 2,.int .i64 0,str s,.slice a 0 c],.func (.func f) fi.toArray #[]] w _
  refine Ad func169 ntmps169 rfl rfl ?_
  focus
   refine cS (eB [_,_,_,_] ?_);intro b1 w2 h4 x5 p6 z7;revert hI X hs;refine eE x5 ?_;intro hI X hs;refine eK ?_;refine C1 (Il Aa rfl rfl) ?_;refine eK ?_;refine Ae [_,_,_,_] Aa rfl rfl rfl h4 rfl rfl rfl (cC rfl (HE.out _ _ _ ‹_›) ?_);rintro _ w9 ⟨⟨⟩,x8⟩;revert h4 hI X hs;refine eY x8 ?_;intro n h4 hI X hs;refine eK ?_;refine AU rfl rfl rfl ?_;rotate_left
  exact ⟨rfl,X⟩
 | item h1 h2=>
  rename_i s x
  have e:BA at_ (.mk 3 0 s [x])=Bd at_ x:=rfl;rw [e];have HV:=Nk hf HL (x.size+1) x (by omega) h2
  unfold Vj at HV
  replace HV:=Lib.hid HV;obtain ⟨kb,ko,xa,xc,rfl,-,hr,hxs⟩:=Se hs;replace hxs:=BP _ _ hxs;clear HL hE
  generalize Bd at_ x=r at *
  change Calls prog 169 #[.agg #[.int .u8 3,.int .i64 0,str s,.slice (some ⟨kb,ko,none⟩) 1 c],.func (.func f) fi.toArray #[]] w _
  refine Ad func169 ntmps169 rfl rfl ?_
  focus
   refine cS (eB [_,_,_,_] ?_);intro o p b h q u;revert hI X hs hr hxs;refine eE h ?_;intro hI X hs hr hxs;refine eK ?_;refine C1 (Il Aa rfl rfl) ?_;refine eK ?_;refine Ae [_,_,_,_] Aa rfl rfl rfl b rfl rfl rfl (cC rfl (HE.out _ _ _ ‹_›) ?_);rintro _ v ⟨⟨⟩,i⟩;revert b hI X hs hr hxs;refine eY i ?_;intro j b hI X hs hr hxs;refine eK ?_;refine C7 [_,_,_,_] Aa rfl rfl rfl hr rfl rfl rfl (C1 Mv (cC rfl (HV.out _ _ _ _ ‹_› ‹_›) ?_));rintro _ l ⟨⟨⟩,d⟩;revert b hI X hs hr hxs;refine eY d ?_;intro m b hI X hs hr hxs;refine eK ?_;refine AU rfl rfl rfl ?_;rotate_left
  exact ⟨rfl,X⟩
 | num=>simp only [Nd.kind] at hk;omega
 | un h1 h2=>simp only [Nd.kind] at hk;omega
 | bin h1 h2 h3=>simp only [Nd.kind] at hk;omega
end
theorem SN (k x y:Int) (hk:40≤k∧k≤42) (w:World):Calls prog 172 #[.int .u8 k,.int .i64 x,.int .i64 y] w fun e w'=>e = .returned (.tuple #[.int .i64 (TK k x y),.int .i64 0])∧w=w':=by
 refine Ad func172 ntmps172 rfl rfl ?_
 focus
  refine eK ?_;refine AO rfl (fun c1=>?_) (fun c1=>?_);refine eK ?_;refine C1 (J2 rfl rfl) ?_;refine eK ?_;refine AU rfl rfl rfl ?_;rotate_left;refine eK ?_;refine AO rfl (fun c2=>?_) (fun c2=>?_);refine eK ?_;refine C1 (MX rfl rfl) ?_;refine eK ?_;refine AU rfl rfl rfl ?_;rotate_left;refine eK ?_;refine C1 (PF rfl rfl) ?_;refine eK ?_;refine AU rfl rfl rfl ?_;rotate_left
 all_goals (refine ⟨?_,rfl⟩;unfold TK)
 · rw [if_pos ‹_›]
 · rw [if_neg (by omega),if_pos ‹_›]
 · rw [if_neg (by omega),if_neg (by omega)]
section
variable {ρ ρ':Nat→Rl} {κ:Nat→Nat} {K:List (Int×Int)} {m sb:Nat} {st st':Stp} {w w' w1:World} {S:Nat→Prop}
theorem EQ (hw:st.WF K m) (hm:m≤1000000):Jn st.look 170 [.pointer (some ⟨sb,0,none⟩)] (fun w=>StoreAt ρ κ w sb st):=fun s w hI=>NP hw hm s w hI.h
theorem EB (h:StoreAt ρ κ w sb st):Keep (fun w=>StoreAt ρ κ w sb st) w:=⟨h,fun _ _ h x=>h.ext x⟩
theorem G3 (hw:st.WF K m) {x:Nd} (hx:x.isPlace=true) (hb:x.bad st.cur.vars=0) : ∃i c,CJ x.name st.cur.vars=some i∧st.cur.cells[i]? = some c∧st.cellD x.name=c∧st.look x.name=some (st.items c)∧c<st.heap.length∧(∃y,K[c]? = some y∧(y.1=1∨y.1=2)):=by
 obtain ⟨k,n,s,l⟩:=x
 have hk:k=2∨k=3:=by
  simp only [Nd.isPlace,Nd.kind,Bool.and_eq_true,Bool.or_eq_true,beq_iff_eq] at hx
  exact hx.1
 have h1:=(Mz hb).1
 have e:C2 k=1∨C2 k=2:=by unfold C2;rcases hk with rfl|rfl<;>decide
 obtain ⟨i,c,y,h2,h3,h4,h5,h6,h7,h8,-⟩:=hw.use (h1 (by omega))
 exact ⟨i,c,h2,h3,h4,h5,h6,y,h7,by omega⟩
theorem StR.low {r:Int} {e:Ending} (h:StR ρ sb st' r w1 e w') (x:Ext w w1):StR ρ sb st' r w e w':=by
 obtain ⟨ρ',κ',h1,h2,h3,h4⟩:=h
 exact ⟨ρ',κ',h1,h2.low x.size,h3,(Fr.of_ext x).trans h4⟩
theorem IK {c n ci:Nat} {ai:Option Addr} {xs:List Int} (hrc:ρ (κ c) = .cell c) (hb:Blk w (κ c) [.slice ai n ci]) (ho:OwnR ρ (.items c) w (.slice ai n ci) xs) (hn:0<n) : ∃g,ai=some ⟨g,0,none⟩∧PlaceAt ρ κ w c g n ci xs:=by
 rcases ho.1.open with ⟨h1,-⟩|⟨g',cap',zs,h1,-⟩
 · simp only [Value.slice.injEq] at h1
   omega
 simp only [Value.slice.injEq] at h1;obtain ⟨rfl,-,-⟩:=h1
 exact ⟨g',rfl,hrc,ho.2 g' rfl,hb,ho.1⟩
theorem Ut (hw:st.WF K m) (hm:m≤1000000) {k:Int} (hk:40≤k∧k≤42) {x y:Nd} (hxp:x.isPlace=true) (hye:y.isExpr=true) (hxw:x.wf) (hyw:y.wf) (hxb:x.bad st.cur.vars=0) (a:Option Addr) (c0:Nat) (w:World) (hs:rowSits S w [x,y] a) (h:StoreAt ρ κ w sb st) :
 Calls prog 160 #[.pointer (some ⟨sb,0,none⟩),.agg #[.int .u8 k,.int .i64 0,str [],.slice a 2 c0]] w (StR ρ sb (st.exec k [] [x,y]).2 (st.exec k [] [x,y]).1 w):=by
 obtain ⟨i,c,hi,hc,hcd,hlk,hcl,-⟩:=G3 hw hxp hxb
 have e:st.exec k [] [x,y]=if (BA st.look x).2≠0 then ((BA st.look x).2,st) else if (Bd st.look y).2≠0 then ((Bd st.look y).2,st) else if (BA st.look x).1<0∨((st.items c).length:Int)≤(BA st.look x).1 then (12,st) else (0,st.put c (BA st.look x).1.toNat (TK k ((st.items c).getD (BA st.look x).1.toNat 0) (Bd st.look y).1)):=by
  unfold Stp.exec
  simp only [List.getD_cons_zero,List.getD_cons_succ,if_neg (show ¬k=43 by omega),if_pos hk,hcd]
 rw [e];clear e;have hI:=EB h;have HX:=Lib.hid (fun xa xc w1 h1 h2=>IJ (by kernel_rfl) (EQ (sb:=sb) (ρ:=ρ) (κ:=κ) hw hm) x hxw hxp (· < w.heap.size) xa xc w1 h1 h2);have HY:=Lib.hid (fun ya yc w1 h1 h2=>MD (by kernel_rfl) (EQ (sb:=sb) (ρ:=ρ) (κ:=κ) hw hm) y hyw hye (· < w.heap.size) ya yc w1 h1 h2);have HC:=Lib.hid (fun w1 h=>KC (ρ:=ρ) (κ:=κ) (sb:=sb) hw hm x.name hi w1 h);rw [hcd] at HC;obtain ⟨kb,ko,xa,xc,ya,yc,rfl,-,hrx,hx,hry,hy⟩:=Vi hs;replace hx:=BP _ _ hx;replace hy:=BP _ _ hy;obtain ⟨hrc,vi,hcb,hit⟩:=h.cells _ _ (Ez hcl);obtain ⟨ai,ci,rfl⟩:=hit.1.shape;have hln:=hw.look_le hlk
 have hpl:=fun hn=>IK hrc hcb hit hn
 have HS:=Lib.hid h;have X:=Ext.refl w;clear h hs hit;obtain ⟨xk,xn,xs,xl⟩:=x;obtain ⟨yk,yn,ys,yl⟩:=y;simp only [Nd.name] at HC hi hcd hlk;replace hrx:Row w ⟨kb,ko+0*4,none⟩ [.int .u8 xk,.int .i64 xn,str xs,.slice xa xl.length xc]:=hrx;replace hry:Row w ⟨kb,ko+1*4,none⟩ [.int .u8 yk,.int .i64 yn,str ys,.slice ya yl.length yc]:=hry
 generalize hA:BA st.look (.mk xk xn xs xl)=A at *
 generalize hB:Bd st.look (.mk yk yn ys yl)=B at *
 generalize hn:(st.items c).length=n at *
 refine Ad func160 ntmps160 rfl rfl ?_
 focus
  refine cS (eB [_,_,_,_] ?_);intro b1 w2 h4 x5 p6 z7;revert hI X hx hy hrx hry hcb;refine eE x5 ?_;intro hI X hx hy hrx hry hcb;refine eK ?_;refine C7 [_,_,_,_] Aa rfl rfl rfl hrx rfl rfl rfl (C1 Mv (C1 (Eu rfl rfl) (cC rfl (HX.out _ _ _ ‹_› ‹_›) ?_)));rintro _ w9 ⟨⟨⟩,x8⟩;revert h4 hI X hx hy hrx hry hcb;refine eY x8 ?_;intro M h4 hI X hx hy hrx hry hcb;refine eK ?_;refine BS rfl (fun q=>?_) (fun q=>?_);refine eK ?_;refine Af rfl rfl ?_;rotate_left;refine AH (Ai (cS (C1 Pa (cT (Am (cS (C1 Pg (C1 (Pl h4) (cT (AK (cS ?_)))))))))));refine C1 V1 (C1 Pa (cT (Hn (Am ?_))));rotate_left
 · rw [if_pos ‹_›]
   exact StR.same hI.h X
 rw [if_neg (fun h=>h ‹_›)];refine Fv (ι:=Unit) (fun _=>[(0,.pointer (some ⟨sb,0,none⟩)),(3,.pointer (some ⟨b1,0,none⟩)),(5,.int .i64 A.1),(6,.int .i64 A.2),(7,.int .i64 0),(40,.bool true)]) (fun _ w'=>w'=w9) ?_ ?_
 · focus
    refine eK ?_;refine AO rfl (fun r=>?_) (fun r=>?_);refine AH ?_;rotate_left;refine eK ?_;refine AO rfl (fun s=>?_) (fun s=>?_);refine AH ?_;rotate_left;refine Ah (C1 V1 (C1 Pa (Aj ?_)));rotate_left
   all_goals exact CG () (Be rfl (Be rfl (Be rfl (Be rfl (Be rfl (BZ rfl (congrArg Value.bool (decide_eq_true (by omega))) Dq)))))) rfl
 rintro-u1 hu;subst hu
 focus
  refine eK ?_;refine C1 (Gb hry) (C1 Mv (C1 (Eu rfl rfl) (cC rfl (HY.out _ _ _ ‹_› ‹_›) ?_)));rintro _ N ⟨⟨⟩,t⟩;revert h4 hI X hx hy hrx hry hcb;refine eY t ?_;intro O h4 hI X hx hy hrx hry hcb;refine eK ?_;refine BS rfl (fun u=>?_) (fun u=>?_);refine eK ?_;refine Af rfl rfl ?_;rotate_left;refine eK ?_;refine C1 (Pw hrx) (cC rfl (HC.out _ (Keep.h ‹_›)) ?_);rintro _ j ⟨⟨⟩,v⟩;revert h4 hI X hx hy hrx hry hcb;refine eY v ?_;intro Q h4 hI X hx hy hrx hry hcb;refine C1 Pn (C1 Pg (C1 (Pl hcb) (C1 Pa (cT (Am ?_)))));rotate_left
 · rw [if_pos ‹_›]
   exact StR.same hI.h X
 rw [if_neg (fun h=>h ‹_›)]
 by_cases hrange:A.1<0∨(n:Int)≤A.1
 · rw [if_pos hrange];clear hpl
   focus
    refine eK ?_;refine CP rfl rfl rfl (fun z=>?_) (fun z=>?_);refine eK ?_;refine Af rfl rfl ?_;rotate_left;refine eK ?_;refine Af rfl rfl ?_;rotate_left
   · exact StR.same hI.h X
   · exact StR.same hI.h X
 rw [if_neg hrange];obtain ⟨g,rfl,hp⟩:=hpl (by omega);replace hp:=hp.ext X;have d:=hp.row (i:=A.1.toNat) (by omega);have ho:=hp.ho;have F:=Fr.refl (· = g) j;have Hp:=Lib.hid hp;have HI:=Lib.hid hI.h;have HX0:=Lib.hid X;clear hp hI hx hy hrx hry X
 generalize (st.items c).getD A.1.toNat 0=v0 at *
 focus
  refine cS (C1 Mv (C1 V3 (C1 Mv (JD (C1 Mv (JD (C1 Mv (JD (C1 Pz (JD (C1 V6 ?_)))))))))));refine C1 TF (cT (Hn (AH (Ai (cS (C1 Mv (C1 Mv (C1 Pi (C1 Pa (cT (Am ?_)))))))))));refine cS (C1 Pg (C1 (Pl h4) (cT (AK (Am ?_)))));rotate_left
 refine Fv (ι:=Unit) (fun _=>[(3,.pointer (some ⟨b1,0,none⟩)),(7,.int .i64 B.1),(9,.pointer (some ⟨g,0+A.1.toNat*1,none⟩)),(80,.bool true)]) (fun _ w'=>w'=j) ?_ ?_
 · focus
    refine eK ?_;refine AO rfl (fun C=>?_) (fun C=>?_);refine AH ?_;rotate_left;refine eK ?_;refine AO rfl (fun D=>?_) (fun D=>?_);refine AH ?_;rotate_left;refine Ah (C1 V1 (C1 Pa (Aj ?_)));rotate_left
   all_goals exact CG () (Be rfl (Be rfl (Be rfl (BZ rfl (congrArg Value.bool (decide_eq_true (by omega))) Dq)))) rfl
 rintro-u2 hu;subst hu
 have E:A.1.toNat<(st.items c).length:=by omega
 focus
  refine eK ?_;refine Ax (fun wz=>Ext u2 wz) 11 (.pure 0 (.pure 1 (.pure 2 (.pure 3 (.pure 4 (.pure 5 (.fork 6 (.pure 7 (.pure 8 (.pure 9 (.pure 10 .tail)))) .none))))))) mixed (by kernel_rfl) (Ac (Ao (Ac Ak))) ?_;intro G l _;have b:(fun wz=>Ext u2 wz) G:=l;simp only at b;have o:=h4;have H:=hcb;have I:=ho;have f:=d;revert h4 hcb ho F d;refine eY l ?_;intro R h4 hcb ho F d;refine ⟨b,?_⟩;refine Tq rfl Pg (Tq rfl (Db o) (Tq rfl Mv (Tq rfl Pn (Tq rfl (Al Aa rfl rfl rfl (fun wz hz=>Row.at0 (Row.ext f hz) rfl)) (Tq rfl Mv ?_)))));refine At rfl (Av (by kernel_rfl) rfl (SN _ _ _ hk _) (fun _ _ h=>⟨_,h.1⟩)) rfl ?_ (fun _ h=>h) As;rintro _ T ⟨⟨⟩,rfl⟩;refine ⟨b,?_⟩;refine Tq rfl Mv (Tq rfl Px (Tq rfl Px (Tq rfl Pa ?_)));refine Az rfl ?_;refine eK ?_;refine Br (Cp Aa rfl rfl rfl ‹_› E) (Cf ?_);rintro _ J ⟨U,⟨p,V⟩⟩;have L:=p.size;clear h4 hcb ho;replace F:=F.fr p (by omega);refine eK ?_;refine Af rfl rfl ?_;rotate_left
 exact ⟨ρ,κ,rfl,Ro.refl _ _,HI.out.putI Hp.out.hrc Hp.out.hrg Hp.out.hb F ‹_›,(Fr.of_ext HX0.out).fr F (fun k hk=>Or.inl (by rw [show k=g from hk,Hp.out.hrg];trivial))⟩
theorem Uu (hw:st.WF K m) (hm:m≤1000000) {x y:Nd} (hxp:x.isPlace=true) (hyp:y.isPlace=true) (hxw:x.wf) (hyw:y.wf) (hxb:x.bad st.cur.vars=0) (hyb:y.bad st.cur.vars=0) (a:Option Addr) (c0:Nat) (w:World) (hs:rowSits S w [x,y] a) (h:StoreAt ρ κ w sb st) :
 Calls prog 160 #[.pointer (some ⟨sb,0,none⟩),.agg #[.int .u8 43,.int .i64 0,str [],.slice a 2 c0]] w (StR ρ sb (st.exec 43 [] [x,y]).2 (st.exec 43 [] [x,y]).1 w):=by
 obtain ⟨i,c,hi,hc,hcd,hlk,hcl,-⟩:=G3 hw hxp hxb;obtain ⟨i',c',hi',hc',hcd',hlk',hcl',-⟩:=G3 hw hyp hyb
 have e:st.exec 43 [] [x,y]=if (BA st.look x).2≠0 then ((BA st.look x).2,st) else if (BA st.look y).2≠0 then ((BA st.look y).2,st) else if (BA st.look x).1<0∨((st.items c).length:Int)≤(BA st.look x).1 then (12,st) else if (BA st.look y).1<0∨((st.items c').length:Int)≤(BA st.look y).1 then (12,st)
  else (0,(st.put c (BA st.look x).1.toNat ((st.items c').getD (BA st.look y).1.toNat 0)).put c' (BA st.look y).1.toNat ((st.items c).getD (BA st.look x).1.toNat 0)):=by
  unfold Stp.exec
  simp only [List.getD_cons_zero,List.getD_cons_succ,if_true,if_neg (show ¬(40≤(43:Int)∧(43:Int)≤42) by decide),hcd,hcd']
 rw [e];clear e;have hI:=EB h;have HX:=Lib.hid (fun xa xc w1 h1 h2=>IJ (by kernel_rfl) (EQ (sb:=sb) (ρ:=ρ) (κ:=κ) hw hm) x hxw hxp (· < w.heap.size) xa xc w1 h1 h2);have HY:=Lib.hid (fun ya yc w1 h1 h2=>IJ (by kernel_rfl) (EQ (sb:=sb) (ρ:=ρ) (κ:=κ) hw hm) y hyw hyp (· < w.heap.size) ya yc w1 h1 h2);have HC:=Lib.hid (fun w1 h=>KC (ρ:=ρ) (κ:=κ) (sb:=sb) hw hm x.name hi w1 h);have HD:=Lib.hid (fun w1 h=>KC (ρ:=ρ) (κ:=κ) (sb:=sb) hw hm y.name hi' w1 h);rw [hcd] at HC;rw [hcd'] at HD;obtain ⟨kb,ko,xa,xc,ya,yc,rfl,-,hrx,hx,hry,hy⟩:=Vi hs;replace hx:=BP _ _ hx;replace hy:=BP _ _ hy;obtain ⟨hrc,vi,hcb,hit⟩:=h.cells _ _ (Ez hcl);obtain ⟨ai,ci,rfl⟩:=hit.1.shape;obtain ⟨hrd,vj,hdb,hjt⟩:=h.cells _ _ (Ez hcl');obtain ⟨aj,cj,rfl⟩:=hjt.1.shape;have hln:=hw.look_le hlk;have hln':=hw.look_le hlk'
 have hpl:=fun hn=>IK hrc hcb hit hn
 have hpm:=fun hn=>IK hrd hdb hjt hn
 have X:=Ext.refl w;clear h hs hit hjt;obtain ⟨xk,xn,xs,xl⟩:=x;obtain ⟨yk,yn,ys,yl⟩:=y;simp only [Nd.name] at HC HD hi hcd hlk hi' hcd' hlk';replace hrx:Row w ⟨kb,ko+0*4,none⟩ [.int .u8 xk,.int .i64 xn,str xs,.slice xa xl.length xc]:=hrx;replace hry:Row w ⟨kb,ko+1*4,none⟩ [.int .u8 yk,.int .i64 yn,str ys,.slice ya yl.length yc]:=hry
 generalize hA:BA st.look (.mk xk xn xs xl)=A at *
 generalize hB:BA st.look (.mk yk yn ys yl)=B at *
 generalize hn:(st.items c).length=n at *
 generalize hn':(st.items c').length=n' at *
 refine Ad func160 ntmps160 rfl rfl ?_
 focus
  refine cS (eB [_,_,_,_] ?_);intro b1 w2 h4 x5 p6 z7;revert hI X hx hy hrx hry hcb hdb;refine eE x5 ?_;intro hI X hx hy hrx hry hcb hdb;refine eK ?_;refine C7 [_,_,_,_] Aa rfl rfl rfl hrx rfl rfl rfl (C1 Mv (C1 (Eu rfl rfl) (cC rfl (HX.out _ _ _ ‹_› ‹_›) ?_)));rintro _ w9 ⟨⟨⟩,x8⟩;revert h4 hI X hx hy hrx hry hcb hdb;refine eY x8 ?_;intro ap h4 hI X hx hy hrx hry hcb hdb;refine eK ?_;refine BS rfl (fun T=>?_) (fun T=>?_);refine eK ?_;refine Af rfl rfl ?_;rotate_left;refine eK ?_;refine C1 (Gb hry) (C1 Mv (C1 (Eu rfl rfl) (cC rfl (HY.out _ _ _ ‹_› ‹_›) ?_)));rintro _ aq ⟨⟨⟩,U⟩;revert h4 hI X hx hy hrx hry hcb hdb;refine eY U ?_;intro ar h4 hI X hx hy hrx hry hcb hdb;refine eK ?_;refine BS rfl (fun V=>?_) (fun V=>?_);refine eK ?_;refine Af rfl rfl ?_;rotate_left;refine eK ?_;refine C1 (Pw hrx) (cC rfl (HC.out _ (Keep.h ‹_›)) ?_);rintro _ au ⟨⟨⟩,W⟩;revert h4 hI X hx hy hrx hry hcb hdb;refine eY W ?_;intro av h4 hI X hx hy hrx hry hcb hdb;refine C1 Pn (C1 Pg (C1 (Pl hcb) (C1 Pa (cT (Am ?_)))));rotate_left
 · rw [if_pos ‹_›]
   exact StR.same hI.h X
 · rw [if_neg (fun h=>h ‹_›),if_pos ‹_›]
   exact StR.same hI.h X
 rw [if_neg (fun h=>h ‹_›),if_neg (fun h=>h ‹_›)]
 by_cases hrange:A.1<0∨(n:Int)≤A.1
 · rw [if_pos hrange];clear hpl hpm
   focus
    refine eK ?_;refine CP rfl rfl rfl (fun Y=>?_) (fun Y=>?_);refine eK ?_;refine Af rfl rfl ?_;rotate_left;refine eK ?_;refine Af rfl rfl ?_;rotate_left
   · exact StR.same hI.h X
   · exact StR.same hI.h X
 rw [if_neg hrange];obtain ⟨g,rfl,hp⟩:=hpl (by omega)
 focus
  refine eK ?_;refine C1 (Pw hry) (cC rfl (HD.out _ (Keep.h ‹_›)) ?_);rintro _ b ⟨⟨⟩,Z⟩;revert h4 hI X hx hy hrx hry hdb hcb;refine eY Z ?_;intro aw h4 hI X hx hy hrx hry hdb hcb;refine C1 Pn (C1 Pg (C1 (Pl hdb) (C1 Pa (cT (Am ?_)))));rotate_left
 by_cases hrange2:B.1<0∨(n':Int)≤B.1
 · rw [if_pos hrange2];clear hpm
   focus
    refine eK ?_;refine CP rfl rfl rfl (fun aa=>?_) (fun aa=>?_);refine eK ?_;refine Af rfl rfl ?_;rotate_left;refine eK ?_;refine Af rfl rfl ?_;rotate_left
   · exact StR.same hI.h X
   · exact StR.same hI.h X
 rw [if_neg hrange2];obtain ⟨g',rfl,hq⟩:=hpm (by omega)
 have hxi:A.1.toNat<(st.items c).length:=by omega
 have hyi:B.1.toNat<(st.items c').length:=by omega
 have o:=(hp.ext X).row hxi;have j:=(hq.ext X).row hyi;have HX0:=Lib.hid X;have HI:=Lib.hid hI.h;clear hx hy hrx hry hpl hpm HX HY HC HD hI
 by_cases hcc:c'=c
 · subst hcc
   have hgg:g'=g:=by
    have h1:=(hp.hb.row.at0 rfl).symm.trans (hq.hb.row.at0 rfl);simp only [Option.some.injEq,Value.slice.injEq,Addr.mk.injEq,and_true] at h1
    exact h1.1.symm
   subst hgg
   have e:(st.put c' A.1.toNat ((st.items c').getD B.1.toNat 0)).put c' B.1.toNat ((st.items c').getD A.1.toNat 0)=st.all c' (((st.items c').set A.1.toNat ((st.items c').getD B.1.toNat 0)).set B.1.toNat ((st.items c').getD A.1.toNat 0)):=by
    unfold Stp.put
    rw [F5,if_pos ⟨rfl,hcl⟩]
    unfold Stp.all
    simp
   rw [e];clear e
   have M : ∀v,B.1.toNat<((st.items c').set A.1.toNat v).length:=fun v=>by rw [List.length_set];exact hyi
   have ho:=(hp.ext X).ho;have Hp:=Lib.hid (hp.ext X);have F:=Fr.refl (· = g') b;clear hp hq X
   generalize (st.items c').getD A.1.toNat 0=v0 at *
   generalize (st.items c').getD B.1.toNat 0=v1 at *
   focus
    refine eK ?_;refine FR (fun wz=>Ext b wz) (fun wz=>Fr (fun x=>x=g') b wz) [1,2,11,12,13] [1,2] 11 12 (.free 1 (.free 2 (.pure 0 (.pure 3 (.pure 4 (.pure 5 (.pure 6 (.pure 7 (.pure 8 (.pure 9 (.pure 10 (.put 11 (.tail 12))))))))))))) (fun _ h=>Fr.of_ext h) mixed (by kernel_rfl) (Ac (Ao (Ac Ak))) ?_;intro N E _;have O:(fun wz=>Ext b wz) N:=E;simp only at O;have p:(fun wz=>Fr (fun x=>x=g') b wz) N:=Fr.of_ext E;simp only at p;have u:=h4;have q:=hdb;have r:=hcb;have z:=ho;have d:=o;have f:=j;revert h4 hdb hcb ho F o j;refine eY E ?_;intro ax h4 hdb hcb ho F o j;refine BI ‹_› rfl (Ap rfl) rfl (BI ‹_› rfl (Ap rfl) rfl (Ar ‹_› rfl (Ap rfl) rfl (Ar ‹_› rfl (Ap rfl) rfl (Ar ‹_› rfl (Ap rfl) rfl (Ar ‹_› rfl (A4 Aa rfl rfl rfl rfl (by omega) (by omega)) rfl (Ar ‹_› rfl (Al Aa rfl rfl rfl (fun wz hz=>Row.at0 (Row.ext f hz) rfl)) rfl (Ar ‹_› rfl (Ap rfl) rfl (Ar ‹_› rfl (A6 rfl) rfl (Ar ‹_› rfl (Al Aa rfl rfl rfl (fun wz hz=>Row.at0 (Row.ext d hz) rfl)) rfl (Ar ‹_› rfl (A6 rfl) rfl (Ei rfl (Cp Aa rfl rfl rfl ‹_› hxi) ?_)))))))))))
    refine Cf ?_;rintro _ ay ⟨az,⟨G,a0⟩⟩;have ad:=G.size;replace p:=p.fr G (by omega);clear h4 hdb hcb ho;replace F:=F.fr G (by omega);refine ⟨by assumption,?_⟩;refine Eh rfl (C1 Pi (Br (Cp Aa rfl rfl rfl ‹_› (M _)) (Cf ?_)));rintro _ ae ⟨af,⟨C,ag⟩⟩;have ah:=C.size;replace F:=F.fr C (by omega);refine eK ?_;refine Af rfl rfl ?_;rotate_left
   exact ⟨ρ,κ,rfl,Ro.refl _ _,HI.out.putI Hp.out.hrc Hp.out.hrg Hp.out.hb F ‹_›,(Fr.of_ext HX0.out).fr F (fun k hk=>Or.inl (by rw [show k=g' from hk,Hp.out.hrg];trivial))⟩
 · have e:(st.put c A.1.toNat ((st.items c').getD B.1.toNat 0)).put c' B.1.toNat ((st.items c).getD A.1.toNat 0)=(st.all c ((st.items c).set A.1.toNat ((st.items c').getD B.1.toNat 0))).all c' ((st.items c').set B.1.toNat ((st.items c).getD A.1.toNat 0)):=by
    unfold Stp.put
    rw [F5,if_neg (fun h=>hcc h.1)]
   rw [e];clear e;have H:=hp.ext X;have I:=hq.ext X;have hgr:=hp.hrg;have hgr':=hq.hrg
   have hne:g'≠g:=fun e=>by rw [e,hgr] at hgr';simp at hgr';exact hcc hgr'.symm
   have ho:=H.ho;have ho':=I.ho;have Hp:=Lib.hid H;have Hq:=Lib.hid I;have F:=Fr.refl (fun k=>k=g∨k=g') b;clear hp hq X H I
   generalize (st.items c).getD A.1.toNat 0=v0 at *
   generalize (st.items c').getD B.1.toNat 0=v1 at *
   focus
    refine eK ?_;refine FR (fun wz=>Ext b wz) (fun wz=>Fr (fun x=>x=g) b wz) [1,2,11,12,13] [1,2] 11 12 (.free 1 (.free 2 (.pure 0 (.pure 3 (.pure 4 (.pure 5 (.pure 6 (.pure 7 (.pure 8 (.pure 9 (.pure 10 (.put 11 (.tail 12))))))))))))) (fun _ h=>Fr.of_ext h) mixed (by kernel_rfl) (Ac (Ao (Ac Ak))) ?_;intro Q J _;have D:(fun wz=>Ext b wz) Q:=J;simp only at D;have l:(fun wz=>Fr (fun x=>x=g) b wz) Q:=Fr.of_ext J;simp only at l;have u:=h4;have r:=hcb;have q:=hdb;have z:=ho;have L:=ho';have d:=o;have f:=j;revert h4 hcb hdb ho ho' F o j;refine eY J ?_;intro a1 h4 hcb hdb ho ho' F o j;refine BI ‹_› rfl (Ap rfl) rfl (BI ‹_› rfl (Ap rfl) rfl (Ar ‹_› rfl (Ap rfl) rfl (Ar ‹_› rfl (Ap rfl) rfl (Ar ‹_› rfl (Ap rfl) rfl (Ar ‹_› rfl (A4 Aa rfl rfl rfl rfl (by omega) (by omega)) rfl (Ar ‹_› rfl (Al Aa rfl rfl rfl (fun wz hz=>Row.at0 (Row.ext f hz) rfl)) rfl (Ar ‹_› rfl (Ap rfl) rfl (Ar ‹_› rfl (A6 rfl) rfl (Ar ‹_› rfl (Al Aa rfl rfl rfl (fun wz hz=>Row.at0 (Row.ext d hz) rfl)) rfl (Ar ‹_› rfl (A6 rfl) rfl (Ei rfl (Cp Aa rfl rfl rfl ‹_› hxi) ?_)))))))))))
    refine Cf ?_;rintro _ a2 ⟨R,⟨s,a3⟩⟩;have ak:=s.size;replace l:=l.fr s (by omega);clear h4 hcb hdb ho;replace ho':=OwnI.fr ho' s (fun k hk hS=>by (obtain rfl:=Option.some.inj (show some g'=some k from hk);exact hne hS));replace F:=F.fr s (by omega);replace j:=j.fr s (by omega);refine ⟨by assumption,?_⟩;clear D u r q z L d f l;refine Eh rfl (C1 Pi (Br (Cp Aa rfl rfl rfl ‹_› hyi) (Cf ?_)));rintro _ al ⟨am,⟨t,an⟩⟩;have ao:=t.size;replace R:=OwnI.fr R t (fun k hk hS=>by (obtain rfl:=Option.some.inj (show some g=some k from hk);exact hne hS.symm));clear ho';replace F:=Fr.fr F t (fun k hk=>Or.inl (Or.inr hk));refine eK ?_;refine Af rfl rfl ?_;rotate_left
   have hrc:=Hp.out.hrc;have hrc':=Hq.out.hrc
   have ab:=Hp.out.hb.fr F (fun e=>by
    rcases e with e|e
    · rw [e,hgr] at hrc
      cases hrc
    · rw [e,hgr'] at hrc
      cases hrc)
   have ac:=Hq.out.hb.fr F (fun e=>by
    rcases e with e|e
    · rw [e,hgr] at hrc'
      cases hrc'
    · rw [e,hgr'] at hrc'
      cases hrc')
   exact ⟨ρ,κ,rfl,Ro.refl _ _,HI.out.set2 (Ne.symm hcc) (F.weaken (fun k hk=>by rcases hk with rfl|rfl;exact Or.inl (Or.inr hgr);exact Or.inr (Or.inr hgr'))) (Ro.refl _ _) (HI.out.fresh.mv F) ⟨hrc,_,ab,by assumption,fun k hk=>by obtain rfl:=Option.some.inj (show some g=some k from hk);exact hgr⟩ ⟨hrc',_,ac,by assumption,fun k hk=>by obtain rfl:=Option.some.inj (show some g'=some k from hk);exact hgr'⟩,
    (Fr.of_ext HX0.out).fr F (fun k hk=>Or.inl (by rcases hk with rfl|rfl;rw [hgr];trivial;rw [hgr'];trivial))⟩
theorem P0 (hw:st.WF K m) (hm:m≤1000000) {k:Int} {s:List UInt8} (hk:(44≤k∧k≤49)) {x:Nd} (hxp:x.isPlace=true) (hxw:x.wf) (hxb:x.bad st.cur.vars=0) (hsb:(k=44∨k=45)→Ff st.cur.vars s 3=0) (a:Option Addr) (c0:Nat) (w:World) (hs:rowSits S w [x] a) (h:StoreAt ρ κ w sb st) :
 Calls prog 160 #[.pointer (some ⟨sb,0,none⟩),.agg #[.int .u8 k,.int .i64 0,str s,.slice a 1 c0]] w (StR ρ sb (st.exec k s [x]).2 (st.exec k s [x]).1 w):=by
 obtain ⟨i,c,hi,hc,hcd,hlk,hcl,yk,hyk,N⟩:=G3 hw hxp hxb
 have e:st.exec k s [x]=if (BA st.look x).2≠0 then ((BA st.look x).2,st) else if (BA st.look x).1<0∨((st.items c).length:Int)≤(BA st.look x).1 then (12,st) else if k=44∨k=45 then st.move k c (BA st.look x).1.toNat (st.cellD s) else st.transfer k c (BA st.look x).1.toNat:=by
  unfold Stp.exec
  simp only [List.getD_cons_zero,if_neg (show ¬k=43 by omega),if_neg (show ¬(40≤k∧k≤42) by omega),hcd]
  simp
 rw [e];clear e;have hI:=EB h;have HX:=Lib.hid (fun xa xc w1 h1 h2=>IJ (by kernel_rfl) (EQ (sb:=sb) (ρ:=ρ) (κ:=κ) hw hm) x hxw hxp (· < w.heap.size) xa xc w1 h1 h2);have HC:=Lib.hid (fun w1 h=>KC (ρ:=ρ) (κ:=κ) (sb:=sb) hw hm x.name hi w1 h);rw [hcd] at HC;obtain ⟨kb,ko,xa,xc,rfl,-,hrx,hx⟩:=Se hs;replace hx:=BP _ _ hx;obtain ⟨hrc,vi,hcb,hit⟩:=h.cells _ _ (Ez hcl);obtain ⟨ai,ci,rfl⟩:=hit.1.shape;have hln:=hw.look_le hlk
 have hpl:=fun hn=>IK hrc hcb hit hn
 have X:=Ext.refl w;clear h hs hit;obtain ⟨xk,xn,xs,xl⟩:=x;simp only [Nd.name] at HC hi hcd hlk;replace hrx:Row w ⟨kb,ko+0*4,none⟩ [.int .u8 xk,.int .i64 xn,str xs,.slice xa xl.length xc]:=hrx
 generalize hA:BA st.look (.mk xk xn xs xl)=A at *
 generalize hn:(st.items c).length=n at *
 refine Ad func160 ntmps160 rfl rfl ?_
 focus
  refine cS (eB [_,_,_,_] ?_);intro b1 w2 h4 x5 p6 z7;revert hI X hx hrx hcb;refine eE x5 ?_;intro hI X hx hrx hcb;refine eK ?_;refine C7 [_,_,_,_] Aa rfl rfl rfl hrx rfl rfl rfl (C1 Mv (C1 (Eu rfl rfl) (cC rfl (HX.out _ _ _ ‹_› ‹_›) ?_)));rintro _ w9 ⟨⟨⟩,x8⟩;revert h4 hI X hx hrx hcb;refine eY x8 ?_;intro ac h4 hI X hx hrx hcb;refine eK ?_;refine BS rfl (fun G=>?_) (fun G=>?_);refine eK ?_;refine Af rfl rfl ?_;rotate_left;refine eK ?_;refine C1 (Pw hrx) (cC rfl (HC.out _ (Keep.h ‹_›)) ?_);rintro _ l ⟨⟨⟩,H⟩;revert h4 hI X hx hrx hcb;refine eY H ?_;intro ad h4 hI X hx hrx hcb;refine C1 Pn (C1 Pg (C1 (Pl hcb) (C1 Pa (cT (Am ?_)))));rotate_left
 · rw [if_pos ‹_›]
   exact StR.same hI.h X
 rw [if_neg (fun h=>h ‹_›)]
 by_cases hrange:A.1<0∨(n:Int)≤A.1
 · rw [if_pos hrange];clear hpl
   focus
    refine eK ?_;refine CP rfl rfl rfl (fun I=>?_) (fun I=>?_);refine eK ?_;refine Af rfl rfl ?_;rotate_left;refine eK ?_;refine Af rfl rfl ?_;rotate_left
   · exact StR.same hI.h X
   · exact StR.same hI.h X
 rw [if_neg hrange];obtain ⟨g,rfl,hp⟩:=hpl (by omega);replace hp:=hp.ext X
 have hxi:A.1.toNat<(st.items c).length:=by omega
 by_cases o:k=44∨k=45
 · rw [if_pos o];obtain ⟨i2,d,yd,e1,e2,e3,e4,e5,e6,e7,e8⟩:=hw.use (hsb o)
   have v:c≠d:=by
    rintro rfl;rw [hyk] at e6;obtain rfl:=Option.some.inj e6
    omega
   have hdl:(st.items d).length≤1000:=by rcases e8 with ⟨h,-⟩|⟨h,-⟩|⟨-,h⟩<;>omega
   have HD:=Lib.hid (fun w1 h=>KC (ρ:=ρ) (κ:=κ) (sb:=sb) hw hm s e1 w1 h);rw [e3] at HD ⊢;have HM:=Lib.hid (fun w1 h hp=>Vs (ρ:=ρ) (κ:=κ) (sb:=sb) (g:=g) (n:=n) (cap:=ci) hw e5 v hdl hxi k o w1 h hp);have F:Fr (fun k=>Kk (ρ k)) w _:=Fr.of_ext X;clear hx hrx e4 e6 e7 e8 e1 e2 hlk X
   generalize st.move k c A.1.toNat d=r at *
   focus
    refine eK ?_;refine AO rfl (fun J=>?_) (fun J=>?_);refine eK ?_;refine Ax (fun wz=>Ext l wz) 7 (.pure 0 (.pure 1 (.pure 2 (.pure 3 (.pure 4 (.pure 5 (.fork 6 .tail .none))))))) mixed (by kernel_rfl) (Ac (Ao (Ac Ak))) ?_;intro L y _;have f:(fun wz=>Ext l wz) L:=y;simp only at f;have j:=h4;have z:=hI;have u:=hcb;have B:=hp;revert h4 hI hcb hp F;refine eY y ?_;intro ae h4 hI hcb hp F;refine ⟨f,?_⟩;refine Tq rfl Pg (Tq rfl (Db j) (Tq rfl Mv (Tq rfl Mv (Tq rfl Pf (Tq rfl (Db j) ?_)))));refine At rfl (Av (by kernel_rfl) rfl (HD.out _ (Keep.h ‹_›)) (fun _ _ h=>⟨_,h.1⟩)) rfl ?_ (fun _ h=>h) As;rintro _ af ⟨⟨⟩,M⟩;revert f h4 hI hcb hp F;refine eY M ?_;intro ag f h4 hI hcb hp F;refine ⟨f,?_⟩;refine Az rfl (eQ rfl (HM.out _ (Keep.h ‹_›) ‹_›) ?_);rintro _ O ⟨ρ'b10,⟨κ'b11,⟨⟨⟩,⟨Q,⟨R,p⟩⟩⟩⟩⟩;have T:=p.size;clear h4 hcb hp;replace F:=Fr.fr F p (fun k hk=>Or.inl hk);refine eK ?_;refine Af rfl rfl ?_;rotate_left;refine eK ?_;refine Ax (fun wz=>Ext l wz) 7 (.pure 0 (.pure 1 (.pure 2 (.pure 3 (.pure 4 (.pure 5 (.fork 6 .tail .none))))))) mixed (by kernel_rfl) (Ac (Ao (Ac Ak))) ?_;intro C q _
    have b:(fun wz=>Ext l wz) C:=q;simp only at b;have j:=h4;have z:=hI;have u:=hcb;have B:=hp;revert h4 hI hcb hp F;refine eY q ?_;intro U h4 hI hcb hp F;refine ⟨b,?_⟩;refine Tq rfl Pg (Tq rfl (Db j) (Tq rfl Mv (Tq rfl Mv (Tq rfl Pf (Tq rfl (Db j) ?_)))));refine At rfl (Av (by kernel_rfl) rfl (HD.out _ (Keep.h ‹_›)) (fun _ _ h=>⟨_,h.1⟩)) rfl ?_ (fun _ h=>h) As;rintro _ V ⟨⟨⟩,D⟩;revert b h4 hI hcb hp F;refine eY D ?_;intro W b h4 hI hcb hp F;refine ⟨b,?_⟩;refine Az rfl (eQ rfl (HM.out _ (Keep.h ‹_›) ‹_›) ?_);rintro _ Y ⟨ρ'b25,⟨κ'b26,⟨⟨⟩,⟨Z,⟨aa,t⟩⟩⟩⟩⟩;have ab:=t.size;clear h4 hcb hp;replace F:=Fr.fr F t (fun k hk=>Or.inl hk);refine eK ?_;refine Af rfl rfl ?_;rotate_left
   · exact ⟨_,_,rfl,Ro.low ‹_› (by omega),by assumption,F⟩
   · exact ⟨_,_,rfl,Ro.low ‹_› (by omega),by assumption,F⟩
 · rw [if_neg o]
   have HT : ∀w1,StoreAt ρ κ w1 sb st→PlaceAt ρ κ w1 c g n ci (st.items c)→Calls prog 174 #[.pointer (some ⟨sb,0,none⟩),.int .u8 k,.pointer (some ⟨g,0+A.1.toNat*1,none⟩)] w1 (StR ρ sb (st.transfer k c A.1.toNat).2 (st.transfer k c A.1.toNat).1 w1):=fun w1 h hp=>by
    rcases (show k=46∨k=47∨k=48∨k=49 by omega) with rfl|rfl|rfl|rfl
    · exact SH hxi w1 h hp
    · exact SJ hxi w1 h hp
    · exact SK hxi w1 h hp
    · exact SI hxi w1 h hp
   replace HT:=Lib.hid HT;have F:Fr (fun k=>Kk (ρ k)) w _:=Fr.of_ext X;clear hx hrx hlk X
   generalize st.transfer k c A.1.toNat=r at *
   focus
    refine eK ?_;refine eQ rfl (HT.out _ (Keep.h ‹_›) ‹_›) ?_;rintro _ ah ⟨ρ'c1,⟨κ'c2,⟨⟨⟩,⟨aj,⟨ak,E⟩⟩⟩⟩⟩;have al:=E.size;clear h4 hcb hp;replace F:=Fr.fr F E (fun k hk=>Or.inl hk);refine eK ?_;refine Af rfl rfl ?_;rotate_left
   exact ⟨_,_,rfl,Ro.low ‹_› (by omega),by assumption,F⟩
end
section
variable {ρ ρ':Nat→Rl} {κ:Nat→Nat} {K:List (Int×Int)} {m sb:Nat} {st st':Stp} {w w' w1:World} {S:Nat→Prop}
theorem O4 {k:Int} (h:40≤k∧k≤49):40≤BN k∧BN k≤49:=by
 unfold BN
 rcases (show k=40∨k=41∨k=42∨k=43∨k=44∨k=45∨k=46∨k=47∨k=48∨k=49 by omega) with rfl|rfl|rfl|rfl|rfl|rfl|rfl|rfl|rfl|rfl<;>decide
theorem Rr {k n:Int} {s:List UInt8} {l:List Nd} (hk:40≤k∧k≤49) (h:(Nd.mk k n s l).isStmt=true):(Nd.mk (BN k) n s l).isStmt=true:=by
 unfold Nd.isStmt at h ⊢
 rcases (show k=40∨k=41∨k=42∨k=43∨k=44∨k=45∨k=46∨k=47∨k=48∨k=49 by omega) with rfl|rfl|rfl|rfl|rfl|rfl|rfl|rfl|rfl|rfl<;>simpa [BN] using h
theorem Vt (hw:st.WF K m) (hm:m≤1000000) {k n:Int} {s:List UInt8} {l:List Nd} (hk:40≤k∧k≤49) (hst:(Nd.mk k n s l).isStmt=true) (hwf:(Nd.mk k n s l).wf) (hb:(Nd.mk k n s l).bad st.cur.vars=0) (a:Option Addr) (c0:Nat) (w:World) (hs:rowSits S w l a) (h:StoreAt ρ κ w sb st) :
 Calls prog 160 #[.pointer (some ⟨sb,0,none⟩),.agg #[.int .u8 k,.int .i64 n,str s,.slice a l.length c0]] w (StR ρ sb (st.exec k s l).2 (st.exec k s l).1 w):=by
 have hu:=Mz hb;obtain ⟨-,-,-,-,-,-,hwl⟩:=hwf
 cases Dc hst with
 | upd h1 hx hy=>
  obtain ⟨hwx,hwy,-⟩:=hwl
  exact Ut hw hm (by omega) hx hy hwx hwy (D8 hu.2).1 a c0 w hs h
 | swap hx hy=>
  obtain ⟨hwx,hwy,-⟩:=hwl
  exact Uu hw hm hx hy hwx hwy (D8 hu.2).1 (D8 (D8 hu.2).2).1 a c0 w hs h
 | stack h1 hn hx=>
  obtain ⟨hwx,-⟩:=hwl
  exact P0 hw hm (by omega) hx hwx (D8 hu.2).1 (fun _=>by
   have:=hu.1
   have e:C2 k=3:=by unfold C2;rcases h1 with rfl|rfl<;>decide
   rw [e] at this
   exact this (by decide)) a c0 w hs h
 | tape h1 hx=>
  obtain ⟨hwx,-⟩:=hwl
  exact P0 hw hm (by omega) hx hwx (D8 hu.2).1 (fun h=>by omega) a c0 w hs h
 | call h1=>omega
 | branch h1=>omega
 | local_=>omega
 | lstack=>omega
theorem V0 (hw:st.WF K m) (hm:m≤1000000) {k n:Int} {s:List UInt8} {l:List Nd} (hk:(40≤k∧k≤49)∨k=56) (hst:(Nd.mk k n s l).isStmt=true) (hwf:(Nd.mk k n s l).wf) (hz:(Nd.mk k n s l).size≤1000000) (a:Option Addr) (c0:Nat) (w:World) (hs:rowSits S w l a) (h:StoreAt ρ κ w sb st) :
 Calls prog 135 #[.pointer (some ⟨sb,0,none⟩),.agg #[.int .u8 k,.int .i64 n,str s,.slice a l.length c0]] w (StR ρ sb (st.run1 k n s l).2 (st.run1 k n s l).1 w):=by
 have hE:=Ng (· < w.heap.size) (.mk k n s l) hwf
 unfold El at hE
 rw [hst] at hE;replace hE:=Lib.hid (fun w1 hs=>hE a c0 w1 hs);simp only [Nd.val,Nd.sits] at hE;have b:=Cy _ _ hs;have X:=Ext.refl w;have hI:=EB h;have hnc:=hw.nc;have hcm:=hw.curm
 rcases hk with hk|rfl
 · have e:st.run1 k n s l=if (Nd.mk k n s l).bad st.cur.vars≠0 then ((Nd.mk k n s l).bad st.cur.vars,st) else st.exec k s l:=by unfold Stp.run1;rw [if_neg (by omega)]
   rw [e];clear e;obtain ⟨fb,fo,pre,post,T,vv,vc,hcp,-,hwin,hf,-⟩:=h.open;obtain ⟨av,cv,rfl,hvs⟩:=Gu (S:=fun _=>True) hf.v.1 (fun _ _=>trivial);have hrow:=hwin.blk;have HC:=Lib.hid (fun w1 h=>Ey fb fo st.calls.length sb (by omega) w1 h);have HF:=Lib.hid (fun w1 h1 h2 h3=>Uk st.cur.vars (by omega) av cv vc (.int .i64 st.cur.locals) fb fo _ (.mk k n s l) (· < w.heap.size) (fun _=>True) a c0 w1 (Nat.lt_succ_self _) (by omega) h1 h2 h3);simp only [Nd.val,Nd.sits] at HF
   have HX:(Nd.mk k n s l).bad st.cur.vars=0 → ∀w1,rowSits (· < w.heap.size) w1 l a→StoreAt ρ κ w1 sb st→Calls prog 160 #[.pointer (some ⟨sb,0,none⟩),.agg #[.int .u8 k,.int .i64 n,str s,.slice a l.length c0]] w1 (StR ρ sb (st.exec k s l).2 (st.exec k s l).1 w1):=fun hb w1 h1 h2=>Vt hw hm hk hst hwf hb a c0 w1 h1 h2
   replace HX:=Lib.hid HX;have HB:=Lib.hid (fun w1=>Ul k hk w1);have F:Fr (fun k=>Kk (ρ k)) w w:=Fr.refl _ w;clear h hf hwin hs
   generalize (Nd.mk k n s l).bad st.cur.vars=bd at *
   generalize st.exec k s l=r at *
   generalize st.cur.vars=vs at *
   refine Ad func135 ntmps135 rfl rfl ?_
   focus
    refine cS (eB [_,_,_,_] ?_);intro b1 w2 h4 x5 p6 z7;revert b X hI hcp F hvs hrow;refine eE x5 ?_;intro b X hI hcp F hvs hrow;refine eK ?_;refine C1 (A8 Aa rfl rfl) ?_;refine eK ?_;refine Ae [_,_,_,_] Aa rfl rfl rfl h4 rfl rfl rfl (cC rfl (hE.out _ ‹_›) ?_);rintro _ w9 ⟨⟨⟩,x8⟩;revert h4 b X hI hcp F hvs hrow;refine eY x8 ?_;intro G h4 b X hI hcp F hvs hrow;refine eK ?_;refine cC rfl (HB.out _) ?_;rintro _ g ⟨⟨⟩,q⟩;revert h4 b X hI hcp F hvs hrow;refine eY q ?_;intro H h4 b X hI hcp F hvs hrow;refine eK ?_;refine Ax (fun wz=>Ext g wz) 3 (.pure 0 (.pure 2 (.fork 1 .tail .none))) mixed (by kernel_rfl) (Ac (Ac Ak)) ?_;intro t i _;have c:(fun wz=>Ext g wz) t:=i;simp only at c;have j:=h4;have u:=b;have D:=hI;have x:=hcp;have y:=hvs;have p:=hrow;revert h4 b X hI hcp F hvs hrow;refine eY i ?_;intro I h4 b X hI hcp F hvs hrow;refine ⟨c,?_⟩;refine Tq rfl Mv (Tq rfl (Aw [_,_,_,_] Aa rfl rfl rfl (fun wz hz=>(Blk.ext j hz)) rfl rfl) ?_);refine At rfl (Av (by kernel_rfl) rfl (HC.out _ ‹_›) (fun _ _ h=>⟨_,h.1⟩)) rfl ?_ (fun _ h=>h) As;rintro _ J ⟨⟨⟩,o⟩;have L:=o.size;revert c h4 b X hI hcp F hvs hrow;refine eE o ?_
    intro c h4 b X hI hcp F hvs hrow;refine ⟨c,?_⟩;refine Az rfl (cC rfl (HF.out _ ‹_› ‹_› ‹_›) ?_);rintro _ M ⟨⟨⟩,z⟩;revert h4 b X hI hcp F hvs hrow;refine eY z ?_;intro N h4 b X hI hcp F hvs hrow;refine eK ?_;refine BS rfl (fun A=>?_) (fun A=>?_);refine eK ?_;refine Af rfl rfl ?_;rotate_left;refine eK ?_;refine Ae [_,_,_,_] Aa rfl rfl rfl h4 rfl rfl rfl (eQ rfl (HX.out ‹_› _ ‹_› (Keep.h ‹_›)) ?_);rintro _ O ⟨ρ'26,⟨κ'27,⟨⟨⟩,⟨Q,⟨R,d⟩⟩⟩⟩⟩;have U:=d.size;replace F:=Fr.fr F d (fun k hk=>Or.inl hk);clear hvs hrow d;refine eK ?_;refine Af rfl rfl ?_;rotate_left
   · rw [if_pos ‹_›]
     exact StR.same hI.h X
   · rw [if_neg (fun h=>h ‹_›)]
     exact ⟨_,_,rfl,Ro.low ‹_› (by omega),by assumption,F⟩
 · have e:st.run1 56 n s l=(9,st):=by unfold Stp.run1;rw [if_pos rfl]
   rw [e];clear hs;refine Ad func135 ntmps135 rfl rfl ?_
   focus
    refine cS (eB [_,_,_,_] ?_);intro V W f B Y Z;revert h b X hI;refine eE B ?_;intro h b X hI;refine eK ?_;refine C1 (A8 Aa rfl rfl) ?_;refine eK ?_;refine Ae [_,_,_,_] Aa rfl rfl rfl f rfl rfl rfl (cC rfl (hE.out _ ‹_›) ?_);rintro _ aa ⟨⟨⟩,C⟩;revert f h b X hI;refine eY C ?_;intro E f h b X hI;refine eK ?_;refine Af rfl rfl ?_;rotate_left
   exact StR.same ‹_› X
theorem Vu (hw:st.WF K m) (hm:m≤1000000) {k n:Int} {s:List UInt8} {l:List Nd} (hk:(40≤k∧k≤49)∨k=56) (hst:(Nd.mk k n s l).isStmt=true) (hwf:(Nd.mk k n s l).wf) (hz:(Nd.mk k n s l).size≤1000000) (a:Option Addr) (c0:Nat) (w:World) (hs:rowSits S w l a) (h:StoreAt ρ κ w sb st) :
 Calls prog 134 #[.pointer (some ⟨sb,0,none⟩),.agg #[.int .u8 k,.int .i64 n,str s,.slice a l.length c0]] w (StR ρ sb (st.run1 (BN k) n s l).2 (st.run1 (BN k) n s l).1 w):=by
 have b:=Cy _ _ hs;have HI:=Lib.hid (Rg k (by omega))
 have j:(40≤BN k∧BN k≤49)∨BN k=56:=by
  rcases hk with h|rfl
  · exact Or.inl (O4 h)
  · exact Or.inr rfl
 have c:(Nd.mk (BN k) n s l).isStmt=true:=by
  rcases hk with h|rfl
  · exact Rr h hst
  · exact hst
 have d:(Nd.mk (BN k) n s l).wf:=by
  obtain ⟨-,-,h1⟩:=hwf
  exact ⟨by omega,by omega,h1⟩
 have HD:=Lib.hid (fun w1 h1 h2=>V0 (ρ:=ρ) (κ:=κ) (sb:=sb) hw hm j c d hz a c0 w1 (S:=(· < w.heap.size)) h1 h2);have hfr:=h.fresh
 have hn : ∀k,w.heap.size≤k → ¬Kk (ρ k):=fun k hk e=>by rw [hfr k hk] at e;exact e
 have HFr:=Lib.hid hfr;have F:Fr (fun k=>Kk (ρ k)) w w:=Fr.refl _ w
 generalize st.run1 (BN k) n s l=r at *
 generalize BN k=k2 at *
 clear hs hfr;refine Ad func134 ntmps134 rfl rfl ?_
 focus
  refine cS (eB [_,_,_,_] ?_);intro b1 w2 h4 x5 p6 z7;revert h b F;refine eE x5 ?_;intro h b F;refine eK ?_;refine cC rfl (HI.out _) ?_;rintro _ w9 ⟨⟨⟩,x8⟩;revert h4 h b F;refine eY x8 ?_;intro o h4 h b F;refine C1 Pg (eV [_] [_,_,_,_] h4 ?_);intro p f g q;replace h:=StoreAt.fr h g (fun k hk=>hn k (by have:k=_:=hk;omega));revert b F;refine eF g ?_;intro b F;refine eK ?_;refine Ae [_,_,_,_] Aa rfl rfl rfl f rfl rfl rfl (eQ rfl (HD.out _ ‹_› ‹_›) ?_);rintro _ t ⟨ρ'16,⟨κ'17,⟨⟨⟩,⟨u,⟨v,i⟩⟩⟩⟩⟩;have x:=i.size;clear f h b;replace F:=Fr.fr F i (fun k hk=>Or.inl hk);refine eK ?_;refine Af rfl rfl ?_;rotate_left
 exact ⟨_,_,rfl,Ro.low ‹_› (by omega),by assumption,F⟩
end
def UZ (S:Nat→Prop) (w:World) (b o:Nat) (p:PD):Prop:= ∃pa pc ba bc,Row w ⟨b,o,none⟩ (p.cells pa pc ba bc)∧VDs S w p.params pa∧p.body.sits S w ba∧p.params.length≤pc
def PDsC (S:Nat→Prop) (w:World) (l:List PD) (a:Option Addr):Prop:=Arr S 6 (UZ S) w l a
theorem PDsC.pds {S:Nat→Prop} {w:World} {l:List PD} {a:Option Addr} (h:PDsC S w l a):PDs S w l a:=h.mono (fun _ h=>h) (fun _ _ _ _ _ ⟨pa,pc,ba,bc,h1,h2,h3,_⟩=>⟨pa,pc,ba,bc,h1,h2,h3⟩)
theorem PDsC.ext {S:Nat→Prop} {w w':World} {l:List PD} {a:Option Addr} (h:PDsC S w l a) (x:Ext w w'):PDsC S w' l a:=
 h.mono (fun _ h=>h) (fun _ _ _ _ _ ⟨pa,pc,ba,bc,h1,h2,h3,h4⟩=>⟨pa,pc,ba,bc,h1.ext x,h2.ext x,h3.ext x,h4⟩)
instance {S:Nat→Prop} {w w':World} {l:List PD} {a:Option Addr}:LfE w w' (PDsC S w l a) (PDsC S w' l a):=⟨fun x h=>Bk.PDsC.ext h x⟩
theorem PDsC.fr {S T:Nat→Prop} {w w':World} {l:List PD} {a:Option Addr} (h:PDsC S w l a) (x:Fr T w w') (hs : ∀b,S b → ¬T b):PDsC S w' l a:=
 h.mono (fun _ h=>h) (fun b _ _ _ hb ⟨pa,pc,ba,bc,h1,h2,h3,h4⟩=>⟨pa,pc,ba,bc,h1.fr x (hs b hb),h2.fr x hs,h3.fr x hs,h4⟩)
instance {S T:Nat→Prop} {w w':World} {l:List PD} {a:Option Addr}:LfF T w w' (PDsC S w l a) (∀b,S b → ¬T b) (PDsC S w' l a):=⟨fun x s h=>Bk.PDsC.fr h x s⟩
theorem PDsC.get {S:Nat→Prop} {w:World} {l:List PD} {a:Option Addr} (h:PDsC S w l a) (hl:l≠[]) : ∃b o,a=some ⟨b,o,none⟩∧S b ∧ ∀i p,l[i]? = some p→UZ S w b (o+i*6) p:=by
 rcases h with h|⟨b,o,h1,h2,h3⟩
 · exact absurd h hl
 · exact ⟨b,o,h1,h2,fun i v hi=>h3 i v hi⟩
theorem PDsC.ltA {S:Nat→Prop} {w:World} {l:List PD} {a:Option Addr} (h:PDsC S w l a):PDsC (· < w.heap.size) w l a:=by
 rcases h with h|⟨b,o,h1,h2,h3⟩
 · exact Or.inl h
 · cases l with
   | nil=>exact Or.inl rfl
   | cons p r=>
    obtain ⟨pa,pc,ba,bc,r0,-⟩:=h3 0 p rfl;refine Or.inr ⟨b,o,h1,Ca (r0.at0 rfl),fun i v hi=>?_⟩;obtain ⟨pa,pc,ba,bc,k1,k2,k3,k4⟩:=h3 i v hi
    exact ⟨pa,pc,ba,bc,k1,k2.lt2.wide (fun _ h=>h.2),BP _ _ k3,k4⟩
def GP:Shape PD where
 sz:=6
 rep:=fun w S p cs=> ∃pa pc ba bc,cs=p.cells pa pc ba bc∧VDs S w p.params pa∧p.body.sits S w ba∧p.params.length≤pc
 len:=fun ⟨_,_,_,_,h,_⟩=>by rw [h];rfl
 one:=fun ⟨_,_,_,_,h,_⟩=>by rw [h];rfl
 mono:=fun ⟨pa,pc,ba,bc,h,h1,h2,h3⟩ hS hc=>⟨pa,pc,ba,bc,h,h1.move hS hc,Nd.sits_mono hS hc _ ba h2,h3⟩
 lt:=fun ⟨pa,pc,ba,bc,h,h1,h2,h3⟩=>⟨pa,pc,ba,bc,h,h1.lt2,EN _ ba h2,h3⟩
theorem PDsC.wide {S S':Nat→Prop} {w:World} {l:List PD} {a:Option Addr} (h:PDsC S w l a) (hS : ∀b,S b→S' b):PDsC S' w l a:=
 h.mono hS (fun _ _ _ _ _ ⟨pa,pc,ba,bc,h1,h2,h3,h4⟩=>⟨pa,pc,ba,bc,h1,h2.wide hS,Nd.sits.wide h3 hS,h4⟩)
theorem OwnL.pdsC {w:World} {B e:Nat} {a:Option Addr} {len cap:Nat} {xs:List PD} {S:Nat→Prop} (h:OwnL GP w B e (.slice a len cap) xs) (hS : ∀b,B≤b→S b):PDsC S w xs a:=by
 by_cases hx:xs=[]
 · exact Or.inl hx
 · obtain ⟨g,cap',hv,hg,hall⟩:=h.rows hx
   simp only [Value.slice.injEq] at hv;obtain ⟨rfl,-,-⟩:=hv;refine Or.inr ⟨g,0,rfl,hS g hg,fun i x hi=>?_⟩;obtain ⟨cs,hr,pa,pc,ba,bc,rfl,h1,h2,h3⟩:=hall i x hi
   exact ⟨pa,pc,ba,bc,by simpa [GP] using hr,h1.wide (fun b hb=>hS b hb.1),h2.wide (fun b hb=>hS b hb.1),h3⟩
section
variable {P:Program} {n:Nat} {l:Sl} {w:World} {ty:TypeId} {Q:Exit→Act→World→Prop} {ops:Array Oper} {rest:List Oper} {pos:String} {after:Array Edge} {B:List PanicEntry→World→Prop}
theorem KM {f:FuncId} {xs:List Operand} {tys:Array TypeId} {vs:List Value} {d:Option Nat} (hb:CV P f=true) (hxs:evs l xs=some vs) (C:Calls P f vs.toArray w (Qs (fun _ _=>False) B)) (kp : ∀c w1,B c w1→QW n Q (.panic c) l w1) :
 LW P n ops Q (⟨d,.call ⟨.value (.func f),xs.toArray,tys⟩,ty,pos,after,none⟩::rest) l w:=by
 unfold LW
 unfold QW at kp
 intro a ha
 unfold wpList
 rw [if_pos (Bv rfl)]
 left
 have hd:=AP (n:=n) (tys:=tys) (ty:=ty) hb hxs C (fun _ _ h=>h.elim)
 unfold Lx at hd
 exact hd a _ _ _ _ _ _ ha (fun v w1 h=>h.elim) (fun c w1 h=>kp c w1 h a ha)
end
theorem KN {P:Program} {n:Nat} {l:Sl} {S:World→Prop} {tab:Tab} {t t' ty sz:Nat} {x y:Operand} {p q:Bool} (T:TabOk P tab) (ht:AL tab t=some (.bool,sz)) (hx:ev l x=some (.bool p)) (hy:ev l y=some (.bool q)):BE P n l S (.binOp .neq t x y t') ty (.bool (decide (p≠q))):=by
 unfold BE
 intro _ w dst pos after g ha _
 have e1:(eqGuard .neq t x y (.bool p) (.bool q)).run P w = .ok () w:=by unfold eqGuard;simp
 have hu:P.underlying t=some .bool:=(T _ _ _ ht).under
 have e2:(Op.equal t (.bool p) (.bool q)).run P w = .ok (p==q) w:=by
  show (Op.equalIn (9999+1) t (.bool p) (.bool q)).run P w=_
  unfold Op.equalIn
  simp [AG hu,Result.andThen]
 simp [execOp,ha.ev hx,ha.ev hy,e1,e2,binOp]
 cases p<;>cases q<;>rfl
def KO (e:Int):List PanicEntry:=[{ v:=.iface 156 (.agg #[.int .i64 e]),recovered:=false }]
structure RC where
 rb:Nat
 sb:Nat
 eb:Nat
 ec:Nat
 g:PG
 va:Option Addr
 vc:Nat
 pa:Option Addr
 pc:Nat
 ma:Option Addr
 mc:Nat
 fuel:Nat
 S:Nat→Prop
def Wa (r:Rl):Prop:=Kk r∨r = .other 0∨r = .other 1
structure RunAt (c:RC) (P:Nat→Prop) (ρ:Nat→Rl) (κ:Nat→Nat) (w:World) (r:Rn):Prop where
 role:ρ c.rb = .other 0
 rolE:ρ c.eb = .other 1
 rem:r.rem≤c.fuel
 blk:Blk w c.rb [.slice c.va c.g.vars.length c.vc,.slice c.pa c.g.procs.length c.pc,.int .u8 c.g.main.kind,.int .i64 c.g.main.num,str c.g.main.name,.slice c.ma c.g.main.kids.length c.mc,.pointer (some ⟨c.sb,0,none⟩),.int .i64 ((c.fuel:Int)-r.rem),.int .i64 c.fuel,.slice (some ⟨c.eb,0,none⟩) c.g.procs.length c.ec]
 ent : ∃es:List Int,es.length=c.g.procs.length∧Blk w c.eb (ints es)
 st:StoreAt ρ κ w c.sb r.st
 wf : ∃K,r.st.WF K (1000+(c.fuel-r.rem))
 procs:PDs c.S w c.g.procs c.pa
 sub : ∀k,c.S k→P k
 off : ∀k,P k → ¬Wa (ρ k)∧k<w.heap.size
section
variable {c:RC} {P P':Nat→Prop} {ρ ρ':Nat→Rl} {κ κ':Nat→Nat} {w w':World} {r:Rn} {T:Nat→Prop}
theorem PDs.frS {S:Nat→Prop} {l:List PD} {a:Option Addr} (h:PDs S w l a) (x:Fr T w w') (hs : ∀b,S b → ¬T b):PDs S w' l a:=
 h.mono (fun _ h=>h) (fun b _ _ _ hb ⟨pa,pc,ba,bc,h1,h2,h3⟩=>⟨pa,pc,ba,bc,h1.fr x (hs b hb),h2.fr x hs,Nd.sits.fr h3 x hs⟩)
theorem RunAt.ext (h:RunAt c P ρ κ w r) (x:Ext w w'):RunAt c P ρ κ w' r:=by
 obtain ⟨h1,h2,h3,h4,⟨es,h5,h6⟩,h7,h8,h9,b,a⟩:=h;have hs:=x.size
 exact ⟨h1,h2,h3,h4.ext x,⟨es,h5,h6.ext x⟩,h7.ext x,h8,h9.ext x,b,fun k hk=>⟨(a k hk).1,by have:=(a k hk).2;omega⟩⟩
instance  : LfE w w' (RunAt c P ρ κ w r) (RunAt c P ρ κ w' r):=⟨fun x h=>Bk.RunAt.ext h x⟩
def Run (c:RC) (P:Nat→Prop) (w:World) (r:Rn):Prop:= ∃ ρ κ,RunAt c P ρ κ w r
theorem Run.ext (h:Run c P w r) (x:Ext w w'):Run c P w' r:=h.imp fun _ ⟨κ,h⟩=>⟨κ,h.ext x⟩
instance  : LfE w w' (Run c P w r) (Run c P w' r):=⟨fun x h=>Bk.Run.ext h x⟩
theorem Run.blk (h:Run c P w r):Blk w c.rb [.slice c.va c.g.vars.length c.vc,.slice c.pa c.g.procs.length c.pc,.int .u8 c.g.main.kind,.int .i64 c.g.main.num,str c.g.main.name,.slice c.ma c.g.main.kids.length c.mc,.pointer (some ⟨c.sb,0,none⟩),.int .i64 ((c.fuel:Int)-r.rem),.int .i64 c.fuel,.slice (some ⟨c.eb,0,none⟩) c.g.procs.length c.ec]:=by
 obtain ⟨_,_,h⟩:=h
 exact h.blk
theorem Run.rem (h:Run c P w r):r.rem≤c.fuel:=by
 obtain ⟨_,_,h⟩:=h
 exact h.rem
def Ch (P:Nat→Prop) (w w':World):Nat→Prop:=fun k=>P k∨(w.heap.size≤k∧k<w'.heap.size)
theorem Run.more (h:Run c P w r) (x:Ext w w'):Run c (Ch P w w') w' r:=by
 obtain ⟨ρ,κ,h⟩:=h;have hs:=x.size;obtain ⟨h1,h2,h3,h4,h5,h6,h7,h8,h9,a⟩:=h.ext x;refine ⟨ρ,κ,h1,h2,h3,h4,h5,h6,h7,h8,fun k hk=>Or.inl (h9 k hk),fun k hk=>?_⟩
 rcases hk with hk|⟨hk,b⟩
 · exact a k hk
 · refine ⟨fun e=>?_,b⟩
   rw [h.st.fresh k hk] at e
   rcases e with e|e|e
   · exact e
   · cases e
   · cases e
theorem Run.less (h:Run c P' w r) (hs : ∀k,c.S k→P k) (hp : ∀k,P k→P' k):Run c P w r:=by
 obtain ⟨ρ,κ,h1,h2,h3,h4,h5,h6,h7,h8,h9,a⟩:=h
 exact ⟨ρ,κ,h1,h2,h3,h4,h5,h6,h7,h8,hs,fun k hk=>a k (hp k hk)⟩
theorem Run.sub (h:Run c P w r) : ∀k,c.S k→P k:=by
 obtain ⟨_,_,h⟩:=h
 exact h.sub
def RunA (c:RC) (P:Nat→Prop) (X:Except Int Rn) (w:World):Ending→World→Prop:=fun e w'=> ∃r,e = .returned (.tuple #[])∧X = .ok r∧Run c P w' r∧Fr (fun k=> ¬P k) w w'
theorem RunA.ret {X:Except Int Rn} {e:Ending} (h:RunA c P X w e w') : ∃v,e = .returned v:=by
 obtain ⟨_,h,-⟩:=h
 exact ⟨_,h⟩
def NX {α:Type} (P:Nat→Prop) (X:Except Int α) (w:World) (ch:List PanicEntry) (w':World):Prop:= ∃er,X = .error er∧ch=KO er∧Fr (fun k=> ¬P k) w w'
def DH (c:RC) (P:Nat→Prop) (X:Except Int Rn) (w:World):Ending→World→Prop:=Qs (RunA c P X w) (NX P X w)
def ValA (c:RC) (P:Nat→Prop) (X:Except Int (Bool×Rn)) (w:World):Ending→World→Prop:=fun e w'=> ∃u r,e = .returned (.bool u)∧X = .ok (u,r)∧Run c P w' r∧Fr (fun k=> ¬P k) w w'
theorem ValA.ret {X:Except Int (Bool×Rn)} {e:Ending} (h:ValA c P X w e w') : ∃v,e = .returned v:=by
 obtain ⟨_,_,h,-⟩:=h
 exact ⟨_,h⟩
def Uv (c:RC) (P:Nat→Prop) (X:Except Int (Bool×Rn)) (w:World):Ending→World→Prop:=Qs (ValA c P X w) (NX P X w)
def ExpA (X:Except Int Int) (w:World):Ending→World→Prop:=fun e w'=> ∃v,e = .returned (.int .i64 v)∧X = .ok v∧Ext w w'
theorem ExpA.ret {X:Except Int Int} {e:Ending} (h:ExpA X w e w') : ∃v,e = .returned v:=by
 obtain ⟨_,h,-⟩:=h
 exact ⟨_,h⟩
def Wb (X:Except Int Int) (w:World) (ch:List PanicEntry) (w':World):Prop:= ∃er,X = .error er∧ch=KO er∧Ext w w'
theorem O5 (e:Int) (he:e≠0) (w:World):Calls prog 152 #[.int .i64 e] w (Qs (fun _ _=>False) (fun ch w'=>ch=KO e∧Ext w w')):=by
 have X:=Ext.refl w;refine Ad func152 ntmps152 rfl rfl ?_
 focus
  refine eK ?_;refine C1 (AC [_] Aa Bj rfl rfl rfl rfl) (C1 (Qt (by kernel_rfl) rfl) (RX rfl (AE ?_)));rotate_left
 exact Or.inr ⟨_,rfl,rfl,X⟩
theorem Stp.WF.mono {K:List (Int×Int)} {m m':Nat} {st:Stp} (h:st.WF K m) (hm:m≤m'):st.WF K m':=⟨h.len,h.base,h.calls,h.cell,h.nc,fun f hf=>Nat.le_trans (h.vb f hf) hm⟩
theorem Run.tick (h:Run c P w r) (hr:0<r.rem) (x:Fr (· = c.rb) w w') (hb:Blk w' c.rb [.slice c.va c.g.vars.length c.vc,.slice c.pa c.g.procs.length c.pc,.int .u8 c.g.main.kind,.int .i64 c.g.main.num,str c.g.main.name,.slice c.ma c.g.main.kids.length c.mc,.pointer (some ⟨c.sb,0,none⟩),.int .i64 ((c.fuel:Int)-r.rem+1),.int .i64 c.fuel,.slice (some ⟨c.eb,0,none⟩) c.g.procs.length c.ec]):Run c P w' ⟨r.st,r.rem-1⟩∧Fr (fun k=> ¬P k) w w':=by
 obtain ⟨ρ,κ,h1,h2,h3,h4,⟨es,h5,h6⟩,h7,⟨K,h8⟩,h9,b,a⟩:=h;have hs:=x.size
 have hP : ∀k,P k → ¬k=c.rb:=fun k hk e=>(a k hk).1 (by rw [e,h1];exact Or.inr (Or.inl rfl))
 refine ⟨⟨ρ,κ,h1,h2,by simp only;omega,?_,⟨es,h5,h6.fr x (fun e=>by rw [show c.eb=c.rb from e,h1] at h2;simp at h2)⟩,h7.fr x (fun k hk e=>by rw [show k=c.rb from hk,h1] at e;exact e),⟨K,h8.mono (by simp only;omega)⟩,h9.frS x (fun k hk e=>hP k (b k hk) e),b,fun k hk=>⟨(a k hk).1,by have:=(a k hk).2;omega⟩⟩,x.weaken (fun k hk e=>hP k e hk)⟩;simp only;rw [show ((c.fuel:Int)-((r.rem-1:Nat):Int))=(c.fuel:Int)-r.rem+1 by omega]
 exact hb
theorem KP (hc:c.fuel≤10000) (w:World) (h:Run c P w r):Calls prog 129 #[.pointer (some ⟨c.rb,0,none⟩)] w (DH c P (Bu r) w):=by
 have X:=Ext.refl w;have hb:=h.blk;have hrem:=h.rem;have HI:=Lib.hid h;clear h
 by_cases h0:r.rem=0
 · have e:Bu r = .error 18:=by unfold Bu;rw [if_pos h0]
   rw [e];rw [h0] at hb;have HF:=Lib.hid (fun w1=>O5 18 (by decide) w1);refine Ad func129 ntmps129 rfl rfl ?_
   focus
    refine eK ?_;refine Ax (fun wz=>Ext w wz) 8 (.pure 0 (.pure 1 (.pure 2 (.pure 3 (.pure 4 (.pure 5 (.pure 6 (.pure 7 .tail)))))))) mixed (by kernel_rfl) (Ac (Ac Ak)) ?_;intro w1 x2 _;have d:(fun wz=>Ext w wz) w1:=x2;simp only at d;have a:=hb;revert X hb;refine eY x2 ?_;intro z4 X hb;refine ⟨d,?_⟩;refine Tq rfl Mv (Tq rfl Pn (Tq rfl Pf (Tq rfl (Db a) (Tq rfl Mv (Tq rfl Pn (Tq rfl Pf (Tq rfl (Db a) ?_)))))));refine Az rfl (C1 V6 (cT (WC (Ah (KM (by kernel_rfl) rfl (HF.out _) ?_)))));intro c5 w6 q7;refine AJ (AE ?_);rotate_left
   exact Or.inr ⟨_,rfl,18,rfl,q7.1,Fr.of_ext (X.trans q7.2)⟩
 · have e:Bu r = .ok ⟨r.st,r.rem-1⟩:=by unfold Bu;rw [if_neg h0]
   rw [e];have F:=Fr.refl (· = c.rb) w;refine Ad func129 ntmps129 rfl rfl ?_
   focus
    refine eK ?_;refine Ax (fun wz=>Ext w wz) 8 (.pure 0 (.pure 1 (.pure 2 (.pure 3 (.pure 4 (.pure 5 (.pure 6 (.pure 7 .tail)))))))) mixed (by kernel_rfl) (Ac (Ac Ak)) ?_;intro g f _;have b:(fun wz=>Ext w wz) g:=f;simp only at b;have a:=hb;revert X hb F;refine eY f ?_;intro j X hb F;refine ⟨b,?_⟩;refine Tq rfl Mv (Tq rfl Pn (Tq rfl Pf (Tq rfl (Db a) (Tq rfl Mv (Tq rfl Pn (Tq rfl Pf (Tq rfl (Db a) ?_)))))));refine Az rfl ?_;refine eK ?_;refine eV [_] [_,_,_,_,_,_,_,_,_,_] hb ?_;intro k l i m;clear hb;replace F:=F.fr i (by omega);refine Aj (Bt rfl ?_);rotate_left
   have h9:=HI.out.tick (by omega) F ‹_›
   exact Or.inl ⟨_,rfl,rfl,h9.1,h9.2⟩
def O6 (e:Int) (w:World):Ending→World→Prop:=Qs (fun en w'=>en = .returned (.tuple #[])∧e=0∧Ext w w') (fun ch w'=>e≠0∧ch=KO e∧Ext w w')
theorem G4 (e:Int) (p:Value) (w:World):Calls prog 130 #[p,.int .i64 e] w (O6 e w):=by
 have X:=Ext.refl w
 by_cases h0:e=0
 · subst h0;refine Ad func130 ntmps130 rfl rfl ?_
   focus
    refine cS (C1 Mv (C1 V2 (cT (U7 (AH (Bt rfl ?_))))));rotate_left
   exact Or.inl ⟨rfl,rfl,X⟩
 · have HF:=Lib.hid (fun w1=>O5 e h0 w1);refine Ad func130 ntmps130 rfl rfl ?_
   focus
    refine cS (C1 Mv (C1 V2 (cT (Wv (Ah (C1 Mv (KM (by kernel_rfl) rfl (HF.out _) ?_)))))));intro b c a;refine AE ?_;rotate_left
   exact Or.inr ⟨_,rfl,h0,a.1,X.trans a.2⟩
theorem KQ {K:List (Int×Int)} {m sb:Nat} {st:Stp} (hw:st.WF K m) (hm:m≤1000000):Jn st.look 166 [.pointer (some ⟨sb,0,none⟩)] (fun w=>StoreAt ρ κ w sb st):=fun s w hI=>Vq hw hm s w hI.h
theorem Vv (hc:c.fuel≤10000) (t:Nd) (hw:t.wf) (hx:t.isExpr=true) (a:Option Addr) (m:Nat) (S:Nat→Prop) (w:World) (hs:t.sits S w a) (h:Run c P w r) :
 Calls prog 165 #[t.val a m,.func (.func 166) #[.pointer (some ⟨c.sb,0,none⟩)] #[]] w fun e w'=>e = .returned (.tuple #[.bool (decide ((Bd r.st.look t).1≠0)),.int .i64 (Bd r.st.look t).2])∧Ext w w':=by
 obtain ⟨ρ,κ,h⟩:=h;obtain ⟨K,hwf⟩:=h.wf
 exact Us (by kernel_rfl) (KQ (ρ:=ρ) (κ:=κ) (sb:=c.sb) hwf (by omega)) t hw hx S a m w hs (EB h.st)
theorem Vw (hc:c.fuel≤10000) (t:Nd) (hw:t.wf) (hx:t.isExpr=true) (a:Option Addr) (m:Nat) (S:Nat→Prop) (w:World) (hs:t.sits S w a) (h:Run c P w r) :
 Calls prog 167 #[t.val a m,.func (.func 166) #[.pointer (some ⟨c.sb,0,none⟩)] #[]] w (EvR (Bd r.st.look t) w):=by
 obtain ⟨ρ,κ,h⟩:=h;obtain ⟨K,hwf⟩:=h.wf
 exact MD (by kernel_rfl) (KQ (ρ:=ρ) (κ:=κ) (sb:=c.sb) hwf (by omega)) t hw hx S a m w hs (EB h.st)
theorem P1 (hc:c.fuel≤10000) (t:Nd) (hw:t.wf) (hx:t.isExpr=true) (a:Option Addr) (m:Nat) (S:Nat→Prop) (w:World) (hs:t.sits S w a) (h:Run c P w r) :
 Calls prog 151 #[.pointer (some ⟨c.rb,0,none⟩),t.val a m] w (Qs (ExpA (Cc t r) w) (Wb (Cc t r) w)):=by
 have X:=Ext.refl w;have b:=BP _ _ hs;have HE:=Lib.hid (fun w1 h1 h2=>Vw (c:=c) (P:=P) (r:=r) hc t hw hx a m (· < w.heap.size) w1 h1 h2);have HC:=Lib.hid (fun e w1=>G4 e (.pointer (some ⟨c.rb,0,none⟩)) w1)
 unfold O6 at HC
 have e1:Cc t r=if (Bd r.st.look t).2≠0 then .error (Bd r.st.look t).2 else .ok (Bd r.st.look t).1:=rfl
 rw [e1];clear hs e1
 generalize Bd r.st.look t=v at *
 obtain ⟨k,n,s,l⟩:=t;refine Ad func151 ntmps151 rfl rfl ?_
 focus
  refine cS (eB [_,_,_,_] ?_);intro b1 w2 h4 x5 p6 z7;revert h X b;refine eE x5 ?_;intro h X b;refine eK ?_;refine Ax (fun wz=>Ext w2 wz) 11 (.pure 0 (.pure 1 (.pure 2 (.pure 3 (.pure 4 (.pure 5 (.fork 6 (.pure 7 (.pure 8 (.pure 9 (.pure 10 .tail)))) .none))))))) mixed (by kernel_rfl) (Ac Ak) ?_;intro w8 x9 _;have d:(fun wz=>Ext w2 wz) w8:=x9;simp only at d;have g:=h4;have i:=h;have j:=b;revert h4 h X b;refine eY x9 ?_;intro q h4 h X b;refine ⟨d,?_⟩;refine Tq rfl (Aw [_,_,_,_] Aa rfl rfl rfl (fun wz hz=>(Blk.ext g hz)) rfl rfl) (Tq rfl Mv (Tq rfl Pn (Tq rfl Pf (Tq rfl (Al Aa rfl rfl rfl (fun wz hz=>Blk.cell (Blk.ext (Run.blk i) hz) rfl)) (Tq rfl (Eu rfl rfl) ?_)))));refine At rfl (Av (by kernel_rfl) rfl (HE.out _ ‹_› ‹_›) (fun _ _ h=>⟨_,h.1⟩)) rfl ?_ (fun _ h=>h) As;rintro _ u ⟨⟨⟩,o⟩;revert d h4 h X b;refine eY o ?_;intro x d h4 h X b;refine ⟨d,?_⟩;refine Tq rfl Mv (Tq rfl Px (Tq rfl Px (Tq rfl Pa ?_)));refine Az rfl ?_;refine eK ?_;refine A9 (AP (by kernel_rfl) rfl (HC.out _ _) (fun _ _ h=>⟨_,h.1⟩)) rfl ?_ ?_;rotate_left;intro y z f
  rotate_right 1
  rintro _ A ⟨⟨⟩,⟨B,p⟩⟩;revert h4 h X b;refine eY p ?_;intro C h4 h X b;refine eK ?_;refine Af rfl rfl ?_;rotate_left;refine AJ (AE ?_);rotate_left
 · exact Or.inl ⟨_,rfl,by rw [if_neg (by omega)],X⟩
 · exact Or.inr ⟨_,rfl,v.2,by rw [if_pos f.1],f.2.1,X.trans f.2.2⟩
theorem ME (hc:c.fuel≤10000) (t:Nd) (hw:t.wf) (hx:t.isExpr=true) (a:Option Addr) (m:Nat) (w:World) (hs:t.sits P w a) (h:Run c P w r) :
 Calls prog 149 #[.pointer (some ⟨c.rb,0,none⟩),t.val a m] w (Uv c P (B8 t r) w):=by
 have X:=Ext.refl w;have HR:=Lib.hid h;clear h
 have e1 : ∀r1,Bu r = .ok r1→B8 t r=if (Bd r1.st.look t).2≠0 then .error (Bd r1.st.look t).2 else .ok (decide ((Bd r1.st.look t).1≠0),r1):=fun r1 h1=>by
  unfold B8
  rw [h1]
  by_cases hv:(Bd r1.st.look t).2≠0
  · simp only [Except.bind,Cc,if_pos hv]
  · simp only [Except.bind,Cc,if_neg hv]
 have e2 : ∀er,Bu r = .error er→B8 t r = .error er:=fun er h1=>by unfold B8;rw [h1];rfl
 have HC:=Lib.hid (fun e w1=>G4 e (.pointer (some ⟨c.rb,0,none⟩)) w1)
 unfold O6 at HC
 have HT:=fun PP r1 w1 h1 h2=>Vv (c:=c) (P:=PP) (r:=r1) hc t hw hx a m P w1 h1 h2
 obtain ⟨k,n,s,l⟩:=t
 change Calls prog _ #[_,.agg #[.int .u8 k,.int .i64 n,str s,.slice a l.length m]] w _
 refine Ad func149 ntmps149 rfl rfl ?_
 focus
  refine cS (eB [_,_,_,_] ?_);intro b1 w2 h4 x5 p6 z7;revert X hs;refine eE x5 ?_;intro X hs;refine C1 Pa (cT ?_);rotate_left
 have h1:=HR.out.more X;have HS:=Lib.hid (fun r1 w1 h=>KP (c:=c) (P:=Ch P w w2) (r:=r1) hc w1 h)
 unfold DH at HS
 replace HT:=Lib.hid (HT (Ch P w w2));have F:Fr (fun k=> ¬P k) w w2:=Fr.of_ext X;clear X
 focus
  refine eK ?_;refine A9 (AP (by kernel_rfl) rfl (HS.out _ _ ‹_›) (fun _ _ h=>h.ret)) rfl ?_ ?_;rotate_left;intro L M z
  rotate_right 1
  rintro _ i ⟨p,⟨⟨⟩,⟨j,⟨b,q⟩⟩⟩⟩;revert h4 hs F;refine eZ q ?_;intro A h4 hs F;refine eK ?_;refine Ax (fun wz=>Ext i wz) 11 (.pure 0 (.pure 1 (.pure 2 (.pure 3 (.pure 4 (.pure 5 (.fork 6 (.pure 7 (.pure 8 (.pure 9 (.pure 10 .tail)))) .none))))))) mixed (by kernel_rfl) (Ac Ak) ?_;intro u o _;have d:(fun wz=>Ext i wz) u:=o;simp only at d;have g:=b;have v:=h4;have B:=hs;revert b h4 hs F;refine eY o ?_;intro C b h4 hs F;refine ⟨d,?_⟩;refine Tq rfl (Aw [_,_,_,_] Aa rfl rfl rfl (fun wz hz=>(Blk.ext v hz)) rfl rfl) (Tq rfl Mv (Tq rfl Pn (Tq rfl Pf (Tq rfl (Al Aa rfl rfl rfl (fun wz hz=>Blk.cell (Blk.ext (Run.blk g) hz) rfl)) (Tq rfl (Eu rfl rfl) ?_)))));refine At rfl (Av (by kernel_rfl) rfl (HT.out _ _ ‹_› ‹_›) (fun _ _ h=>⟨_,h.1⟩)) rfl ?_ (fun _ h=>h) As;rintro _ D ⟨⟨⟩,x⟩;revert d b h4 hs F;refine eY x ?_;intro E d b h4 hs F;refine ⟨d,?_⟩;refine Tq rfl Mv (Tq rfl Px (Tq rfl Px (Tq rfl Pa ?_)));refine Az rfl ?_;refine eK ?_;refine A9 (AP (by kernel_rfl) rfl (HC.out _ _) (fun _ _ h=>⟨_,h.1⟩)) rfl ?_ ?_;rotate_left;intro G H f
  rotate_right 1
  rintro _ I ⟨⟨⟩,⟨J,y⟩⟩;revert b h4 hs F;refine eY y ?_;intro K b h4 hs F;refine eK ?_;refine Af rfl rfl ?_;rotate_left;refine AJ (AE ?_);rotate_left;refine AJ (AE ?_);rotate_left
 · exact Or.inl ⟨_,p,rfl,by rw [e1 _ j,if_neg (by omega)],b.less HR.out.sub (fun k=>Or.inl),F⟩
 · exact Or.inr ⟨_,rfl,_,by rw [e1 _ j,if_pos f.1],f.2.1,F.ext f.2.2⟩
 · obtain ⟨er,g1,g2,g3⟩:=z
   exact Or.inr ⟨_,rfl,er,e2 _ g1,g2,F.fr g3 (fun k hk=>Or.inl (fun h=>hk (Or.inl h)))⟩
theorem NY (hc:c.fuel≤10000) (want:Bool) (t:Nd) (hw:t.wf) (hx:t.isExpr=true) (a:Option Addr) (m:Nat) (w:World) (hs:t.sits P w a) (h:Run c P w r) :
 Calls prog 150 #[.pointer (some ⟨c.rb,0,none⟩),t.val a m,.bool want] w (DH c P (BK t want r) w):=by
 have X:=Ext.refl w;have HR:=Lib.hid h;clear h
 have e1 : ∀q r1,B8 t r = .ok (q,r1)→BK t want r=if q≠want then .error 15 else .ok r1:=fun q r1 h1=>by
  unfold BK
  rw [h1]
  rfl
 have e2 : ∀er,B8 t r = .error er→BK t want r = .error er:=fun er h1=>by unfold BK;rw [h1];rfl
 have HF:=Lib.hid (fun w1=>O5 15 (by decide) w1)
 have HH:=fun PP w1 h1 h2=>ME (c:=c) (P:=PP) (r:=r) hc t hw hx a m w1 h1 h2
 obtain ⟨k,n,s,l⟩:=t
 change Calls prog _ #[_,.agg #[.int .u8 k,.int .i64 n,str s,.slice a l.length m],_] w _
 refine Ad func150 ntmps150 rfl rfl ?_
 focus
  refine cS (eB [_,_,_,_] ?_);intro b1 w2 h4 x5 p6 z7;revert X hs;refine eE x5 ?_;intro X hs;refine cT ?_;rotate_left
 have h1:=HR.out.more X;replace HH:=Lib.hid (HH (Ch P w w2))
 unfold Uv at HH
 have F:Fr (fun k=> ¬P k) w w2:=Fr.of_ext X;clear X
 focus
  refine eK ?_;refine Ae [_,_,_,_] Aa rfl rfl rfl h4 rfl rfl rfl ?_;refine A9 (AP (by kernel_rfl) rfl (HH.out _ (Nd.sits.wide ‹_› (fun b h=>Or.inl h)) ‹_›) (fun _ _ h=>h.ret)) rfl ?_ ?_;rotate_left;intro z A o
  rotate_right 1
  rintro _ p ⟨u,⟨f,⟨⟨⟩,⟨d,⟨g,i⟩⟩⟩⟩⟩;revert h4 hs F;refine eZ i ?_;intro v h4 hs F;refine C1 Mv (C1 (KN Aa rfl rfl rfl) (cT ?_));refine BS rfl (fun j=>?_) (fun j=>?_);refine Ah (KM (by kernel_rfl) rfl (HF.out _) ?_);intro x y e;refine AE ?_;rotate_left;refine AH (Bt rfl ?_);rotate_left;refine AJ (AE ?_);rotate_left
 · exact Or.inr ⟨_,rfl,15,by rw [e1 _ _ d,if_pos ‹_›],e.1,F.ext e.2⟩
 · exact Or.inl ⟨f,rfl,by rw [e1 _ _ d,if_neg (fun h=>h ‹_›)],g.less HR.out.sub (fun k=>Or.inl),F⟩
 · obtain ⟨er,g1,g2,g3⟩:=o
   exact Or.inr ⟨_,rfl,er,e2 _ g1,g2,F.fr g3 (fun k hk=>Or.inl (fun h=>hk (Or.inl h)))⟩
end
theorem IL {P:Program} {n:Nat} {l:Sl} {tab:Tab} {sz sz':Nat} {w:World} {fn:Func} {R:Ending→World→Prop} {ct cty b ct' cty' b':Nat} {sk sk':Sk} {vs vs':List Value} (h:fn.results = #[.cell ct cty,.cell ct' cty']) (T:TabOk P tab) (ht:AL tab cty=some (sk,sz)) (ht':AL tab cty'=some (sk',sz')) (hs:sk.agg=true) (hs':sk'.agg=true)
 (hv:look l ct=some (.pointer (some ⟨b,0,none⟩))) (hv':look l ct'=some (.pointer (some ⟨b',0,none⟩))) (hb:Blk w b vs) (hb':Blk w b' vs') (hl:vs.length=sz) (hl':vs'.length=sz') (hR:R (.returned (.tuple #[.agg vs.toArray,.agg vs'.toArray])) w):QW n (bodyPost P fn R) .ret l w:=by
 unfold QW
 intro a ha;refine ⟨ha.defers,.tuple #[.agg vs.toArray,.agg vs'.toArray],?_,hR⟩
 have e:(loadVar cty ⟨b,0,none⟩).run P w = .ok (.agg vs.toArray) w:=by
  simp only [Sem.run_bind,Sem.run_pure,Result.andThen,loadVar,Dl (T _ _ _ ht),hs,if_true,Ci (T _ _ _ ht)];rw [←hl,CC hb.row]
 have e':(loadVar cty' ⟨b',0,none⟩).run P w = .ok (.agg vs'.toArray) w:=by
  simp only [Sem.run_bind,Sem.run_pure,Result.andThen,loadVar,Dl (T _ _ _ ht'),hs',if_true,Ci (T _ _ _ ht')];rw [←hl',CC hb'.row]
 have c:=ha.has ct _ hv;have d:=ha.has ct' _ hv';simp only [Array.getD_eq_getD_getElem?] at c d
 simp [results,h,c,d,e,e',asAddr]
section
variable {c:RC} {P P':Nat→Prop} {w w':World} {r:Rn} {T:Nat→Prop}
def N0 (c:RC) (P:Nat→Prop) (rem:Nat) (x:Int×Stp) (w:World):Ending→World→Prop:=fun e w'=>e = .returned (.int .i64 x.1)∧Run c P w' ⟨x.2,rem⟩∧Fr (fun k=> ¬(P k∨k=c.rb)) w w'
theorem RunAt.store {ρ:Nat→Rl} {κ:Nat→Nat} (h:RunAt c P ρ κ w r) {st:Stp} {x:Int} (hwf : ∃K,st.WF K (1000+(c.fuel-r.rem))) {e:Ending} (hs:StR ρ c.sb st x w e w'):N0 c P r.rem (x,st) w e w':=by
 obtain ⟨ρ',κ',h1,h2,h3,h4⟩:=hs;obtain ⟨k1,k2,k3,k4,⟨es,k5,k6⟩,k7,k8,k9,b,a⟩:=h;have hz:=h4.size
 have hP : ∀k,P k → ¬Kk (ρ k):=fun k hk e=>(a k hk).1 (Or.inl e)
 refine ⟨h1,⟨ρ',κ',by rw [h2 _ k4.lt,k1],by rw [h2 _ k6.lt,k2],k3,k4.fr h4 (fun e=>by rw [k1] at e;exact e),⟨es,k5,k6.fr h4 (fun e=>by rw [k2] at e;exact e)⟩,h3,hwf,k9.frS h4 (fun k hk e=>hP k (b k hk) e),b,fun k hk=>⟨?_,by have:=(a k hk).2;omega⟩⟩,h4.weaken (fun k hk e=>by rcases e with e|e;exact hP k e hk;rw [e,k1] at hk;exact hk)⟩;rw [h2 _ (a k hk).2]
 exact (a k hk).1
theorem Vx (hc:c.fuel≤10000) (v:VD) (hk:v.kind=1∨v.kind=3) (hl:v.len=0) (x:Int) (w:World) (h:Run c P w r) (hr:r.rem<c.fuel) {m:Nat} (hm : ∃K,r.st.WF K (1000+m)) (hm2:m<c.fuel-r.rem) :
 Calls prog 131 #[.pointer (some ⟨c.sb,0,none⟩),v.val,.int .i64 x] w (N0 c P r.rem (r.st.opens v x) w):=by
 obtain ⟨ρ,κ,h⟩:=h;obtain ⟨K,hw⟩:=hm
 refine Calls.mono (Vr hw (by omega) v hk hl x w h.st) fun e w' hs=>h.store ?_ hs
 obtain ⟨K',hw'⟩:=hw.opens hk x
 exact ⟨K',hw'.mono (by omega)⟩
theorem P2 (hc:c.fuel≤10000) (s:List UInt8) (x:Int) (w:World) (h:Run c P w r):Calls prog 132 #[.pointer (some ⟨c.sb,0,none⟩),str s,.int .i64 x] w (N0 c P r.rem (r.st.closes s x) w):=by
 obtain ⟨ρ,κ,h⟩:=h;obtain ⟨K,hw⟩:=h.wf
 exact Calls.mono (Uo hw (by omega) s x w h.st) fun e w' hs=>h.store ⟨K,hw.closes s x⟩ hs
theorem Uw (hc:c.fuel≤10000) (w:World) (h:Run c P w r):Calls prog 156 #[.pointer (some ⟨c.sb,0,none⟩)] w (N0 c P r.rem (r.st.leaves) w):=by
 obtain ⟨ρ,κ,h⟩:=h;obtain ⟨K,hw⟩:=h.wf
 exact Calls.mono (Un hw w h.st) fun e w' hs=>h.store ⟨K,hw.leaves⟩ hs
theorem Ux (hc:c.fuel≤10000) (ps:List VD) (qs:List (List UInt8)) (hpl:ps.length≤1000) (pa qa:Option Addr) (pc qc:Nat) (w:World) (h:Run c P w r) (hp:VDs P w ps pa) (hq:Rows P w (qs.map str) qa) :
 Calls prog 155 #[.pointer (some ⟨c.sb,0,none⟩),.slice pa ps.length pc,.slice qa qs.length qc] w (N0 c P r.rem (r.st.enters ps qs) w):=by
 obtain ⟨ρ,κ,h⟩:=h;obtain ⟨K,hw⟩:=h.wf
 exact Calls.mono (Up (S:=P) hw (by omega) ps qs (by omega) (fun k hk e=>(h.off k hk).1 (Or.inl e)) pa qa pc qc w h.st hp hq) fun e w' hs=>h.store ⟨K,hw.enters (by omega) qs⟩ hs
theorem WI (hc:c.fuel≤10000) {k n:Int} {s:List UInt8} {l:List Nd} (hk:(40≤k∧k≤49)∨k=56) (hst:(Nd.mk k n s l).isStmt=true) (hwf:(Nd.mk k n s l).wf) (hz:(Nd.mk k n s l).size≤1000000) (a:Option Addr) (c0:Nat) (w:World) (hs:rowSits P w l a) (h:Run c P w r) :
 Calls prog 135 #[.pointer (some ⟨c.sb,0,none⟩),.agg #[.int .u8 k,.int .i64 n,str s,.slice a l.length c0]] w (N0 c P r.rem (r.st.run1 k n s l) w):=by
 obtain ⟨ρ,κ,h⟩:=h;obtain ⟨K,hw⟩:=h.wf
 exact Calls.mono (V0 hw (by omega) hk hst hwf hz a c0 w hs h.st) fun e w' hs=>h.store ⟨K,hw.run1 k n s l⟩ hs
theorem Vy (hc:c.fuel≤10000) {k n:Int} {s:List UInt8} {l:List Nd} (hk:(40≤k∧k≤49)∨k=56) (hst:(Nd.mk k n s l).isStmt=true) (hwf:(Nd.mk k n s l).wf) (hz:(Nd.mk k n s l).size≤1000000) (a:Option Addr) (c0:Nat) (w:World) (hs:rowSits P w l a) (h:Run c P w r) :
 Calls prog 134 #[.pointer (some ⟨c.sb,0,none⟩),.agg #[.int .u8 k,.int .i64 n,str s,.slice a l.length c0]] w (N0 c P r.rem (r.st.run1 (BN k) n s l) w):=by
 obtain ⟨ρ,κ,h⟩:=h;obtain ⟨K,hw⟩:=h.wf
 exact Calls.mono (Vu hw (by omega) hk hst hwf hz a c0 w hs h.st) fun e w' hs=>h.store ⟨K,hw.run1 (BN k) n s l⟩ hs
theorem EC {Z:Except Int Rn} {r':Rn} (h:Run c P' w' r') (F:Fr (fun k=> ¬P k) w w') (hs : ∀k,c.S k→P k) (hp : ∀k,P k→P' k) (e:Z = .ok r'):DH c P Z w (.returned (.tuple #[])) w':=Or.inl ⟨r',rfl,e,h.less hs hp,F⟩
theorem Bz {α:Type} {Z:Except Int Rn} {X:Except Int α} {w1:World} {ch:List PanicEntry} (q:NX P' X w1 ch w') (F:Fr (fun k=> ¬P k) w w1) (hp : ∀k,P k→P' k) (e : ∀er,X = .error er→Z = .error er):DH c P Z w (.panicked ch) w':=by
 obtain ⟨er,g1,g2,g3⟩:=q
 exact Or.inr ⟨_,rfl,er,e _ g1,g2,F.fr g3 (fun k hk=>Or.inl (fun h=>hk (hp k h)))⟩
theorem N1 {l:List Nd} {i:Nat} (hi:i<l.length):l[i]? = some (BW l i):=by
 unfold BW
 rw [List.getD_eq_getElem?_getD,List.getElem?_eq_getElem hi]
 rfl
def EndsA (P:Nat→Prop) (f l:Nd) (w:World):Ending→World→Prop:=fun e w'=> ∃a m a' m',e = .returned (.tuple #[f.val a m,l.val a' m'])∧f.sits P w' a∧l.sits P w' a'∧Ext w w'
theorem EndsA.ret {f l:Nd} {e:Ending} (h:EndsA P f l w e w') : ∃v,e = .returned v:=by
 obtain ⟨_,_,_,_,h,-⟩:=h
 exact ⟨_,h⟩
theorem O7 {k n:Int} {s:List UInt8} {l:List Nd} (hl:2≤l.length) (hl2:l.length≤1000000) (back:Bool) (a:Option Addr) (c0:Nat) (w:World) (hs:rowSits P w l a) (hP : ∀k,P k→k<w.heap.size) :
 Calls prog 148 #[.agg #[.int .u8 k,.int .i64 n,str s,.slice a l.length c0],.bool back] w (EndsA P (if back then BW l (l.length-1) else BW l 0) (if back then BW l 0 else BW l (l.length-1)) w):=by
 have X:=Ext.refl w;obtain ⟨kb,ko,rfl,hkS,hkid⟩:=Cv hs (by intro e;subst e;simp at hl);obtain ⟨xa,xc,rx,sx⟩:=hkid 0 _ (N1 (by omega));obtain ⟨ya,yc,ry,sy⟩:=hkid (l.length-1) _ (N1 (by omega));clear hkid hs
 generalize BW l 0=x at *
 generalize BW l (l.length-1)=y at *
 obtain ⟨xk,xn,xs,xl⟩:=x;obtain ⟨yk,yn,ys,yl⟩:=y;replace rx:Row w ⟨kb,ko+0*4,none⟩ [.int .u8 xk,.int .i64 xn,str xs,.slice xa xl.length xc]:=rx
 have hi:((l.length:Int)-1).toNat=l.length-1:=by omega
 replace ry:Row w ⟨kb,ko+((l.length:Int)-1).toNat*4,none⟩ [.int .u8 yk,.int .i64 yn,str ys,.slice ya yl.length yc]:=by rw [hi];exact ry
 have hkb:=hP kb hkS;refine Ad func148 ntmps148 rfl rfl ?_
 focus
  refine cS (eB [_,_,_,_] ?_);intro b1 w2 h4 x5 p6 z7;revert X sx sy rx ry;refine eE x5 ?_;intro X sx sy rx ry;refine eA [_,_,_,_] ?_;intro b8 w9 d ax bk bl;revert h4 X sx sy rx ry;refine eE ax ?_;intro h4 X sx sy rx ry;refine eA [_,_,_,_] ?_;intro bm ao c ay bn bo;revert d h4 X sx sy rx ry;refine eE ay ?_;intro d h4 X sx sy rx ry;refine eK ?_;refine Ax (fun wz=>Ext ao wz) 15 (.pure 0 (.pure 1 (.pure 2 (.pure 3 (.pure 4 (.pure 5 (.pure 6 (.pure 7 (.pure 8 (.pure 9 (.pure 10 (.pure 11 (.fork 12 (.fork 13 (.fork 14 .tail .none) .none) (.fork 13 (.fork 12 (.fork 14 .tail .none) .none) .none)))))))))))))) mixed (by kernel_rfl) (Ac Ak) ?_;intro az ap _;have f:(fun wz=>Ext ao wz) az:=ap;simp only at f;have p:=c;have q:=d;have o:=h4;have F:=sx;have G:=sy;have r:=rx;have t:=ry;revert c d h4 X sx sy rx ry;refine eY ap ?_;intro bp c d h4 X sx sy rx ry;refine ⟨f,?_⟩;refine Tq rfl Pf (Tq rfl (Db o) (Tq rfl Pi (Tq rfl (Ef [_,_,_,_] Aa rfl rfl rfl (fun wz hz=>(Row.ext r hz)) rfl rfl) (Tq rfl Pf (Tq rfl (Db o) (Tq rfl Pf (Tq rfl (Db o) (Tq rfl Pz (Tq rfl (Bs rfl rfl (IntWalk.i64_in _ (by omega))) (Tq rfl Pi (Tq rfl (BF Aa rfl rfl rfl (fun wz hz=>(Row.ext t hz)) rfl) ?_)))))))))));refine At rfl (BG Bj rfl) rfl ?_ (fun _ h=>h) ?kr28
  rintro _ bq ⟨br,rfl,M⟩;have N:=M.blk;dsimp only at N;have a0:=M.ext;have bs:=M.pos;have bt:=M.size;revert f c d h4 X sx sy rx ry;refine eE a0 ?_;intro f c d h4 X sx sy rx ry;refine ⟨f,?_⟩;refine At rfl (BG Bj rfl) rfl ?_ (fun _ h=>h) As;rintro _ bu ⟨bv,rfl,O⟩;have Q:=O.blk;dsimp only at Q;have a1:=O.ext;have bw:=O.pos;have bx:=O.size;revert N f c d h4 X sx sy rx ry;refine eE a1 ?_;intro N f c d h4 X sx sy rx ry;refine ⟨f,?_⟩;refine Eg [_,_,_,_] [_,_,_,_] rfl Aa rfl rfl rfl rfl rfl rfl N rfl rfl ?_ As;intro bz ai;have g:=ai.blk;have R:=ai.fr;have b0:=ai.size;revert Q f c d h4 X;refine eF R ?_;intro Q f c d h4 X;replace sx:=Nd.sits.fr sx R (fun b hb h=>by (have h1:=hP b hb;have e:b=_:=h;omega));replace sy:=Nd.sits.fr sy R (fun b hb h=>by (have h1:=hP b hb;have e:b=_:=h;omega));revert rx ry;refine eF R ?_;intro rx ry;refine ⟨f,?_⟩;refine Az rfl (eS [_,_,_,_] Q ?_);intro S j T b2;revert g c d h4 X;refine eF T ?_;intro g c d h4 X;replace sx:=Nd.sits.fr sx T (fun b hb h=>by (have h1:=hP b hb;have e:b=_:=h;omega));replace sy:=Nd.sits.fr sy T (fun b hb h=>by (have h1:=hP b hb;have e:b=_:=h;omega))
  revert rx ry;refine eF T ?_;intro rx ry;refine cT (Am ?_);rotate_left;refine At rfl (BG Bj rfl) rfl ?_ (fun _ h=>h) As;rintro _ b3 ⟨b4,rfl,U⟩;have L:=U.blk;dsimp only at L;have a2:=U.ext;have b5:=U.pos;have b6:=U.size;revert f c d h4 X sx sy rx ry;refine eE a2 ?_;intro f c d h4 X sx sy rx ry;refine ⟨f,?_⟩;refine At rfl (BG Bj rfl) rfl ?_ (fun _ h=>h) As;rintro _ b7 ⟨b9,rfl,V⟩;have aq:=V.blk;dsimp only at aq;have a3:=V.ext;have ca:=V.pos;have cb:=V.size;revert L f c d h4 X sx sy rx ry;refine eE a3 ?_;intro L f c d h4 X sx sy rx ry;refine ⟨f,?_⟩;refine Eg [_,_,_,_] [_,_,_,_] rfl Aa rfl rfl rfl rfl rfl rfl aq rfl rfl ?_ As;intro cc aj;have i:=aj.blk;have W:=aj.fr;have cd:=aj.size;revert L f c d h4 X;refine eF W ?_;intro L f c d h4 X;replace sx:=Nd.sits.fr sx W (fun b hb h=>by (have h1:=hP b hb;have e:b=_:=h;omega));replace sy:=Nd.sits.fr sy W (fun b hb h=>by (have h1:=hP b hb;have e:b=_:=h;omega));revert rx ry;refine eF W ?_;intro rx ry;refine ⟨f,?_⟩;refine Az rfl (eS [_,_,_,_] L ?_);intro Y m Z ce;revert i c d h4 X;refine eF Z ?_;intro i c d h4 X
  replace sx:=Nd.sits.fr sx Z (fun b hb h=>by (have h1:=hP b hb;have e:b=_:=h;omega));replace sy:=Nd.sits.fr sy Z (fun b hb h=>by (have h1:=hP b hb;have e:b=_:=h;omega));revert rx ry;refine eF Z ?_;intro rx ry;refine cT (Am ?_);rotate_left
 · cases back
   · focus
      refine eK ?_;refine Ax (fun wz=>Fr (fun x=>x=b8) S wz) 3 (.pure 0 (.pure 1 (.fork 2 .tail .none))) mixed (by kernel_rfl) (Ac Ak) ?_;intro a4 ar _;have u:(fun wz=>Fr (fun x=>x=b8) S wz) a4:=Fr.of_ext ar;simp only at u;have B:=j;have C:=g;have p:=c;have q:=d;have o:=h4;have F:=sx;have G:=sy;have r:=rx;have t:=ry;revert j g c d h4 X sx sy rx ry;refine eY ar ?_;intro cf j g c d h4 X sx sy rx ry;refine ⟨u,?_⟩;refine Tq rfl (Aw [_,_,_,_] Aa rfl rfl rfl (fun wz hz=>(Blk.fr C hz (by first|omega|(dsimp only;omega)))) rfl rfl) (Tq rfl (Aw [_,_,_,_] Aa rfl rfl rfl (fun wz hz=>(Blk.fr B hz (by first|omega|(dsimp only;omega)))) rfl rfl) ?_);refine Eg [_,_,_,_] [_,_,_,_] rfl Aa rfl rfl rfl rfl rfl rfl d rfl rfl ?_ As;intro cg ak;have ae:=ak.blk;have aa:=ak.fr;have ch:=ak.size;revert u j g c h4 X;refine eF aa ?_;intro u j g c h4 X;replace sx:=Nd.sits.fr sx aa (fun b hb h=>by (have h1:=hP b hb;have e:b=_:=h;omega));replace sy:=Nd.sits.fr sy aa (fun b hb h=>by (have h1:=hP b hb;have e:b=_:=h;omega));revert rx ry;refine eF aa ?_;intro rx ry;refine ⟨u,?_⟩;refine Az rfl (eS [_,_,_,_] c ?_)
      intro a8 a9 H ba;revert ae j g h4 X;refine eF H ?_;intro ae j g h4 X;replace sx:=Nd.sits.fr sx H (fun b hb h=>by (have h1:=hP b hb;have e:b=_:=h;omega));replace sy:=Nd.sits.fr sy H (fun b hb h=>by (have h1:=hP b hb;have e:b=_:=h;omega));revert rx ry;refine eF H ?_;intro rx ry;refine cT (B6 ?_);rotate_left
     refine IL rfl Aa rfl rfl rfl rfl rfl rfl ‹_› ‹_› rfl rfl ?_
     exact ⟨_,_,_,_,rfl,sx,sy,X⟩
   · focus
      refine eK ?_;refine Ax (fun wz=>Fr (fun x=>x=b8) S wz) 3 (.pure 0 (.pure 1 (.fork 2 .tail .none))) mixed (by kernel_rfl) (Ac (Ac Ak)) ?_;intro a5 au _;have v:(fun wz=>Fr (fun x=>x=b8) S wz) a5:=Fr.of_ext au;simp only at v;have B:=j;have C:=g;have p:=c;have q:=d;have o:=h4;have F:=sx;have G:=sy;have r:=rx;have t:=ry;revert j g c d h4 X sx sy rx ry;refine eY au ?_;intro ci j g c d h4 X sx sy rx ry;refine ⟨v,?_⟩;refine Tq rfl (Aw [_,_,_,_] Aa rfl rfl rfl (fun wz hz=>(Blk.fr B hz (by first|omega|(dsimp only;omega)))) rfl rfl) (Tq rfl (Aw [_,_,_,_] Aa rfl rfl rfl (fun wz hz=>(Blk.fr C hz (by first|omega|(dsimp only;omega)))) rfl rfl) ?_);refine Eg [_,_,_,_] [_,_,_,_] rfl Aa rfl rfl rfl rfl rfl rfl d rfl rfl ?_ As;intro cj al;have af:=al.blk;have ab:=al.fr;have ck:=al.size;revert v j g c h4 X;refine eF ab ?_;intro v j g c h4 X;replace sx:=Nd.sits.fr sx ab (fun b hb h=>by (have h1:=hP b hb;have e:b=_:=h;omega));replace sy:=Nd.sits.fr sy ab (fun b hb h=>by (have h1:=hP b hb;have e:b=_:=h;omega));revert rx ry;refine eF ab ?_;intro rx ry;refine ⟨v,?_⟩;refine Az rfl (eS [_,_,_,_] c ?_)
      intro bb bc I bd;revert af j g h4 X;refine eF I ?_;intro af j g h4 X;replace sx:=Nd.sits.fr sx I (fun b hb h=>by (have h1:=hP b hb;have e:b=_:=h;omega));replace sy:=Nd.sits.fr sy I (fun b hb h=>by (have h1:=hP b hb;have e:b=_:=h;omega));revert rx ry;refine eF I ?_;intro rx ry;refine cT (B6 (AI ?_));rotate_left
     refine IL rfl Aa rfl rfl rfl rfl rfl rfl ‹_› ‹_› rfl rfl ?_
     exact ⟨_,_,_,_,rfl,sy,sx,X⟩
 · cases back
   · focus
      refine eK ?_;refine Ax (fun wz=>Fr (fun x=>x=b8) Y wz) 3 (.pure 0 (.pure 1 (.fork 2 .tail .none))) mixed (by kernel_rfl) (Ac Ak) ?_;intro a6 av _;have z:(fun wz=>Fr (fun x=>x=b8) Y wz) a6:=Fr.of_ext av;simp only at z;have D:=m;have E:=i;have p:=c;have q:=d;have o:=h4;have F:=sx;have G:=sy;have r:=rx;have t:=ry;revert m i c d h4 X sx sy rx ry;refine eY av ?_;intro cl m i c d h4 X sx sy rx ry;refine ⟨z,?_⟩;refine Tq rfl (Aw [_,_,_,_] Aa rfl rfl rfl (fun wz hz=>(Blk.fr E hz (by first|omega|(dsimp only;omega)))) rfl rfl) (Tq rfl (Aw [_,_,_,_] Aa rfl rfl rfl (fun wz hz=>(Blk.fr D hz (by first|omega|(dsimp only;omega)))) rfl rfl) ?_);refine Eg [_,_,_,_] [_,_,_,_] rfl Aa rfl rfl rfl rfl rfl rfl d rfl rfl ?_ As;intro cm am;have ag:=am.blk;have ac:=am.fr;have cn:=am.size;revert z m i c h4 X;refine eF ac ?_;intro z m i c h4 X;replace sx:=Nd.sits.fr sx ac (fun b hb h=>by (have h1:=hP b hb;have e:b=_:=h;omega));replace sy:=Nd.sits.fr sy ac (fun b hb h=>by (have h1:=hP b hb;have e:b=_:=h;omega));revert rx ry;refine eF ac ?_;intro rx ry;refine ⟨z,?_⟩;refine Az rfl (eS [_,_,_,_] c ?_)
      intro be bf J bg;revert ag m i h4 X;refine eF J ?_;intro ag m i h4 X;replace sx:=Nd.sits.fr sx J (fun b hb h=>by (have h1:=hP b hb;have e:b=_:=h;omega));replace sy:=Nd.sits.fr sy J (fun b hb h=>by (have h1:=hP b hb;have e:b=_:=h;omega));revert rx ry;refine eF J ?_;intro rx ry;refine cT (B6 ?_);rotate_left
     refine IL rfl Aa rfl rfl rfl rfl rfl rfl ‹_› ‹_› rfl rfl ?_
     exact ⟨_,_,_,_,rfl,sx,sy,X⟩
   · focus
      refine eK ?_;refine Ax (fun wz=>Fr (fun x=>x=b8) Y wz) 3 (.pure 0 (.pure 1 (.fork 2 .tail .none))) mixed (by kernel_rfl) (Ac (Ac Ak)) ?_;intro a7 aw _;have A:(fun wz=>Fr (fun x=>x=b8) Y wz) a7:=Fr.of_ext aw;simp only at A;have D:=m;have E:=i;have p:=c;have q:=d;have o:=h4;have F:=sx;have G:=sy;have r:=rx;have t:=ry;revert m i c d h4 X sx sy rx ry;refine eY aw ?_;intro co m i c d h4 X sx sy rx ry;refine ⟨A,?_⟩;refine Tq rfl (Aw [_,_,_,_] Aa rfl rfl rfl (fun wz hz=>(Blk.fr D hz (by first|omega|(dsimp only;omega)))) rfl rfl) (Tq rfl (Aw [_,_,_,_] Aa rfl rfl rfl (fun wz hz=>(Blk.fr E hz (by first|omega|(dsimp only;omega)))) rfl rfl) ?_);refine Eg [_,_,_,_] [_,_,_,_] rfl Aa rfl rfl rfl rfl rfl rfl d rfl rfl ?_ As;intro cp an;have ah:=an.blk;have ad:=an.fr;have cq:=an.size;revert A m i c h4 X;refine eF ad ?_;intro A m i c h4 X;replace sx:=Nd.sits.fr sx ad (fun b hb h=>by (have h1:=hP b hb;have e:b=_:=h;omega));replace sy:=Nd.sits.fr sy ad (fun b hb h=>by (have h1:=hP b hb;have e:b=_:=h;omega));revert rx ry;refine eF ad ?_;intro rx ry;refine ⟨A,?_⟩;refine Az rfl (eS [_,_,_,_] c ?_)
      intro bh bi K bj;revert ah m i h4 X;refine eF K ?_;intro ah m i h4 X;replace sx:=Nd.sits.fr sx K (fun b hb h=>by (have h1:=hP b hb;have e:b=_:=h;omega));replace sy:=Nd.sits.fr sy K (fun b hb h=>by (have h1:=hP b hb;have e:b=_:=h;omega));revert rx ry;refine eF K ?_;intro rx ry;refine cT (B6 (AI ?_));rotate_left
     refine IL rfl Aa rfl rfl rfl rfl rfl rfl ‹_› ‹_› rfl rfl ?_
     exact ⟨_,_,_,_,rfl,sy,sx,X⟩
end
mutual
def Vz (ps:List PD):Nd→Prop
 | .mk k _ s l=>((k=50∨k=51)→(B9 ps s).isSome=true)∧SO ps l
def SO (ps:List PD):List Nd→Prop
 | []=>True
 | t::r=>Vz ps t∧SO ps r
end
theorem IM {ps:List PD} : ∀ {l:List Nd} {i:Nat} {t:Nd},SO ps l→l[i]? = some t→Vz ps t
 | x::r,0,t,h,e=>by simp only [List.getElem?_cons_zero,Option.some.injEq] at e;subst e;exact h.1
 | x::r,i+1,t,h,e=>IM h.2 (by simpa using e)
 | [],_,_,_,e=>by simp at e
theorem GQ : ∀ {l:List Nd} {i:Nat} {t:Nd},DU l=true→l[i]? = some t→t.isStmt=true
 | x::r,0,t,h,e=>by simp only [List.getElem?_cons_zero,Option.some.injEq] at e;subst e;simp only [DU,Bool.and_eq_true] at h;exact h.1
 | x::r,i+1,t,h,e=>by simp only [DU,Bool.and_eq_true] at h;exact GQ h.2 (by simpa using e)
 | [],_,_,_,e=>by simp at e
structure StOk (ps:List PD) (t:Nd):Prop where
 wf:t.wf
 size:t.size≤1000000
 calls:Vz ps t
def SP (c:RC) (d:Nat):Prop:= ∀(P:Nat→Prop) (b:Bool) (t:Nd) (r:Rn) (a:Option Addr) (m:Nat) (w:World),t.isStmt=true→StOk c.g.procs t→AF c.g.procs d b t r≠.error (-1)→t.sits P w a→Run c P w r →
 Calls prog 108 #[.pointer (some ⟨c.rb,0,none⟩),t.val a m,.bool b] w (DH c P (AF c.g.procs d b t r) w)
def ED (c:RC) (d:Nat):Prop:= ∀(P:Nat→Prop) (b:Bool) (t:Nd) (r:Rn) (a:Option Addr) (m:Nat) (w:World),t.isBlock=true→StOk c.g.procs t→AT (AF c.g.procs d) b t r≠.error (-1)→t.sits P w a→Run c P w r →
 Calls prog 66 #[.pointer (some ⟨c.rb,0,none⟩),t.val a m,.bool b] w (DH c P (AT (AF c.g.procs d) b t r) w)
section
variable {c:RC} {P P':Nat→Prop} {w w':World} {r:Rn} {T:Nat→Prop}
theorem P3 {d:Nat} (IH:SP c d):ED c d:=by
 intro P b t r a m w hb hok hne hs h;have X:=Ext.refl w;have HR:=Lib.hid h;clear h;obtain ⟨k,n,s,l⟩:=t
 have hrow:DU l=true:=by
  unfold Nd.isBlock at hb
  simp only [Bool.and_eq_true] at hb
  exact hb.2
 obtain ⟨hwf,hz,hca⟩:=hok;obtain ⟨-,-,-,-,-,-,hwl⟩:=hwf;have hcl:SO c.g.procs l:=hca.2;have hll:=Em l;simp only [Nd.size] at hz;have hX:AT (AF c.g.procs d) b (.mk k n s l) r=FU (AF c.g.procs d b) (if b then l.reverse else l) r:=rfl;rw [hX] at hne ⊢;have hs:rowSits P w l a:=hs
 change Calls prog _ #[_,.agg #[.int .u8 k,.int .i64 n,str s,.slice a l.length m],_] w _
 generalize hL:(if b then l.reverse else l)=L at *
 have hLl:L.length=l.length:=by rw [←hL];split<;>simp
 have hget : ∀j,j<l.length→l[if b then l.length-1-j else j]? = L[j]? := fun j hj=>by
  rw [←hL]
  cases b
  · rfl
  · simp only [if_true];rw [List.getElem?_reverse hj]
 refine Ad func66 ntmps66 rfl rfl ?_
 focus
  refine cS (eB [_,_,_,_] ?_);intro b1 w2 h4 x5 p6 z7;replace X:=X.ext x5;clear hs;replace hs:=Bk.rowSits.ext hs x5;refine cT ?_;rotate_left
 have h1:=HR.out.more X;have F:Fr (fun k=> ¬P k) w w2:=Fr.of_ext X;clear X
 focus
  refine eK ?_;refine C1 (Bs rfl rfl (IntWalk.i64_in _ (by omega))) (C1 Pa (cN (C1 Pf (C1 (Pl h4) (C1 Pz (C1 Mv (cT ?_)))))));rotate_left
 refine AK ?_;refine Bn (ι:=Nat) (fun j=>[(0,.pointer (some ⟨c.rb,0,none⟩)),(2,.bool b),(4,.pointer (some ⟨b1,0,none⟩)),(6,.int .i64 ((l.length:Int)-1)),(14,.int .i64 l.length),(15,.int .i64 j)])
  (fun j w'=> ∃rj,j≤l.length∧Run c (Ch P w w2) w' rj∧Blk w' b1 [.int .u8 k,.int .i64 n,str s,.slice a l.length m]∧rowSits P w' l a∧Fr (fun k=> ¬P k) w w'∧FU (AF c.g.procs d b) L r=FU (AF c.g.procs d b) (L.drop j) rj)
  (fun j=>l.length-j) 0 sB ⟨r,Nat.zero_le _,h1,h4,hs,F,rfl⟩ ?_
 clear h1 h4 hs F;rintro j w1 ⟨rj,hj,h1,h4,hs,F,hrx⟩
 by_cases hlt:j<l.length
 · obtain ⟨kb,ko,rfl,hkS,hkid⟩:=Cv hs (by intro e;subst e;simp at hlt);have hgj:=hget j hlt;rw [List.getElem?_eq_getElem (by omega:j<L.length)] at hgj;rw [List.drop_eq_getElem_cons (by omega:j<L.length),FU] at hrx
   have hnx:AF c.g.procs d b L[j] rj≠.error (-1):=fun e=>hne (by rw [hrx,e];rfl)
   have f : ∀er,AF c.g.procs d b L[j] rj = .error er→FU (AF c.g.procs d b) L r = .error er:=fun er e=>by rw [hrx,e];rfl
   have i : ∀r2,AF c.g.procs d b L[j] rj = .ok r2→FU (AF c.g.procs d b) L r=FU (AF c.g.procs d b) (L.drop (j+1)) r2:=fun r2 e=>by rw [hrx,e];rfl
   cases b with
   | false=>
    simp only [Bool.false_eq_true,if_true,if_false] at hgj;obtain ⟨xa,xc,rx,sx⟩:=hkid _ _ hgj;have hst:=GQ hrow hgj;have hcx:=IM hcl hgj;have hwx:=Ce hwl _ (List.mem_of_getElem? hgj);have hzx:=Dw (List.mem_of_getElem? hgj);clear hkid hgj
    generalize L[j]=x at *
    have HS:=Lib.hid (fun w1 h1 h2=>IH (Ch P w w2) false x rj xa xc w1 hst ⟨hwx,by omega,hcx⟩ hnx h1 h2)
    unfold DH at HS
    obtain ⟨xk,xn,xs,xl⟩:=x;replace rx:Row w1 ⟨kb,ko+j*4,none⟩ [.int .u8 xk,.int .i64 xn,str xs,.slice xa xl.length xc]:=rx
    focus
     refine eK ?_;refine C1 (Gb rx) (C1 Mv ?_);refine A9 (AP (by kernel_rfl) rfl (HS.out _ (Nd.sits.wide ‹_› (fun b h=>Or.inl h)) ‹_›) (fun _ _ h=>h.ret)) rfl ?_ ?_;rotate_left;intro I J B
     rotate_right 1
     rintro _ D ⟨q,⟨⟨⟩,⟨u,⟨v,o⟩⟩⟩⟩;revert F h4 hs sx;refine eZ o ?_;intro E F h4 hs sx;clear rx o;refine Aj (An (Ai (Ah (C1 V7 (C1 Mv (Aj ?_))))));rotate_left;refine AX (AJ (AJ (AX (AE ?_))));rotate_left
    · exact AW (j+1) sB ⟨q,by omega,v,by assumption,by assumption,F,i _ u⟩ (by omega)
    · obtain ⟨er,g1,g2,g3⟩:=B
      exact Or.inr ⟨_,rfl,er,f _ g1,g2,F.fr g3 (fun k hk=>Or.inl (fun h=>hk (Or.inl h)))⟩
   | true=>
    simp only [if_true,if_false] at hgj;obtain ⟨xa,xc,rx,sx⟩:=hkid _ _ hgj;have hst:=GQ hrow hgj;have hcx:=IM hcl hgj;have hwx:=Ce hwl _ (List.mem_of_getElem? hgj);have hzx:=Dw (List.mem_of_getElem? hgj);clear hkid hgj
    generalize L[j]=x at *
    have HS:=Lib.hid (fun w1 h1 h2=>IH (Ch P w w2) true x rj xa xc w1 hst ⟨hwx,by omega,hcx⟩ hnx h1 h2)
    unfold DH at HS
    obtain ⟨xk,xn,xs,xl⟩:=x
    replace rx:Row w1 ⟨kb,ko+((l.length:Int)-1-(j:Int)).toNat*4,none⟩ [.int .u8 xk,.int .i64 xn,str xs,.slice xa xl.length xc]:=by rw [show ((l.length:Int)-1-(j:Int)).toNat=l.length-1-j by omega];exact rx
    focus
     refine eK ?_;refine C1 (Bs rfl rfl (IntWalk.i64_in _ (by omega))) ?_;refine eK ?_;refine C1 (Gb rx) (C1 Mv ?_);refine A9 (AP (by kernel_rfl) rfl (HS.out _ (Nd.sits.wide ‹_› (fun b h=>Or.inl h)) ‹_›) (fun _ _ h=>h.ret)) rfl ?_ ?_;rotate_left;intro K M C
     rotate_right 1
     rintro _ G ⟨y,⟨⟨⟩,⟨z,⟨A,p⟩⟩⟩⟩;revert F h4 hs sx;refine eZ p ?_;intro H F h4 hs sx;clear rx p;refine Aj (An (Ai (Ah (C1 V7 (C1 Mv (Aj ?_))))));rotate_left;refine AX (AJ (AJ (AX (AE ?_))));rotate_left
    · exact AW (j+1) sB ⟨y,by omega,A,by assumption,by assumption,F,i _ z⟩ (by omega)
    · obtain ⟨er,g1,g2,g3⟩:=C
      exact Or.inr ⟨_,rfl,er,f _ g1,g2,F.fr g3 (fun k hk=>Or.inl (fun h=>hk (Or.inl h)))⟩
 · obtain rfl:j=l.length:=by omega
   rw [List.drop_of_length_le (by omega)] at hrx;rw [hrx]
   focus
    refine cS (C1 V3 (cT (Am (Hn (Ds (A5 (A5 (Bw (Bt rfl ?_)))))))));rotate_left
   exact Or.inl ⟨rj,rfl,rfl,h1.less HR.out.sub (fun k=>Or.inl),F⟩
end
section
variable {c:RC} {P P':Nat→Prop} {w w':World} {r:Rn} {T:Nat→Prop}
theorem Run.lt (h:Run c P w r) : ∀k,P k→k<w.heap.size:=fun k hk=>by
 obtain ⟨_,_,h⟩:=h
 exact (h.off k hk).2
theorem StOk.kid {ps:List PD} {k n:Int} {s:List UInt8} {l:List Nd} (h:StOk ps (.mk k n s l)) {i:Nat} {t:Nd} (hi:l[i]? = some t):StOk ps t:=by
 obtain ⟨h1,h2,h3⟩:=h;obtain ⟨-,-,-,-,-,-,h4⟩:=h1;have:=Dw (List.mem_of_getElem? hi);simp only [Nd.size] at h2
 exact ⟨Ce h4 _ (List.mem_of_getElem? hi),by omega,IM h3.2 hi⟩
theorem SQ (hc:c.fuel≤10000) {d:Nat} (IH:ED c d) (b:Bool) {n:Int} {s:List UInt8} {x y z u:Nd} (hx:x.isExpr=true) (hy:y.isBlock=true) (hz:z.isBlock=true) (hu:u.isExpr=true) (hok:StOk c.g.procs (.mk 52 n s [x,y,z,u])) (a:Option Addr) (m:Nat) (w:World)
 (hne:((B8 (if b then u else x) r).bind fun p=>(AT (AF c.g.procs d) b (if p.1 then y else z) p.2).bind (BK (if b then x else u) p.1))≠.error (-1)) (hs:(Nd.mk 52 n s [x,y,z,u]).sits P w a) (h:Run c P w r) :
 Calls prog 126 #[.pointer (some ⟨c.rb,0,none⟩),(Nd.mk 52 n s [x,y,z,u]).val a m,.bool b] w (DH c P ((B8 (if b then u else x) r).bind fun p=>(AT (AF c.g.procs d) b (if p.1 then y else z) p.2).bind (BK (if b then x else u) p.1)) w):=by
 have X:=Ext.refl w;have HR:=Lib.hid h;have hlt:=h.lt;clear h;have hs:rowSits P w [x,y,z,u] a:=hs;obtain ⟨kb,ko,rfl,hkS,hkid⟩:=Cv hs (by simp);obtain ⟨ya,yc,ry,sy⟩:=hkid 1 y rfl;obtain ⟨za,zc,rz,sz⟩:=hkid 2 z rfl;have okx:=hok.kid (i:=0) rfl;have oky:=hok.kid (i:=1) rfl;have okz:=hok.kid (i:=2) rfl;have oku:=hok.kid (i:=3) rfl;have HE:=Lib.hid (fun w1 h1 h2=>O7 (k:=52) (n:=n) (s:=s) (l:=[x,y,z,u]) (P:=P) (by simp) (by simp) b (some ⟨kb,ko,none⟩) m w1 h1 h2)
 have hf:(if b then u else x).isExpr=true:=by cases b<;>assumption
 have hg:(if b then x else u).isExpr=true:=by cases b<;>assumption
 have okf:StOk c.g.procs (if b then u else x):=by cases b<;>assumption
 have okg:StOk c.g.procs (if b then x else u):=by cases b<;>assumption
 simp only [show BW [x,y,z,u] ([x,y,z,u].length-1)=u from rfl,show BW [x,y,z,u] 0=x from rfl] at HE
 generalize (if b then u else x)=f at *
 generalize (if b then x else u)=g at *
 clear hkid hok;obtain ⟨fk,fn,fs,fl⟩:=f;obtain ⟨gk,gn,gs,gl⟩:=g;obtain ⟨yk,yn,ys,yl⟩:=y;obtain ⟨zk,zn,zs,zl⟩:=z;replace ry:Row w ⟨kb,ko+1*4,none⟩ [.int .u8 yk,.int .i64 yn,str ys,.slice ya yl.length yc]:=ry;replace rz:Row w ⟨kb,ko+2*4,none⟩ [.int .u8 zk,.int .i64 zn,str zs,.slice za zl.length zc]:=rz
 change Calls prog _ #[_,.agg #[.int .u8 52,.int .i64 n,str s,.slice (some ⟨kb,ko,none⟩) 4 m],_] w _
 have hkb:=hlt kb hkS;obtain ⟨Z,hZ⟩ : ∃Z,Z=((B8 (.mk fk fn fs fl) r).bind fun p=>(AT (AF c.g.procs d) b (if p.1 then .mk yk yn ys yl else .mk zk zn zs zl) p.2).bind (BK (.mk gk gn gs gl) p.1)):=⟨_,rfl⟩
 rw [←hZ] at hne ⊢
 have x1 : ∀er,B8 (.mk fk fn fs fl) r = .error er→Z = .error er:=fun er e=>by rw [hZ,e];rfl
 have x2 : ∀q r1,B8 (.mk fk fn fs fl) r = .ok (q,r1)→Z=(AT (AF c.g.procs d) b (if q then .mk yk yn ys yl else .mk zk zn zs zl) r1).bind (BK (.mk gk gn gs gl) q):=fun q r1 e=>by rw [hZ,e];rfl
 clear hZ;refine Ad func126 ntmps126 rfl rfl ?_
 focus
  refine cS (eB [_,_,_,_] ?_);intro b1 w2 h4 x5 p6 z7;revert X sy sz;refine eE x5 ?_;intro X sy sz;clear hs;revert hs ry rz;refine eE x5 ?_;intro hs ry rz;refine cN (Ae [_,_,_,_] Aa rfl rfl rfl h4 rfl rfl rfl (C1 Mv (eQ rfl (HE.out _ ‹_› (fun k hk=>by have:=hlt k hk;omega)) ?_)));rintro _ bb ⟨a8,⟨m9,⟨Q,⟨R,⟨⟨⟩,⟨j,⟨o,aa⟩⟩⟩⟩⟩⟩⟩;revert h4 X sy sz hs ry rz;refine eY aa ?_;intro bc h4 X sy sz hs ry rz;refine eK ?_;refine eA [_,_,_,_] ?_;intro bd be N ab bf bg;revert j o h4 X sy sz hs ry rz;refine eE ab ?_;intro j o h4 X sy sz hs ry rz;refine eA [_,_,_,_] ?_;intro bh bi O ac bj bk;revert N j o h4 X sy sz hs ry rz;refine eE ac ?_;intro N j o h4 X sy sz hs ry rz;refine eS [_,_,_,_] N ?_;intro bl t C bm;replace O:=O.fr C (by omega);replace j:=Nd.sits.fr j C (fun b hb h=>by (have h1:=hlt b hb;have e:b=_:=h;omega));replace o:=Nd.sits.fr o C (fun b hb h=>by (have h1:=hlt b hb;have e:b=_:=h;omega));revert h4 X;refine eF C ?_;intro h4 X;replace sy:=Nd.sits.fr sy C (fun b hb h=>by (have h1:=hlt b hb;have e:b=_:=h;omega));replace sz:=Nd.sits.fr sz C (fun b hb h=>by (have h1:=hlt b hb;have e:b=_:=h;omega));replace hs:=Bk.rowSits.fr hs C (fun b hb h=>by (have h1:=hlt b hb;have e:b=_:=h;omega))
  revert ry rz;refine eF C ?_;intro ry rz;refine eS [_,_,_,_] O ?_;intro K v D bn;replace t:=t.fr D (by omega);replace j:=Nd.sits.fr j D (fun b hb h=>by (have h1:=hlt b hb;have e:b=_:=h;omega));replace o:=Nd.sits.fr o D (fun b hb h=>by (have h1:=hlt b hb;have e:b=_:=h;omega));revert h4 X;refine eF D ?_;intro h4 X;replace sy:=Nd.sits.fr sy D (fun b hb h=>by (have h1:=hlt b hb;have e:b=_:=h;omega));replace sz:=Nd.sits.fr sz D (fun b hb h=>by (have h1:=hlt b hb;have e:b=_:=h;omega));replace hs:=Bk.rowSits.fr hs D (fun b hb h=>by (have h1:=hlt b hb;have e:b=_:=h;omega));revert ry rz;refine eF D ?_;intro ry rz;refine cT ?_;rotate_left
 have h1:=HR.out.more X;have F:Fr (fun k=> ¬P k) w K:=Fr.of_ext X;have ag:=X.size;clear X hs;have HH:=Lib.hid (fun w1 h1 h2=>ME (c:=c) (P:=Ch P w K) (r:=r) hc _ okf.wf hf a8 m9 w1 h1 h2)
 unfold Uv at HH
 have HY:=Lib.hid (fun q r1 (e:B8 (.mk fk fn fs fl) r = .ok (q,r1)) (hq:q=true) w1 h1 h2=>IH (Ch P w K) b _ r1 ya yc w1 hy oky (fun e2=>hne (by rw [x2 _ _ e,hq];simp only [if_true];rw [e2];rfl)) h1 h2);have HZ:=Lib.hid (fun q r1 (e:B8 (.mk fk fn fs fl) r = .ok (q,r1)) (hq:q=false) w1 h1 h2=>IH (Ch P w K) b _ r1 za zc w1 hz okz (fun e2=>hne (by rw [x2 _ _ e,hq];simp only [Bool.false_eq_true,if_false];rw [e2];rfl)) h1 h2);have HA:=Lib.hid (fun q r2 w1 h1 h2=>NY (c:=c) (P:=Ch P w K) (r:=r2) hc q _ okg.wf hg Q R w1 h1 h2)
 unfold DH at HY HZ HA
 focus
  refine eK ?_;refine Ae [_,_,_,_] Aa rfl rfl rfl t rfl rfl rfl ?_;refine A9 (AP (by kernel_rfl) rfl (HH.out _ (Nd.sits.wide ‹_› (fun b h=>Or.inl h)) ‹_›) (fun _ _ h=>h.ret)) rfl ?_ ?_;rotate_left;intro bo bp ad
  rotate_right 1
  rintro _ ah ⟨ai,⟨aj,⟨⟨⟩,⟨B,⟨ak,E⟩⟩⟩⟩⟩;revert v t j o h4 sy sz;refine eZ E ?_;intro al v t j o h4 sy sz;replace ry:=Row.fr ry E (fun h=>h (Or.inl hkS));replace rz:=Row.fr rz E (fun h=>h (Or.inl hkS));replace F:=Fr.fr F E (fun k hk=>Or.inl (fun h=>hk (Or.inl h)));refine C1 Pa (cT (Am (cS (C1 Mv (cT ?_)))));refine JF rfl (fun A=>?_) (fun A=>?_);refine eK ?_;refine C1 (Gb ry) (C1 Mv ?_);refine A9 (AP (by kernel_rfl) rfl (HY.out _ _ ‹_› ‹_› _ (Nd.sits.wide ‹_› (fun b h=>Or.inl h)) ‹_›) (fun _ _ h=>h.ret)) rfl ?_ ?_;rotate_left;intro am an S
  rotate_right 1
  rintro _ ao ⟨ap,⟨⟨⟩,⟨L,⟨aq,G⟩⟩⟩⟩;revert v t j o h4 sy sz;refine eZ G ?_;intro ar v t j o h4 sy sz;replace ry:=Row.fr ry G (fun h=>h (Or.inl hkS));replace rz:=Row.fr rz G (fun h=>h (Or.inl hkS));replace F:=Fr.fr F G (fun k hk=>Or.inl (fun h=>hk (Or.inl h)));refine eK ?_;refine Ae [_,_,_,_] Aa rfl rfl rfl v rfl rfl rfl (C1 Mv ?_);refine A9 (AP (by kernel_rfl) rfl (HA.out _ _ _ (Nd.sits.wide ‹_› (fun b h=>Or.inl h)) ‹_›) (fun _ _ h=>h.ret)) rfl ?_ ?_;rotate_left;intro au av T
  rotate_right 1
  rintro _ aw ⟨ax,⟨⟨⟩,⟨ay,⟨U,H⟩⟩⟩⟩;revert v t j o h4 sy sz;refine eZ H ?_;intro az v t j o h4 sy sz;replace ry:=Row.fr ry H (fun h=>h (Or.inl hkS));replace rz:=Row.fr rz H (fun h=>h (Or.inl hkS));replace F:=Fr.fr F H (fun k hk=>Or.inl (fun h=>hk (Or.inl h)));refine Aj (Bt rfl ?_);rotate_left;refine AE ?_;rotate_left;refine AJ (AE ?_);rotate_left;refine eK ?_;refine C1 (Gb rz) (C1 Mv ?_);refine A9 (AP (by kernel_rfl) rfl (HZ.out _ _ ‹_› ‹_› _ (Nd.sits.wide ‹_› (fun b h=>Or.inl h)) ‹_›) (fun _ _ h=>h.ret)) rfl ?_ ?_;rotate_left;intro a0 a1 V
  rotate_right 1
  rintro _ a2 ⟨a3,⟨⟨⟩,⟨M,⟨a4,I⟩⟩⟩⟩;revert v t j o h4 sy sz;refine eZ I ?_;intro a5 v t j o h4 sy sz;replace ry:=Row.fr ry I (fun h=>h (Or.inl hkS));replace rz:=Row.fr rz I (fun h=>h (Or.inl hkS));replace F:=Fr.fr F I (fun k hk=>Or.inl (fun h=>hk (Or.inl h)));refine eK ?_;refine Ae [_,_,_,_] Aa rfl rfl rfl v rfl rfl rfl (C1 Mv ?_);refine A9 (AP (by kernel_rfl) rfl (HA.out _ _ _ (Nd.sits.wide ‹_› (fun b h=>Or.inl h)) ‹_›) (fun _ _ h=>h.ret)) rfl ?_ ?_;rotate_left;intro a6 a7 W
  rotate_right 1
  rintro _ ae ⟨a9,⟨⟨⟩,⟨ba,⟨Y,J⟩⟩⟩⟩;revert v t j o h4 sy sz;refine eZ J ?_;intro af v t j o h4 sy sz;replace ry:=Row.fr ry J (fun h=>h (Or.inl hkS));replace rz:=Row.fr rz J (fun h=>h (Or.inl hkS));replace F:=Fr.fr F J (fun k hk=>Or.inl (fun h=>hk (Or.inl h)));refine Aj (Bt rfl ?_);rotate_left;refine AE ?_;rotate_left;refine AJ (AE ?_);rotate_left;refine AJ (AE ?_);rotate_left
 · subst A
   exact EC U F HR.out.sub (fun k=>Or.inl) (by rw [x2 _ _ B];simp only [if_true,Bool.false_eq_true,if_false,L,Except.bind];assumption)
 · subst A
   exact Bz T F (fun k=>Or.inl) (fun er e=>by rw [x2 _ _ B];simp only [if_true,Bool.false_eq_true,if_false,L,Except.bind];exact e)
 · subst A
   exact Bz S F (fun k=>Or.inl) (fun er e=>by rw [x2 _ _ B];simp only [if_true,Bool.false_eq_true,if_false,e,Except.bind])
 · subst A
   exact EC Y F HR.out.sub (fun k=>Or.inl) (by rw [x2 _ _ B];simp only [if_true,Bool.false_eq_true,if_false,M,Except.bind];assumption)
 · subst A
   exact Bz W F (fun k=>Or.inl) (fun er e=>by rw [x2 _ _ B];simp only [if_true,Bool.false_eq_true,if_false,M,Except.bind];exact e)
 · subst A
   exact Bz V F (fun k=>Or.inl) (fun er e=>by rw [x2 _ _ B];simp only [if_true,Bool.false_eq_true,if_false,e,Except.bind])
 · exact Bz ad F (fun k=>Or.inl) x1
theorem VA (hc:c.fuel≤10000) {d:Nat} (IH:ED c d) (b:Bool) {n:Int} {s:List UInt8} {x y z u:Nd} (hx:x.isExpr=true) (hy:y.isBlock=true) (hz2:z.isBlock=true) (hu:u.isExpr=true) (hok:StOk c.g.procs (.mk 53 n s [x,y,z,u])) (a:Option Addr) (m:Nat) (w:World)
 (hne:((BK (if b then u else x) true r).bind (C3 (AT (AF c.g.procs d) b y) (AT (AF c.g.procs d) b z) (if b then x else u) (if b then u else x) d))≠.error (-1)) (hs:(Nd.mk 53 n s [x,y,z,u]).sits P w a) (h:Run c P w r) :
 Calls prog 127 #[.pointer (some ⟨c.rb,0,none⟩),(Nd.mk 53 n s [x,y,z,u]).val a m,.bool b] w (DH c P ((BK (if b then u else x) true r).bind (C3 (AT (AF c.g.procs d) b y) (AT (AF c.g.procs d) b z) (if b then x else u) (if b then u else x) d)) w):=by
 have X:=Ext.refl w;have HR:=Lib.hid h;have hlt:=h.lt;clear h;have hs:rowSits P w [x,y,z,u] a:=hs;obtain ⟨kb,ko,rfl,hkS,hkid⟩:=Cv hs (by simp);obtain ⟨ya,yc,ry,sy⟩:=hkid 1 y rfl;obtain ⟨za,zc,rz,sz⟩:=hkid 2 z rfl;have okx:=hok.kid (i:=0) rfl;have oky:=hok.kid (i:=1) rfl;have okz:=hok.kid (i:=2) rfl;have oku:=hok.kid (i:=3) rfl;have HE:=Lib.hid (fun w1 h1 h2=>O7 (k:=53) (n:=n) (s:=s) (l:=[x,y,z,u]) (P:=P) (by simp) (by simp) b (some ⟨kb,ko,none⟩) m w1 h1 h2)
 have hf:(if b then u else x).isExpr=true:=by cases b<;>assumption
 have hg:(if b then x else u).isExpr=true:=by cases b<;>assumption
 have okf:StOk c.g.procs (if b then u else x):=by cases b<;>assumption
 have okg:StOk c.g.procs (if b then x else u):=by cases b<;>assumption
 simp only [show BW [x,y,z,u] ([x,y,z,u].length-1)=u from rfl,show BW [x,y,z,u] 0=x from rfl] at HE
 generalize (if b then u else x)=f at *
 generalize (if b then x else u)=g at *
 clear hkid hok;obtain ⟨fk,fn,fs,fl⟩:=f;obtain ⟨gk,gn,gs,gl⟩:=g;obtain ⟨yk,yn,ys,yl⟩:=y;obtain ⟨zk,zn,zs,zl⟩:=z;replace ry:Row w ⟨kb,ko+1*4,none⟩ [.int .u8 yk,.int .i64 yn,str ys,.slice ya yl.length yc]:=ry;replace rz:Row w ⟨kb,ko+2*4,none⟩ [.int .u8 zk,.int .i64 zn,str zs,.slice za zl.length zc]:=rz
 change Calls prog _ #[_,.agg #[.int .u8 53,.int .i64 n,str s,.slice (some ⟨kb,ko,none⟩) 4 m],_] w _
 have hkb:=hlt kb hkS;obtain ⟨B1,hB1⟩ : ∃B1,B1=AT (AF c.g.procs d) b (.mk yk yn ys yl):=⟨_,rfl⟩;obtain ⟨B2,hB2⟩ : ∃B2,B2=AT (AF c.g.procs d) b (.mk zk zn zs zl):=⟨_,rfl⟩
 rw [←hB1,←hB2] at hne ⊢
 obtain ⟨Z,hZ⟩ : ∃Z,Z=((BK (.mk fk fn fs fl) true r).bind (C3 B1 B2 (.mk gk gn gs gl) (.mk fk fn fs fl) d)):=⟨_,rfl⟩
 rw [←hZ] at hne ⊢
 have x1 : ∀er,BK (.mk fk fn fs fl) true r = .error er→Z = .error er:=fun er e=>by rw [hZ,e];rfl
 have x2 : ∀r1,BK (.mk fk fn fs fl) true r = .ok r1→Z=C3 B1 B2 (.mk gk gn gs gl) (.mk fk fn fs fl) d r1:=fun r1 e=>by rw [hZ,e];rfl
 clear hZ;refine Ad func127 ntmps127 rfl rfl ?_
 focus
  refine cS (eB [_,_,_,_] ?_);intro b1 w2 h4 x5 p6 z7;revert X sy sz;refine eE x5 ?_;intro X sy sz;clear hs;revert hs ry rz;refine eE x5 ?_;intro hs ry rz;refine cN (Ae [_,_,_,_] Aa rfl rfl rfl h4 rfl rfl rfl (C1 Mv (eQ rfl (HE.out _ ‹_› (fun k hk=>by have:=hlt k hk;omega)) ?_)));rintro _ bc ⟨a8,⟨m9,⟨M,⟨O,⟨⟨⟩,⟨o,⟨p,ah⟩⟩⟩⟩⟩⟩⟩;revert h4 X sy sz hs ry rz;refine eY ah ?_;intro bd h4 X sy sz hs ry rz;refine eK ?_;refine eA [_,_,_,_] ?_;intro U be S ai bf bg;revert o p h4 X sy sz hs ry rz;refine eE ai ?_;intro o p h4 X sy sz hs ry rz;refine eA [_,_,_,_] ?_;intro V bh T aj bi bj;revert S o p h4 X sy sz hs ry rz;refine eE aj ?_;intro S o p h4 X sy sz hs ry rz;refine eS [_,_,_,_] S ?_;intro bk t A bl;replace T:=T.fr A (by omega);replace o:=Nd.sits.fr o A (fun b hb h=>by (have h1:=hlt b hb;have e:b=_:=h;omega));replace p:=Nd.sits.fr p A (fun b hb h=>by (have h1:=hlt b hb;have e:b=_:=h;omega));revert h4 X;refine eF A ?_;intro h4 X;replace sy:=Nd.sits.fr sy A (fun b hb h=>by (have h1:=hlt b hb;have e:b=_:=h;omega));replace sz:=Nd.sits.fr sz A (fun b hb h=>by (have h1:=hlt b hb;have e:b=_:=h;omega));replace hs:=Bk.rowSits.fr hs A (fun b hb h=>by (have h1:=hlt b hb;have e:b=_:=h;omega))
  revert ry rz;refine eF A ?_;intro ry rz;refine eS [_,_,_,_] T ?_;intro L v B bm;replace t:=t.fr B (by omega);replace o:=Nd.sits.fr o B (fun b hb h=>by (have h1:=hlt b hb;have e:b=_:=h;omega));replace p:=Nd.sits.fr p B (fun b hb h=>by (have h1:=hlt b hb;have e:b=_:=h;omega));revert h4 X;refine eF B ?_;intro h4 X;replace sy:=Nd.sits.fr sy B (fun b hb h=>by (have h1:=hlt b hb;have e:b=_:=h;omega));replace sz:=Nd.sits.fr sz B (fun b hb h=>by (have h1:=hlt b hb;have e:b=_:=h;omega));replace hs:=Bk.rowSits.fr hs B (fun b hb h=>by (have h1:=hlt b hb;have e:b=_:=h;omega));revert ry rz;refine eF B ?_;intro ry rz;refine cT ?_;rotate_left
 have h1:=HR.out.more X;have F:Fr (fun k=> ¬P k) w L:=Fr.of_ext X;have am:=X.size;clear X hs;have HH:=Lib.hid (fun r1 w1 h1 h2=>ME (c:=c) (P:=Ch P w L) (r:=r1) hc _ okg.wf hg M O w1 h1 h2)
 unfold Uv at HH
 have HA:=Lib.hid (fun q r2 w1 h1 h2=>NY (c:=c) (P:=Ch P w L) (r:=r2) hc q _ okf.wf hf a8 m9 w1 h1 h2)
 unfold DH at HA
 focus
  refine eK ?_;refine Ae [_,_,_,_] Aa rfl rfl rfl t rfl rfl rfl ?_;refine A9 (AP (by kernel_rfl) rfl (HA.out _ _ _ (Nd.sits.wide ‹_› (fun b h=>Or.inl h)) ‹_›) (fun _ _ h=>h.ret)) rfl ?_ ?_;rotate_left;intro bn bo ak
  rotate_right 1
  rintro _ an ⟨W,⟨⟨⟩,⟨Q,⟨N,E⟩⟩⟩⟩;revert v t o p h4 sy sz;refine eZ E ?_;intro ao v t o p h4 sy sz;replace ry:=Row.fr ry E (fun h=>h (Or.inl hkS));replace rz:=Row.fr rz E (fun h=>h (Or.inl hkS));replace F:=Fr.fr F E (fun k hk=>Or.inl (fun h=>hk (Or.inl h)));refine cT ?_;rotate_left;refine AJ (AE ?_);rotate_left
 · refine AK ?_
   have Y:=x2 _ Q;refine Bn (ι:=Nat) (fun _=>[(0,.pointer (some ⟨c.rb,0,none⟩)),(2,.bool b),(4,.pointer (some ⟨b1,0,none⟩)),(6,.pointer (some ⟨U,0,none⟩)),(7,.pointer (some ⟨V,0,none⟩))])
    (fun j w'=> ∃rj,Run c (Ch P w L) w' rj∧Blk w' b1 [.int .u8 53,.int .i64 n,str s,.slice (some ⟨kb,ko,none⟩) 4 m]∧Blk w' U [.int .u8 fk,.int .i64 fn,str fs,.slice a8 fl.length m9]∧Blk w' V [.int .u8 gk,.int .i64 gn,str gs,.slice M gl.length O]∧Row w' ⟨kb,ko+1*4,none⟩ [.int .u8 yk,.int .i64 yn,str ys,.slice ya yl.length yc]∧Row w' ⟨kb,ko+2*4,none⟩ [.int .u8 zk,.int .i64 zn,str zs,.slice za zl.length zc] ∧
     (Nd.mk fk fn fs fl).sits P w' a8∧(Nd.mk gk gn gs gl).sits P w' M∧(Nd.mk yk yn ys yl).sits P w' ya∧(Nd.mk zk zn zs zl).sits P w' za∧Fr (fun k=> ¬P k) w w'∧Z=C3 B1 B2 (.mk gk gn gs gl) (.mk fk fn fs fl) j rj)
    (fun j=>j) d sB ⟨W,N,h4,t,v,ry,rz,o,p,sy,sz,F,Y⟩ ?_
   clear N h4 t v ry rz o p sy sz F Y Q h1;rintro j w1 ⟨rj,N,h4,t,v,ry,rz,o,p,sy,sz,F,hz⟩
   cases j with
   | zero=>exact absurd hz (fun e=>hne e)
   | succ j=>
    have y1 : ∀er,B1 rj = .error er→Z = .error er:=fun er e=>by rw [hz];simp only [C3,e,Except.bind]
    have y2 : ∀r1 er,B1 rj = .ok r1→B8 (.mk gk gn gs gl) r1 = .error er→Z = .error er:=fun r1 er e e2=>by rw [hz];simp only [C3,e,e2,Except.bind]
    have y3 : ∀r1 r2,B1 rj = .ok r1→B8 (.mk gk gn gs gl) r1 = .ok (true,r2)→Z = .ok r2:=fun r1 r2 e e2=>by rw [hz];simp only [C3,e,e2,Except.bind,if_true]
    have y4 : ∀r1 r2,B1 rj = .ok r1→B8 (.mk gk gn gs gl) r1 = .ok (false,r2)→Z=(B2 r2).bind fun r=>(BK (.mk fk fn fs fl) false r).bind (C3 B1 B2 (.mk gk gn gs gl) (.mk fk fn fs fl) j):=fun r1 r2 e e2=>by rw [hz];simp only [C3,e,e2,Except.bind,Bool.false_eq_true,if_false]
    have HY:=Lib.hid (fun w1 h1 h2=>IH (Ch P w L) b _ rj ya yc w1 hy oky (fun e2=>hne (y1 _ (by rw [hB1];exact e2))) h1 h2);have HZ:=Lib.hid (fun r1 q r2 (e:B1 rj = .ok r1) (e2:B8 (.mk gk gn gs gl) r1 = .ok (q,r2)) (hq:q=false) w1 h1 h2=>IH (Ch P w L) b _ r2 za zc w1 hz2 okz (fun e3=>hne (by subst hq;rw [y4 _ _ e e2,hB2,e3];rfl)) h1 h2)
    rw [←hB1] at HY
    rw [←hB2] at HZ
    unfold DH at HY HZ
    clear hz
    focus
     refine eK ?_;refine C1 (Gb ry) (C1 Mv ?_);refine A9 (AP (by kernel_rfl) rfl (HY.out _ (Nd.sits.wide ‹_› (fun b h=>Or.inl h)) ‹_›) (fun _ _ h=>h.ret)) rfl ?_ ?_;rotate_left;intro bp bq al
     rotate_right 1
     rintro _ ap ⟨aq,⟨⟨⟩,⟨C,⟨ar,G⟩⟩⟩⟩;revert h4 t v;refine eZ G ?_;intro au h4 t v;replace ry:=Row.fr ry G (fun h=>h (Or.inl hkS));replace rz:=Row.fr rz G (fun h=>h (Or.inl hkS));revert o p sy sz F;refine eF G ?_;intro o p sy sz F;refine eK ?_;refine Ae [_,_,_,_] Aa rfl rfl rfl v rfl rfl rfl ?_;refine A9 (AP (by kernel_rfl) rfl (HH.out _ _ (Nd.sits.wide ‹_› (fun b h=>Or.inl h)) ‹_›) (fun _ _ h=>h.ret)) rfl ?_ ?_;rotate_left;intro av aw aa
     rotate_right 1
     rintro _ ax ⟨ay,⟨az,⟨⟨⟩,⟨H,⟨ab,I⟩⟩⟩⟩⟩;revert h4 t v;refine eZ I ?_;intro a0 h4 t v;replace ry:=Row.fr ry I (fun h=>h (Or.inl hkS));replace rz:=Row.fr rz I (fun h=>h (Or.inl hkS));revert o p sy sz F;refine eF I ?_;intro o p sy sz F;refine cT ?_;refine JF rfl (fun D=>?_) (fun D=>?_);refine eK ?_;refine L8 rfl ?_;rotate_left;refine eK ?_;refine C1 (Gb rz) (C1 Mv ?_);refine A9 (AP (by kernel_rfl) rfl (HZ.out _ _ _ ‹_› ‹_› ‹_› _ (Nd.sits.wide ‹_› (fun b h=>Or.inl h)) ‹_›) (fun _ _ h=>h.ret)) rfl ?_ ?_;rotate_left;intro a1 a2 ac
     rotate_right 1
     rintro _ a3 ⟨a4,⟨⟨⟩,⟨R,⟨a5,J⟩⟩⟩⟩;revert h4 t v;refine eZ J ?_;intro a6 h4 t v;replace ry:=Row.fr ry J (fun h=>h (Or.inl hkS));replace rz:=Row.fr rz J (fun h=>h (Or.inl hkS));revert o p sy sz F;refine eF J ?_;intro o p sy sz F;refine eK ?_;refine Ae [_,_,_,_] Aa rfl rfl rfl t rfl rfl rfl ?_;refine A9 (AP (by kernel_rfl) rfl (HA.out _ _ _ (Nd.sits.wide ‹_› (fun b h=>Or.inl h)) ‹_›) (fun _ _ h=>h.ret)) rfl ?_ ?_;rotate_left;intro a7 a9 ad
     rotate_right 1
     rintro _ ba ⟨ae,⟨⟨⟩,⟨af,⟨ag,K⟩⟩⟩⟩;revert h4 t v;refine eZ K ?_;intro bb h4 t v;replace ry:=Row.fr ry K (fun h=>h (Or.inl hkS));replace rz:=Row.fr rz K (fun h=>h (Or.inl hkS));revert o p sy sz F;refine eF K ?_;intro o p sy sz F;refine Aj (An ?_);rotate_left;refine AX (AJ (AX (AE ?_)));rotate_left;refine AJ (AX (AJ (AX (AE ?_))));rotate_left;refine AJ (AJ (AX (AJ (AX (AE ?_)))));rotate_left;refine AJ (AX (AJ (AX (AE ?_))));rotate_left
    · subst D
      exact EC ab F HR.out.sub (fun k=>Or.inl) (y3 _ _ C H)
    · subst D
      exact AW j sB ⟨ae,ag,by assumption,by assumption,by assumption,by assumption,by assumption,by assumption,by assumption,by assumption,by assumption,F,by rw [y4 _ _ C H,R];simp only [Except.bind];rw [af]⟩ (by omega)
    · subst D
      exact Bz ad F (fun k=>Or.inl) (fun er e=>by rw [y4 _ _ C H,R];simp only [Except.bind];rw [e])
    · subst D
      exact Bz ac F (fun k=>Or.inl) (fun er e=>by rw [y4 _ _ C H,e];rfl)
    · exact Bz aa F (fun k=>Or.inl) (fun er e=>y2 _ _ C e)
    · exact Bz al F (fun k=>Or.inl) y1
 · exact Bz ak F (fun k=>Or.inl) x1
end
section
variable {c:RC} {P P':Nat→Prop} {w w':World} {r:Rn} {T:Nat→Prop}
theorem Ea {Z:Except Int Rn} {w1:World} {ch:List PanicEntry} {e:Int} (q:e≠0∧ch=KO e∧Ext w1 w') (F:Fr (fun k=> ¬P k) w w1) (ez:e≠0→Z = .error e):DH c P Z w (.panicked ch) w':=
 Or.inr ⟨_,rfl,e,ez q.1,q.2.1,F.ext q.2.2⟩
theorem L0 {Z:Except Int Rn} {X:Except Int Int} {w1:World} {ch:List PanicEntry} (q:Wb X w1 ch w') (F:Fr (fun k=> ¬P k) w w1) (e : ∀er,X = .error er→Z = .error er):DH c P Z w (.panicked ch) w':=by
 obtain ⟨er,g1,g2,g3⟩:=q
 exact Or.inr ⟨_,rfl,er,e _ g1,g2,F.ext g3⟩
theorem Run.wf (h:Run c P w r) : ∃K,r.st.WF K (1000+(c.fuel-r.rem)):=by
 obtain ⟨_,_,h⟩:=h
 exact h.wf
theorem P4 (hc:c.fuel≤10000) (h0:Run c P w r) (P':Nat→Prop) (v:VD) (hk:v.kind=1∨v.kind=3) (hl:v.len=0) (x:Int) (r1:Rn) (e:Bu r = .ok r1) (w1:World) (h:Run c P' w1 r1) :
 Calls prog 131 #[.pointer (some ⟨c.sb,0,none⟩),v.val,.int .i64 x] w1 (N0 c P' r1.rem (r1.st.opens v x) w1):=by
 obtain ⟨g1,rfl⟩:=EI e;have h1:=h0.rem
 exact Vx hc v hk hl x w1 h (by simp only;omega) (m:=c.fuel-r.rem) h0.wf (by simp only;omega)
theorem Uy (hc:c.fuel≤10000) {d:Nat} (IH:ED c d) (b:Bool) {n:Int} {s:List UInt8} {x y z:Nd} (hx:x.isExpr=true) (hy:y.isBlock=true) (hz2:z.isExpr=true) (hok:StOk c.g.procs (.mk 54 n s [x,y,z])) (a:Option Addr) (m:Nat) (w:World)
 (hne:((Bu r).bind fun r=>(Cc (if b then z else x) r).bind fun v=>(C9 (·.opens ⟨s,1,0⟩ v) r).bind fun r=>(AT (AF c.g.procs d) b y r).bind fun r=>(Bu r).bind fun r=>(Cc (if b then x else z) r).bind fun v=>C9 (·.closes s v) r)≠.error (-1)) (hs:(Nd.mk 54 n s [x,y,z]).sits P w a) (h:Run c P w r) :
 Calls prog 128 #[.pointer (some ⟨c.rb,0,none⟩),(Nd.mk 54 n s [x,y,z]).val a m,.bool b] w (DH c P ((Bu r).bind fun r=>(Cc (if b then z else x) r).bind fun v=>(C9 (·.opens ⟨s,1,0⟩ v) r).bind fun r=>(AT (AF c.g.procs d) b y r).bind fun r=>(Bu r).bind fun r=>(Cc (if b then x else z) r).bind fun v=>C9 (·.closes s v) r) w):=by
 have X:=Ext.refl w;have HR:=Lib.hid h;have hlt:=h.lt;clear h;have hs:rowSits P w [x,y,z] a:=hs;obtain ⟨kb,ko,rfl,hkS,hkid⟩:=Cv hs (by simp);obtain ⟨ya,yc,ry,sy⟩:=hkid 1 y rfl;have okx:=hok.kid (i:=0) rfl;have oky:=hok.kid (i:=1) rfl;have okz:=hok.kid (i:=2) rfl;have HE:=Lib.hid (fun w1 h1 h2=>O7 (k:=54) (n:=n) (s:=s) (l:=[x,y,z]) (P:=P) (by simp) (by simp) b (some ⟨kb,ko,none⟩) m w1 h1 h2)
 have hf:(if b then z else x).isExpr=true:=by cases b<;>assumption
 have hg:(if b then x else z).isExpr=true:=by cases b<;>assumption
 have okf:StOk c.g.procs (if b then z else x):=by cases b<;>assumption
 have okg:StOk c.g.procs (if b then x else z):=by cases b<;>assumption
 simp only [show BW [x,y,z] ([x,y,z].length-1)=z from rfl,show BW [x,y,z] 0=x from rfl] at HE
 generalize (if b then z else x)=f at *
 generalize (if b then x else z)=g at *
 clear hkid hok;obtain ⟨fk,fn,fs,fl⟩:=f;obtain ⟨gk,gn,gs,gl⟩:=g;obtain ⟨yk,yn,ys,yl⟩:=y;replace ry:Row w ⟨kb,ko+1*4,none⟩ [.int .u8 yk,.int .i64 yn,str ys,.slice ya yl.length yc]:=ry
 change Calls prog _ #[_,.agg #[.int .u8 54,.int .i64 n,str s,.slice (some ⟨kb,ko,none⟩) 3 m],_] w _
 have hkb:=hlt kb hkS;obtain ⟨B1,hB1⟩ : ∃B1,B1=AT (AF c.g.procs d) b (.mk yk yn ys yl):=⟨_,rfl⟩
 rw [←hB1] at hne ⊢
 obtain ⟨Z,hZ⟩ : ∃Z,Z=((Bu r).bind fun r=>(Cc (.mk fk fn fs fl) r).bind fun v=>(C9 (·.opens ⟨s,1,0⟩ v) r).bind fun r=>(B1 r).bind fun r=>(Bu r).bind fun r=>(Cc (.mk gk gn gs gl) r).bind fun v=>C9 (·.closes s v) r):=⟨_,rfl⟩
 rw [←hZ] at hne ⊢
 refine Ad func128 ntmps128 rfl rfl ?_
 focus
  refine cS (eB [_,_,_,_] ?_);intro b1 w2 h4 x5 p6 z7;replace X:=X.ext x5;clear hs;revert hs sy ry;refine eE x5 ?_;intro hs sy ry;refine cN (Ae [_,_,_,_] Aa rfl rfl rfl h4 rfl rfl rfl (C1 Mv (eQ rfl (HE.out _ ‹_› (fun k hk=>by have:=hlt k hk;omega)) ?_)));rintro _ ca ⟨a8,⟨m9,⟨ao,⟨ap,⟨⟨⟩,⟨j,⟨o,a2⟩⟩⟩⟩⟩⟩⟩;revert h4 X hs sy ry;refine eY a2 ?_;intro cb h4 X hs sy ry;refine eK ?_;refine eA [_,_,_,_] ?_;intro cc cd af a3 ce cf;revert j o h4 X hs sy ry;refine eE a3 ?_;intro j o h4 X hs sy ry;refine eA [_,_,_,_] ?_;intro cg ch ag a4 ci cj;revert af j o h4 X hs sy ry;refine eE a4 ?_;intro af j o h4 X hs sy ry;refine eS [_,_,_,_] af ?_;intro ck p J cl;replace ag:=ag.fr J (by omega);replace j:=Nd.sits.fr j J (fun b hb h=>by (have h1:=hlt b hb;have e:b=_:=h;omega));replace o:=Nd.sits.fr o J (fun b hb h=>by (have h1:=hlt b hb;have e:b=_:=h;omega));revert h4 X;refine eF J ?_;intro h4 X;replace hs:=Bk.rowSits.fr hs J (fun b hb h=>by (have h1:=hlt b hb;have e:b=_:=h;omega));replace sy:=Nd.sits.fr sy J (fun b hb h=>by (have h1:=hlt b hb;have e:b=_:=h;omega));replace ry:=Row.fr ry J (by simp only;omega);refine eS [_,_,_,_] ag ?_;intro B q K cm;replace p:=p.fr K (by omega)
  replace j:=Nd.sits.fr j K (fun b hb h=>by (have h1:=hlt b hb;have e:b=_:=h;omega));replace o:=Nd.sits.fr o K (fun b hb h=>by (have h1:=hlt b hb;have e:b=_:=h;omega));revert h4 X;refine eF K ?_;intro h4 X;replace hs:=Bk.rowSits.fr hs K (fun b hb h=>by (have h1:=hlt b hb;have e:b=_:=h;omega));replace sy:=Nd.sits.fr sy K (fun b hb h=>by (have h1:=hlt b hb;have e:b=_:=h;omega));replace ry:=Row.fr ry K (by simp only;omega);refine cT ?_;rotate_left
 have h1:=HR.out.more X;have F:Fr (fun k=> ¬P k) w B:=Fr.of_ext X;have bi:=X.size;clear X hs;have HS:=Lib.hid (fun r1 w1 h=>KP (c:=c) (P:=Ch P w B) (r:=r1) hc w1 h)
 unfold DH at HS
 have HV:=Lib.hid (fun r1 w1 h1 h2=>P1 (c:=c) (P:=Ch P w B) (r:=r1) hc _ okf.wf hf a8 m9 P w1 h1 h2);have HU:=Lib.hid (fun r1 w1 h1 h2=>P1 (c:=c) (P:=Ch P w B) (r:=r1) hc _ okg.wf hg ao ap P w1 h1 h2);have HO:=Lib.hid (fun r1 e v w1 h=>P4 hc HR.out (Ch P w B) ⟨s,1,0⟩ (Or.inl rfl) rfl v r1 e w1 h)
 unfold VD.val at HO
 have HL:=Lib.hid (fun r1 v w1 h=>P2 (c:=c) (P:=Ch P w B) (r:=r1) hc s v w1 h);have HC:=Lib.hid (fun e w1=>G4 e (.pointer (some ⟨c.rb,0,none⟩)) w1)
 unfold O6 at HC
 have HY:=Lib.hid (fun r1 v (e:Bu r = .ok r1) (e2:Cc (.mk fk fn fs fl) r1 = .ok v) (e3:(r1.st.opens ⟨s,1,0⟩ v).1=0) w1 h1 h2=>IH (Ch P w B) b _ ⟨(r1.st.opens ⟨s,1,0⟩ v).2,r1.rem⟩ ya yc w1 hy oky (fun e4=>hne (by rw [hZ];simp only [e,e2,Except.bind,C9,e3,ne_eq,not_true,if_false];rw [hB1,e4])) h1 h2)
 rw [←hB1] at HY
 unfold DH at HY
 focus
  refine eK ?_;refine A9 (AP (by kernel_rfl) rfl (HS.out _ _ ‹_›) (fun _ _ h=>h.ret)) rfl ?_ ?_;rotate_left;intro cn co a5
  rotate_right 1
  rintro _ aa ⟨bj,⟨⟨⟩,⟨C,⟨G,N⟩⟩⟩⟩;revert q p j o h4 sy;refine eZ N ?_;intro bk q p j o h4 sy;replace ry:=Row.fr ry N (fun h=>h (Or.inl hkS));replace F:=Fr.fr F N (fun k hk=>Or.inl (fun h=>hk (Or.inl h)));refine eK ?_;refine Ax (fun wz=>Fr ((fun k=> ¬(Ch P w B k∨k=c.rb))) aa wz) 12 (.pure 0 (.pure 1 (.pure 2 (.pure 3 (.pure 4 (.pure 5 (.pure 6 (.pure 7 (.pure 8 (.pure 9 (.fork 10 (.fork 11 .tail .none) .none))))))))))) mixed (by kernel_rfl) (Ac Ak) ?_;intro aq ab _;have t:(fun wz=>Fr ((fun k=> ¬(Ch P w B k∨k=c.rb))) aa wz) aq:=Fr.of_ext ab;simp only at t;have W:=G;have O:=q;have Q:=p;have ah:=j;have ai:=o;have R:=h4;have ar:=sy;have au:=ry;revert G q p j o h4 sy ry F;refine eY ab ?_;intro bl G q p j o h4 sy ry F;refine ⟨t,?_⟩;refine Tq rfl Mv (Tq rfl Mv (Tq rfl Pn (Tq rfl Pf (Tq rfl (Al Aa rfl rfl rfl (fun wz hz=>Blk.cell (Blk.fr (Run.blk W) hz (by first|omega|(dsimp only;omega))) rfl)) (Tq rfl Pf (Tq rfl (Al Aa rfl rfl rfl (fun wz hz=>Blk.cell (Blk.fr R hz (fun h=>h (Or.inl (Or.inr ⟨by omega,by omega⟩)))) rfl)) (Tq rfl (AC [_,_,_] Aa Bj rfl rfl rfl rfl) (Tq rfl Mv (Tq rfl (Aw [_,_,_,_] Aa rfl rfl rfl (fun wz hz=>(Blk.fr Q hz (fun h=>h (Or.inl (Or.inr ⟨by omega,by omega⟩))))) rfl rfl) ?_)))))))))
  refine MW rfl (AP (by kernel_rfl) rfl (HV.out _ _ ‹_› ‹_›) (fun _ _ h=>h.ret)) rfl ?_ ?_ As;rotate_left;intro bm bn av
  rotate_right 1
  rintro _ bo ⟨bp,⟨⟨⟩,⟨E,aw⟩⟩⟩;revert t G q p j o h4 sy ry F;refine eY aw ?_;intro bq t G q p j o h4 sy ry F;refine ⟨t,?_⟩;refine At rfl (Av (by kernel_rfl) rfl (HO.out _ ‹_› _ _ ‹_›) (fun _ _ h=>⟨_,h.1⟩)) rfl ?_ (fun _ h=>h) As;rintro _ br ⟨⟨⟩,⟨ac,D⟩⟩;revert t q p;refine eZ D ?_;intro bs t q p;replace j:=Nd.sits.fr j D (fun b hb h=>h (Or.inl (Or.inl hb)));replace o:=Nd.sits.fr o D (fun b hb h=>h (Or.inl (Or.inl hb)));replace h4:=Blk.fr h4 D (fun h=>h (Or.inl (Or.inr ⟨by omega,by omega⟩)));replace sy:=Nd.sits.fr sy D (fun b hb h=>h (Or.inl (Or.inl hb)));replace ry:=Row.fr ry D (fun h=>h (Or.inl (Or.inl hkS)));replace F:=Fr.fr F D (fun k hk=>Or.inl (fun h=>hk (Or.inl (Or.inl h))));refine ⟨t,?_⟩;refine Az rfl ?_;refine A9 (AP (by kernel_rfl) rfl (HC.out _ _) (fun _ _ h=>⟨_,h.1⟩)) rfl ?_ ?_;rotate_left;intro bt bu ax
  rotate_right 1
  rintro _ bv ⟨⟨⟩,⟨H,ay⟩⟩;revert ac q p j o h4 sy ry F;refine eY ay ?_;intro bw ac q p j o h4 sy ry F;refine eK ?_;refine C1 (Gb ry) (C1 Mv ?_);refine A9 (AP (by kernel_rfl) rfl (HY.out _ _ ‹_› ‹_› ‹_› _ (Nd.sits.wide ‹_› (fun b h=>Or.inl h)) ‹_›) (fun _ _ h=>h.ret)) rfl ?_ ?_;rotate_left;intro bx bz az
  rotate_right 1
  rintro _ b0 ⟨b2,⟨⟨⟩,⟨M,⟨b3,S⟩⟩⟩⟩;revert q p j o h4 sy;refine eZ S ?_;intro b4 q p j o h4 sy;replace ry:=Row.fr ry S (fun h=>h (Or.inl hkS));replace F:=Fr.fr F S (fun k hk=>Or.inl (fun h=>hk (Or.inl h)));refine eK ?_;refine A9 (AP (by kernel_rfl) rfl (HS.out _ _ ‹_›) (fun _ _ h=>h.ret)) rfl ?_ ?_;rotate_left;intro b5 b6 a0
  rotate_right 1
  rintro _ ad ⟨b7,⟨⟨⟩,⟨T,⟨I,U⟩⟩⟩⟩;revert q p j o h4 sy;refine eZ U ?_;intro b8 q p j o h4 sy;replace ry:=Row.fr ry U (fun h=>h (Or.inl hkS));replace F:=Fr.fr F U (fun k hk=>Or.inl (fun h=>hk (Or.inl h)));refine cT (Ax (fun wz=>Fr ((fun k=> ¬(Ch P w B k∨k=c.rb))) ad wz) 11 (.pure 0 (.pure 1 (.pure 2 (.pure 3 (.pure 4 (.pure 5 (.pure 6 (.pure 7 (.pure 8 (.fork 9 (.fork 10 .tail .none) .none)))))))))) mixed (by kernel_rfl) Ak ?_);intro a1 ae _;have u:(fun wz=>Fr ((fun k=> ¬(Ch P w B k∨k=c.rb))) ad wz) a1:=Fr.of_ext ae;simp only at u;have Y:=I;have O:=q;have Q:=p;have ah:=j;have ai:=o;have R:=h4;have ar:=sy;have au:=ry;revert I q p j o h4 sy ry F;refine eY ae ?_;intro b9 I q p j o h4 sy ry F;refine ⟨u,?_⟩;refine Tq rfl Mv (Tq rfl Mv (Tq rfl Pn (Tq rfl Pf (Tq rfl (Al Aa rfl rfl rfl (fun wz hz=>Blk.cell (Blk.fr (Run.blk Y) hz (by first|omega|(dsimp only;omega))) rfl)) (Tq rfl Pf (Tq rfl (Al Aa rfl rfl rfl (fun wz hz=>Blk.cell (Blk.fr R hz (fun h=>h (Or.inl (Or.inr ⟨by omega,by omega⟩)))) rfl)) (Tq rfl Mv (Tq rfl (Aw [_,_,_,_] Aa rfl rfl rfl (fun wz hz=>(Blk.fr O hz (fun h=>h (Or.inl (Or.inr ⟨by omega,by omega⟩))))) rfl rfl) ?_))))))));refine MW rfl (AP (by kernel_rfl) rfl (HU.out _ _ ‹_› ‹_›) (fun _ _ h=>h.ret)) rfl ?_ ?_ As
  rotate_left;intro a6 a7 aj
  rotate_right 1
  rintro _ a9 ⟨ba,⟨⟨⟩,⟨V,ak⟩⟩⟩;revert u I q p j o h4 sy ry F;refine eY ak ?_;intro bb u I q p j o h4 sy ry F;refine ⟨u,?_⟩;refine At rfl (Av (by kernel_rfl) rfl (HL.out _ _ _ ‹_›) (fun _ _ h=>⟨_,h.1⟩)) rfl ?_ (fun _ h=>h) As;rintro _ bc ⟨⟨⟩,⟨L,A⟩⟩;revert u q p;refine eZ A ?_;intro bd u q p;replace j:=Nd.sits.fr j A (fun b hb h=>h (Or.inl (Or.inl hb)));replace o:=Nd.sits.fr o A (fun b hb h=>h (Or.inl (Or.inl hb)));replace h4:=Blk.fr h4 A (fun h=>h (Or.inl (Or.inr ⟨by omega,by omega⟩)));replace sy:=Nd.sits.fr sy A (fun b hb h=>h (Or.inl (Or.inl hb)));replace ry:=Row.fr ry A (fun h=>h (Or.inl (Or.inl hkS)));replace F:=Fr.fr F A (fun k hk=>Or.inl (fun h=>hk (Or.inl (Or.inl h))));refine ⟨u,?_⟩;refine Az rfl ?_;refine A9 (AP (by kernel_rfl) rfl (HC.out _ _) (fun _ _ h=>⟨_,h.1⟩)) rfl ?_ ?_;rotate_left;intro be bf al
  rotate_right 1
  rintro _ bg ⟨⟨⟩,⟨am,an⟩⟩;revert L q p j o h4 sy ry F;refine eY an ?_;intro bh L q p j o h4 sy ry F;refine Aj (Bt rfl ?_);rotate_left;refine AE ?_;rotate_left;refine AE ?_;rotate_left;refine AJ (AE ?_);rotate_left;refine AJ (AE ?_);rotate_left;refine AJ (AE ?_);rotate_left;refine AJ (AE ?_);rotate_left;refine AJ (AE ?_);rotate_left
 · exact EC L F HR.out.sub (fun k=>Or.inl) (by rw [hZ];simp only [C,E,H,M,T,V,am,Except.bind,C9,ne_eq,not_true,not_false_iff,if_false,if_true])
 · exact Ea al F (fun e=>by rw [hZ];simp only [C,E,H,M,T,V,Except.bind,C9,ne_eq,not_true,not_false_iff,if_false,if_true];rw [if_pos e])
 · exact L0 aj F (fun er e=>by rw [hZ];simp only [C,E,H,M,T,e,Except.bind,C9,ne_eq,not_true,not_false_iff,if_false,if_true])
 · exact Bz a0 F (fun k=>Or.inl) (fun er e=>by rw [hZ];simp only [C,E,H,M,e,Except.bind,C9,ne_eq,not_true,not_false_iff,if_false,if_true])
 · exact Bz az F (fun k=>Or.inl) (fun er e=>by rw [hZ];simp only [C,E,H,e,Except.bind,C9,ne_eq,not_true,not_false_iff,if_false,if_true])
 · exact Ea ax F (fun e=>by rw [hZ];simp only [C,E,Except.bind,C9,ne_eq,not_true,not_false_iff,if_false,if_true];rw [if_pos e])
 · exact L0 av F (fun er e=>by rw [hZ];simp only [C,e,Except.bind,C9,ne_eq,not_true,not_false_iff,if_false,if_true])
 · exact Bz a5 F (fun k=>Or.inl) (fun er e=>by rw [hZ];simp only [e,Except.bind,C9,ne_eq,not_true,not_false_iff,if_false,if_true])
end
section
variable {c:RC} {P P':Nat→Prop} {w w':World} {r:Rn} {T:Nat→Prop}
theorem SR (hc:c.fuel≤10000) {d:Nat} (IH:ED c d) (b:Bool) {n:Int} {s:List UInt8} {y:Nd} (hy:y.isBlock=true) (hok:StOk c.g.procs (.mk 55 n s [y])) (a:Option Addr) (m:Nat) (w:World)
 (hne:AF c.g.procs (d+1) b (.mk 55 n s [y]) r≠.error (-1)) (hs:(Nd.mk 55 n s [y]).sits P w a) (h:Run c P w r) :
 Calls prog 108 #[.pointer (some ⟨c.rb,0,none⟩),(Nd.mk 55 n s [y]).val a m,.bool b] w (DH c P (AF c.g.procs (d+1) b (.mk 55 n s [y]) r) w):=by
 have X:=Ext.refl w;have HR:=Lib.hid h;have hlt:=h.lt;clear h;have hs:rowSits P w [y] a:=hs;obtain ⟨kb,ko,ya,yc,rfl,hkS,ry,sy⟩:=Se hs;have oky:=hok.kid (i:=0) rfl;clear hok;obtain ⟨B1,hB1⟩ : ∃B1,B1=AT (AF c.g.procs d) b y:=⟨_,rfl⟩;obtain ⟨Z,hZ⟩ : ∃Z,Z=AF c.g.procs (d+1) b (.mk 55 n s [y]) r:=⟨_,rfl⟩
 rw [←hZ] at hne ⊢
 replace hZ:Z=(Bu r).bind fun r=>(C9 (·.opens ⟨s,3,0⟩ 0) r).bind fun r=>(B1 r).bind fun r=>(Bu r).bind (C9 (·.closes s 0)):=by
  rw [hZ,hB1];simp only [AF,show ¬((55:Int)=52) by decide,show ¬((55:Int)=53) by decide,show ¬((55:Int)=54) by decide,if_true,if_false]
  rfl
 obtain ⟨yk,yn,ys,yl⟩:=y;replace ry:Row w ⟨kb,ko+0*4,none⟩ [.int .u8 yk,.int .i64 yn,str ys,.slice ya yl.length yc]:=ry
 change Calls prog _ #[_,.agg #[.int .u8 55,.int .i64 n,str s,.slice (some ⟨kb,ko,none⟩) 1 m],_] w _
 have hkb:=hlt kb hkS;refine Ad func108 ntmps108 rfl rfl ?_
 focus
  refine cS (eB [_,_,_,_] ?_);intro b1 w2 h4 x5 p6 z7;replace X:=X.ext x5;clear hs;revert hs sy ry;refine eE x5 ?_;intro hs sy ry;refine cT ?_;rotate_left
 have h1:=HR.out.more X;have F:Fr (fun k=> ¬P k) w w2:=Fr.of_ext X;clear X hs;have HS:=Lib.hid (fun r1 w1 h=>KP (c:=c) (P:=Ch P w w2) (r:=r1) hc w1 h)
 unfold DH at HS
 have HO:=Lib.hid (fun r1 e w1 h=>P4 hc HR.out (Ch P w w2) ⟨s,3,0⟩ (Or.inr rfl) rfl 0 r1 e w1 h)
 unfold VD.val at HO
 have HL:=Lib.hid (fun r1 w1 h=>P2 (c:=c) (P:=Ch P w w2) (r:=r1) hc s 0 w1 h);have HC:=Lib.hid (fun e w1=>G4 e (.pointer (some ⟨c.rb,0,none⟩)) w1)
 unfold O6 at HC
 have HY:=Lib.hid (fun r1 (e:Bu r = .ok r1) (e3:(r1.st.opens ⟨s,3,0⟩ 0).1=0) w1 h1 h2=>IH (Ch P w w2) b _ ⟨(r1.st.opens ⟨s,3,0⟩ 0).2,r1.rem⟩ ya yc w1 hy oky (fun e4=>hne (by rw [hZ];simp only [e,Except.bind,C9,e3,ne_eq,not_true,if_false];rw [hB1,e4])) h1 h2)
 rw [←hB1] at HY
 unfold DH at HY
 focus
  refine eK ?_;refine A9 (AP (by kernel_rfl) rfl (HS.out _ _ ‹_›) (fun _ _ h=>h.ret)) rfl ?_ ?_;rotate_left;intro a3 a4 aa
  rotate_right 1
  rintro _ G ⟨ab,⟨⟨⟩,⟨l,⟨t,u⟩⟩⟩⟩;revert h4 sy;refine eZ u ?_;intro ac h4 sy;replace ry:=Row.fr ry u (fun h=>h (Or.inl hkS));replace F:=Fr.fr F u (fun k hk=>Or.inl (fun h=>hk (Or.inl h)));refine eK ?_;refine Ax (fun wz=>Fr ((fun k=> ¬(Ch P w w2 k∨k=c.rb))) G wz) 9 (.pure 0 (.pure 1 (.pure 2 (.pure 3 (.pure 4 (.pure 5 (.pure 6 (.pure 7 (.fork 8 .tail .none))))))))) mixed (by kernel_rfl) (Ac (Ao Ak)) ?_;intro M H _;have f:(fun wz=>Fr ((fun k=> ¬(Ch P w w2 k∨k=c.rb))) G wz) M:=Fr.of_ext H;simp only at f;have D:=t;have v:=h4;have N:=sy;have O:=ry;revert t h4 sy ry F;refine eY H ?_;intro ad t h4 sy ry F;refine ⟨f,?_⟩;refine Tq rfl Mv (Tq rfl Mv (Tq rfl Pn (Tq rfl Pf (Tq rfl (Al Aa rfl rfl rfl (fun wz hz=>Blk.cell (Blk.fr (Run.blk D) hz (by first|omega|(dsimp only;omega))) rfl)) (Tq rfl Pf (Tq rfl (Al Aa rfl rfl rfl (fun wz hz=>Blk.cell (Blk.fr v hz (fun h=>h (Or.inl (Or.inr ⟨by omega,by omega⟩)))) rfl)) (Tq rfl (AC [_,_,_] Aa Bj rfl rfl rfl rfl) ?_)))))));refine At rfl (Av (by kernel_rfl) rfl (HO.out _ ‹_› _ ‹_›) (fun _ _ h=>⟨_,h.1⟩)) rfl ?_ (fun _ h=>h) As;rintro _ ae ⟨⟨⟩,⟨I,o⟩⟩;have af:=o.size;revert f h4;refine eF o ?_
  intro f h4;replace sy:=Nd.sits.fr sy o (fun b hb h=>h (Or.inl (Or.inl hb)));replace ry:=Row.fr ry o (fun h=>h (Or.inl (Or.inl hkS)));replace F:=Fr.fr F o (fun k hk=>Or.inl (fun h=>hk (Or.inl (Or.inl h))));refine ⟨f,?_⟩;refine Az rfl ?_;refine A9 (AP (by kernel_rfl) rfl (HC.out _ _) (fun _ _ h=>⟨_,h.1⟩)) rfl ?_ ?_;rotate_left;intro ag ah Q
  rotate_right 1
  rintro _ ai ⟨⟨⟩,⟨p,R⟩⟩;revert I h4 sy ry F;refine eY R ?_;intro aj I h4 sy ry F;refine eK ?_;refine C7 [_,_,_,_] Aa rfl rfl rfl ry rfl rfl rfl (C1 Mv ?_);refine A9 (AP (by kernel_rfl) rfl (HY.out _ ‹_› ‹_› _ (Nd.sits.wide ‹_› (fun b h=>Or.inl h)) ‹_›) (fun _ _ h=>h.ret)) rfl ?_ ?_;rotate_left;intro ak al S
  rotate_right 1
  rintro _ am ⟨an,⟨⟨⟩,⟨x,⟨ao,z⟩⟩⟩⟩;revert h4 sy;refine eZ z ?_;intro ap h4 sy;replace ry:=Row.fr ry z (fun h=>h (Or.inl hkS));replace F:=Fr.fr F z (fun k hk=>Or.inl (fun h=>hk (Or.inl h)));refine eK ?_;refine A9 (AP (by kernel_rfl) rfl (HS.out _ _ ‹_›) (fun _ _ h=>h.ret)) rfl ?_ ?_;rotate_left;intro aq ar T
  rotate_right 1
  rintro _ J ⟨au,⟨⟨⟩,⟨K,⟨A,B⟩⟩⟩⟩;revert h4 sy;refine eZ B ?_;intro av h4 sy;replace ry:=Row.fr ry B (fun h=>h (Or.inl hkS));replace F:=Fr.fr F B (fun k hk=>Or.inl (fun h=>hk (Or.inl h)));refine cT (Ax (fun wz=>Fr ((fun k=> ¬(Ch P w w2 k∨k=c.rb))) J wz) 8 (.pure 0 (.pure 1 (.pure 2 (.pure 3 (.pure 4 (.pure 5 (.pure 6 (.fork 7 .tail .none)))))))) mixed (by kernel_rfl) (Ao Ak) ?_);intro U L _;have j:(fun wz=>Fr ((fun k=> ¬(Ch P w w2 k∨k=c.rb))) J wz) U:=Fr.of_ext L;simp only at j;have E:=A;have v:=h4;have N:=sy;have O:=ry;revert A h4 sy ry F;refine eY L ?_;intro aw A h4 sy ry F;refine ⟨j,?_⟩;refine Tq rfl Mv (Tq rfl Mv (Tq rfl Pn (Tq rfl Pf (Tq rfl (Al Aa rfl rfl rfl (fun wz hz=>Blk.cell (Blk.fr (Run.blk E) hz (by first|omega|(dsimp only;omega))) rfl)) (Tq rfl Pf (Tq rfl (Al Aa rfl rfl rfl (fun wz hz=>Blk.cell (Blk.fr v hz (fun h=>h (Or.inl (Or.inr ⟨by omega,by omega⟩)))) rfl)) ?_))))));refine At rfl (Av (by kernel_rfl) rfl (HL.out _ _ ‹_›) (fun _ _ h=>⟨_,h.1⟩)) rfl ?_ (fun _ h=>h) As;rintro _ ax ⟨⟨⟩,⟨C,q⟩⟩;revert j h4;refine eZ q ?_;intro ay j h4;replace sy:=Nd.sits.fr sy q (fun b hb h=>h (Or.inl (Or.inl hb)));replace ry:=Row.fr ry q (fun h=>h (Or.inl (Or.inl hkS)))
  replace F:=Fr.fr F q (fun k hk=>Or.inl (fun h=>hk (Or.inl (Or.inl h))));refine ⟨j,?_⟩;refine Az rfl ?_;refine A9 (AP (by kernel_rfl) rfl (HC.out _ _) (fun _ _ h=>⟨_,h.1⟩)) rfl ?_ ?_;rotate_left;intro az a0 V
  rotate_right 1
  rintro _ a1 ⟨⟨⟩,⟨W,Y⟩⟩;revert C h4 sy ry F;refine eY Y ?_;intro a2 C h4 sy ry F;refine Aj (An (Bt rfl ?_));rotate_left;refine AX (AE ?_);rotate_left;refine AJ (AX (AE ?_));rotate_left;refine AJ (AX (AE ?_));rotate_left;refine AJ (AX (AE ?_));rotate_left;refine AJ (AX (AE ?_));rotate_left
 · exact EC C F HR.out.sub (fun k=>Or.inl) (by rw [hZ];simp only [l,p,x,K,W,Except.bind,C9,ne_eq,not_true,not_false_iff,if_false,if_true])
 · exact Ea V F (fun e=>by rw [hZ];simp only [l,p,x,K,Except.bind,C9,ne_eq,not_true,not_false_iff,if_false,if_true];rw [if_pos e])
 · exact Bz T F (fun k=>Or.inl) (fun er e=>by rw [hZ];simp only [l,p,x,e,Except.bind,C9,ne_eq,not_true,not_false_iff,if_false,if_true])
 · exact Bz S F (fun k=>Or.inl) (fun er e=>by rw [hZ];simp only [l,p,e,Except.bind,C9,ne_eq,not_true,not_false_iff,if_false,if_true])
 · exact Ea Q F (fun e=>by rw [hZ];simp only [l,Except.bind,C9,ne_eq,not_true,not_false_iff,if_false,if_true];rw [if_pos e])
 · exact Bz aa F (fun k=>Or.inl) (fun er e=>by rw [hZ];simp only [e,Except.bind,C9,ne_eq,not_true,not_false_iff,if_false,if_true])
theorem Dg {S S':Nat→Prop} {l:List Nd} {a:Option Addr} (h:rowSits S w l a) (hS : ∀b,S b→S' b):rowSits S' w l a:=by
 have:=Nd.sits.wide (t:=.mk 0 0 [] l) h hS
 exact this
theorem JN (hc:c.fuel≤10000) (d:Nat) (b:Bool) {k n:Int} {s:List UInt8} {l:List Nd} (hk:(40≤k∧k≤49)∨k=56) (hst:(Nd.mk k n s l).isStmt=true) (hok:StOk c.g.procs (.mk k n s l)) (a:Option Addr) (m:Nat) (w:World) (hs:(Nd.mk k n s l).sits P w a) (h:Run c P w r) :
 Calls prog 108 #[.pointer (some ⟨c.rb,0,none⟩),(Nd.mk k n s l).val a m,.bool b] w (DH c P (AF c.g.procs (d+1) b (.mk k n s l) r) w):=by
 have X:=Ext.refl w;have HR:=Lib.hid h;clear h;have hs:rowSits P w l a:=hs;obtain ⟨Z,hZ⟩ : ∃Z,Z=AF c.g.procs (d+1) b (.mk k n s l) r:=⟨_,rfl⟩
 rw [←hZ]
 rw [CN _ _ _ (by omega)] at hZ
 change Calls prog _ #[_,.agg #[.int .u8 k,.int .i64 n,str s,.slice a l.length m],_] w _
 refine Ad func108 ntmps108 rfl rfl ?_
 focus
  refine cS ?_;refine JJ [_,_,_,_] rfl rfl rfl ?_;intro b1 w2 n3;have h4:=n3.blk;have x5:=n3.ext;have p6:=n3.pos;have z7:=n3.size;clear n3 hs;replace X:=X.ext x5;replace hs:=Bk.rowSits.ext hs x5;clear x5;refine cT ?_;rotate_left
 have h1:=HR.out.more X;have F:Fr (fun k=> ¬P k) w w2:=Fr.of_ext X;clear X;have HS:=Lib.hid (fun r1 w1 h=>KP (c:=c) (P:=Ch P w w2) (r:=r1) hc w1 h)
 unfold DH at HS
 have HD:=Lib.hid (fun r1 w1 h1 h2=>WI (c:=c) (P:=Ch P w w2) (r:=r1) hc hk hst hok.wf hok.size a m w1 h1 h2);have HU:=Lib.hid (fun r1 w1 h1 h2=>Vy (c:=c) (P:=Ch P w w2) (r:=r1) hc hk hst hok.wf hok.size a m w1 h1 h2);have HC:=Lib.hid (fun e w1=>G4 e (.pointer (some ⟨c.rb,0,none⟩)) w1)
 unfold O6 at HC
 clear hst hok
 cases b
 · simp only [Bool.false_eq_true,if_false] at hZ
   focus
    refine cS (C1 Pg (C1 (Pl h4) (cT (AK (cS (C1 V1 (C1 Pa (cT (Hn (cS (C1 V1 ?_)))))))))));refine C1 Pa (cT (Hn (cS (C1 V1 (C1 Pa (cT (Hn (cS (C1 V1 (C1 Pa (cT ?_)))))))))));refine Hn (Am (cS (C1 V1 (C1 Pa (cT (Hn (Ah (C1 V1 (C1 Pa (cT (Hn ?_)))))))))));refine cS (C1 Mv ?_);refine A9 (AP (by kernel_rfl) rfl (HS.out _ _ ‹_›) (fun _ _ h=>h.ret)) rfl ?_ ?_;rotate_left;intro ao ap S
    rotate_right 1
    rintro _ H ⟨U,⟨⟨⟩,⟨I,⟨B,v⟩⟩⟩⟩;have V:=v.size;replace h4:=Blk.fr h4 v (fun h=>h (Or.inr ⟨by omega,by omega⟩));replace hs:=Bk.rowSits.fr hs v (fun b hb h=>h (Or.inl hb));replace F:=Fr.fr F v (fun k hk=>Or.inl (fun h=>hk (Or.inl h)));clear v;refine cN (C1 Mv (cT (Ep rfl ?_)));refine Ax (fun wz=>Fr ((fun k=> ¬(Ch P w w2 k∨k=c.rb))) H wz) 7 (.pure 0 (.pure 1 (.pure 2 (.pure 3 (.pure 4 (.pure 5 (.fork 6 .tail .none))))))) mixed (by kernel_rfl) (Ao Ak) ?_;intro L j _;have f:(fun wz=>Fr ((fun k=> ¬(Ch P w w2 k∨k=c.rb))) H wz) L:=Fr.of_ext j;simp only at f;have z:=B;have x:=h4;have C:=hs;have W:=j.size;replace B:=B.ext j;replace h4:=h4.ext j;replace hs:=Bk.rowSits.ext hs j;replace F:=F.ext j;clear j;refine ⟨f,?_⟩;refine Tq rfl Mv (Tq rfl Mv (Tq rfl Pn (Tq rfl Pf ?_)));refine Tq rfl (Al Aa rfl rfl rfl (fun wz hz=>Blk.cell (Blk.fr (Run.blk z) hz (by first|omega|(dsimp only;omega))) rfl)) ?_;refine Tq rfl (Aw [_,_,_,_] Aa rfl rfl rfl (fun wz hz=>(Blk.fr x hz (fun h=>h (Or.inl (Or.inr ⟨by omega,by omega⟩))))) rfl rfl) ?_;refine At rfl (Av (by kernel_rfl) rfl (HD.out _ _ (Dg ‹_› (fun b h=>Or.inl h)) ‹_›) (fun _ _ h=>⟨_,h.1⟩)) rfl ?_ (fun _ h=>h) As;rintro _ Y ⟨⟨⟩,⟨D,p⟩⟩
    have aa:=p.size;replace f:=Fr.fr f p (fun k hk=>Or.inl hk);replace h4:=Blk.fr h4 p (fun h=>h (Or.inl (Or.inr ⟨by omega,by omega⟩)));replace hs:=Bk.rowSits.fr hs p (fun b hb h=>h (Or.inl (Or.inl hb)));replace F:=Fr.fr F p (fun k hk=>Or.inl (fun h=>hk (Or.inl (Or.inl h))));clear p;refine ⟨f,?_⟩;clear z x C f;refine Az rfl ?_;refine A9 (AP (by kernel_rfl) rfl (HC.out _ _) (fun _ _ h=>⟨_,h.1⟩)) rfl ?_ ?_;rotate_left;intro ab ac M
    rotate_right 1
    rintro _ ad ⟨⟨⟩,⟨N,q⟩⟩;have ae:=q.size;replace D:=D.ext q;replace h4:=h4.ext q;replace hs:=Bk.rowSits.ext hs q;replace F:=F.ext q;clear q;refine Aj (An (Bt rfl ?_));rotate_left;refine AX (AE ?_);rotate_left;refine AJ (AX (AE ?_));rotate_left
   · exact EC D F HR.out.sub (fun k=>Or.inl) (by rw [hZ];simp only [I,N,Except.bind,C9,ne_eq,not_true,not_false_iff,if_false,if_true])
   · exact Ea M F (fun e=>by rw [hZ];simp only [I,Except.bind,C9,ne_eq,not_true,not_false_iff,if_false,if_true];rw [if_pos e])
   · exact Bz S F (fun k=>Or.inl) (fun er e=>by rw [hZ];simp only [e,Except.bind,C9,ne_eq,not_true,not_false_iff,if_false,if_true])
 · simp only [if_true] at hZ
   focus
    refine cS (C1 Pg (C1 (Pl h4) (cT (AK (cS (C1 V1 (C1 Pa (cT (Hn (cS (C1 V1 ?_)))))))))));refine C1 Pa (cT (Hn (cS (C1 V1 (C1 Pa (cT (Hn (cS (C1 V1 (C1 Pa (cT ?_)))))))))));refine Hn (Am (cS (C1 V1 (C1 Pa (cT (Hn (Ah (C1 V1 (C1 Pa (cT (Hn ?_)))))))))));refine cS (C1 Mv ?_);refine A9 (AP (by kernel_rfl) rfl (HS.out _ _ ‹_›) (fun _ _ h=>h.ret)) rfl ?_ ?_;rotate_left;intro aq ar T
    rotate_right 1
    rintro _ J ⟨af,⟨⟨⟩,⟨K,⟨E,y⟩⟩⟩⟩;have ag:=y.size;replace h4:=Blk.fr h4 y (fun h=>h (Or.inr ⟨by omega,by omega⟩));replace hs:=Bk.rowSits.fr hs y (fun b hb h=>h (Or.inl hb));replace F:=Fr.fr F y (fun k hk=>Or.inl (fun h=>hk (Or.inl h)));clear y;refine cN (C1 Mv (cT (IW rfl ?_)));refine Ax (fun wz=>Fr ((fun k=> ¬(Ch P w w2 k∨k=c.rb))) J wz) 7 (.pure 0 (.pure 1 (.pure 2 (.pure 3 (.pure 4 (.pure 5 (.fork 6 .tail .none))))))) mixed (by kernel_rfl) (Ao Ak) ?_;intro O o _;have i:(fun wz=>Fr ((fun k=> ¬(Ch P w w2 k∨k=c.rb))) J wz) O:=Fr.of_ext o;simp only at i;have A:=E;have x:=h4;have C:=hs;have ah:=o.size;replace E:=E.ext o;replace h4:=h4.ext o;replace hs:=Bk.rowSits.ext hs o;replace F:=F.ext o;clear o;refine ⟨i,?_⟩;refine Tq rfl Mv (Tq rfl Mv (Tq rfl Pn (Tq rfl Pf ?_)));refine Tq rfl (Al Aa rfl rfl rfl (fun wz hz=>Blk.cell (Blk.fr (Run.blk A) hz (by first|omega|(dsimp only;omega))) rfl)) ?_;refine Tq rfl (Aw [_,_,_,_] Aa rfl rfl rfl (fun wz hz=>(Blk.fr x hz (fun h=>h (Or.inl (Or.inr ⟨by omega,by omega⟩))))) rfl rfl) ?_;refine At rfl (Av (by kernel_rfl) rfl (HU.out _ _ (Dg ‹_› (fun b h=>Or.inl h)) ‹_›) (fun _ _ h=>⟨_,h.1⟩)) rfl ?_ (fun _ h=>h) As;rintro _ ai ⟨⟨⟩,⟨G,t⟩⟩
    have aj:=t.size;replace i:=Fr.fr i t (fun k hk=>Or.inl hk);replace h4:=Blk.fr h4 t (fun h=>h (Or.inl (Or.inr ⟨by omega,by omega⟩)));replace hs:=Bk.rowSits.fr hs t (fun b hb h=>h (Or.inl (Or.inl hb)));replace F:=Fr.fr F t (fun k hk=>Or.inl (fun h=>hk (Or.inl (Or.inl h))));clear t;refine ⟨i,?_⟩;clear A x C i;refine Az rfl ?_;refine A9 (AP (by kernel_rfl) rfl (HC.out _ _) (fun _ _ h=>⟨_,h.1⟩)) rfl ?_ ?_;rotate_left;intro ak al Q
    rotate_right 1
    rintro _ am ⟨⟨⟩,⟨R,u⟩⟩;have an:=u.size;replace G:=G.ext u;replace h4:=h4.ext u;replace hs:=Bk.rowSits.ext hs u;replace F:=F.ext u;clear u;refine Aj (An (Bt rfl ?_));rotate_left;refine AX (AE ?_);rotate_left;refine AJ (AX (AE ?_));rotate_left
   · exact EC G F HR.out.sub (fun k=>Or.inl) (by rw [hZ];simp only [K,R,Except.bind,C9,ne_eq,not_true,not_false_iff,if_false,if_true])
   · exact Ea Q F (fun e=>by rw [hZ];simp only [K,Except.bind,C9,ne_eq,not_true,not_false_iff,if_false,if_true];rw [if_pos e])
   · exact Bz T F (fun k=>Or.inl) (fun er e=>by rw [hZ];simp only [e,Except.bind,C9,ne_eq,not_true,not_false_iff,if_false,if_true])
end
section
variable {P:Program} {n:Nat} {l:Sl} {S:World→Prop} {tab:Tab} {zt:EL} {ty:TypeId} {w:World}
theorem N2 {x y z:Operand} {t e sz1 sz len cap:Nat} {sE:Sk} {a:Option Addr} {k k':IntKind} (T:TabOk P tab) (ht:AL tab t=some (.slice e,sz1)) (hE:AL tab e=some (sE,sz)) (hx:ev l x=some (.slice a len cap)) (hy:ev l y=some (.int k (len:Int))) (hz:ev l z=some (.int k' (len:Int))) (hm:len≤cap) :
 BE P n l S (.slice t x none (some y) (some z)) ty (.slice a len len):=by
 unfold BE
 intro act w dst pos after g ha _;have hu:P.underlying t=some (.slice e):=(T _ _ _ ht).under
 have hel:P.elem t=e:=by simp [Program.elem,hu]
 have b:P.underlying t=some (.slice (P.elem t)):=by rw [hel];exact hu
 obtain ⟨i,hi,hs⟩:=(T _ _ _ hE).info
 have hsz:(Go.sizeOf e).run P w = .ok sz w:=by simp [Go.sizeOf,typeInfo,program,Sem.run,bind,Sem.bind,pure,hi,hs]
 have h1:(Instr.sliceAt t (.slice a len cap) none (some (.int k (len:Int))) (some (.int k' (len:Int)))).run P w = .ok (.slice a len len) w:=by
  rw [run_sliceAt_slice w t _ _ _ _ b,run_slice_hm w t a len cap b k k' len len (by omega) (by omega) (by omega)];rw [hel,hsz];simp only [Result.andThen,sliced,Int.toNat_natCast,Nat.sub_zero,Nat.zero_mul]
  by_cases h0:len=0
  · rw [if_pos h0]
  · rw [if_neg h0];cases a<;>simp [Addr.add]
 simp [execOp,ha.ev hx,ha.ev hy,ha.ev hz,Sem.run_bind,h1,Result.andThen]
theorem C5 {x y:Operand} {t e sz1 sz m cap:Nat} {sE:Sk} {zs:List Value} {a:Option Addr} {p:Addr} {cs us:List Value} {R:Nat→Prop} (T:TabOk P tab) (Z:CO P zt) (ht:AL tab t=some (.slice e,sz1)) (hE:AL tab e=some (sE,sz)) (hz:Dx zt e=some zs) (hzl:zs.length=sz)
 (hby:DT P e=true) (hsz:Nat.blt 0 sz=true) (hx:ev l x=some (.slice a m m)) (hy:ev l y=some (.slice (some p) 1 cap)) (hs:Rows R w cs a) (hcl:cs.length=m*sz) (hr:Row w p us) (hul:us.length=1*sz) (hu:us.all Value.one=true) (hm:m≤1000000000) :
 Cj P n l (.call ⟨.builtin .append,#[x,y],#[t,t]⟩) ty w (J8 fun o w'=> ∃g cap',o = .slice (some ⟨g,0,none⟩) (m+1) cap'∧m+1≤cap'∧Row w' ⟨g,0,none⟩ (cs++us)∧w.heap.size≤g∧g<w'.heap.size∧Ext w w'):=by
 obtain ⟨i,v0,z1,z2,z3⟩:=Fc Z hz;obtain ⟨i',hi',hs'⟩:=(T _ _ _ hE).info;rw [z1] at hi';obtain rfl:=Option.some.inj hi'
 have hbb:i.bytes≤1000:=by
  unfold DT at hby
  rw [z1] at hby
  exact Nat.le_of_ble_eq_true hby
 have hzs:v0.cells.size=sz:=by rw [z3];simpa using hzl
 have hsz':0<sz:=Nat.le_of_ble_eq_true hsz
 have hbytes:(m+1)*i.bytes≤140737488355328:=by have:=Nat.mul_le_mul (show m+1≤1000000001 by omega) hbb;omega
 have hnews : ∀j u,us[j]? = some u→w.cell? (p.add j)=some u:=fun j u hj=>hr j u hj
 have hu':P.underlying t=some (.slice e):=(T _ _ _ ht).under
 have c:m+1≤maxLen:=by unfold maxLen;omega
 have key : ∃g cap' w',(Builtin.append_ #[t,t] ty #[.slice a m m,.slice (some p) 1 cap]).run P w = .ok (.slice (some ⟨g,0,none⟩) (m+1) cap') w'∧m+1≤cap'∧Row w' ⟨g,0,none⟩ (cs++us)∧w.heap.size≤g∧g<w'.heap.size∧Ext w w':=by
  have fin : ∀(v':Value) (w':World),w'.ownsRow w.heap.size e sz v' (m+1) (cs++us)→w.grownBy w' none → ∃g cap',v' = .slice (some ⟨g,0,none⟩) (m+1) cap'∧m+1≤cap'∧Row w' ⟨g,0,none⟩ (cs++us)∧w.heap.size≤g∧g<w'.heap.size∧Ext w w':=fun v' w' h1 h2=>by
   have ho:Own w' w.heap.size e sz v' (m+1) (cs++us):=h1;have hx:Ext w w':=⟨h2.os,h2.tape,h2.output,h2.size,fun k hk=>h2.block k hk (by simp)⟩
   rcases ho.row with ⟨-,h0,-⟩|⟨g,cap',rfl,hg,hob,hrr⟩
   · omega
   · exact ⟨g,cap',rfl,PN ho,hrr,hg,(ho.blk hob).2,hx⟩
  cases a with
  | some b=>
   obtain ⟨v',w',hrun,h1,h2⟩:=run_append_arg_grows (P:=P) w t ty e i v0 sz i.bytes hu' z1 z2 hs' rfl hzs hsz' b m m cs hcl (fun j u hj=>by
    rcases hs with rfl|⟨b',o,hb,-,hrow⟩
    · simp at hj
    · obtain rfl:=Option.some.inj hb
      exact hrow j u hj) p 1 cap us hul hnews (by omega) c hbytes
   obtain ⟨g,cap',rfl,k⟩:=fin v' w' h1 h2
   exact ⟨g,cap',w',hrun,k⟩
  | none=>
   have d:cs=[]:=by
    rcases hs with rfl|⟨b',o,hb,-⟩
    · rfl
    · cases hb
   subst d
   have f:m=0:=by
    simp only [List.length_nil] at hcl
    rcases Nat.eq_zero_or_pos m with h|h
    · exact h
    · have:=Nat.mul_pos h hsz';omega
   subst f
   have h1c : ∀u∈us,u.oneCell'=true:=fun u hm=>by rw [←PA];exact List.all_eq_true.1 hu u hm
   obtain ⟨v',w',hrun,h1,h2,-⟩:=run_append_own (P:=P) w w.heap.size t ty e i v0 sz i.bytes hu' z1 z2 hs' rfl hzs hsz' (.slice none 0 0) 0 [] Own.nil p 1 cap us hul hnews h1c (by unfold maxLen;omega) (by simpa using hbytes) (Nat.le_refl _);obtain ⟨g,cap',rfl,k⟩:=fin v' w' (by simpa using h1) (by simpa [Value.ownBlock] using h2)
   exact ⟨g,cap',w',hrun,k⟩
 obtain ⟨g,cap',w',hrun,k⟩:=key
 unfold Cj
 intro act dst pos after gd next Q ha hn _
 have e1:(execOp act.eval ⟨dst,.call ⟨.builtin .append,#[x,y],#[t,t]⟩,ty,pos,after,gd⟩).run P w = .ok (.value (.slice (some ⟨g,0,none⟩) (m+1) cap')) w':=by
  simp only [execOp,resolve,invoke,builtin,Sem.run_bind,Sem.run_pure,Result.andThen_ok,List.map_toArray,List.map_cons,List.map_nil,ha.ev hx,ha.ev hy,hrun]
 unfold Oper.wp
 rw [e1]
 exact hn _ _ ⟨g,cap',rfl,k⟩
end
structure OwnQ {α:Type} (sh:Shape α) (w:World) (R:Nat→Prop) (B e:Nat) (v:Value) (xs:List α):Prop where
 ex : ∃css:List (List Value),Own w B e sh.sz v xs.length css.flatten∧css.length=xs.length ∧ ∀(i:Nat) (x:α) (cs:List Value),xs[i]? = some x→css[i]? = some cs→sh.rep w (fun b=>R b∧v.ownBlock≠some b) x cs
section
variable {α:Type} {sh:Shape α} {R R':Nat→Prop} {B e:Nat} {w w':World} {v:Value} {xs:List α}
theorem OwnQ.nil:OwnQ sh w R B e (.slice none 0 0) []:=⟨⟨[],Own.nil,rfl,by simp⟩⟩
theorem OwnQ.ge (h:OwnQ sh w R B e v xs) {k:Nat} (hk:v.ownBlock=some k):B≤k:=by
 obtain ⟨css,h1,-⟩:=h.ex
 exact h1.ge hk
theorem OwnQ.lt (h:OwnQ sh w R B e v xs) {k:Nat} (hk:v.ownBlock=some k):k<w.heap.size:=by
 obtain ⟨css,h1,-⟩:=h.ex
 exact (h1.blk hk).2
theorem OwnQ.ext (h:OwnQ sh w R B e v xs) (x:Ext w w'):OwnQ sh w' R B e v xs:=by
 obtain ⟨css,h1,h2,h3⟩:=h.ex
 exact ⟨css,h1.ext x,h2,fun i y cs hy hc=>sh.mono (h3 i y cs hy hc) (fun _ h=>h) (fun b o u _ hu=>x.keep hu)⟩
instance  : LfE w w' (OwnQ sh w R B e v xs) (OwnQ sh w' R B e v xs):=⟨fun x h=>Bk.OwnQ.ext h x⟩
theorem OwnQ.fr {S:Nat→Prop} (h:OwnQ sh w R B e v xs) (x:Fr S w w') (hs : ∀k,S k → ¬R k∧v.ownBlock≠some k):OwnQ sh w' R B e v xs:=by
 obtain ⟨css,h1,h2,h3⟩:=h.ex
 exact ⟨css,h1.fr x (fun k hk hS=>(hs k hS).2 hk),h2,fun i y cs hy hc=>sh.mono (h3 i y cs hy hc) (fun _ h=>h) (fun b o u hb hu=>x.keep (fun hS=>(hs b hS).1 hb.1) hu)⟩
instance {S:Nat→Prop}:LfF S w w' (OwnQ sh w R B e v xs) (∀k,S k → ¬R k∧v.ownBlock≠some k) (OwnQ sh w' R B e v xs):=⟨fun x s h=>Bk.OwnQ.fr h x s⟩
theorem OwnQ.wide (h:OwnQ sh w R B e v xs) (hR : ∀b,R b→R' b):OwnQ sh w R' B e v xs:=by
 obtain ⟨css,h1,h2,h3⟩:=h.ex
 exact ⟨css,h1,h2,fun i y cs hy hc=>sh.mono (h3 i y cs hy hc) (fun b hb=>⟨hR b hb.1,hb.2⟩) (fun _ _ _ _ hu=>hu)⟩
theorem OwnQ.ltR (h:OwnQ sh w R B e v xs):OwnQ sh w (fun b=>R b∧b<w.heap.size) B e v xs:=by
 obtain ⟨css,h1,h2,h3⟩:=h.ex
 exact ⟨css,h1,h2,fun i y cs hy hc=>sh.mono (sh.lt (h3 i y cs hy hc)) (fun b hb=>⟨⟨hb.1.1,hb.2⟩,hb.1.2⟩) (fun _ _ _ _ hu=>hu)⟩
def Wc (sh:Shape α) (w:World) (R:Nat→Prop) (B:Nat) (e:TypeId) (v:Value) (ys:List α):Option Value→World→Prop
 | some v',w'=> ∃g cap,v' = .slice (some ⟨g,0,none⟩) ys.length cap∧OwnQ sh w' R B e v' ys∧(v.ownBlock=some g∨w.heap.size≤g)∧g<w'.heap.size∧Fr (fun k=>v.ownBlock=some k) w w'
 | none,_=>False
theorem IN {P:Program} {n:Nat} {l:Sl} {tab:Tab} {zt:EL} {ty:TypeId} {x y:Operand} {t sz1 cap:Nat} {sE:Sk} {zs:List Value} {cs:List Value} {z:α} {p:Addr} (T:TabOk P tab) (Z:CO P zt) (ht:AL tab t=some (.slice e,sz1)) (hE:AL tab e=some (sE,sh.sz)) (hz:Dx zt e=some zs) (hzl:zs.length=sh.sz)
 (hby:DT P e=true) (hsz:Nat.blt 0 sh.sz=true) (hx:ev l x=some v) (hy:ev l y=some (.slice (some p) 1 cap)) (hown:OwnQ sh w R' B e v xs) (hw : ∀b,R' b→R b) (hr:Row w p cs) (hrep:sh.rep w (fun b=>R b∧v.ownBlock≠some b) z cs) (hlen:xs.length≤10000000000) (hB:B≤w.heap.size) :
 Cj P n l (.call ⟨.builtin .append,#[x,y],#[t,t]⟩) ty w (Wc sh w R B e v (xs++[z])):=by
 obtain ⟨css,h1,h2,h3'⟩:=hown.ex
 have h3 : ∀(i:Nat) (x:α) (cs:List Value),xs[i]? = some x→css[i]? = some cs→sh.rep w (fun b=>R b∧v.ownBlock≠some b) x cs:=fun i y cs hy hc=>sh.mono (h3' i y cs hy hc) (fun b hb=>⟨hw b hb.1,hb.2⟩) (fun _ _ _ _ hu=>hu)
 have hd:=Fz (P:=P) (n:=n) (l:=l) (ty:=ty) T Z ht hE hz hzl hby hsz hx hy h1 hr (by rw [sh.len hrep];simp) (sh.one hrep) (by omega) (by omega) hB
 unfold Cj at hd ⊢
 intro a dst pos after g next Q ha hn c;refine hd a dst pos after g next Q ha (fun v' w' hG=>?_) (fun w' hG=>hG.elim);obtain ⟨g1,g2,g,cap',g3,g4⟩:=hG;have hg:=g1.blk (k:=g) (by rw [g3];rfl);refine hn v' w' ⟨g,cap',by rw [g3];simp,⟨css++[cs],?_,by simp [h2],fun i y ds hy hc=>?_⟩,g4,hg.2,g2⟩
 · have e1:(css++[cs]).flatten=css.flatten++cs:=by simp
   have e2:(xs++[z]).length=xs.length+1:=by simp
   rw [e1,e2];exact g1
 · have key:sh.rep w (fun b=>R b∧v.ownBlock≠some b) y ds:=by
    by_cases hi:i<xs.length
    · rw [List.getElem?_append_left hi] at hy
      rw [List.getElem?_append_left (by omega)] at hc
      exact h3 i y ds hy hc
    · have hil:i<(xs++[z]).length:=by
       rcases Nat.lt_or_ge i (xs++[z]).length with h|h
       · exact h
       · rw [List.getElem?_eq_none h] at hy;cases hy
      simp only [List.length_append,List.length_cons,List.length_nil] at hil
      have hi':i=xs.length:=by omega
      subst hi';rw [List.getElem?_append_right (Nat.le_refl _)] at hy;rw [List.getElem?_append_right (by omega)] at hc;simp only [Nat.sub_self,List.getElem?_cons_zero,Option.some.injEq] at hy;rw [h2] at hc;simp only [Nat.sub_self,List.getElem?_cons_zero,Option.some.injEq] at hc;subst hy hc
      exact hrep
   refine sh.mono (sh.lt key) (fun b hb=>⟨hb.1.1,fun e=>?_⟩) (fun b o u hb hu=>g2.keep hb.1.2 hu);rw [g3] at e;simp only [Value.ownBlock,Option.some.injEq] at e;subst e
   rcases g4 with h|h
   · exact hb.1.2 h
   · omega
theorem OwnQ.rows (h:OwnQ sh w R B e v xs) (hx:xs≠[]) : ∃g cap,v = .slice (some ⟨g,0,none⟩) xs.length cap∧B≤g∧g<w.heap.size ∧ ∀(i:Nat) (x:α),xs[i]? = some x → ∃cs,Row w ⟨g,i*sh.sz,none⟩ cs∧sh.rep w R x cs:=by
 obtain ⟨css,h1,h2,h3⟩:=h.ex;have hM:OwnM sh w R B e v xs:=⟨css,h1,h2,fun i y cs hy hc=>sh.mono (h3 i y cs hy hc) (fun b hb=>⟨Or.inl hb.1,hb.2⟩) (fun _ _ _ _ hu=>hu)⟩
 rcases h1.row with ⟨rfl,hn,-⟩|⟨g,cap,rfl,hg,hob,hr⟩
 · exact absurd (List.length_eq_zero_iff.1 hn) hx
 · refine ⟨g,cap,rfl,hg,(h1.blk (k:=g) rfl).2,fun i x hi=>?_⟩
   obtain ⟨g',cap',hv,-,hall⟩:=hM.rows hx;simp only [Value.slice.injEq,Option.some.injEq,Addr.mk.injEq,and_true,true_and] at hv;obtain ⟨rfl,rfl⟩:=hv
   have hil:i<xs.length:=by
    rcases Nat.lt_or_ge i xs.length with h|h
    · exact h
    · rw [List.getElem?_eq_none h] at hi;cases hi
   have hcl : ∀cs∈css,cs.length=sh.sz:=fun cs hcs=>by
    obtain ⟨j,hj,rfl⟩:=List.mem_iff_getElem.1 hcs;have a:xs[j]? = some xs[j]:=List.getElem?_eq_getElem (by omega)
    exact sh.len (h3 j _ _ a (List.getElem?_eq_getElem hj))
   have hci:css[i]? = some (css[i]'(by omega)):=List.getElem?_eq_getElem (by omega);obtain ⟨cs,k1,k2⟩:=hall i x hi;refine ⟨css[i]'(by omega),?_,sh.mono (h3 i x _ hi hci) (fun b hb=>hb.1) (fun _ _ _ _ hu=>hu)⟩;obtain ⟨f1,f2⟩:=Gm hcl (j:=i) (by omega);rw [f1] at hr;have hs:=hr.sub (i*sh.sz) sh.sz;rw [Nat.zero_add,List.append_assoc,List.drop_left' f2,List.take_left' (hcl _ (List.getElem_mem _))] at hs
   exact hs
theorem OwnQ.lit {b:Nat} {x:α} {cs:List Value} (h:TB w b cs e) (hB:B≤b) (hr:sh.rep w (fun k=>R k∧k≠b) x cs):OwnQ sh w R B e (.slice (some ⟨b,0,none⟩) 1 1) [x]:=by
 have hl:=sh.len hr;refine ⟨[cs],⟨by simp [hl],Or.inr ⟨b,1,cs.toArray,rfl,hB,h,Nat.le_refl _,Hv,by simp [hl],by simp [←hl]⟩⟩,rfl,fun i y ds hy hd=>?_⟩
 match i,hy,hd with
 | 0,hy,hd=>
  simp at hy hd
  subst hy hd
  exact sh.mono hr (fun k hk=>⟨hk.1,fun e=>hk.2 (by simpa [Value.ownBlock] using e.symm)⟩) (fun _ _ _ _ h=>h)
end
section
variable {P:Program} {n:Nat} {l:Sl} {w:World} {tab:Tab} {zt:EL} {ty:TypeId} {α:Type} {sh:Shape α}
theorem O8 {ops:Array Oper} {Q:Exit→Act→World→Prop} {rest:List Oper} {d:Nat} {pos:String} {after:Array Edge} {x y:Operand} {t e sz1 B cap:Nat} {R R':Nat→Prop} {sE:Sk} {zs:List Value} {v:Value} {xs:List α} {cs:List Value} {z:α} {p:Addr} (T:TabOk P tab) (Z:CO P zt) (ht:AL tab t=some (.slice e,sz1)) (hE:AL tab e=some (sE,sh.sz)) (hz:Dx zt e=some zs) (hzl:zs.length=sh.sz)
 (hby:DT P e=true) (hsz:Nat.blt 0 sh.sz=true) (hx:ev l x=some v) (hy:ev l y=some (.slice (some p) 1 cap)) (hown:OwnQ sh w R' B e v xs) (hw : ∀b,R' b→R b) (hr:Row w p cs) (hrep:sh.rep w (fun b=>R b∧v.ownBlock≠some b) z cs) (hlen:xs.length≤10000000000) (hB:B≤w.heap.size) (hd:Nat.blt d n=true)
 (k : ∀g cap' w1,OwnQ sh w1 R B e (.slice (some ⟨g,0,none⟩) (xs++[z]).length cap') (xs++[z])→(v.ownBlock=some g∨w.heap.size≤g)→g<w1.heap.size→Fr (fun k=>v.ownBlock=some k) w w1→LW P n ops Q rest ((d,.slice (some ⟨g,0,none⟩) (xs++[z]).length cap')::l) w1) :
 LW P n ops Q (⟨some d,.call ⟨.builtin .append,#[x,y],#[t,t]⟩,ty,pos,after,none⟩::rest) l w:=
 AQ (IN T Z ht hE hz hzl hby hsz hx hy hown hw hr hrep hlen hB) hd (fun v w1 ⟨g,cap,h,ho,h1,h2,hf⟩=>by subst h;exact k g cap w1 ho h1 h2 hf) (fun _ h=>h)
end
section
variable {P:Program} {n:Nat} {l:Sl} {w:World} {tab:Tab} {zt:EL} {ty:TypeId}
theorem E8 {S:World→Prop} {f:Fn} {cs:List Operand} {vs:List Value} (h:evs l cs=some vs):BE P n l S (.makeFunc f #[] cs.toArray) ty (.func f #[] vs.toArray):=by
 unfold BE
 intro a w dst pos after g ha _;have e:=ha.evs h
 simp [execOp,Instr.makeFunc,e]
end
section
variable {P:Program} {n:Nat} {ops:Array Oper} {Q:Exit→Act→World→Prop} {rest:List Oper} {l:Sl} {w:World} {tab:Tab} {ty:TypeId} {pos:String} {after:Array Edge}
end
theorem PDs.ltA {S:Nat→Prop} {w:World} {l:List PD} {a:Option Addr} (h:PDs S w l a):PDs (· < w.heap.size) w l a:=by
 rcases h with h|⟨b,o,h1,h2,h3⟩
 · exact Or.inl h
 · cases l with
   | nil=>exact Or.inl rfl
   | cons v r=>
    obtain ⟨_,_,_,_,hr,-,-⟩:=h3 0 v rfl;refine Or.inr ⟨b,o,h1,Ca (Row.at0 hr rfl),fun i x hi=>?_⟩;obtain ⟨pa,pc,ba,bc,hr,hv,hs⟩:=h3 i x hi
    exact ⟨pa,pc,ba,bc,hr,hv.lt2.wide (fun _ h=>h.2),BP _ _ hs⟩
structure PG.few (g:PG):Prop where
 nv:g.vars.length≤1000000
 np:g.procs.length≤1000000
 main:g.main.size≤1000000
 procs : ∀p∈g.procs,p.params.length≤1000000∧p.body.size≤1000000
theorem MF (l:List VD) (hl:l.length≤1000000) (s:List UInt8) (S:Nat→Prop) (a:Option Addr) (c:Nat) (w:World) (hs:VDs S w l a) :
 Calls prog 28 #[.slice a l.length c,str s] w fun e w'=>e = .returned (.int .i64 (ET l s))∧Ext w w':=by
 have X:=Ext.refl w;have HF:=Lib.hid (Mx l hl s)
 unfold ET
 generalize D0 l s=o at *
 cases o with
 | none=>
  dsimp only [Option.isSome,Option.getD] at HF ⊢;refine Ad func28 ntmps28 rfl rfl ?_
  focus
   refine eK ?_;refine cC rfl (HF.out _ _ _ _ ‹_›) ?_;rintro _ w2 ⟨⟨⟩,x1⟩;revert hs X;refine eY x1 ?_;intro z3 hs X;refine eK ?_;refine AB [_,_,_] Bj rfl rfl ?_;intro b4 w5 n6;refine eI [_,_,_] n6 ?_;intro w7 h8 x9 j k;revert hs X;refine eE x9 ?_;intro hs X;refine eK ?_;refine Af rfl rfl ?_;rotate_left
  exact ⟨rfl,X⟩
 | some v=>
  obtain ⟨vn,vk,vl⟩:=v;dsimp only [Option.isSome,Option.getD] at HF ⊢;refine Ad func28 ntmps28 rfl rfl ?_
  focus
   refine eK ?_;refine cC rfl (HF.out _ _ _ _ ‹_›) ?_;rintro _ m ⟨⟨⟩,d⟩;revert hs X;refine eY d ?_;intro n hs X;refine eK ?_;refine AB [_,_,_] Bj rfl rfl ?_;intro p q b;refine DR [_,_,_] Aa rfl rfl rfl rfl rfl rfl b rfl ?_;intro r b;have f:=b.blk;dsimp only at f;have g:=b.ext;have h:=b.pos;have i:=b.size;revert hs X;refine eE g ?_;intro hs X;refine eK ?_;refine Af rfl rfl ?_;rotate_left
  exact ⟨rfl,X⟩
theorem Wd (l:List VD) (hl:l.length≤1000000) (s:List UInt8) (k:Int) (S:Nat→Prop) (a:Option Addr) (c:Nat) (w:World) (hs:VDs S w l a) :
 Calls prog 100 #[.slice a l.length c,str s,.int .u8 k] w fun e w'=>e = .returned (.int .i64 (Ff l s k))∧Ext w w':=by
 have X:=Ext.refl w;have HF:=Lib.hid (Mx l hl s)
 unfold Ff
 generalize D0 l s=o at *
 cases o with
 | none=>
  dsimp only [Option.isSome,Option.getD] at HF;refine Ad func100 ntmps100 rfl rfl ?_
  focus
   refine eK ?_;refine cC rfl (HF.out _ _ _ _ ‹_›) ?_;rintro _ w2 ⟨⟨⟩,x1⟩;revert hs X;refine eY x1 ?_;intro z3 hs X;refine eK ?_;refine AB [_,_,_] Bj rfl rfl ?_;intro b4 w5 n6;refine eI [_,_,_] n6 ?_;intro w7 h8 x9 m n;revert hs X;refine eE x9 ?_;intro hs X;refine eK ?_;refine Af rfl rfl ?_;rotate_left
  exact ⟨rfl,X⟩
 | some v=>
  obtain ⟨vn,vk,vl⟩:=v;dsimp only [Option.isSome,Option.getD] at HF ⊢;refine Ad func100 ntmps100 rfl rfl ?_
  focus
   refine eK ?_;refine cC rfl (HF.out _ _ _ _ ‹_›) ?_;rintro _ p ⟨⟨⟩,f⟩;revert hs X;refine eY f ?_;intro q hs X;refine eK ?_;refine AB [_,_,_] Bj rfl rfl ?_;intro r t b;refine DR [_,_,_] Aa rfl rfl rfl rfl rfl rfl b rfl ?_;intro u b;have g:=b.blk;dsimp only at g;have h:=b.ext;have i:=b.pos;have j:=b.size;revert hs X;refine eE h ?_;intro hs X;refine eK ?_;refine BS rfl (fun d=>?_) (fun d=>?_);refine eK ?_;refine Af rfl rfl ?_;rotate_left;refine eK ?_;refine Af rfl rfl ?_;rotate_left
  all_goals exact ⟨by simp [*],X⟩
def F7 (ps:List PD) (s:List UInt8):Int:=match B9 ps s with
 | some i=>(i:Int)
 | none=> -1
theorem PDs.get {S:Nat→Prop} {w:World} {l:List PD} {a:Option Addr} (h:PDs S w l a) (hl:l≠[]) : ∃b o,a=some ⟨b,o,none⟩∧S b ∧ ∀i p,l[i]? = some p→VT S w b (o+i*6) p:=by
 rcases h with h|⟨b,o,h1,h2,h3⟩
 · exact absurd h hl
 · exact ⟨b,o,h1,h2,fun i v hi=>h3 i v hi⟩
theorem Uz (p:PD) (pa ba:Option Addr) (pc bc bs:Nat) (s:List UInt8) (w:World) (hb:Blk w bs [str s]):Calls prog 56 #[.agg (p.cells pa pc ba bc).toArray,.pointer (some ⟨bs,0,none⟩)] w fun e w'=>e = .returned (.bool (decide (p.name=s)))∧Ext w w':=by
 have X:=Ext.refl w;refine Ad func56 ntmps56 rfl rfl ?_
 focus
  refine cS (eB [_,_,_,_,_,_] ?_);intro b1 w2 h4 x5 p6 z7;revert hb X;refine eE x5 ?_;intro hb X;refine eK ?_;refine Af rfl rfl ?_;rotate_left
 exact ⟨rfl,X⟩
theorem Lo {α:Type} {f:α→Bool} {l:List α} {j:Nat} (h:j<l.length) (h0:(l.take j).findIdx? f=none):(l.take (j+1)).findIdx? f=if f l[j]=true then some j else none:=by
 rw [List.take_succ_eq_append_getElem h,List.findIdx?_append,h0]
 by_cases hf:f l[j]=true
 · simp [hf,List.findIdx?_cons];omega
 · simp [hf,List.findIdx?_cons]
theorem Lp {α:Type} {f:α→Bool} {l:List α} {j i:Nat} (h:(l.take j).findIdx? f=some i):l.findIdx? f=some i:=by
 rw [←List.take_append_drop j l,List.findIdx?_append,h];rfl
theorem SS (l:List PD) (hl:l.length≤1000000) (s:List UInt8) (S:Nat→Prop) (a:Option Addr) (c bs:Nat) (w:World) (hs:PDs S w l a) (hb:Blk w bs [str s]) :
 Calls prog 55 #[.slice a l.length c,.func (.func 56) #[] #[.pointer (some ⟨bs,0,none⟩)]] w fun e w'=>e = .returned (.int .i64 (F7 l s))∧Ext w w':=by
 have X:=Ext.refl w;replace hs:=hs.ltA;refine Ad func55 ntmps55 rfl rfl ?_
 focus
  refine cS (C1 Pa (cT (Am (cS (C1 Mv (C1 Pz (C1 Mv (cT ?_))))))));rotate_left
 refine AK ?_;refine Bn (ι:=Nat) (fun j=>[(0,.slice a l.length c),(1,.func (.func 56) #[] #[.pointer (some ⟨bs,0,none⟩)]),(6,.slice a l.length c),(7,.int .i64 l.length),(8,.int .i64 j)])
  (fun j w'=>j≤l.length∧PDs (· < w.heap.size) w' l a∧Blk w' bs [str s]∧Ext w w'∧(l.take j).findIdx? (fun p=>decide (p.name=s))=none)
  (fun j=>l.length-j) 0 sB ⟨Nat.zero_le _,hs,hb,X,rfl⟩ ?_
 clear hs hb X;rintro j w1 ⟨hj,hs,hb,X,hno⟩
 by_cases hlt:j<l.length
 · obtain ⟨kb,ko,rfl,kS,hget⟩:=hs.get (by intro e;subst e;simp at hlt);obtain ⟨pa,pc,ba,bc,ry,-,-⟩:=hget j l[j] (List.getElem?_eq_getElem hlt);have hn:=Lo hlt hno
   have hmo:l[j].name=s→F7 l s=j:=fun h=>by
    rw [if_pos (by simpa using h)] at hn;rw [F7,B9,Lp hn]
   clear hget hno
   generalize l[j]=y at *
   focus
    refine eK ?_;refine C1 (Gb ry) ?_;refine AQ (BQ (fi:=[]) (ca:=[.pointer (some ⟨bs,0,none⟩)]) (by kernel_rfl) rfl rfl (Uz y pa ba pc bc _ s _ ‹_›) (fun _ _ h=>⟨_,h.1⟩)) rfl ?_ (fun _ h=>h);rintro _ f ⟨⟨⟩,b⟩;revert hb X hs ry;refine eY b ?_;intro g hb X hs ry;refine cT ?_;refine AO rfl (fun d=>?_) (fun d=>?_);refine eK ?_;refine Af rfl rfl ?_;rotate_left;refine AH (An (Ai (Ah (C1 V7 (C1 Mv (Aj ?_))))));rotate_left
   · exact ⟨by rw [hmo ‹_›],X⟩
   · exact AW (j+1) sB ⟨by omega,hs,hb,X,hn.trans (if_neg (by simpa using ‹_›))⟩ (by omega)
 · obtain rfl:j=l.length:=by omega
   rw [List.take_length] at hno
   have he:F7 l s = -1:=by rw [F7,B9,hno]
   rw [he]
   focus
    refine eK ?_;refine Af rfl rfl ?_;rotate_left
   exact ⟨rfl,X⟩
theorem MG (g:PG) (hl:g.procs.length≤1000000) (s:List UInt8) (S:Nat→Prop) (va:Option Addr) (vc:Nat) (pa:Option Addr) (pc:Nat) (ma:Option Addr) (mc:Nat) (w:World) (hs:PDs S w g.procs pa) :
 Calls prog 29 #[.agg (g.cells va vc pa pc ma mc).toArray,str s] w fun e w'=>e = .returned (.int .i64 (F7 g.procs s))∧Ext w w':=by
 have X:=Ext.refl w;replace hs:=hs.ltA;refine Ad func29 ntmps29 rfl rfl ?_
 focus
  refine cS (eB [_,_,_,_,_,_] ?_);intro b1 w2 h4 x5 p6 z7;revert X hs;refine eE x5 ?_;intro X hs;refine eB [_] ?_;intro b8 w9 a b d f;revert h4 X hs;refine eE b ?_;intro h4 X hs;refine eK ?_;refine C1 (E8 rfl) (cC rfl (SS _ hl s _ _ _ _ _ ‹_› ‹_›) ?_);rintro _ h ⟨⟨⟩,c⟩;revert a h4 X hs;refine eY c ?_;intro i a h4 X hs;refine eK ?_;refine Af rfl rfl ?_;rotate_left
 exact ⟨rfl,X⟩
theorem UA (a:Option Addr) (n c:Nat) (w:World) (hc:n≤c) (hn:n≤1000000):Calls prog 101 #[.slice a n c] w fun e w'=>e = .returned (.slice a n n)∧w=w':=by
 refine Ad func101 ntmps101 rfl rfl ?_
 focus
  refine eK ?_;refine C1 (N2 Aa rfl rfl rfl rfl rfl hc) ?_;refine eK ?_;refine Af rfl rfl ?_;rotate_left
 exact ⟨rfl,rfl⟩
theorem JO (a:Option Addr) (n c:Nat) (w:World) (hc:n≤c) (hn:n≤1000000):Calls prog 102 #[.slice a n c] w fun e w'=>e = .returned (.slice a n n)∧w=w':=by
 refine Ad func102 ntmps102 rfl rfl ?_
 focus
  refine eK ?_;refine C1 (N2 Aa rfl rfl rfl rfl rfl hc) ?_;refine eK ?_;refine Af rfl rfl ?_;rotate_left
 exact ⟨rfl,rfl⟩
def Els {α:Type} (c:α→Value) (S:Nat→Prop) (w:World) (l:List α) (a:Option Addr):Prop:=Arr S 1 (fun w b o x=>Row w ⟨b,o,none⟩ [c x]) w l a
section
variable {α:Type} {c:α→Value} {S S' T:Nat→Prop} {w w':World} {l:List α} {a:Option Addr}
theorem Els.ext (h:Els c S w l a) (x:Ext w w'):Els c S w' l a:=h.mono (fun _ h=>h) (fun _ _ _ _ _ h=>Row.ext h x)
instance  : LfE w w' (Els c S w l a) (Els c S w' l a):=⟨fun x h=>Bk.Els.ext h x⟩
theorem Els.fr (h:Els c S w l a) (x:Fr T w w') (hs : ∀b,S b → ¬T b):Els c S w' l a:=h.mono (fun _ h=>h) (fun b _ _ _ hb h=>Row.fr h x (hs b hb))
instance  : LfF T w w' (Els c S w l a) (∀b,S b → ¬T b) (Els c S w' l a):=⟨fun x s h=>Bk.Els.fr h x s⟩
theorem Els.wide (h:Els c S w l a) (hs : ∀b,S b→S' b):Els c S' w l a:=h.mono hs (fun _ _ _ _ _ h=>h)
theorem Els.lt2 (h:Els c S w l a):Els c (fun b=>S b∧b<w.heap.size) w l a:=by
 rcases h with h|⟨b,o,h1,h2,h3⟩
 · exact Or.inl h
 · cases l with
   | nil=>exact Or.inl rfl
   | cons v r=>exact Or.inr ⟨b,o,h1,⟨h2,Ca (Row.at0 (h3 0 v rfl) rfl)⟩,h3⟩
theorem Els.ltA (h:Els c S w l a):Els c (· < w.heap.size) w l a:=h.lt2.wide fun _ h=>h.2
theorem Els.nil:Els c S w [] a:=Or.inl rfl
end
def P5 {α:Type} (c:α→Value) (h1 : ∀x,Value.one (c x)=true):Shape α where
 sz:=1
 rep:=fun _ _ v cs=>cs=[c v]
 len:=fun h=>by rw [h];rfl
 one:=fun h=>by rw [h];simp [h1]
 mono:=fun h _ _=>h
 lt:=fun h=>h
abbrev WJ (i:Int):Value:=.int .i64 i
abbrev KR:Shape Int:=P5 WJ (fun _=>rfl)
abbrev strShape:Shape (List UInt8):=P5 str (fun _=>rfl)
def EJ (l:List Nd) (j:Nat):List (List UInt8):=(l.take j).map Nd.name++List.replicate (l.length-j) []
theorem N3 (l:List Nd) (j:Nat) (hj:j≤l.length):(EJ l j).length=l.length:=by simp [EJ];omega
theorem N4 (l:List Nd) (j:Nat) (hj:j<l.length):(EJ l j).set j (l[j]).name=EJ l (j+1):=by
 unfold EJ
 have h1:((l.take j).map Nd.name).length=j:=by simp;omega
 have h2:(List.replicate (l.length-j) ([]:List UInt8))=[]::List.replicate (l.length-(j+1)) []:=by
  rw [show l.length-j=(l.length-(j+1))+1 by omega,List.replicate_succ]
 rw [List.set_append_right _ _ (by omega),h1,Nat.sub_self,h2,List.set_cons_zero,List.take_succ_eq_append_getElem hj,List.map_append,List.append_assoc]
 rfl
theorem N5 (l:List Nd):EJ l l.length=l.map Nd.name:=by simp [EJ]
theorem ArrS.rowsStr {C D g:Nat} {w:World} {xs:List (List UInt8)} (h:ArrS strShape C D w g xs) {S:Nat→Prop} (hg:S g):Rows S w (xs.map str) (some ⟨g,0,none⟩):=by
 refine Or.inr ⟨g,0,rfl,hg,fun i v hi=>?_⟩;rw [List.getElem?_map] at hi
 cases hx:xs[i]? with
 | none=>rw [hx] at hi;cases hi
 | some x=>
  rw [hx] at hi;obtain rfl:=Option.some.inj hi;obtain ⟨cs,hr,rfl⟩:=h.row hx;have:=hr.at0 rfl;rw [show strShape.sz=1 from rfl,Nat.mul_one,Nat.zero_add] at this
  have e:(⟨g,0,none⟩:Addr).add i=⟨g,i,none⟩:=by unfold Addr.add;by_cases h0:i=0<;>simp [h0]
  rw [e]
  exact this
section
variable {c:RC} {P P':Nat→Prop} {w w':World} {r:Rn} {T:Nat→Prop}
theorem Run.ent (h:Run c P w r) : ∃es:List Int,es.length=c.g.procs.length∧Blk w c.eb (ints es):=by
 obtain ⟨_,_,h⟩:=h
 exact h.ent
theorem Run.offE (h:Run c P w r) : ∀k,P k → ¬k=c.eb:=by
 obtain ⟨_,_,h⟩:=h
 exact fun k hk e=>(h.off k hk).1 (by rw [e,h.rolE];exact Or.inr (Or.inr rfl))
theorem Run.neER (h:Run c P w r):c.rb≠c.eb:=by
 obtain ⟨_,_,h⟩:=h;intro e;have h1:=h.role;rw [e,h.rolE] at h1
 simp at h1
theorem Run.procs (h:Run c P w r):PDs c.S w c.g.procs c.pa:=by
 obtain ⟨_,_,h⟩:=h
 exact h.procs
theorem Run.bump (h:Run c P w r) (x:Fr (· = c.eb) w w') {es:List Int} (hl:es.length=c.g.procs.length) (hb:Blk w' c.eb (ints es)):Run c P w' r:=by
 obtain ⟨ρ,κ,h1,h2,h3,h4,-,h7,h8,h9,b,a⟩:=h;have hs:=x.size
 have hP : ∀k,P k → ¬k=c.eb:=fun k hk e=>(a k hk).1 (by rw [e,h2];exact Or.inr (Or.inr rfl))
 refine ⟨ρ,κ,h1,h2,h3,h4.fr x (fun e=>by rw [show c.rb=c.eb from e,h2] at h1;simp at h1),⟨es,hl,hb⟩,h7.fr x (fun k hk e=>by rw [show k=c.eb from hk,h2] at e;exact e),h8,h9.frS x (fun k hk e=>hP k (b k hk) e),b,fun k hk=>⟨(a k hk).1,by have:=(a k hk).2;omega⟩⟩
theorem N6 {P:Program} {m:Nat} {l:Sl} {tab:Tab} {ty:TypeId} {w:World} {x y:Operand} {t g i:Nat} {s:Sk} {xs:List Int} {u:Int} (TT:TabOk P tab) (ht:AL tab t=some (s,1)) (hx:ev l x=some (.pointer (some ⟨g,0+i*1,none⟩))) (hy:ev l y=some (.int .i64 u))
 (hb:Blk w g (ints xs)) (hi:i<xs.length) :
 Cj P m l (.store t x y) ty w (Hy fun w'=>Blk w' g (ints (xs.set i u))∧Fr (· = g) w w'∧w'.heap.size=w.heap.size):=by
 have hd:=Ga (P:=P) (n:=m) (l:=l) (ty:=ty) (us:=[.int .i64 u]) TT ht hx hy rfl rfl rfl hb (by rw [Nat.ble_eq];simp [ints];omega)
 unfold Cj at hd ⊢
 intro a dst pos after gd next Q ha hn b;refine hd a dst pos after gd next Q ha (fun v' w' h=>h.elim) (fun w' hP=>b w' ⟨?_,hP.fr,hP.size⟩);have h1:=hP.blk;rw [Nat.zero_add,Nat.mul_one] at h1
 simpa [Bp,ints,List.map_set] using h1
structure ProcsOk (g:PG):Prop where
 few:g.procs.length≤1000000
 blk : ∀p∈g.procs,p.body.isBlock=true∧StOk g.procs p.body∧p.params.length≤1000
theorem ST (hc:c.fuel≤10000) (hg:ProcsOk c.g) {d:Nat} (IH:ED c d) (b:Bool) {k n:Int} {s:List UInt8} {l:List Nd} {i:Nat} (hp:B9 c.g.procs s=some i) (hl:l.length≤8) (a:Option Addr) (m:Nat) (w:World)
 (hne:((Bu r).bind fun r=>(C9 (·.enters (c.g.procs.getD i ⟨[],[],.mk 0 0 [] []⟩).params (l.map Nd.name)) r).bind fun r=>
  (AT (AF c.g.procs d) b (c.g.procs.getD i ⟨[],[],.mk 0 0 [] []⟩).body r).bind fun r=>(Bu r).bind (C9 (·.leaves)))≠.error (-1)) (hs:(Nd.mk k n s l).sits P w a) (h:Run c P w r) :
 Calls prog 133 #[.pointer (some ⟨c.rb,0,none⟩),(Nd.mk k n s l).val a m,.bool b] w (DH c P ((Bu r).bind fun r=>(C9 (·.enters (c.g.procs.getD i ⟨[],[],.mk 0 0 [] []⟩).params (l.map Nd.name)) r).bind fun r=>
  (AT (AF c.g.procs d) b (c.g.procs.getD i ⟨[],[],.mk 0 0 [] []⟩).body r).bind fun r=>(Bu r).bind (C9 (·.leaves))) w):=by
 have X:=Ext.refl w;have HR:=Lib.hid h;have hlt:=h.lt
 have hi:i<c.g.procs.length:=by
  unfold B9 at hp
  exact (List.findIdx?_eq_some_iff_getElem.1 hp).1
 obtain ⟨p,hpe⟩ : ∃p,p=c.g.procs.getD i ⟨[],[],.mk 0 0 [] []⟩:=⟨_,rfl⟩
 rw [←hpe] at hne ⊢
 have hpi:c.g.procs[i]? = some p:=by rw [hpe,List.getD_eq_getElem?_getD,List.getElem?_eq_getElem hi];rfl
 clear hpe;obtain ⟨hpb,hpo,hpl⟩:=hg.blk p (List.mem_of_getElem? hpi);have HP:=Lib.hid (fun w1 h1=>MG c.g hg.few s c.S c.va c.vc c.pa c.pc c.ma c.mc w1 h1);rw [show F7 c.g.procs s=(i:Int) by unfold F7;rw [hp]] at HP;have hs:rowSits P w l a:=hs;obtain ⟨B1,hB1⟩ : ∃B1,B1=AT (AF c.g.procs d) b p.body:=⟨_,rfl⟩
 rw [←hB1] at hne ⊢
 obtain ⟨Z,hZ⟩ : ∃Z,Z=((Bu r).bind fun r=>(C9 (·.enters p.params (l.map Nd.name)) r).bind fun r=>(B1 r).bind fun r=>(Bu r).bind (C9 (·.leaves))):=⟨_,rfl⟩
 rw [←hZ] at hne ⊢
 clear h hp
 change Calls prog _ #[_,.agg #[.int .u8 k,.int .i64 n,str s,.slice a l.length m],_] w _
 refine Ad func133 ntmps133 rfl rfl ?_
 focus
  refine cS ?_;refine JJ [_,_,_,_] rfl rfl rfl ?_;intro b1 w2 n3;have h4:=n3.blk;have x5:=n3.ext;have p6:=n3.pos;have z7:=n3.size;clear n3 hs;replace X:=X.ext x5;replace hs:=Bk.rowSits.ext hs x5;clear x5;refine cN (C1 Pf (C1 (Pl h4) (C1 Pz ?_)));refine AQ (E7 (sh:=strShape) (C:=0) (D:=0) (N:=l.length) (z:=[]) Aa Bj rfl rfl rfl rfl (by kernel_rfl) rfl rfl (by omega) (fun _ _=>rfl)) rfl ?_ (fun _ h=>h);rintro _ a5 ⟨g8,⟨rfl,⟨h9,⟨cb,⟨cc,ad⟩⟩⟩⟩⟩;have cd:=ad.size;replace h4:=h4.ext ad;replace X:=X.ext ad;replace hs:=Bk.rowSits.ext hs ad;clear ad;refine C1 Pa (cT (Am (cS (C1 Pf (C1 (Pl h4) (C1 Pz (C1 Mv (cT ?_))))))));rotate_left
 have hA:ArrS strShape 0 0 a5 g8 (EJ l 0):=by simpa [EJ] using h9
 clear h9;refine AK ?_;refine Bn (ι:=Nat) (fun j=>[(0,.pointer (some ⟨c.rb,0,none⟩)),(2,.bool b),(4,.pointer (some ⟨b1,0,none⟩)),(6,.slice (some ⟨g8,0,none⟩) l.length l.length),(16,.slice a l.length m),(17,.int .i64 l.length),(18,.int .i64 j)])
  (fun j w'=>j≤l.length∧ArrS strShape 0 0 w' g8 (EJ l j)∧Blk w' b1 [.int .u8 k,.int .i64 n,str s,.slice a l.length m]∧rowSits P w' l a∧Ext w w'∧b1+2≤w'.heap.size)
  (fun j=>l.length-j) 0 sB ⟨Nat.zero_le _,hA,h4,hs,X,by omega⟩ ?_
 clear hA h4 hs X;rintro j w1 ⟨hj,hA,h4,hs,X,hz⟩
 by_cases ae:j<l.length
 · obtain ⟨kb,ko,rfl,hkS,hkid⟩:=Cv hs (by intro e;subst e;simp at ae);obtain ⟨xa,xc,rx,sx⟩:=hkid j l[j] (List.getElem?_eq_getElem ae);have hnext:=N4 l j ae;have hnl:=N3 l j hj;clear hkid
   generalize l[j]=x at *
   obtain ⟨xk,xn,xs,xl⟩:=x;replace rx:Row w1 ⟨kb,ko+j*4,none⟩ [.int .u8 xk,.int .i64 xn,str xs,.slice xa xl.length xc]:=rx
   focus
    refine cS (C1 V3 (cT (Am (WC (AH (Ai (Am (AK (cS (C1 Mv (C1 Pi ?_)))))))))));refine C1 (Gb rx) ?_;refine eA [_,_,_,_] ?_;intro ce cf av W cg ch;replace hA:=hA.ext W;replace X:=X.ext W;replace h4:=h4.ext W;replace hs:=Bk.rowSits.ext hs W;replace sx:=Nd.sits.ext sx W;replace rx:=rx.ext W;clear W;refine C1 Pa ?_;refine eS [_,_,_,_] av ?_;intro ci af Q bb;clear av;replace hA:=hA.fr Q (by omega);replace X:=X.fr Q (by omega);replace h4:=h4.fr Q (by omega);replace hs:=Bk.rowSits.fr hs Q (fun b hb h=>by (have h1:=hlt b hb;have e:b=_:=h;omega));replace sx:=Nd.sits.fr sx Q (fun b hb h=>by (have h1:=hlt b hb;have e:b=_:=h;omega));clear rx Q;refine cT (Ah (C1 Mv (C1 Mv (C1 Pf (C1 (Pl af) (C1 Pi ?_))))));refine Br (Cz (sh:=strShape) (j:=j) (z:=xs) (us:=[_]) Aa rfl rfl rfl rfl rfl rfl ‹_› (by omega) (by omega) rfl) ?_;refine Cf ?_;rintro _ bd ⟨be,⟨M,bf⟩⟩;have bg:=M.size;replace af:=af.fr M (by omega);clear hA;replace X:=X.fr M (by omega);replace h4:=h4.fr M (by omega);replace hs:=Bk.rowSits.fr hs M (fun b hb h=>by (have h1:=hlt b hb;have e:b=_:=h;omega));replace sx:=Nd.sits.fr sx M (fun b hb h=>by (have h1:=hlt b hb;have e:b=_:=h;omega));clear M;refine Aj (An (Ai (Ah (C1 V7 (C1 Mv (Aj ?_))))))
    rotate_left
   exact AW (j+1) sB ⟨by omega,by rw [←hnext];assumption,by assumption,by assumption,X,by omega⟩ (by omega)
 · obtain rfl:j=l.length:=by omega
   rw [N5] at hA
   focus
    refine cS (C1 V3 (cT (Am (Hn (Ds (A5 (A5 (Bw (Ai ?_)))))))));rotate_left
   have hrb:=(HR.out.ext X).blk;have hpr:=(HR.out.ext X).procs;obtain ⟨pb,po,hpa,hpS,hget⟩:=hpr.get (by intro e;rw [e] at hi;simp at hi);obtain ⟨qa,qc,ba,bc,rp,rv,sb⟩:=hget i p hpi;have hsub:=HR.out.sub;rw [hpa] at hrb hpr HP;clear hget;obtain ⟨pn,pps,pbd⟩:=p;obtain ⟨bk,bn,bs,bl⟩:=pbd;dsimp only at *
   focus
    refine Am ?_;refine Ax (fun wz=>Ext w1 wz) 6 (.pure 0 (.pure 1 (.pure 2 (.pure 3 (.pure 4 (.pure 5 .tail)))))) mixed (by kernel_rfl) (Ac Ak) ?_;intro a6 L _;have ag:(fun wz=>Ext w1 wz) a6:=L;simp only at ag;have Y:=h4;have aw:=hs;have ax:=hA;have au:=hpr;have ah:=hrb;have ai:=rp;have aj:=rv;have ak:=sb;have cj:=L.size;replace h4:=h4.ext L;replace hs:=Bk.rowSits.ext hs L;replace X:=X.ext L;replace hA:=hA.ext L;replace hpr:=hpr.ext L;replace hrb:=hrb.ext L;replace rp:=rp.ext L;replace rv:=rv.ext L;replace sb:=Nd.sits.ext sb L;clear L;refine ⟨ag,?_⟩;refine Tq rfl Mv (Tq rfl Pn (Tq rfl Pg (Tq rfl (Aw [_,_,_,_,_,_] Aa rfl rfl rfl (fun wz hz=>(Blk.ext ah hz)) rfl rfl) (Tq rfl Pf (Tq rfl (Db Y) ?_)))));clear ag Y aw ax au ah ai aj ak;refine Az rfl ?_;refine cC rfl (HP.out _ ‹_›) ?_;rintro _ ck ⟨⟨⟩,O⟩;have cl:=O.size;replace h4:=h4.ext O;replace hs:=Bk.rowSits.ext hs O;replace X:=X.ext O;replace hA:=hA.ext O;replace hpr:=hpr.ext O;replace hrb:=hrb.ext O;replace rp:=rp.ext O;replace rv:=rv.ext O;replace sb:=Nd.sits.ext sb O;clear O;refine C1 Pa (cN (C1 Mv (C1 Pn (C1 Pg (C1 Pf (C1 (Pl hrb) (C1 Mv (C1 Pi (C1 (Gb rp) ?_)))))))));refine AB [_,_,_,_,_,_] Bj rfl rfl ?_;intro cm a7 G;refine DR [_,_,_,_,_,_] Aa rfl rfl rfl rfl rfl rfl G rfl ?_
    clear G;clear a7;intro y G;have f:=G.blk;dsimp only at f;have q:=G.ext;have bh:=G.pos;have bi:=G.size;clear G;replace h4:=h4.ext q;replace hs:=Bk.rowSits.ext hs q;replace X:=X.ext q;replace hA:=hA.ext q;replace hpr:=hpr.ext q;replace hrb:=hrb.ext q;replace rp:=rp.ext q;replace rv:=rv.ext q;replace sb:=Nd.sits.ext sb q;clear q;refine cT ?_;rotate_left
   have h1:=HR.out.more X;have hrow:Rows (Ch P w y) y ((l.map Nd.name).map str) (some ⟨g8,0,none⟩):=hA.rowsStr (Or.inr ⟨by omega,by omega⟩);have F:Fr (fun k=> ¬P k) w y:=Fr.of_ext X;clear X hs hA hrb hpr;have HS:=Lib.hid (fun r1 w1 h=>KP (c:=c) (P:=Ch P w y) (r:=r1) hc w1 h)
   unfold DH at HS
   have HE:=Lib.hid (fun r1 w1 h1 h2 h3=>Ux (c:=c) (P:=Ch P w y) (r:=r1) hc pps (l.map Nd.name) hpl qa (some ⟨g8,0,none⟩) qc l.length w1 h1 h2 h3);simp only [List.length_map] at HE;have HC:=Lib.hid (fun e w1=>G4 e (.pointer (some ⟨c.rb,0,none⟩)) w1)
   unfold O6 at HC
   focus
    refine cS (C1 Mv ?_);refine A9 (AP (by kernel_rfl) rfl (HS.out _ _ ‹_›) (fun _ _ h=>h.ret)) rfl ?_ ?_;rotate_left;intro cn co a8
    rotate_right 1
    rintro _ ao ⟨ap,⟨⟨⟩,⟨R,⟨aa,A⟩⟩⟩⟩;have bj:=A.size;replace f:=Blk.fr f A (fun h=>h (Or.inr ⟨by omega,by omega⟩));replace h4:=Blk.fr h4 A (fun h=>h (Or.inr ⟨by omega,by omega⟩));replace rp:=Row.fr rp A (fun h=>h (Or.inl (hsub _ hpS)));replace rv:=VDs.fr rv A (fun b hb h=>h (Or.inl (hsub _ hb)));replace sb:=Nd.sits.fr sb A (fun b hb h=>h (Or.inl (hsub _ hb)));replace hrow:=Rows.fr hrow A (fun b hb h=>h hb);replace F:=Fr.fr F A (fun k hk=>Or.inl (fun h=>hk (Or.inl h)));clear A;refine cT (Am ?_);refine Ax (fun wz=>Fr ((fun k=> ¬(Ch P w y k∨k=c.rb))) ao wz) 9 (.pure 0 (.pure 1 (.pure 2 (.pure 3 (.pure 4 (.pure 5 (.pure 6 (.pure 7 (.fork 8 .tail .none))))))))) mixed (by kernel_rfl) (Ac Ak) ?_;intro ay o _;have E:(fun wz=>Fr ((fun k=> ¬(Ch P w y k∨k=c.rb))) ao wz) ay:=Fr.of_ext o;simp only at E;have ab:=aa;have ac:=f;have Y:=h4;have ai:=rp;have aj:=rv;have ak:=sb;have an:=hrow;have bm:=o.size;replace aa:=aa.ext o;replace f:=f.ext o;replace h4:=h4.ext o;replace rp:=rp.ext o;replace rv:=rv.ext o;replace sb:=Nd.sits.ext sb o;replace hrow:=hrow.ext o;replace F:=F.ext o;clear o;refine ⟨E,?_⟩;refine Tq rfl Mv (Tq rfl Mv (Tq rfl Pn (Tq rfl Pf ?_)));refine Tq rfl (Al Aa rfl rfl rfl (fun wz hz=>Blk.cell (Blk.fr (Run.blk ab) hz (by first|omega|(dsimp only;omega))) rfl)) ?_
    refine Tq rfl Pf ?_;refine Tq rfl (Al Aa rfl rfl rfl (fun wz hz=>Blk.cell (Blk.fr ac hz (fun h=>h (Or.inl (Or.inr ⟨by omega,by omega⟩)))) rfl)) ?_;refine Tq rfl Mv ?_;refine At rfl (Av (by kernel_rfl) rfl (HE.out _ _ ‹_› (VDs.wide ‹_› (fun b h=>Or.inl (hsub _ h))) ‹_›) (fun _ _ h=>⟨_,h.1⟩)) rfl ?_ (fun _ h=>h) As;rintro _ bo ⟨⟨⟩,⟨H,t⟩⟩;have bp:=t.size;replace E:=Fr.fr E t (fun k hk=>Or.inl hk);replace f:=Blk.fr f t (fun h=>h (Or.inl (Or.inr ⟨by omega,by omega⟩)));replace h4:=Blk.fr h4 t (fun h=>h (Or.inl (Or.inr ⟨by omega,by omega⟩)));replace rp:=Row.fr rp t (fun h=>h (Or.inl (Or.inl (hsub _ hpS))));replace rv:=VDs.fr rv t (fun b hb h=>h (Or.inl (Or.inl (hsub _ hb))));replace sb:=Nd.sits.fr sb t (fun b hb h=>h (Or.inl (Or.inl (hsub _ hb))));replace hrow:=Rows.fr hrow t (fun b hb h=>h (Or.inl hb));replace F:=Fr.fr F t (fun k hk=>Or.inl (fun h=>hk (Or.inl (Or.inl h))));clear t;refine ⟨E,?_⟩;clear ab ac Y ai aj ak an E;refine Az rfl ?_;refine A9 (AP (by kernel_rfl) rfl (HC.out _ _) (fun _ _ h=>⟨_,h.1⟩)) rfl ?_ ?_;rotate_left;intro bq br az
    rotate_right 1
    rintro _ aq ⟨⟨⟩,⟨V,u⟩⟩;have bt:=u.size;replace H:=H.ext u;replace f:=f.ext u;replace h4:=h4.ext u;replace rp:=rp.ext u;replace rv:=rv.ext u;replace sb:=Nd.sits.ext sb u;replace hrow:=hrow.ext u;replace F:=F.ext u;clear u;refine cT ?_;rotate_left;refine AJ (AE ?_);rotate_left;refine AJ (AE ?_);rotate_left
   · obtain ⟨es,hel,heb⟩:=H.ent;have T:=H.offE
     have hre:Row aq ⟨c.eb,0+i*1,none⟩ [.int .i64 (es.getD i 0)]:=fun j v hj=>by
      cases j with
      | zero=>
       simp only [List.getElem?_cons_zero,Option.some.injEq] at hj;subst hj;rw [Nat.zero_add,Nat.mul_one]
       exact heb.cell (by simp [ints,List.getElem?_eq_getElem (show i<es.length by omega),List.getD_eq_getElem?_getD])
      | succ j=>simp at hj
     have hebl:=heb.lt;have hrb:=H.blk;have H1:=Lib.hid H;have hnr:=H.neER;have F2:=Fr.refl (· = c.eb) aq;have HF:=Lib.hid F;clear H aa F
     focus
      refine cS (C1 Mv (C1 Pn (C1 Pf (C1 (Pl hrb) (C1 Mv (C1 Pi (C1 (G6 hre) (C1 (J2 rfl rfl) (C1 Pi ?_)))))))));refine Br (N6 Aa rfl rfl rfl ‹_› (by omega)) ?_;refine Cf ?_;rintro _ cp ⟨a0,⟨U,cq⟩⟩;have cr:=U.size;replace f:=Blk.fr f U (fun e=>T _ (Or.inr ⟨by omega,by omega⟩) e);replace h4:=Blk.fr h4 U (fun e=>T _ (Or.inr ⟨by omega,by omega⟩) e);clear rp;replace rv:=VDs.fr rv U (fun b hb e=>T b (Or.inl (hsub _ hb)) e);replace sb:=Nd.sits.fr sb U (fun b hb e=>T b (Or.inl (hsub _ hb)) e);replace hrow:=hrow.fr U (by omega);clear heb hre;replace hrb:=Blk.fr hrb U (fun e=>T _ (Or.inr ⟨by omega,by omega⟩) e);replace F2:=F2.fr U (by omega);clear U;refine cT ?_;rotate_left
     have h2:=H1.out.bump F2 (by rw [List.length_set];omega) a0;have F:=HF.out.fr F2 (fun k hk=>Or.inl (fun h=>T k (Or.inl h) hk));clear F2 a0;have HL:=Lib.hid (fun r1 w1 h=>Uw (c:=c) (P:=Ch P w y) (r:=r1) hc w1 h);have HY:=Lib.hid (fun w1 h1 h2=>IH (Ch P w y) b (.mk bk bn bs bl) ⟨(ap.st.enters pps (l.map Nd.name)).2,ap.rem⟩ ba bc w1 hpb hpo (fun e4=>hne (by rw [hZ];simp only [R,Except.bind,C9,V,ne_eq,not_true,if_false];rw [hB1,e4])) h1 h2)
     rw [←hB1] at HY
     unfold DH at HY
     focus
      refine cS (C1 Mv (C1 Pf (Ae [_,_,_,_] Aa rfl rfl rfl f rfl rfl rfl (C1 Mv ?_))));refine A9 (AP (by kernel_rfl) rfl (HY.out _ (Nd.sits.wide ‹_› (fun b h=>Or.inl (hsub _ h))) ‹_›) (fun _ _ h=>h.ret)) rfl ?_ ?_;rotate_left;intro cs ct a9
      rotate_right 1
      rintro _ bu ⟨bv,⟨⟨⟩,⟨al,⟨bw,I⟩⟩⟩⟩;have bx:=I.size;replace f:=Blk.fr f I (fun h=>h (Or.inr ⟨by omega,by omega⟩));replace h4:=Blk.fr h4 I (fun h=>h (Or.inr ⟨by omega,by omega⟩));replace rv:=VDs.fr rv I (fun b hb h=>h (Or.inl (hsub _ hb)));replace sb:=Nd.sits.fr sb I (fun b hb h=>h (Or.inl (hsub _ hb)));replace hrow:=Rows.fr hrow I (fun b hb h=>h hb);clear hrb;replace F:=Fr.fr F I (fun k hk=>Or.inl (fun h=>hk (Or.inl h)));clear I;refine cN (C1 Mv ?_);refine A9 (AP (by kernel_rfl) rfl (HS.out _ _ ‹_›) (fun _ _ h=>h.ret)) rfl ?_ ?_;rotate_left;intro bz b0 a1
      rotate_right 1
      rintro _ b2 ⟨b3,⟨⟨⟩,⟨ar,⟨a2,J⟩⟩⟩⟩;have b4:=J.size;replace f:=Blk.fr f J (fun h=>h (Or.inr ⟨by omega,by omega⟩));replace h4:=Blk.fr h4 J (fun h=>h (Or.inr ⟨by omega,by omega⟩));replace rv:=VDs.fr rv J (fun b hb h=>h (Or.inl (hsub _ hb)));replace sb:=Nd.sits.fr sb J (fun b hb h=>h (Or.inl (hsub _ hb)));replace hrow:=Rows.fr hrow J (fun b hb h=>h hb);replace F:=Fr.fr F J (fun k hk=>Or.inl (fun h=>hk (Or.inl h)));clear J;refine cT (Ah (C1 Mv (C1 Mv (C1 Pn (C1 Pf (A2 Aa rfl rfl rfl (Run.blk a2) rfl rfl ?_))))));refine cC rfl (HL.out _ _ ‹_›) ?_;rintro _ b5 ⟨⟨⟩,⟨am,K⟩⟩;have b6:=K.size;replace f:=Blk.fr f K (fun h=>h (Or.inl (Or.inr ⟨by omega,by omega⟩)));replace h4:=Blk.fr h4 K (fun h=>h (Or.inl (Or.inr ⟨by omega,by omega⟩)));replace rv:=VDs.fr rv K (fun b hb h=>h (Or.inl (Or.inl (hsub _ hb))));replace sb:=Nd.sits.fr sb K (fun b hb h=>h (Or.inl (Or.inl (hsub _ hb))));replace hrow:=Rows.fr hrow K (fun b hb h=>h (Or.inl hb));replace F:=Fr.fr F K (fun k hk=>Or.inl (fun h=>hk (Or.inl (Or.inl h))));clear K;refine A9 (AP (by kernel_rfl) rfl (HC.out _ _) (fun _ _ h=>⟨_,h.1⟩)) rfl ?_ ?_;rotate_left;intro b7 b8 a3
      rotate_right 1
      rintro _ b9 ⟨⟨⟩,⟨a4,B⟩⟩;have ca:=B.size;replace am:=am.ext B;replace f:=f.ext B;replace h4:=h4.ext B;replace rv:=rv.ext B;replace sb:=Nd.sits.ext sb B;replace hrow:=hrow.ext B;replace F:=F.ext B;clear B;refine Aj (Bt rfl ?_);rotate_left;refine AE ?_;rotate_left;refine AJ (AE ?_);rotate_left;refine AJ (AE ?_);rotate_left
     · exact EC am F HR.out.sub (fun k=>Or.inl) (by rw [hZ];simp only [R,V,al,ar,a4,Except.bind,C9,ne_eq,not_true,not_false_iff,if_false,if_true])
     · exact Ea a3 F (fun e=>by rw [hZ];simp only [R,V,al,ar,Except.bind,C9,ne_eq,not_true,not_false_iff,if_false,if_true];rw [if_pos e])
     · exact Bz a1 F (fun k=>Or.inl) (fun er e=>by rw [hZ];simp only [R,V,al,e,Except.bind,C9,ne_eq,not_true,not_false_iff,if_false,if_true])
     · exact Bz a9 F (fun k=>Or.inl) (fun er e=>by rw [hZ];simp only [R,V,e,Except.bind,C9,ne_eq,not_true,not_false_iff,if_false,if_true])
   · exact Ea az F (fun e=>by rw [hZ];simp only [R,Except.bind,C9,ne_eq,not_true,not_false_iff,if_false,if_true];rw [if_pos e])
   · exact Bz a8 F (fun k=>Or.inl) (fun er e=>by rw [hZ];simp only [e,Except.bind,C9,ne_eq,not_true,not_false_iff,if_false,if_true])
end
end Bk
