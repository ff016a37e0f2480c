/- Texts that the proofs of InverterDeep need. No condition. (Part 3 of 8.) -/
import Derived.Test.YtipjiidkdllbpaaGreatDoorPIdp2
set_option linter.unusedSimpArgs false
set_option linter.unusedVariables false
set_option maxRecDepth 100000
set_option maxHeartbeats 4000000
open Go.Proofs.Tryz
namespace Bk
open Go Go.RowKit Go.Proofs
attribute [local irreducible] Go.Calls
def OwnI (w:World) (B:Nat) (v:Value) (xs:List Int):Prop:=Own w B 3 1 v xs.length (ints xs)
theorem OwnI.ext {w w':World} {B:Nat} {v:Value} {xs:List Int} (h:OwnI w B v xs) (x:Ext w w'):OwnI w' B v xs:=Own.ext h x
instance {w w':World} {B:Nat} {v:Value} {xs:List Int}:LfE w w' (OwnI w B v xs) (OwnI w' B v xs):=⟨fun x h=>Bk.OwnI.ext h x⟩
theorem OwnI.fr {S:Nat→Prop} {w w':World} {B:Nat} {v:Value} {xs:List Int} (h:OwnI w B v xs) (x:Fr S w w') (hs : ∀k,v.ownBlock=some k → ¬S k):OwnI w' B v xs:=Own.fr h x hs
instance {S:Nat→Prop} {w w':World} {B:Nat} {v:Value} {xs:List Int}:LfF S w w' (OwnI w B v xs) (∀k,v.ownBlock=some k → ¬S k) (OwnI w' B v xs):=⟨fun x s h=>Bk.OwnI.fr h x s⟩
theorem OwnI.open {w:World} {B:Nat} {v:Value} {xs:List Int} (h:OwnI w B v xs):(v = .slice none 0 0∧xs=[]) ∨ ∃g cap zs,v = .slice (some ⟨g,0,none⟩) xs.length cap∧B≤g∧TB w g (ints xs++zs) 3∧xs.length+zs.length=cap∧cap≤maxLen:=by
 obtain ⟨-,⟨h1,h2⟩|⟨g,cap,cur,h1,h2,h3,h4,h5,h6,h7⟩⟩:=h
 · exact Or.inl ⟨h1,List.length_eq_zero_iff.1 h2⟩
 · refine Or.inr ⟨g,cap,cur.toList.drop xs.length,h1,h2,?_,?_,h5⟩
   · unfold TB
     rw [h3,←h7,Nat.mul_one,List.take_append_drop]
   · simp only [List.length_drop,Array.length_toList]
     omega
theorem OwnI.mk {w:World} {B g:Nat} {xs:List Int} {zs:List Value} (hB:B≤g) (h:TB w g (ints xs++zs) 3) (hm:xs.length+zs.length≤maxLen):OwnI w B (.slice (some ⟨g,0,none⟩) xs.length (xs.length+zs.length)) xs:=by
 refine ⟨by simp [ints],Or.inr ⟨g,_,(ints xs++zs).toArray,rfl,hB,h,by omega,hm,by simp [ints],?_⟩⟩
 have e:xs.length*1=(ints xs).length:=by simp [ints]
 rw [e]
 simp
theorem OwnI.nil {w:World} {B:Nat}:OwnI w B (.slice none 0 0) []:=Own.nil
theorem OwnI.shape {w:World} {B:Nat} {v:Value} {xs:List Int} (h:OwnI w B v xs) : ∃a c,v = .slice a xs.length c:=by
 rcases h.open with ⟨h1,h2⟩|⟨g,cap,zs,h1,-⟩
 · exact ⟨none,0,by rw [h1,h2];rfl⟩
 · exact ⟨_,_,h1⟩
theorem OwnI.at {w:World} {B:Nat} {a:Option Addr} {n c:Nat} {xs:List Int} (h:OwnI w B (.slice a n c) xs):IntsAt w xs a:=by
 rcases h.open with ⟨h1,h2⟩|⟨g,cap,zs,h1,-,h3,-⟩
 · exact Or.inl (by rw [h2];rfl)
 · simp only [Value.slice.injEq] at h1
   obtain ⟨rfl,-⟩:=h1;refine Or.inr ⟨g,0,rfl,trivial,fun i v hi=>?_⟩
   have hlt:i<(ints xs).length:=by
    rcases Nat.lt_or_ge i (ints xs).length with h'|h'
    · exact h'
    · rw [List.getElem?_eq_none h'] at hi;cases hi
   exact h3.blk.row i v (by rw [List.getElem?_append_left hlt];exact hi)
theorem OwnI.low {w:World} {B B':Nat} {v:Value} {xs:List Int} (h:OwnI w B v xs) (hB : ∀k,v.ownBlock=some k→B'≤k):OwnI w B' v xs:=by
 obtain ⟨k1,k2|⟨g,cap,cur,rfl,k3,k4⟩⟩:=h
 · exact ⟨k1,Or.inl k2⟩
 · exact ⟨k1,Or.inr ⟨g,cap,cur,rfl,hB g rfl,k4⟩⟩
theorem OwnI.lt {w:World} {B:Nat} {v:Value} {xs:List Int} (h:OwnI w B v xs) {k:Nat} (hk:v.ownBlock=some k):B≤k∧k<w.heap.size:=Own.blk h hk
theorem QX (w:World) (q:Nat):Ext w (w.drewN q):=by
 induction q with
 | zero=>exact Ext.refl w
 | succ q ih=>exact ih.drew
theorem LG (w:World) (q:Nat):Ext w (Sort.ahead w q):=by
 induction q with
 | zero=>exact Ext.refl w
 | succ q ih=>exact ih.drew
theorem D3 {e:TypeId} {b:Nat} : ∀(us pre mid post:List Value) (w:World),us.length=mid.length→TB w b (pre++mid++post) e→TB (w.setCells b pre.length us) b (pre++us++post) e
 | [],pre,mid,post,w,hl,h=>by
  obtain rfl:mid=[]:=List.length_eq_zero_iff.1 hl.symm
  exact h
 | u::us,pre,[],post,w,hl,h=>by simp at hl
 | u::us,pre,m::mid,post,w,hl,h=>by
  have h1:=TB.set (i:=pre.length) h u
  have e1:(pre++m::mid++post).set pre.length u=(pre++[u])++mid++post:=by simp
  rw [e1] at h1;have h2:=D3 us (pre++[u]) mid post _ (by simpa using hl) h1;rw [show pre++u::us++post=(pre++[u])++us++post by simp];rw [List.length_append,List.length_singleton] at h2
  exact h2
theorem D4 (b:Nat) : ∀(us:List Value) (o:Nat) (w:World),Fr (· = b) w (w.setCells b o us)
 | [],o,w=>Fr.refl _ w
 | u::us,o,w=>(Fr.setCell (S:=(· = b)) (Fr.refl _ w) ⟨b,o,none⟩ u (Or.inl rfl)).trans (D4 b us (o+1) _)
theorem QY {w:World} {b n:Nat} {zs:List Value} {e:TypeId} {xs ys:List Int} (h:TB w b (ints xs++zs) e) (hl:ys.length=xs.length):TB (Sort.putRow (Value.int .i64) w b 0 ys.toArray) b (ints ys++zs) e∧Fr (· = b) w (Sort.putRow (Value.int .i64) w b 0 ys.toArray):=by
 refine ⟨?_,?_⟩
 · unfold TB at h ⊢
   unfold Sort.putRow Sort.mapBlock
   simp only [Array.getElem?_modify,if_true,h,Option.map_some]
   unfold Sort.onCells
   simp only [Option.some.injEq,Obj.cells.injEq,and_true]
   apply Array.ext'
   simp only [Sort.putCells,Array.toList_mapIdx]
   apply List.ext_getElem?
   intro i;simp only [List.getElem?_mapIdx,Nat.zero_le,true_and,Nat.zero_add,List.size_toArray,Nat.sub_zero]
   by_cases hi:i<ys.length
   · have hi':i<xs.length:=by omega
     rw [List.getElem?_append_left (by simpa [ints] using hi'),List.getElem?_append_left (by simpa [ints] using hi)]
     simp [ints,List.getElem?_map,List.getElem?_eq_getElem hi,List.getElem?_eq_getElem hi',hi]
   · rw [List.getElem?_append_right (by simp [ints];omega),List.getElem?_append_right (by simp [ints];omega)]
     simp only [ints,List.length_map,hl]
     cases zs[i-xs.length]? with
     | none=>rfl
     | some v=>rw [Option.map_some,if_neg (by omega)]
 · refine ⟨rfl,rfl,rfl,by simp [Sort.putRow,Sort.mapBlock],fun k hk hb=>?_⟩
   unfold Sort.putRow Sort.mapBlock
   simp only [Array.getElem?_modify];rw [if_neg (fun e=>hb e.symm)]
def CloneR (xs:List Int) (w:World):Ending→World→Prop:=fun e w'=> ∃a c,e = .returned (.slice a xs.length c)∧OwnI w' w.heap.size (.slice a xs.length c) xs∧(∀k,(Value.slice a xs.length c).ownBlock=some k→w.heap.size≤k∧k<w'.heap.size)∧Ext w w'
theorem CloneR.ret {xs:List Int} {w:World} {e:Ending} {w':World} (h:CloneR xs w e w') : ∃v,e = .returned v:=by
 obtain ⟨_,_,h,-⟩:=h
 exact ⟨_,h⟩
theorem Fo (xs:List Int) (hx:xs.length≤1000000) (a:Option Addr) (c:Nat) (w:World) (h:IntsAt w xs a):Calls prog 27 #[.slice a xs.length c] w (CloneR xs w):=by
 have key : ∀(v:Value) (w':World),w'.ownsRow w.heap.size 3 1 v xs.length (ints xs)→Ext w w'→CloneR xs w (.returned v) w':=fun v w' h1 h2=>by
  have h1:OwnI w' w.heap.size v xs:=h1;obtain ⟨a',c',rfl⟩:=h1.shape
  exact ⟨a',c',rfl,h1,fun k hk=>h1.lt hk,h2⟩
 cases a with
 | none=>
  obtain rfl:xs=[]:=by
   rcases h with h|⟨b,o,h,-⟩
   · simpa [ints] using h
   · cases h
  have hc:=Any.slices_Clone_int_nil Tryz.lays2n15 0 c w;refine Calls.mono hc ?_;rintro e w' ⟨rfl,rfl⟩
  exact key _ _ Own.nil (Ext.refl _)
 | some p=>
  by_cases hxs:xs=[]
  · subst hxs
    have hc:=Any.slices_Clone_int_zero Tryz.lays2n15 p c w;refine Calls.mono hc ?_;rintro e w' ⟨v,rfl,h1,-,h2⟩
    exact key _ _ h1 h2
  · obtain ⟨b,o,he,hr⟩:=h.get hxs
    cases he
    have hc:=Any.slices_Clone_int Tryz.lays2n15 b o xs.length c xs w (Nat.le_refl _) (by omega) (fun j hj=>by
     have:=hr.at (i:=j) (v:=.int .i64 (xs.getD j 0)) (by simp [ints,List.getElem?_map,List.getElem?_eq_getElem hj,List.getD_eq_getElem?_getD])
     exact this)
    refine Calls.mono hc ?_;rintro e w' ⟨v,rfl,h1,-,h2⟩;rw [List.take_length] at h1
    exact key _ _ h1 h2
def PutR (v:Value) (ys:List Int) (B:Nat) (w:World):Ending→World→Prop:=fun e w'=> ∃a c,e = .returned (.slice a ys.length c)∧OwnI w' B (.slice a ys.length c) ys∧(∀k,(Value.slice a ys.length c).ownBlock=some k→v.ownBlock=some k∨w.heap.size≤k)∧Fr (fun k=>v.ownBlock=some k) w w'
theorem PutR.ret {v:Value} {ys:List Int} {B:Nat} {w:World} {e:Ending} {w':World} (h:PutR v ys B w e w') : ∃u,e = .returned u:=by
 obtain ⟨_,_,h,-⟩:=h
 exact ⟨_,h⟩
theorem Ki {w:World} {g:Nat} {vs:List Value} {e:TypeId} (h:TB w g vs e):Row w ⟨g,0,none⟩ vs:=h.blk.row
theorem Nl (xs:List Int) : ∀v∈ints xs,v.oneCell'=true:=fun v hv=>by
 obtain ⟨x,-,rfl⟩:=List.mem_map.1 hv
 rfl
theorem GG (xs ys:List Int):ints (xs++ys)=ints xs++ints ys:=by simp [ints]
theorem Fp:maxLen=9223372036854775807:=rfl
theorem Kj (xs:List Int) (hx:xs.length≤1000000) (B:Nat) (v:Value) (x:Int) (vb:Nat) (w:World) (hB:B≤w.heap.size) (h:OwnI w B v xs) (hv:Row w ⟨vb,0,none⟩ [.int .i64 x]) :
 Calls prog 199 #[v,.int .i64 xs.length,.slice (some ⟨vb,0,none⟩) 1 1] w (PutR v (xs++[x]) B w):=by
 have hvs : ∀(j:Nat) (u:Value),[Value.int .i64 x][j]? = some u→w.cell? ⟨vb,0+j,none⟩=some u:=fun j u hj=>by
  have:=hv.at (i:=j) hj
  simpa using this
 have grow : ∀(a:Option Addr) (c:Nat),v = .slice a xs.length c→c<xs.length+1→xs.length≤c→(a=none→xs.length=0)→(∀q,a=some q → ∀(j:Nat) (u:Value),(ints xs)[j]? = some u→w.cell? (q.add j)=some u) →
  Calls prog 199 #[v,.int .i64 xs.length,.slice (some ⟨vb,0,none⟩) 1 1] w (PutR v (xs++[x]) B w):=fun a c hva h1 h2 h3 h4=>by
  subst hva;have hc:=Any2.slices_Insert_int_end_grow Tryz.lays2n21 a xs.length c vb 0 1 1 (ints xs) [.int .i64 x] w (by decide) h2 h1 (by omega) (by simp [ints]) rfl h3 h4 hvs (by simp [Value.oneCell']);refine Calls.mono hc ?_;rintro e w' ⟨rfl,rfl⟩
  change PutR _ _ _ _ (.returned (.slice (some ⟨w.heap.size,0,none⟩) (xs.length+1) (grownCap w (xs.length+1) c 3))) (w.drew.alloc (.cells ((ints xs++[Value.int .i64 x]).toArray++Builtin.zeroCells (Value.int .i64 0).cells (grownCap w (xs.length+1) c 3-(xs.length+1))) 3))
  have g1:=grownCap_ge w (xs.length+1) c 3;have g2:=grownCap_le_maxLen w (xs.length+1) c 3 (by rw [Fp];omega)
  generalize grownCap w (xs.length+1) c 3=gc at *
  have ez:(Builtin.zeroCells (Value.int .i64 0).cells (gc-(xs.length+1))).toList.length=gc-(xs.length+1):=by
   rw [Array.length_toList,size_zeroCells]
   show (gc-(xs.length+1))*1=_
   omega
  have hT:TB (w.drew.alloc (.cells ((ints xs++[Value.int .i64 x]).toArray++Builtin.zeroCells (Value.int .i64 0).cells (gc-(xs.length+1))) 3)) w.heap.size (ints (xs++[x])++(Builtin.zeroCells (Value.int .i64 0).cells (gc-(xs.length+1))).toList) 3:=by
   have:=Ih w.drew (ints (xs++[x])++(Builtin.zeroCells (Value.int .i64 0).cells (gc-(xs.length+1))).toList) 3;rw [GG];rw [GG] at this
   have e1:((ints xs++[Value.int .i64 x]).toArray++Builtin.zeroCells (Value.int .i64 0).cells (gc-(xs.length+1)))=(ints xs++ints [x]++(Builtin.zeroCells (Value.int .i64 0).cells (gc-(xs.length+1))).toList).toArray:=by
    apply Array.ext'
    simp [ints]
   rw [e1]
   exact this
  have hO:=OwnI.mk (B:=B) hB hT (by rw [ez,List.length_append,List.length_singleton];omega)
  have e2:(xs++[x]).length=xs.length+1:=by simp
  rw [ez,e2,show xs.length+1+(gc-(xs.length+1))=gc by omega] at hO;refine ⟨some ⟨w.heap.size,0,none⟩,gc,by rw [e2],by rw [e2];exact hO,fun k hk=>?_,.of_ext ((Ext.refl w).drew.alloc _)⟩;simp only [Value.ownBlock,Option.some.injEq] at hk
  exact Or.inr (by omega)
 rcases h.open with ⟨rfl,rfl⟩|⟨g,cap,zs,rfl,h2,h3,h4,h5⟩
 · exact grow none 0 rfl (by simp) (by simp) (fun _=>rfl) (fun q hq=>by cases hq)
 · have hr : ∀q,some (⟨g,0,none⟩:Addr)=some q → ∀(j:Nat) (u:Value),(ints xs)[j]? = some u→w.cell? (q.add j)=some u:=fun q hq j u hj=>by
    cases hq
    have hlt:j<(ints xs).length:=by
     rcases Nat.lt_or_ge j (ints xs).length with h'|h'
     · exact h'
     · rw [List.getElem?_eq_none h'] at hj;cases hj
    exact Ki h3 j u (by rw [List.getElem?_append_left hlt];exact hj)
   by_cases hc:cap<xs.length+1
   · exact grow _ cap rfl hc (by omega) (fun h=>by cases h) hr
   · obtain ⟨z,zr,rfl⟩ : ∃z zr,zs=z::zr:=by
      cases zs with
      | nil=>simp at h4;omega
      | cons z zr=>exact ⟨z,zr,rfl⟩
     have hcell:w.cell? ⟨g,0+xs.length,none⟩=some z:=(Ki h3).at (i:=xs.length) (by rw [List.getElem?_append_right (by simp [ints])];simp [ints])
     have hsp : ∀j,j<1→(w.cell? ⟨g,0+xs.length+j,none⟩).isSome=true:=fun j hj=>by
      obtain rfl:j=0:=by omega
      rw [Nat.add_zero,hcell];rfl
     have hroom:xs.length+1≤cap:=by omega
     have d:cap≤9223372036854775807:=by rw [Fp] at h5;exact h5
     have hfz : ∀j,j<1→w.frozen? ⟨g,0+xs.length+j,none⟩=false:=fun j hj=>h3.blk.free
     have hcc:=Any2.slices_Insert_int_end_room Tryz.lays2n21 g 0 xs.length cap vb 0 1 1 [.int .i64 x] w (by decide) hroom d rfl hsp hfz hvs (by simp [Value.oneCell']);refine Calls.mono hcc ?_;rintro e w' ⟨rfl,rfl⟩
     have e0:0+xs.length=(ints xs).length:=by simp [ints]
     rw [e0];have hT:=D3 [.int .i64 x] (ints xs) [z] zr w rfl (by simpa using h3);have hF:=D4 g [.int .i64 x] (ints xs).length w;rw [show ints xs++[Value.int .i64 x]=ints (xs++[x]) by simp [ints]] at hT;have hO:=OwnI.mk (B:=B) h2 hT (by simp at h4 ⊢;omega)
     have e2:(xs++[x]).length=xs.length+1:=by simp
     rw [e2,show xs.length+1+zr.length=cap by simp at h4;omega] at hO
     exact ⟨some ⟨g,0,none⟩,cap,by rw [e2],by rw [e2];exact hO,fun k hk=>Or.inl hk,hF.weaken fun b hb=>by subst hb;rfl⟩
theorem Mm {w:World} {g:Nat} {vs:List Value} {e:TypeId} (h:TB w g vs e):TB w.drew g vs e:=h.ext (Ext.refl w).drew
theorem LH {w:World} {b:Nat} {vs:List Value} (h:Blk w b vs):(∃t,w.shape? b=some (t,vs.length)) ∧ ∀o,w.frozen? ⟨b,o,none⟩=false:=by
 obtain ⟨ty,h⟩:=h;refine ⟨⟨ty,by unfold World.shape?;rw [h];simp⟩,fun o=>?_⟩
 unfold World.frozen?
 rw [h]
 simp
theorem Nm (n:Nat):(Builtin.zeroCells (Value.int .i64 0).cells n).toList.length=n:=by
 rw [Array.length_toList,size_zeroCells]
 show n*1=_
 omega
theorem OG (xs:List Int) (hx:xs.length≤1000000) (hne:xs≠[]) (B:Nat) (v:Value) (x:Int) (vb:Nat) (w:World) (hB:B≤w.heap.size) (h:OwnI w B v xs) (hv:Blk w vb [.int .i64 x]) (hvb:v.ownBlock≠some vb) :
 Calls prog 199 #[v,.int .i64 0,.slice (some ⟨vb,0,none⟩) 1 1] w (PutR v (x::xs) B w):=by
 have hvs : ∀(j:Nat) (u:Value),[Value.int .i64 x][j]? = some u→w.cell? ⟨vb,0+j,none⟩=some u:=fun j u hj=>by
  have:=hv.row.at (i:=j) hj
  simpa using this
 have hn:0<xs.length:=by
  cases xs with
  | nil=>exact absurd rfl hne
  | cons y ys=>simp
 have h1v : ∀u∈[Value.int .i64 x],u.oneCell'=true:=by simp [Value.oneCell']
 have e2:(x::xs).length=xs.length+1:=by simp
 rcases h.open with ⟨rfl,rfl⟩|⟨g,cap,zs,rfl,h2,h3,h4,h5⟩
 · exact absurd rfl hne
 have hcs : ∀(j:Nat) (u:Value),(ints xs)[j]? = some u→w.cell? ⟨g,0+j,none⟩=some u:=fun j u hj=>by
  have hlt:j<(ints xs).length:=by
   rcases Nat.lt_or_ge j (ints xs).length with h'|h'
   · exact h'
   · rw [List.getElem?_eq_none h'] at hj;cases hj
  exact (Ki h3).at (i:=j) (by rw [List.getElem?_append_left hlt];exact hj)
 by_cases hc:cap<xs.length+1
 · have hcc:=Any2.slices_Insert_int_grow Tryz.lays2n21 g 0 xs.length cap 0 vb 0 1 1 (ints xs) [.int .i64 x] w hn (by decide) (by omega) hc (by omega) (by simp [ints]) rfl hcs hvs (Nl xs) h1v
   refine Calls.mono hcc ?_;rintro e w' ⟨rfl,rfl⟩
   change PutR _ _ _ _ (.returned (.slice (some ⟨w.heap.size,0,none⟩) (xs.length+1) (grownCap w (xs.length+1) cap 3))) ((((w.alloc (.cells (((ints xs).take 0).toArray++Builtin.zeroCells (Value.int .i64 0).cells (xs.length+1-0)++Builtin.zeroCells (Value.int .i64 0).cells (grownCap w (xs.length+1) cap 3-(xs.length+1))) 3)).drew.setCells w.heap.size 0 [Value.int .i64 x]).drew).setCells w.heap.size (0+1) ((ints xs).drop 0))
   have g1:=grownCap_ge w (xs.length+1) cap 3;have g2:=grownCap_le_maxLen w (xs.length+1) cap 3 (by rw [Fp];omega)
   generalize grownCap w (xs.length+1) cap 3=gc at *
   have z1:=Nm (xs.length+1-0);have z2:=Nm (gc-(xs.length+1));have hal:=Ih w ((Builtin.zeroCells (Value.int .i64 0).cells (xs.length+1-0)).toList++(Builtin.zeroCells (Value.int .i64 0).cells (gc-(xs.length+1))).toList) 3
   have ea:(((ints xs).take 0).toArray++Builtin.zeroCells (Value.int .i64 0).cells (xs.length+1-0)++Builtin.zeroCells (Value.int .i64 0).cells (gc-(xs.length+1)))=((Builtin.zeroCells (Value.int .i64 0).cells (xs.length+1-0)).toList++(Builtin.zeroCells (Value.int .i64 0).cells (gc-(xs.length+1))).toList).toArray:=by
    apply Array.ext'
    simp
   rw [ea]
   generalize (Builtin.zeroCells (Value.int .i64 0).cells (xs.length+1-0)).toList=Z1 at *
   generalize (Builtin.zeroCells (Value.int .i64 0).cells (gc-(xs.length+1))).toList=Z2 at *
   obtain ⟨z,Z,rfl⟩ : ∃z Z,Z1=z::Z:=by
    cases Z1 with
    | nil=>simp at z1
    | cons z Z=>exact ⟨z,Z,rfl⟩
   have t1:=D3 [.int .i64 x] [] [z] (Z++Z2) _ rfl (Mm (by simpa using hal));have t2:=D3 (ints xs) [.int .i64 x] Z Z2 _ (by simp [ints] at z1 ⊢;omega) (Mm (by simpa using t1));rw [show [Value.int .i64 x]++ints xs=ints (x::xs) by simp [ints]] at t2;have hO:=OwnI.mk (B:=B) hB t2 (by rw [z2,e2];omega);rw [z2,e2,show xs.length+1+(gc-(xs.length+1))=gc by omega] at hO
   have hw:w.heap.size<(w.alloc (.cells (z::Z++Z2).toArray 3)).heap.size:=by
    show w.heap.size<(w.heap.push _).size
    simp
   have hF:Fr (fun k=>k=w.heap.size) w ((((w.alloc (.cells (z::Z++Z2).toArray 3)).drew.setCells w.heap.size 0 [Value.int .i64 x]).drew).setCells w.heap.size (0+1) (ints xs)):=
    (Fr.of_ext ((Ext.refl w).alloc _).drew).trans ((D4 _ _ _ _).trans ((Fr.of_ext (Ext.refl _).drew).trans (D4 _ _ _ _)))
   refine ⟨some ⟨w.heap.size,0,none⟩,gc,by rw [e2],by rw [e2];exact hO,fun k hk=>?_,?_⟩
   · simp only [Value.ownBlock,Option.some.injEq] at hk
     exact Or.inr (by omega)
   · have hE:=(Ext.refl w).fr hF (fun k hk=>by omega)
     exact .of_ext hE
 · obtain ⟨z,zr,rfl⟩ : ∃z zr,zs=z::zr:=by
    cases zs with
    | nil=>simp at h4;omega
    | cons z zr=>exact ⟨z,zr,rfl⟩
   obtain ⟨⟨tA,hsa⟩,hfa⟩:=LH hv;obtain ⟨⟨tB,hsb⟩,hfb⟩:=LH h3.blk
   have hsp : ∀j,j<xs.length+1→(w.cell? ⟨g,0+j,none⟩).isSome=true:=fun j hj=>by
    have hl:j<(ints xs++z::zr).length:=by simp [ints];omega
    rw [(Ki h3).at (i:=j) (List.getElem?_eq_getElem hl)]
    rfl
   have hcap:cap≠0:=by omega
   have hcc:=Any2.slices_Insert_int_shift Tryz.lays2n21 g 0 xs.length cap 0 vb 0 1 1 (ints xs) [.int .i64 x] w hn (by decide) (by omega) (by rw [Fp] at h5;exact h5) (fun e=>hvb (by rw [e];rfl)) (by simp [ints]) rfl hcs hsp (fun j _=>hfb _) hvs (Nl xs) h1v
    tA tB 1 (ints xs++z::zr).length hsa hsb (by simp) (hfa _) (hfa _)
   refine Calls.mono hcc ?_;rintro e w' ⟨rfl,rfl⟩
   change PutR _ _ _ _ (.returned (.slice (some ⟨g,0,none⟩) (xs.length+1) cap)) ((w.drew.setCells g 1 (ints xs)).setCells g 0 [Value.int .i64 x])
   obtain ⟨a,mid,hm,hml⟩ : ∃a mid,ints xs++[z]=a::mid∧mid.length=(ints xs).length:=by
    cases hq:ints xs++[z] with
    | nil=>simp at hq
    | cons a mid=>
     refine ⟨a,mid,rfl,?_⟩;have h8:=congrArg List.length hq;rw [List.length_append,List.length_singleton,List.length_cons] at h8
     omega
   have t0:TB w.drew g ([a]++mid++zr) 3:=by
    have:=Mm h3;rw [show ints xs++z::zr=(ints xs++[z])++zr by simp,hm] at this
    simpa using this
   have t1:=D3 (ints xs) [a] mid zr _ hml.symm t0;have t2:=D3 [.int .i64 x] [] [a] (ints xs++zr) _ rfl (by simpa using t1);rw [show []++[Value.int .i64 x]++(ints xs++zr)=ints (x::xs)++zr by simp [ints]] at t2;have hO:=OwnI.mk (B:=B) h2 t2 (by simp at h4 ⊢;omega);rw [e2,show xs.length+1+zr.length=cap by simp at h4;omega] at hO;have hF:Fr (fun k=>k=g) w ((w.drew.setCells g 1 (ints xs)).setCells g 0 [Value.int .i64 x]):=(Fr.of_ext (Ext.refl w).drew).trans ((D4 _ _ _ _).trans (D4 _ _ _ _))
   exact ⟨some ⟨g,0,none⟩,cap,by rw [e2],by rw [e2];exact hO,fun k hk=>Or.inl hk,hF.weaken fun b hb=>by subst hb;rfl⟩
theorem LI (xs:List Int) (hx:xs.length≤1000000) (i:Nat) (hi:i<xs.length) (B:Nat) (v:Value) (w:World) (h:OwnI w B v xs) :
 Calls prog 198 #[v,.int .i64 i,.int .i64 ((i:Int)+1)] w (PutR v (xs.eraseIdx i) B w):=by
 rcases h.open with ⟨rfl,rfl⟩|⟨g,cap,zs,rfl,h2,h3,h4,h5⟩
 · simp at hi
 have hH:Sort.Holds (Value.int .i64) w g 0 xs.toArray:=fun j hj=>by
  have hj:j<xs.length:=by simpa using hj
  refine ⟨?_,h3.blk.free⟩;have:=(Ki h3).at (i:=j) (v:=.int .i64 xs[j]) (by rw [List.getElem?_append_left (by simpa [ints] using hj)];simp [ints,List.getElem?_eq_getElem hj]);rw [this]
  simp [hj]
 have hcc:=Any.slices_Delete_int Tryz.lays2n23 g 0 cap i (i+1) xs w hH (by omega) (by rw [Fp] at h5;exact h5) (by omega) (by omega);refine Calls.mono hcc ?_;rintro e w' ⟨rfl,q,rfl⟩
 have ee:xs.take i++xs.drop (i+1)++List.replicate (i+1-i) 0=xs.eraseIdx i++[0]:=by
  rw [show i+1-i=1 by omega,List.eraseIdx_eq_take_drop_succ]
  simp
 rw [ee]
 have hl:(xs.eraseIdx i++[0]).length=xs.length:=by
  rw [List.length_append,List.length_eraseIdx_of_lt hi,List.length_singleton];omega
 obtain ⟨t1,f1⟩:=QY (n:=0) (h3.ext (LG w q)) hl;rw [GG,List.append_assoc] at t1
 have e2:(xs.eraseIdx i).length=xs.length-(i+1-i):=by rw [List.length_eraseIdx_of_lt hi];omega
 have hO:=OwnI.mk (B:=B) h2 t1 (by simp [ints];omega)
 have e3:(xs.eraseIdx i).length+(ints [0]++zs).length=cap:=by simp [ints];omega
 rw [e3] at hO;refine ⟨some ⟨g,0,none⟩,cap,by rw [e2],hO,fun k hk=>Or.inl hk,?_⟩
 exact ((Fr.of_ext (LG w q)).trans f1).weaken fun b hb=>by subst hb;rfl
theorem Sf (xs ys:List Int) (hx:xs.length≤1000000) (hy:ys.length≤1000000) (a a':Option Addr) (c c':Nat) (w:World) (h:IntsAt w xs a) (h':IntsAt w ys a') :
 Calls prog 42 #[.slice a xs.length c,.slice a' ys.length c'] w fun e w'=>e = .returned (.bool (decide (xs=ys)))∧Ext w w':=by
 by_cases hxs:xs=[]
 · subst hxs;have hc:=Any.slices_Equal_int_empty Tryz.laysn111 a a' c ys.length c' w (by omega);refine Calls.mono hc ?_;rintro e w' ⟨rfl,rfl⟩;refine ⟨?_,Ext.refl _⟩
   cases ys<;>simp
 · by_cases hys:ys=[]
   · subst hys;have X:=Ext.refl w
     have hn:(xs.length:Int)≠0:=by
      cases xs with
      | nil=>exact absurd rfl hxs
      | cons z r=>simp;omega
     have ed:decide (xs=([]:List Int))=false:=decide_eq_false hxs;rw [ed];refine Ad func42 ntmps42 rfl rfl ?_
     focus
      refine eK ?_;refine Af rfl rfl ?_;rotate_left
     exact ⟨rfl,X⟩
   · obtain ⟨b,o,rfl,hr⟩:=h.get hxs
     obtain ⟨b',o',rfl,hr'⟩:=h'.get hys;have hc:=Any.slices_Equal_int Tryz.laysn111 b o xs.length c b' o' ys.length c' xs ys w (Nat.le_refl _) (Nat.le_refl _) (by omega) (by omega) (fun j hj=>hr.at (i:=j) (v:=.int .i64 (xs.getD j 0)) (by simp [ints,List.getElem?_map,List.getElem?_eq_getElem hj,List.getD_eq_getElem?_getD]))
      (fun j hj=>hr'.at (i:=j) (v:=.int .i64 (ys.getD j 0)) (by simp [ints,List.getElem?_map,List.getElem?_eq_getElem hj,List.getD_eq_getElem?_getD]))
     refine Calls.mono hc ?_;rintro e w' ⟨rfl,q,rfl⟩;rw [List.take_length,List.take_length]
     exact ⟨by rw [Ib],QX w q⟩
inductive Rl where
 | none|cell (i:Nat)|items (i:Nat)|vars (j:Nat)|cels (j:Nat)|calls|store|tape|tin|tout|other (k:Nat)
deriving DecidableEq
def Ro (ρ ρ':Nat→Rl) (w:World):Prop:= ∀b,b<w.heap.size→ρ' b=ρ b
theorem Ro.refl (ρ:Nat→Rl) (w:World):Ro ρ ρ w:=fun _ _=>rfl
theorem Ro.trans {ρ ρ' ρ'':Nat→Rl} {w w':World} (h:Ro ρ ρ' w) (h':Ro ρ' ρ'' w') (hs:w.heap.size≤w'.heap.size):Ro ρ ρ'' w:=fun b hb=>(h' b (by omega)).trans (h b hb)
def OwnR (ρ:Nat→Rl) (r:Rl) (w:World) (v:Value) (xs:List Int):Prop:=OwnI w 0 v xs ∧ ∀k,v.ownBlock=some k→ρ k=r
theorem OwnR.ext {ρ:Nat→Rl} {r:Rl} {w w':World} {v:Value} {xs:List Int} (h:OwnR ρ r w v xs) (x:Ext w w'):OwnR ρ r w' v xs:=⟨h.1.ext x,h.2⟩
instance {ρ:Nat→Rl} {r:Rl} {w w':World} {v:Value} {xs:List Int}:LfE w w' (OwnR ρ r w v xs) (OwnR ρ r w' v xs):=⟨fun x h=>Bk.OwnR.ext h x⟩
theorem OwnR.fr {ρ:Nat→Rl} {r:Rl} {S:Nat→Prop} {w w':World} {v:Value} {xs:List Int} (h:OwnR ρ r w v xs) (x:Fr S w w') (hs : ∀k,S k→ρ k≠r):OwnR ρ r w' v xs:=
 ⟨h.1.fr x (fun k hk hS=>hs k hS (h.2 k hk)),h.2⟩
instance {ρ:Nat→Rl} {r:Rl} {S:Nat→Prop} {w w':World} {v:Value} {xs:List Int}:LfF S w w' (OwnR ρ r w v xs) (∀k,S k→ρ k≠r) (OwnR ρ r w' v xs):=⟨fun x s h=>Bk.OwnR.fr h x s⟩
theorem OwnR.ro {ρ ρ':Nat→Rl} {r:Rl} {w w0:World} {v:Value} {xs:List Int} (h:OwnR ρ r w v xs) (x:Ro ρ ρ' w0) (hs:w.heap.size≤w0.heap.size):OwnR ρ' r w v xs:=
 ⟨h.1,fun k hk=>by have:=(h.1.lt hk).2;rw [x k (by omega)];exact h.2 k hk⟩
theorem OwnR.ro' {ρ ρ':Nat→Rl} {r:Rl} {w w':World} {v:Value} {xs:List Int} (h:OwnR ρ r w' v xs) (x:Ro ρ ρ' w) (hl : ∀k,v.ownBlock=some k→k<w.heap.size):OwnR ρ' r w' v xs:=
 ⟨h.1,fun k hk=>by rw [x k (hl k hk)];exact h.2 k hk⟩
structure TapeAt (ρ:Nat→Rl) (w:World) (tb:Nat) (ti to:List Int):Prop where
 role:ρ tb = .tape
 blk : ∃vi vo,Blk w tb [vi,vo]∧OwnR ρ .tin w vi ti∧OwnR ρ .tout w vo to
 li:ti.length≤4096
 lo:to.length≤4096
theorem TapeAt.ext {ρ:Nat→Rl} {w w':World} {tb:Nat} {ti to:List Int} (h:TapeAt ρ w tb ti to) (x:Ext w w'):TapeAt ρ w' tb ti to:=by
 obtain ⟨vi,vo,h1,h2,h3⟩:=h.blk
 exact ⟨h.role,⟨vi,vo,h1.ext x,h2.ext x,h3.ext x⟩,h.li,h.lo⟩
instance {ρ:Nat→Rl} {w w':World} {tb:Nat} {ti to:List Int}:LfE w w' (TapeAt ρ w tb ti to) (TapeAt ρ w' tb ti to):=⟨fun x h=>Bk.TapeAt.ext h x⟩
theorem TapeAt.fr {ρ:Nat→Rl} {S:Nat→Prop} {w w':World} {tb:Nat} {ti to:List Int} (h:TapeAt ρ w tb ti to) (x:Fr S w w') (hs : ∀k,S k→ρ k≠.tape∧ρ k≠.tin∧ρ k≠.tout):TapeAt ρ w' tb ti to:=by
 obtain ⟨vi,vo,h1,h2,h3⟩:=h.blk
 exact ⟨h.role,⟨vi,vo,h1.fr x (fun hS=>(hs _ hS).1 h.role),h2.fr x (fun k hS=>(hs k hS).2.1),h3.fr x (fun k hS=>(hs k hS).2.2)⟩,h.li,h.lo⟩
instance {ρ:Nat→Rl} {S:Nat→Prop} {w w':World} {tb:Nat} {ti to:List Int}:LfF S w w' (TapeAt ρ w tb ti to) (∀k,S k→ρ k≠.tape∧ρ k≠.tin∧ρ k≠.tout) (TapeAt ρ w' tb ti to):=⟨fun x s h=>Bk.TapeAt.fr h x s⟩
theorem TapeAt.ro {ρ ρ':Nat→Rl} {w w0:World} {tb:Nat} {ti to:List Int} (h:TapeAt ρ w tb ti to) (x:Ro ρ ρ' w0) (hs:w.heap.size≤w0.heap.size):TapeAt ρ' w tb ti to:=by
 obtain ⟨vi,vo,h1,h2,h3⟩:=h.blk
 exact ⟨by rw [x tb (by have:=h1.lt;omega)];exact h.role,⟨vi,vo,h1,h2.ro x hs,h3.ro x hs⟩,h.li,h.lo⟩
def BM (ρ:Nat→Rl) (b:Nat):Prop:=ρ b = .tape∨ρ b = .tin∨ρ b = .tout
def Hh (ρ:Nat→Rl) (w:World) (r:Rl):Nat→Rl:=fun b=>if b<w.heap.size then ρ b else r
theorem Di (ρ:Nat→Rl) (w:World) (r:Rl):Ro ρ (Hh ρ w r) w:=fun b hb=>by unfold Hh;rw [if_pos hb]
theorem QZ (ρ:Nat→Rl) (w:World) (r:Rl) {b:Nat} (hb:w.heap.size≤b):Hh ρ w r b=r:=by unfold Hh;rw [if_neg (by omega)]
theorem PutR.own {ρ:Nat→Rl} {r:Rl} {v v':Value} {w1 w2:World} {ys:List Int} (h:OwnI w2 0 v' ys) (hv : ∀k,v.ownBlock=some k→ρ k=r∧k<w1.heap.size) (hn : ∀k,v'.ownBlock=some k→v.ownBlock=some k∨w1.heap.size≤k):OwnR (Hh ρ w1 r) r w2 v' ys:=by
 refine ⟨h,fun k hk=>?_⟩
 rcases hn k hk with h1|h1
 · obtain ⟨h2,h3⟩:=hv k h1
   unfold Hh
   rw [if_pos h3];exact h2
 · exact QZ _ _ _ h1
def TapeR (ρ:Nat→Rl) (tb:Nat) (ti to:List Int) (r:Value) (w:World):Ending→World→Prop:=fun e w'=> ∃ ρ',e = .returned r∧Ro ρ ρ' w∧TapeAt ρ' w' tb ti to∧Fr (BM ρ) w w'
theorem TapeR.ret {ρ:Nat→Rl} {tb:Nat} {ti to:List Int} {r:Value} {w:World} {e:Ending} {w':World} (h:TapeR ρ tb ti to r w e w') : ∃v,e = .returned v:=by
 obtain ⟨_,h,-⟩:=h
 exact ⟨_,h⟩
theorem TP (ρ:Nat→Rl) (tb:Nat) (ti to:List Int) (i x:Int) (w:World) (h:TapeAt ρ w tb ti to) (hf:ti.length=4096) :
 Calls prog 193 #[.pointer (some ⟨tb,0,none⟩),.int .i64 i,.int .i64 x] w (TapeR ρ tb ti to (.int .i64 5) w):=by
 obtain ⟨vi,vo,hb,hi,ho⟩:=h.blk;obtain ⟨a,c,rfl⟩:=hi.1.shape;refine Ad func193 ntmps193 rfl rfl ?_
 focus
  refine eK ?_;refine Af rfl rfl ?_;rotate_left
 exact ⟨ρ,rfl,Ro.refl _ _,by assumption,Fr.refl _ _⟩
theorem TQ (ρ:Nat→Rl) (tb:Nat) (ti to:List Int) (i x:Int) (w:World) (h:TapeAt ρ w tb ti to) (hf:to.length=4096) :
 Calls prog 193 #[.pointer (some ⟨tb,0+1,none⟩),.int .i64 i,.int .i64 x] w (TapeR ρ tb ti to (.int .i64 5) w):=by
 obtain ⟨vi,vo,hb,hi,ho⟩:=h.blk;obtain ⟨a,c,rfl⟩:=ho.1.shape;refine Ad func193 ntmps193 rfl rfl ?_
 focus
  refine eK ?_;refine Af rfl rfl ?_;rotate_left
 exact ⟨ρ,rfl,Ro.refl _ _,by assumption,Fr.refl _ _⟩
theorem TR (ρ:Nat→Rl) (tb:Nat) (ti to:List Int) (x:Int) (w:World) (h:TapeAt ρ w tb ti to) (hf:ti.length<4096) :
 Calls prog 193 #[.pointer (some ⟨tb,0,none⟩),.int .i64 0,.int .i64 x] w (TapeR ρ tb (x::ti) to (.int .i64 0) w):=by
 obtain ⟨vi,vo,hb,hi,ho⟩:=h.blk;have hrt:=h.role;have hlo:=h.lo;have hli:=h.li;have hlt:=hb.lt
 have hol:=fun k hk=>(ho.1.lt (k:=k) hk).2
 obtain ⟨a,c,rfl⟩:=hi.1.shape
 have hil:=fun k hk=>And.intro (hi.2 k hk) (hi.1.lt hk).2
 obtain ⟨g,q⟩:=hi;have F:=Fr.refl (BM ρ) w
 have hII : ∀(vb:Nat) (w1:World),OwnI w1 0 (.slice a ti.length c) ti→Blk w1 vb [.int .i64 x]→w.heap.size≤vb→Calls prog 199 #[.slice a ti.length c,.int .i64 0,.slice (some ⟨vb,0,none⟩) 1 1] w1 (PutR (.slice a ti.length c) (x::ti) 0 w1):=fun vb w1 h1 h2 h3=>by
  by_cases hne:ti=[]
  · subst hne;have:=Kj [] (by simp) 0 _ x vb w1 (Nat.zero_le _) h1 h2.row
    simpa using this
  · exact OG ti (by omega) hne 0 _ x vb w1 (Nat.zero_le _) h1 h2 (fun e=>by have:=hil vb e;omega)
 replace hII:=Lib.hid hII
 have i : ¬(Value.slice a ti.length c).ownBlock=some tb:=fun e=>by have:=(hil _ e).1;rw [hrt] at this;cases this
 have l : ∀k,(Value.slice a ti.length c).ownBlock=some k→ρ k≠.tout:=fun k e=>by have:=(hil _ e).1;rw [this];exact fun h=>by cases h
 have m : ∀k,(Value.slice a ti.length c).ownBlock=some k→BM ρ k∨w.heap.size≤k:=fun k e=>Or.inl (Or.inr (Or.inl (hil k e).1))
 have n : ∀k,k=tb→BM ρ k∨w.heap.size≤k:=fun k e=>Or.inl (Or.inl (by rw [e];exact hrt))
 have o : ∀k,k=tb→ρ k≠.tout:=fun k e=>by rw [e,hrt];exact fun h=>by cases h
 clear h;refine Ad func193 ntmps193 rfl rfl ?_
 focus
  refine eK ?_;refine AQ (AM [_] Aa Bj rfl rfl rfl rfl rfl rfl rfl rfl rfl) rfl ?_ (fun _ h=>h);rintro _ w2 ⟨b1,rfl,n3,t4⟩;have h5:=n3.blk;have x6:=n3.ext;have p7:=n3.pos;have z8:=n3.size;revert ho hb g F;refine eE x6 ?_;intro ho hb g F;refine eQ rfl (hII.out _ _ ‹_› ‹_› (by omega)) ?_;rintro _ r ⟨a9,⟨s,⟨⟨⟩,⟨d,⟨j,b⟩⟩⟩⟩⟩;have t:=b.size;replace ho:=OwnR.fr ho b (l);replace hb:=Blk.fr hb b (i);replace F:=Fr.fr F b (m);refine C1 Pn (eV [_] [_,_] hb ?_);intro u p f v;clear hb;replace d:=OwnI.fr d f (fun k hk e=>by subst e;rcases j _ hk with h|h;exact i h;omega);replace ho:=OwnR.fr ho f (o);replace F:=Fr.fr F f (n);refine eK ?_;refine Af rfl rfl ?_;rotate_left
 exact ⟨Hh ρ w .tin,rfl,Di _ _ _,⟨by rw [Di ρ w .tin tb hlt];exact hrt,⟨_,_,p,PutR.own d hil (fun k hk=>(j k hk).imp id (fun h=>by omega)),ho.ro' (Di _ _ _) hol⟩,by simp;omega,hlo⟩,F⟩
theorem TS (ρ:Nat→Rl) (tb:Nat) (ti to:List Int) (x:Int) (w:World) (h:TapeAt ρ w tb ti to) (hf:to.length<4096) :
 Calls prog 193 #[.pointer (some ⟨tb,0+1,none⟩),.int .i64 to.length,.int .i64 x] w (TapeR ρ tb ti (to++[x]) (.int .i64 0) w):=by
 obtain ⟨vi,vo,hb,hi,ho⟩:=h.blk;have hrt:=h.role;have hlo:=h.lo;have hli:=h.li;have hlt:=hb.lt
 have hol:=fun k hk=>(hi.1.lt (k:=k) hk).2
 obtain ⟨a,c,rfl⟩:=ho.1.shape
 have hil:=fun k hk=>And.intro (ho.2 k hk) (ho.1.lt hk).2
 obtain ⟨g,q⟩:=ho;have F:=Fr.refl (BM ρ) w
 have i : ¬(Value.slice a to.length c).ownBlock=some tb:=fun e=>by have:=(hil _ e).1;rw [hrt] at this;cases this
 have l : ∀k,(Value.slice a to.length c).ownBlock=some k→ρ k≠.tin:=fun k e=>by have:=(hil _ e).1;rw [this];exact fun h=>by cases h
 have m : ∀k,(Value.slice a to.length c).ownBlock=some k→BM ρ k∨w.heap.size≤k:=fun k e=>Or.inl (Or.inr (Or.inr (hil k e).1))
 have n : ∀k,k=tb→BM ρ k∨w.heap.size≤k:=fun k e=>Or.inl (Or.inl (by rw [e];exact hrt))
 have o : ∀k,k=tb→ρ k≠.tin:=fun k e=>by rw [e,hrt];exact fun h=>by cases h
 clear h;refine Ad func193 ntmps193 rfl rfl ?_
 focus
  refine eK ?_;refine AQ (AM [_] Aa Bj rfl rfl rfl rfl rfl rfl rfl rfl rfl) rfl ?_ (fun _ h=>h);rintro _ w2 ⟨b1,rfl,n3,t4⟩;have h5:=n3.blk;have x6:=n3.ext;have p7:=n3.pos;have z8:=n3.size;revert hi hb g F;refine eE x6 ?_;intro hi hb g F;refine eQ rfl (Kj to (by omega) 0 _ x _ _ (Nat.zero_le _) ‹_› (Blk.row ‹_›)) ?_;rintro _ r ⟨a9,⟨s,⟨⟨⟩,⟨d,⟨j,b⟩⟩⟩⟩⟩;have t:=b.size;replace hi:=OwnR.fr hi b (l);replace hb:=Blk.fr hb b (i);replace F:=Fr.fr F b (m);refine C1 Pn (eV [_] [_,_] hb ?_);intro u p f v;clear hb;replace d:=OwnI.fr d f (fun k hk e=>by subst e;rcases j _ hk with h|h;exact i h;omega);replace hi:=OwnR.fr hi f (o);replace F:=Fr.fr F f (n);refine eK ?_;refine Af rfl rfl ?_;rotate_left
 exact ⟨Hh ρ w .tout,rfl,Di _ _ _,⟨by rw [Di ρ w .tout tb hlt];exact hrt,⟨_,_,p,hi.ro' (Di _ _ _) hol,PutR.own d hil (fun k hk=>(j k hk).imp id (fun h=>by omega))⟩,hli,by simp;omega⟩,F⟩
theorem TU (ρ:Nat→Rl) (tb:Nat) (to:List Int) (i:Int) (w:World) (h:TapeAt ρ w tb [] to) :
 Calls prog 192 #[.pointer (some ⟨tb,0,none⟩),.int .i64 i] w (TapeR ρ tb [] to (.tuple #[.int .i64 0,.int .i64 17]) w):=by
 obtain ⟨vi,vo,hb,hi,ho⟩:=h.blk;obtain ⟨a,c,rfl⟩:=hi.1.shape;refine Ad func192 ntmps192 rfl rfl ?_
 focus
  refine eK ?_;refine AU rfl rfl rfl ?_;rotate_left
 exact ⟨ρ,rfl,Ro.refl _ _,by assumption,Fr.refl _ _⟩
theorem TV (ρ:Nat→Rl) (tb:Nat) (ti:List Int) (i:Int) (w:World) (h:TapeAt ρ w tb ti []) :
 Calls prog 192 #[.pointer (some ⟨tb,0+1,none⟩),.int .i64 i] w (TapeR ρ tb ti [] (.tuple #[.int .i64 0,.int .i64 17]) w):=by
 obtain ⟨vi,vo,hb,hi,ho⟩:=h.blk;obtain ⟨a,c,rfl⟩:=ho.1.shape;refine Ad func192 ntmps192 rfl rfl ?_
 focus
  refine eK ?_;refine AU rfl rfl rfl ?_;rotate_left
 exact ⟨ρ,rfl,Ro.refl _ _,by assumption,Fr.refl _ _⟩
theorem TX (ρ:Nat→Rl) (tb:Nat) (x:Int) (ti to:List Int) (w:World) (h:TapeAt ρ w tb (x::ti) to) :
 Calls prog 192 #[.pointer (some ⟨tb,0,none⟩),.int .i64 0] w (TapeR ρ tb ti to (.tuple #[.int .i64 x,.int .i64 0]) w):=by
 obtain ⟨vi,vo,hb,hi,ho⟩:=h.blk;have hrt:=h.role;have hlo:=h.lo;have hli:=h.li;have hlt:=hb.lt
 have hol:=fun k hk=>(ho.1.lt (k:=k) hk).2
 obtain ⟨a,c,rfl⟩:=hi.1.shape
 have hil:=fun k hk=>And.intro (hi.2 k hk) (hi.1.lt hk).2
 obtain ⟨f,o⟩:=hi;have F:=Fr.refl (BM ρ) w
 have d : ¬(Value.slice a (x::ti).length c).ownBlock=some tb:=fun e=>by have:=(hil _ e).1;rw [hrt] at this;cases this
 have g : ∀k,(Value.slice a (x::ti).length c).ownBlock=some k→ρ k≠.tout:=fun k e=>by have:=(hil _ e).1;rw [this];exact fun h=>by cases h
 have j : ∀k,(Value.slice a (x::ti).length c).ownBlock=some k→BM ρ k∨w.heap.size≤k:=fun k e=>Or.inl (Or.inr (Or.inl (hil k e).1))
 have l : ∀k,k=tb→BM ρ k∨w.heap.size≤k:=fun k e=>Or.inl (Or.inl (by rw [e];exact hrt))
 have m : ∀k,k=tb→ρ k≠.tout:=fun k e=>by rw [e,hrt];exact fun h=>by cases h
 have hDD : ∀(w1:World),OwnI w1 0 (.slice a (x::ti).length c) (x::ti)→Calls prog 198 #[.slice a (x::ti).length c,.int .i64 0,.int .i64 (0+1)] w1 (PutR (.slice a (x::ti).length c) ti 0 w1):=fun w1 h1=>by
  have:=LI (x::ti) (by omega) 0 (by simp) 0 _ w1 h1
  simpa using this
 replace hDD:=Lib.hid hDD
 have p:(x::ti).length=ti.length+1:=by simp
 obtain ⟨gb,go,rfl,hr⟩:=f.at.get (by simp);have r1:=IntsAt.at hr (i:=0) (by simp);rw [show (x::ti).getD 0 0=x from rfl] at r1;clear h hr;refine Ad func192 ntmps192 rfl rfl ?_
 focus
  refine eK ?_;refine C1 (Pw r1) ?_;refine eK ?_;refine eQ rfl (hDD.out _ ‹_›) ?_;rintro _ w6 ⟨a1,⟨c2,⟨⟨⟩,⟨h3,⟨h4,f5⟩⟩⟩⟩⟩;have z7:=f5.size;replace ho:=OwnR.fr ho f5 (g);replace F:=Fr.fr F f5 (j);replace hb:=Blk.fr hb f5 (d);refine C1 Pn (eV [_] [_,_] hb ?_);intro w8 n b q;clear hb;replace h3:=OwnI.fr h3 b (fun k hk e=>by subst e;rcases h4 _ hk with h|h;exact d h;omega);replace ho:=OwnR.fr ho b (m);replace F:=Fr.fr F b (l);refine eK ?_;refine AU rfl rfl rfl ?_;rotate_left
 exact ⟨Hh ρ w .tin,rfl,Di _ _ _,⟨by rw [Di ρ w .tin tb hlt];exact hrt,⟨_,_,n,PutR.own h3 hil (fun k hk=>(h4 k hk).imp id (fun h=>by omega)),ho.ro' (Di _ _ _) hol⟩,by omega,hlo⟩,F⟩
theorem TY (ρ:Nat→Rl) (tb:Nat) (x:Int) (ti ys:List Int) (w:World) (h:TapeAt ρ w tb ti (ys++[x])) :
 Calls prog 192 #[.pointer (some ⟨tb,0+1,none⟩),.int .i64 (((ys++[x]).length:Int)-1)] w (TapeR ρ tb ti ys (.tuple #[.int .i64 x,.int .i64 0]) w):=by
 obtain ⟨vi,vo,hb,hi,ho⟩:=h.blk;have hrt:=h.role;have hlo:=h.lo;have hli:=h.li;have hlt:=hb.lt
 have hol:=fun k hk=>(hi.1.lt (k:=k) hk).2
 obtain ⟨a,c,rfl⟩:=ho.1.shape
 have hil:=fun k hk=>And.intro (ho.2 k hk) (ho.1.lt hk).2
 obtain ⟨g,p⟩:=ho;have F:=Fr.refl (BM ρ) w
 have d : ¬(Value.slice a (ys++[x]).length c).ownBlock=some tb:=fun e=>by have:=(hil _ e).1;rw [hrt] at this;cases this
 have j : ∀k,(Value.slice a (ys++[x]).length c).ownBlock=some k→ρ k≠.tin:=fun k e=>by have:=(hil _ e).1;rw [this];exact fun h=>by cases h
 have l : ∀k,(Value.slice a (ys++[x]).length c).ownBlock=some k→BM ρ k∨w.heap.size≤k:=fun k e=>Or.inl (Or.inr (Or.inr (hil k e).1))
 have m : ∀k,k=tb→BM ρ k∨w.heap.size≤k:=fun k e=>Or.inl (Or.inl (by rw [e];exact hrt))
 have n : ∀k,k=tb→ρ k≠.tin:=fun k e=>by rw [e,hrt];exact fun h=>by cases h
 have f:(ys++[x]).length=ys.length+1:=by simp
 have hDD : ∀(w1:World),OwnI w1 0 (.slice a (ys++[x]).length c) (ys++[x])→Calls prog 198 #[.slice a (ys++[x]).length c,.int .i64 (((ys++[x]).length:Int)-1),.int .i64 (((ys++[x]).length:Int)-1+1)] w1 (PutR (.slice a (ys++[x]).length c) ys 0 w1):=fun w1 h1=>by
  have h9:=LI (ys++[x]) (by omega) ys.length (by omega) 0 _ w1 h1;rw [show (ys++[x]).eraseIdx ys.length=ys by rw [List.eraseIdx_append_of_length_le (Nat.le_refl _)];simp] at h9;rw [f] at h9 ⊢;rw [show (((ys.length+1:Nat):Int)-1)=(ys.length:Int) by omega]
  exact h9
 replace hDD:=Lib.hid hDD;obtain ⟨gb,go,rfl,hr⟩:=g.at.get (by simp);have r1:=IntsAt.at hr (i:=(((ys++[x]).length:Int)-1).toNat) (by omega);rw [show (ys++[x]).getD (((ys++[x]).length:Int)-1).toNat 0=x by rw [f,show (((ys.length+1:Nat):Int)-1).toNat=ys.length by omega];simp] at r1;clear h hr
 generalize hLL:(ys++[x]).length=LL at *
 refine Ad func192 ntmps192 rfl rfl ?_
 focus
  refine eK ?_;refine C1 (G6 r1) ?_;refine eK ?_;refine eQ rfl (hDD.out _ ‹_›) ?_;rintro _ w6 ⟨a1,⟨c2,⟨⟨⟩,⟨h3,⟨h4,f5⟩⟩⟩⟩⟩;have z7:=f5.size;replace hi:=OwnR.fr hi f5 (j);replace F:=Fr.fr F f5 (l);replace hb:=Blk.fr hb f5 (d);refine C1 Pn (eV [_] [_,_] hb ?_);intro w8 o b q;clear hb;replace h3:=OwnI.fr h3 b (fun k hk e=>by subst e;rcases h4 _ hk with h|h;exact d h;omega);replace hi:=OwnR.fr hi b (n);replace F:=Fr.fr F b (m);refine eK ?_;refine AU rfl rfl rfl ?_;rotate_left
 exact ⟨Hh ρ w .tout,rfl,Di _ _ _,⟨by rw [Di ρ w .tout tb hlt];exact hrt,⟨_,_,o,hi.ro' (Di _ _ _) hol,PutR.own h3 hil (fun k hk=>(h4 k hk).imp id (fun h=>by omega))⟩,hli,by omega⟩,F⟩
theorem Iy {P:Program} {n:Nat} {l:Sl} {op:Op} {ty:TypeId} {v:Value} {w:World} (h:BE P n l (· = w) op ty v):Cj P n l op ty w (fun r w'=>match r with|some u=>u=v∧w=w'|none=>False):=by
 unfold Cj
 unfold BE at h
 intro a dst pos after g next Q ha k k0
 unfold Oper.wp
 rw [h a w dst pos after g ha rfl]
 exact k v w ⟨rfl,rfl⟩
theorem Ro.low {ρ ρ':Nat→Rl} {w w':World} (h:Ro ρ ρ' w') (hs:w.heap.size≤w'.heap.size):Ro ρ ρ' w:=fun b hb=>h b (by omega)
theorem Sg (ρ:Nat→Rl) (tb:Nat) (to:List Int) (w:World) (h:TapeAt ρ w tb [] to):Calls prog 179 #[.pointer (some ⟨tb,0,none⟩)] w (TapeR ρ tb [] to (.tuple #[.int .i64 0,.int .i64 17]) w):=by
 have F:=Fr.refl (BM ρ) w;have hR:=Lib.hid (fun w1 h=>TU ρ tb to 0 w1 h);refine Ad func179 ntmps179 rfl rfl ?_
 focus
  refine eK ?_;refine C1 (A8 Aa rfl rfl) ?_;refine eK ?_;refine eQ rfl (hR.out _ ‹_›) ?_;rintro _ w5 ⟨ρ'1,⟨⟨⟩,⟨h2,⟨h3,f4⟩⟩⟩⟩;have z6:=f4.size;clear h;replace F:=Fr.fr F f4 (fun k hk=>Or.inl hk);refine eK ?_;refine AU rfl rfl rfl ?_;rotate_left
 exact ⟨_,rfl,Ro.low ‹_› (by omega),by assumption,F⟩
theorem TZ (ρ:Nat→Rl) (tb:Nat) (x:Int) (ti to:List Int) (w:World) (h:TapeAt ρ w tb (x::ti) to):Calls prog 179 #[.pointer (some ⟨tb,0,none⟩)] w (TapeR ρ tb ti to (.tuple #[.int .i64 x,.int .i64 0]) w):=by
 have F:=Fr.refl (BM ρ) w;have hR:=Lib.hid (fun w1 h=>TX ρ tb x ti to w1 h);refine Ad func179 ntmps179 rfl rfl ?_
 focus
  refine eK ?_;refine C1 (A8 Aa rfl rfl) ?_;refine eK ?_;refine eQ rfl (hR.out _ ‹_›) ?_;rintro _ w5 ⟨ρ'1,⟨⟨⟩,⟨h2,⟨h3,f4⟩⟩⟩⟩;have z6:=f4.size;clear h;replace F:=Fr.fr F f4 (fun k hk=>Or.inl hk);refine eK ?_;refine AU rfl rfl rfl ?_;rotate_left
 exact ⟨_,rfl,Ro.low ‹_› (by omega),by assumption,F⟩
theorem OH (ρ:Nat→Rl) (tb:Nat) (x:Int) (ti to:List Int) (w:World) (h:TapeAt ρ w tb ti to) (hf:ti.length=4096):Calls prog 180 #[.pointer (some ⟨tb,0,none⟩),.int .i64 x] w (TapeR ρ tb ti to (.int .i64 5) w):=by
 have F:=Fr.refl (BM ρ) w;have hR:=Lib.hid (fun w1 h=>TP ρ tb ti to 0 x w1 h hf);refine Ad func180 ntmps180 rfl rfl ?_
 focus
  refine eK ?_;refine C1 (A8 Aa rfl rfl) ?_;refine eK ?_;refine eQ rfl (hR.out _ ‹_›) ?_;rintro _ w5 ⟨ρ'1,⟨⟨⟩,⟨h2,⟨h3,f4⟩⟩⟩⟩;have z6:=f4.size;clear h;replace F:=Fr.fr F f4 (fun k hk=>Or.inl hk);refine eK ?_;refine Af rfl rfl ?_;rotate_left
 exact ⟨_,rfl,Ro.low ‹_› (by omega),by assumption,F⟩
theorem LJ (ρ:Nat→Rl) (tb:Nat) (x:Int) (ti to:List Int) (w:World) (h:TapeAt ρ w tb ti to) (hf:ti.length<4096):Calls prog 180 #[.pointer (some ⟨tb,0,none⟩),.int .i64 x] w (TapeR ρ tb (x::ti) to (.int .i64 0) w):=by
 have F:=Fr.refl (BM ρ) w;have hR:=Lib.hid (fun w1 h=>TR ρ tb ti to x w1 h hf);refine Ad func180 ntmps180 rfl rfl ?_
 focus
  refine eK ?_;refine C1 (A8 Aa rfl rfl) ?_;refine eK ?_;refine eQ rfl (hR.out _ ‹_›) ?_;rintro _ w5 ⟨ρ'1,⟨⟨⟩,⟨h2,⟨h3,f4⟩⟩⟩⟩;have z6:=f4.size;clear h;replace F:=Fr.fr F f4 (fun k hk=>Or.inl hk);refine eK ?_;refine Af rfl rfl ?_;rotate_left
 exact ⟨_,rfl,Ro.low ‹_› (by omega),by assumption,F⟩
theorem Nn (ρ:Nat→Rl) (tb:Nat) (ti:List Int) (w:World) (h:TapeAt ρ w tb ti []):Calls prog 181 #[.pointer (some ⟨tb,0,none⟩)] w (TapeR ρ tb ti [] (.tuple #[.int .i64 0,.int .i64 17]) w):=by
 have F:=Fr.refl (BM ρ) w;have hR:=Lib.hid (fun w1 h=>TV ρ tb ti ((([]:List Int).length:Int)-1) w1 h);have hlo:=h.lo;obtain ⟨vi,vo,hb,hi,ho⟩:=h.blk;obtain ⟨a,c,rfl⟩:=ho.1.shape;clear hi ho;refine Ad func181 ntmps181 rfl rfl ?_
 focus
  refine eK ?_;refine C1 (A8 Aa rfl rfl) ?_;refine eK ?_;refine Ax (fun _=>True) 12 (.pure 0 (.pure 1 (.pure 2 (.pure 3 (.pure 4 (.pure 5 (.fork 6 (.pure 7 (.pure 8 (.fork 9 (.pure 10 (.pure 11 .tail)) .none))) .none))))))) mixed (by kernel_rfl) (Ac Ak) ?_;intro w1 x2 _;revert h F hb;refine eY x2 ?_;intro z4 h F hb;refine ⟨trivial,?_⟩;refine Tq rfl Mv (Tq rfl Pn (Tq rfl Pf (Tq rfl Mv (Tq rfl Pn (Tq rfl Pf ?_)))));refine At rfl (Iy (Al Aa rfl rfl rfl (fun wz hz=>by subst hz;exact Blk.cell hb rfl))) rfl ?_ (fun _ h=>h) As;rintro _ _ ⟨rfl,rfl⟩;refine ⟨trivial,?_⟩;refine Tq rfl Pz (Tq rfl (Bs rfl rfl (IntWalk.i64_in _ (by omega))) ?_);refine At rfl (Av (by kernel_rfl) rfl (hR.out _ ‹_›) (fun _ _ h=>h.ret)) rfl ?_ (fun _ h=>h) As;rintro _ d ⟨ρ'7,⟨⟨⟩,⟨h8,⟨h9,b⟩⟩⟩⟩;have e:=b.size;clear h;replace F:=Fr.fr F b (fun k hk=>Or.inl hk);clear hb b;refine ⟨trivial,?_⟩;refine Tq rfl Px (Tq rfl Px (Az rfl ?_));refine eK ?_;refine AU rfl rfl rfl ?_;rotate_left
 exact ⟨_,rfl,Ro.low ‹_› (by omega),by assumption,F⟩
theorem OI (ρ:Nat→Rl) (tb:Nat) (x:Int) (ti ys:List Int) (w:World) (h:TapeAt ρ w tb ti (ys++[x])):Calls prog 181 #[.pointer (some ⟨tb,0,none⟩)] w (TapeR ρ tb ti ys (.tuple #[.int .i64 x,.int .i64 0]) w):=by
 have F:=Fr.refl (BM ρ) w;have hR:=Lib.hid (fun w1 h=>TY ρ tb x ti ys w1 h);have hlo:=h.lo;obtain ⟨vi,vo,hb,hi,ho⟩:=h.blk;obtain ⟨a,c,rfl⟩:=ho.1.shape;clear hi ho;refine Ad func181 ntmps181 rfl rfl ?_
 focus
  refine eK ?_;refine C1 (A8 Aa rfl rfl) ?_;refine eK ?_;refine Ax (fun _=>True) 12 (.pure 0 (.pure 1 (.pure 2 (.pure 3 (.pure 4 (.pure 5 (.fork 6 (.pure 7 (.pure 8 (.fork 9 (.pure 10 (.pure 11 .tail)) .none))) .none))))))) mixed (by kernel_rfl) (Ac Ak) ?_;intro w1 x2 _;revert h F hb;refine eY x2 ?_;intro z4 h F hb;refine ⟨trivial,?_⟩;refine Tq rfl Mv (Tq rfl Pn (Tq rfl Pf (Tq rfl Mv (Tq rfl Pn (Tq rfl Pf ?_)))));refine At rfl (Iy (Al Aa rfl rfl rfl (fun wz hz=>by subst hz;exact Blk.cell hb rfl))) rfl ?_ (fun _ h=>h) As;rintro _ _ ⟨rfl,rfl⟩;refine ⟨trivial,?_⟩;refine Tq rfl Pz (Tq rfl (Bs rfl rfl (IntWalk.i64_in _ (by omega))) ?_);refine At rfl (Av (by kernel_rfl) rfl (hR.out _ ‹_›) (fun _ _ h=>h.ret)) rfl ?_ (fun _ h=>h) As;rintro _ d ⟨ρ'7,⟨⟨⟩,⟨h8,⟨h9,b⟩⟩⟩⟩;have e:=b.size;clear h;replace F:=Fr.fr F b (fun k hk=>Or.inl hk);clear hb b;refine ⟨trivial,?_⟩;refine Tq rfl Px (Tq rfl Px (Az rfl ?_));refine eK ?_;refine AU rfl rfl rfl ?_;rotate_left
 exact ⟨_,rfl,Ro.low ‹_› (by omega),by assumption,F⟩
theorem Q0 (ρ:Nat→Rl) (tb:Nat) (x:Int) (ti to:List Int) (w:World) (h:TapeAt ρ w tb ti to) (hf:to.length=4096):Calls prog 182 #[.pointer (some ⟨tb,0,none⟩),.int .i64 x] w (TapeR ρ tb ti to (.int .i64 5) w):=by
 have F:=Fr.refl (BM ρ) w;have hR:=Lib.hid (fun w1 h=>TQ ρ tb ti to to.length x w1 h hf);have hlo:=h.lo;obtain ⟨vi,vo,hb,hi,ho⟩:=h.blk;obtain ⟨a,c,rfl⟩:=ho.1.shape;clear hi ho;refine Ad func182 ntmps182 rfl rfl ?_
 focus
  refine eK ?_;refine C1 (A8 Aa rfl rfl) ?_;refine eK ?_;refine Ax (fun _=>True) 9 (.pure 0 (.pure 1 (.pure 2 (.pure 3 (.pure 4 (.pure 5 (.pure 8 (.fork 6 (.pure 7 .tail) .none)))))))) mixed (by kernel_rfl) (Ac Ak) ?_;intro w1 x2 _;revert h F hb;refine eY x2 ?_;intro z4 h F hb;refine ⟨trivial,?_⟩;refine Tq rfl Mv (Tq rfl Pn (Tq rfl Pf (Tq rfl Mv (Tq rfl Pn (Tq rfl Pf (Tq rfl Mv ?_))))));refine At rfl (Iy (Al Aa rfl rfl rfl (fun wz hz=>by subst hz;exact Blk.cell hb rfl))) rfl ?_ (fun _ h=>h) As;rintro _ _ ⟨rfl,rfl⟩;refine ⟨trivial,?_⟩;refine Tq rfl Pz (Az rfl (eQ rfl (hR.out _ ‹_›) ?_));rintro _ b ⟨ρ'6,⟨⟨⟩,⟨h7,⟨h8,f9⟩⟩⟩⟩;have d:=f9.size;clear h;replace F:=Fr.fr F f9 (fun k hk=>Or.inl hk);clear hb f9;refine eK ?_;refine Af rfl rfl ?_;rotate_left
 exact ⟨_,rfl,Ro.low ‹_› (by omega),by assumption,F⟩
theorem No (ρ:Nat→Rl) (tb:Nat) (x:Int) (ti to:List Int) (w:World) (h:TapeAt ρ w tb ti to) (hf:to.length<4096):Calls prog 182 #[.pointer (some ⟨tb,0,none⟩),.int .i64 x] w (TapeR ρ tb ti (to++[x]) (.int .i64 0) w):=by
 have F:=Fr.refl (BM ρ) w;have hR:=Lib.hid (fun w1 h=>TS ρ tb ti to x w1 h hf);have hlo:=h.lo;obtain ⟨vi,vo,hb,hi,ho⟩:=h.blk;obtain ⟨a,c,rfl⟩:=ho.1.shape;clear hi ho;refine Ad func182 ntmps182 rfl rfl ?_
 focus
  refine eK ?_;refine C1 (A8 Aa rfl rfl) ?_;refine eK ?_;refine Ax (fun _=>True) 9 (.pure 0 (.pure 1 (.pure 2 (.pure 3 (.pure 4 (.pure 5 (.pure 8 (.fork 6 (.pure 7 .tail) .none)))))))) mixed (by kernel_rfl) (Ac Ak) ?_;intro w1 x2 _;revert h F hb;refine eY x2 ?_;intro z4 h F hb;refine ⟨trivial,?_⟩;refine Tq rfl Mv (Tq rfl Pn (Tq rfl Pf (Tq rfl Mv (Tq rfl Pn (Tq rfl Pf (Tq rfl Mv ?_))))));refine At rfl (Iy (Al Aa rfl rfl rfl (fun wz hz=>by subst hz;exact Blk.cell hb rfl))) rfl ?_ (fun _ h=>h) As;rintro _ _ ⟨rfl,rfl⟩;refine ⟨trivial,?_⟩;refine Tq rfl Pz (Az rfl (eQ rfl (hR.out _ ‹_›) ?_));rintro _ b ⟨ρ'6,⟨⟨⟩,⟨h7,⟨h8,f9⟩⟩⟩⟩;have d:=f9.size;clear h;replace F:=Fr.fr F f9 (fun k hk=>Or.inl hk);clear hb f9;refine eK ?_;refine Af rfl rfl ?_;rotate_left
 exact ⟨_,rfl,Ro.low ‹_› (by omega),by assumption,F⟩
theorem VW (ρ:Nat→Rl) (tb:Nat) (ti to:List Int) (w:World) (h:TapeAt ρ w tb ti to):Calls prog 109 #[.pointer (some ⟨tb,0,none⟩)] w (CloneR ti w):=by
 have X:=Ext.refl w;have hli:=h.li;obtain ⟨vi,vo,hb,hi,ho⟩:=h.blk;obtain ⟨a,c,rfl⟩:=hi.1.shape;have b:=hi.1.at;clear h hi ho;refine Ad func109 ntmps109 rfl rfl ?_
 focus
  refine eK ?_;refine C1 (A8 Aa rfl rfl) ?_;refine eK ?_;refine eQ rfl (Fo ti (by omega) _ _ _ ‹_›) ?_;rintro _ w6 ⟨a1,⟨c2,⟨⟨⟩,⟨h3,⟨h4,x5⟩⟩⟩⟩⟩;revert X hb b;refine eY x5 ?_;intro z7 X hb b;refine eK ?_;refine Af rfl rfl ?_;rotate_left
 exact ⟨_,_,rfl,by assumption,by assumption,X⟩
theorem Vk (ρ:Nat→Rl) (tb:Nat) (ti to:List Int) (w:World) (h:TapeAt ρ w tb ti to):Calls prog 110 #[.pointer (some ⟨tb,0,none⟩)] w (CloneR to w):=by
 have X:=Ext.refl w;have hli:=h.lo;obtain ⟨vi,vo,hb,hi,ho⟩:=h.blk;obtain ⟨a,c,rfl⟩:=ho.1.shape;have b:=ho.1.at;clear h hi ho;refine Ad func110 ntmps110 rfl rfl ?_
 focus
  refine eK ?_;refine C1 (A8 Aa rfl rfl) ?_;refine eK ?_;refine eQ rfl (Fo to (by omega) _ _ _ ‹_›) ?_;rintro _ w6 ⟨a1,⟨c2,⟨⟨⟩,⟨h3,⟨h4,x5⟩⟩⟩⟩⟩;revert X hb b;refine eY x5 ?_;intro z7 X hb b;refine eK ?_;refine Af rfl rfl ?_;rotate_left
 exact ⟨_,_,rfl,by assumption,by assumption,X⟩
def TNewR (ρ:Nat→Rl) (ti to:List Int) (w:World):Ending→World→Prop:=fun e w'=> ∃tb ρ',e = .returned (.tuple #[.pointer (some ⟨tb,0,none⟩),.int .i64 0])∧Ro ρ ρ' w∧w.heap.size≤tb∧TapeAt ρ' w' tb ti to∧Ext w w'
theorem TNewR.ret {ρ:Nat→Rl} {ti to:List Int} {w:World} {e:Ending} {w':World} (h:TNewR ρ ti to w e w') : ∃v,e = .returned v:=by
 obtain ⟨_,_,h,-⟩:=h
 exact ⟨_,h⟩
theorem Vl (ρ:Nat→Rl) (ti to:List Int) (hi:ti.length≤4096) (ho:to.length≤4096) (a b:Option Addr) (c d:Nat) (w:World) (h:IntsAt w ti a) (h':IntsAt w to b):Calls prog 103 #[.slice a ti.length c,.slice b to.length d] w (TNewR ρ ti to w):=by
 have X:=Ext.refl w;refine Ad func103 ntmps103 rfl rfl ?_
 focus
  refine eK ?_;refine eQ rfl (Fo ti (by omega) _ _ _ h) ?_;rintro _ w6 ⟨a1,⟨c2,⟨⟨⟩,⟨h3,⟨h4,x5⟩⟩⟩⟩⟩;revert h h' X;refine eY x5 ?_;intro z7 h h' X;refine C1 Mv (eQ rfl (Fo to (by omega) _ _ _ ‹_›) ?_);rintro _ f ⟨a8,⟨c9,⟨⟨⟩,⟨e,⟨g,i⟩⟩⟩⟩⟩;revert h3 h h' X;refine eY i ?_;intro m h3 h h' X;refine C1 (AC [_,_] Aa Bj rfl rfl rfl rfl) (eB [_,_] ?_);intro n o j l p q;revert e h3 h h' X;refine eE l ?_;intro e h3 h h' X;refine eK ?_;refine AU rfl rfl rfl ?_;rotate_left
 refine ⟨_,fun b=>if b<w.heap.size then ρ b else if b<w6.heap.size then .tin else if b<f.heap.size then .tout else .tape,rfl,fun b hb=>if_pos hb,by omega,⟨?_,⟨_,_,j,⟨h3.low (fun _ _=>Nat.zero_le _),fun k hk=>?_⟩,⟨e.low (fun _ _=>Nat.zero_le _),fun k hk=>?_⟩⟩,hi,ho⟩,X⟩
 · (try dsimp only)
   rw [if_neg (by omega),if_neg (by omega),if_neg (by omega)]
 · have:=h4 k hk
   (try dsimp only);rw [if_neg (by omega),if_pos (by omega)]
 · have:=g k hk
   (try dsimp only);rw [if_neg (by omega),if_neg (by omega),if_pos (by omega)]
theorem Jp : ∀(us p q r:List Value),us.length=q.length→Bp (p++q++r) p.length us=p++us++r
 | [],p,[],r,_=>by simp [Bp]
 | u::us,p,v::q,r,h=>by
  simp only [List.length_cons,Nat.add_right_cancel_iff] at h
  have e:(p++v::q++r).set p.length u=(p++[u])++q++r:=by
   rw [List.append_assoc,List.cons_append,List.set_append_right _ _ (Nat.le_refl _),Nat.sub_self,List.set_cons_zero];simp
  rw [Bp,e];have:=Jp us (p++[u]) q r h;rw [List.length_append,List.length_cons,List.length_nil,Nat.zero_add] at this
  rw [this];simp
theorem Gm {css:List (List Value)} {n j:Nat} (h : ∀cs∈css,cs.length=n) (hj:j<css.length):css.flatten=(css.take j).flatten++css[j]++(css.drop (j+1)).flatten∧(css.take j).flatten.length=j*n:=by
 constructor
 · have h1:=(List.take_append_drop j css).symm
   rw [List.drop_eq_getElem_cons hj] at h1;refine (congrArg List.flatten h1).trans ?_;rw [List.flatten_append,List.flatten_cons,List.append_assoc]
 · rw [Fj (fun cs hcs=>h cs (List.mem_of_mem_take hcs)),List.length_take]
   congr 1;omega
theorem OJ {css:List (List Value)} {n j:Nat} {us:List Value} (h : ∀cs∈css,cs.length=n) (hj:j<css.length) (hu:us.length=n):Bp css.flatten (j*n) us=(css.set j us).flatten:=by
 obtain ⟨h1,h2⟩:=Gm h hj;have hc:css[j].length=n:=h _ (List.getElem_mem hj);rw [h1,←h2,Jp us _ _ _ (by omega)]
 have e:css.set j us=css.take j++us::css.drop (j+1):=by rw [List.set_eq_take_append_cons_drop,if_pos hj]
 rw [e,List.flatten_append,List.flatten_cons,List.append_assoc]
structure ArrS {α:Type} (sh:Shape α) (C D:Nat) (w:World) (g:Nat) (xs:List α):Prop where
 ex : ∃css:List (List Value),Blk w g css.flatten∧css.length=xs.length ∧ ∀(i:Nat) (x:α) (cs:List Value),xs[i]? = some x→css[i]? = some cs→sh.rep w (fun b=>C≤b∧b<D) x cs
section
variable {α:Type} {sh:Shape α} {C D g:Nat} {w w':World} {xs:List α}
theorem ArrS.lt (h:ArrS sh C D w g xs):g<w.heap.size:=by
 obtain ⟨css,h1,-⟩:=h.ex
 exact h1.lt
theorem ArrS.fr {T:Nat→Prop} (h:ArrS sh C D w g xs) (x:Fr T w w') (hs : ∀k,T k→(k<C∨D≤k)∧k≠g):ArrS sh C D w' g xs:=by
 obtain ⟨css,h1,h2,h3⟩:=h.ex
 exact ⟨css,h1.fr x (fun hT=>(hs g hT).2 rfl),h2,fun i y cs hy hc=>sh.mono (h3 i y cs hy hc) (fun _ h=>h) (fun b o u hb hu=>x.keep (fun hT=>by have:=(hs b hT).1;omega) hu)⟩
instance {T:Nat→Prop}:LfF T w w' (ArrS sh C D w g xs) (∀k,T k→(k<C∨D≤k)∧k≠g) (ArrS sh C D w' g xs):=⟨fun x s h=>Bk.ArrS.fr h x s⟩
theorem ArrS.ext (h:ArrS sh C D w g xs) (x:Ext w w'):ArrS sh C D w' g xs:=by
 obtain ⟨css,h1,h2,h3⟩:=h.ex
 exact ⟨css,h1.ext x,h2,fun i y cs hy hc=>sh.mono (h3 i y cs hy hc) (fun _ h=>h) (fun b o u hb hu=>x.keep hu)⟩
instance  : LfE w w' (ArrS sh C D w g xs) (ArrS sh C D w' g xs):=⟨fun x h=>Bk.ArrS.ext h x⟩
theorem ArrS.wide (h:ArrS sh C D w g xs) {D':Nat} (hD:D≤D'):ArrS sh C D' w g xs:=by
 obtain ⟨css,h1,h2,h3⟩:=h.ex
 exact ⟨css,h1,h2,fun i y cs hy hc=>sh.mono (h3 i y cs hy hc) (fun _ h=>⟨h.1,by omega⟩) (fun _ _ _ _ h=>h)⟩
theorem ArrS.lens (h:ArrS sh C D w g xs) {css:List (List Value)} (h2:css.length=xs.length) (h3 : ∀(i:Nat) (x:α) (cs:List Value),xs[i]? = some x→css[i]? = some cs→sh.rep w (fun b=>C≤b∧b<D) x cs) : ∀cs∈css,cs.length=sh.sz:=fun cs hcs=>by
 obtain ⟨k,hk,rfl⟩:=List.mem_iff_getElem.1 hcs
 exact sh.len (h3 k xs[k] css[k] (List.getElem?_eq_getElem (by omega)) (List.getElem?_eq_getElem hk))
theorem ArrS.row (h:ArrS sh C D w g xs) {j:Nat} {x:α} (hj:xs[j]? = some x) : ∃cs,Row w ⟨g,0+j*sh.sz,none⟩ cs∧sh.rep w (fun b=>C≤b∧b<D) x cs:=by
 obtain ⟨css,h1,h2,h3⟩:=h.ex
 have hlt:j<xs.length:=by
  rcases Nat.lt_or_ge j xs.length with h|h
  · exact h
  · rw [List.getElem?_eq_none h] at hj;cases hj
 have hc:css[j]? = some css[j]:=List.getElem?_eq_getElem (by omega);obtain ⟨e1,e2⟩:=Gm (h.lens h2 h3) (show j<css.length by omega);refine ⟨css[j],fun i v hi=>?_,h3 j x _ hj hc⟩
 have hil:i<css[j].length:=by
  rcases Nat.lt_or_ge i css[j].length with h|h
  · exact h
  · rw [List.getElem?_eq_none h] at hi;cases hi
 have hcell:css.flatten[j*sh.sz+i]? = some v:=by
  rw [e1,List.append_assoc,List.getElem?_append_right (by omega),e2,Nat.add_sub_cancel_left,List.getElem?_append_left hil]
  exact hi
 have:=h1.cell hcell
 have e:(⟨g,0+j*sh.sz,none⟩:Addr).add i=⟨g,j*sh.sz+i,none⟩:=by unfold Addr.add;by_cases h0:i=0<;>simp [h0]
 rw [e];exact this
theorem ArrS.made {n:Nat} {z:α} {zs:List Value} (hb:Blk w g (List.replicate n zs).flatten) (hz : ∀w S,sh.rep w S z zs):ArrS sh C D w g (List.replicate n z):=by
 refine ⟨List.replicate n zs,hb,by simp,fun i x cs hx hc=>?_⟩;have h1:=List.mem_of_getElem? hx;have h2:=List.mem_of_getElem? hc;rw [List.mem_replicate] at h1 h2
 rw [h1.2,h2.2];exact hz _ _
theorem T0 {j:Nat} {x:α} {us:List Value} {w1:World} {css:List (List Value)} (h2:css.length=xs.length) (h3 : ∀(i:Nat) (x:α) (cs:List Value),xs[i]? = some x→css[i]? = some cs→sh.rep w (fun b=>C≤b∧b<D) x cs) (hj:j<xs.length) (hg:g<C∨D≤g) (hr:sh.rep w (fun b=>C≤b∧b<D) x us) (hP:Put w w1 g (Bp css.flatten (j*sh.sz) us)):ArrS sh C D w1 g (xs.set j x):=by
 have hl : ∀cs∈css,cs.length=sh.sz:=fun cs hcs=>by
  obtain ⟨k,hk,rfl⟩:=List.mem_iff_getElem.1 hcs
  exact sh.len (h3 k xs[k] css[k] (List.getElem?_eq_getElem (by omega)) (List.getElem?_eq_getElem hk))
 rw [OJ hl (by omega) (sh.len hr)] at hP;refine ⟨css.set j us,hP.blk,by simp [h2],fun i y cs hy hc=>?_⟩
 have key:sh.rep w (fun b=>C≤b∧b<D) y cs:=by
  by_cases hij:i=j
  · subst hij
    rw [List.getElem?_set_self hj] at hy;rw [List.getElem?_set_self (by omega)] at hc
    rw [←Option.some.inj hy,←Option.some.inj hc];exact hr
  · rw [List.getElem?_set_ne (fun e=>hij e.symm)] at hy hc
    exact h3 i y cs hy hc
 exact sh.mono key (fun _ h=>h) (fun b o u hb hu=>hP.fr.keep (fun e=>by omega) hu)
end
section
variable {P:Program} {n:Nat} {l:Sl} {w:World} {tab:Tab} {zt:EL} {ty:TypeId} {α:Type} {sh:Shape α}
def Hy (K:World→Prop):Option Value→World→Prop
 | none,w=>K w
 | some _,_=>False
theorem LK {zs:List Value} {k:Nat} (hsz:zs.length=k) : ∀N:Nat,(List.range (N*k)).map (fun i=>zs.toArray[i%k]!)=(List.replicate N zs).flatten
 | 0=>by simp
 | N+1=>by
  rw [Nat.add_mul,Nat.one_mul,List.range_add,List.map_append,LK hsz N,List.replicate_succ',List.flatten_append]
  congr 1
  simp only [List.flatten_cons,List.flatten_nil,List.append_nil,List.map_map]
  apply List.ext_getElem
  · simp [hsz]
  · intro i h1 h2
    simp only [List.length_map,List.length_range] at h1;simp only [List.getElem_map,List.getElem_range,Function.comp]
    have:(N*k+i)%k=i:=by rw [Nat.mul_comm,Nat.mul_add_mod,Nat.mod_eq_of_lt h1]
    rw [this]
    simp [h2]
theorem Cf {K X:World→Prop} (h : ∀(_:Unit) w1,K w1→X w1) : ∀v w1,Hy K v w1→X w1:=fun v w1 hv=>by
 cases v with
 | none=>exact h () w1 hv
 | some v=>exact hv.elim
theorem E7 {t e sz1 sz C D:Nat} {sE:Sk} {zs:List Value} {x y:Operand} {N:Nat} {z:α} (T:TabOk P tab) (Z:CO P zt) (ht:AL tab t=some (.slice e,sz1)) (hE:AL tab e=some (sE,sz)) (hz:Dx zt e=some zs) (hzl:zs.length=sz)
 (hby:DT P e=true) (hx:ev l x=some (.int .i64 (N:Int))) (hy:ev l y=some (.int .i64 (N:Int))) (hN:N≤100000000000) (hz0 : ∀w S,sh.rep w S z zs) :
 Cj P n l (.makeSlice t x y) ty w (J8 fun o w'=> ∃g,o = .slice (some ⟨g,0,none⟩) N N∧ArrS sh C D w' g (List.replicate N z)∧g=w.heap.size∧w'.heap.size=g+1∧Ext w w'):=by
 unfold Cj
 intro a dst pos after gd next Q ha hn _;obtain ⟨i,v0,z1,z2,z3⟩:=Fc Z hz;obtain ⟨i',hi',hs'⟩:=(T _ _ _ hE).info;rw [z1] at hi';obtain rfl:=Option.some.inj hi'
 have hbb:i.bytes≤1000:=by
  unfold DT at hby
  rw [z1] at hby
  exact Nat.le_of_ble_eq_true hby
 have hu:=(T _ _ _ ht).under
 have b:(i.bytes:Int)*(N:Int)≤281474976710656:=by
  have:i.bytes*N≤1000*100000000000:=Nat.mul_le_mul hbb hN
  have h2:((i.bytes*N:Nat):Int)≤281474976710656:=by omega
  rwa [Int.natCast_mul] at h2
 have hr:=run_make (P:=P) w t e i v0 hu z1 z2 .i64 .i64 N N (by omega) (Int.le_refl _) b (by omega);simp only [Int.toNat_natCast] at hr
 have e2:(execOp a.eval ⟨dst,.makeSlice t x y,ty,pos,after,gd⟩).run P w = .ok (.value (.slice (some ⟨w.heap.size,0,none⟩) N N)) (w.alloc (.cells (madeCells v0.cells (N*i.size)) e)):=by
  simp only [execOp,ha.ev hx,ha.ev hy,Sem.run_bind,hr,Result.andThen_ok,Sem.run_pure]
 have ecell:madeCells v0.cells (N*i.size)=(List.replicate N zs).flatten.toArray:=by
  rw [z3]
  have hsz:zs.length=i.size:=by omega
  apply Array.ext'
  simp only [madeCells,Array.toList_map,Array.toList_range,List.size_toArray];rw [hsz]
  exact LK hsz N
 unfold Oper.wp
 rw [e2,ecell];have hnew:=Er w (List.replicate N zs).flatten e
 exact hn _ _ ⟨w.heap.size,rfl,.made hnew.blk hz0,rfl,hnew.size,hnew.ext⟩
theorem Cz {x y:Operand} {t sz C D g j:Nat} {s:Sk} {v:Value} {us:List Value} {xs:List α} {z:α} (T:TabOk P tab) (ht:AL tab t=some (s,sz)) (hx:ev l x=some (.pointer (some ⟨g,0+j*sh.sz,none⟩))) (hy:ev l y=some v) (hv:v.cells=us.toArray) (hl:us.length=sz) (h1:us.all Value.one=true)
 (hA:ArrS sh C D w g xs) (hj:j<xs.length) (hg:g<C∨D≤g) (hr:sh.rep w (fun b=>C≤b∧b<D) z us) :
 Cj P n l (.store t x y) ty w (Hy fun w'=>ArrS sh C D w' g (xs.set j z)∧Fr (· = g) w w'∧w'.heap.size=w.heap.size):=by
 obtain ⟨css,c1,c2,c3⟩:=hA.ex;have hfl:=Fj (hA.lens c2 c3);have hus:=sh.len hr
 have hjs:j*sh.sz+sh.sz≤css.flatten.length:=by
  rw [hfl,c2,←Nat.succ_mul];exact Nat.mul_le_mul_right _ hj
 have hd:=Ga (P:=P) (n:=n) (l:=l) (ty:=ty) T ht hx hy hv hl h1 c1 (by rw [Nat.ble_eq];omega)
 unfold Cj at hd ⊢
 intro a dst pos after gd next Q ha hn c;refine hd a dst pos after gd next Q ha (fun v' w' h=>h.elim) (fun w' hP=>c w' ?_)
 have hP':Put w w' g (Bp css.flatten (j*sh.sz) us):=by rw [show j*sh.sz=0+j*sh.sz by omega];exact hP
 exact ⟨T0 c2 c3 hj hg hr hP',hP'.fr,hP'.size⟩
theorem FD {x y:Operand} {t sz C D g j:Nat} {s:Sk} {v:Value} {us:List Value} {xs:List α} {z:α} (T:TabOk P tab) (ht:AL tab t=some (s,sz)) (hx:ev l x=some (.pointer (some ⟨g,0+j*sh.sz,none⟩))) (hy:ev l y=some v) (hv:v.cells=us.toArray) (hl:us.length=sz) (h1:us.all Value.one=true)
 (hA:ArrS sh C D w g xs) (hj:j<xs.length) (hg:g<C) (hD:D≤w.heap.size) (hr:sh.rep w (fun b=>C≤b) z us) :
 Cj P n l (.store t x y) ty w (Hy fun w'=>ArrS sh C w.heap.size w' g (xs.set j z)∧Fr (· = g) w w'∧w'.heap.size=w.heap.size):=
 Cz T ht hx hy hv hl h1 (hA.wide hD) hj (Or.inl hg) (sh.lt hr)
end
section
variable {P:Program} {n:Nat} {l:Sl} {w:World} {tab:Tab} {zt:EL} {ty:TypeId}
end
theorem G1 {P:Program} {n:Nat} {l:Sl} {w:World} {Q:Exit→Act→World→Prop} {x y:Code} {ι:Type} (L:ι→Sl) (I:ι→World→Prop) (h:CW P n x (Exit.then (fun a w=> ∃i,Env n (L i) a∧I i w) Q) l w) (k : ∀i w,I i w→CW P n y Q (L i) w):CW P n (.seq x y) Q l w:=
 U4 _ h (fun a w ⟨i,he,hi⟩=>by have:=k i w hi;unfold CW at this;exact this a he)
theorem CG {n:Nat} {l:Sl} {w:World} {Q:Exit→Act→World→Prop} {ι:Type} {L:ι→Sl} {I:ι→World→Prop} (i:ι) (hs:Qh (L i) l) (h:I i w):QW n (Exit.then (fun a w=> ∃i,Env n (L i) a∧I i w) Q) .normal l w:=
 Qi fun _ ha=>⟨i,ha.sub hs,h⟩
def Win (w:World) (b o:Nat) (vs pre post:List Value) (T:TypeId):Prop:=TB w b (pre++vs++post) T∧pre.length=o
section
variable {ρ ρ':Nat→Rl} {κ κ':Nat→Nat} {r:Rl} {S:Nat→Prop} {w w' w0:World} {b o:Nat} {vs pre post:List Value} {T:TypeId} {e sz n:Nat} {v:Value} {cs:List Value}
theorem Win.ext (h:Win w b o vs pre post T) (x:Ext w w'):Win w' b o vs pre post T:=⟨h.1.ext x,h.2⟩
instance  : LfE w w' (Win w b o vs pre post T) (Win w' b o vs pre post T):=⟨fun x h=>Bk.Win.ext h x⟩
theorem Win.fr (h:Win w b o vs pre post T) (x:Fr S w w') (hs : ¬S b):Win w' b o vs pre post T:=⟨h.1.fr x hs,h.2⟩
instance  : LfF S w w' (Win w b o vs pre post T) (¬S b) (Win w' b o vs pre post T):=⟨fun x s h=>Bk.Win.fr h x s⟩
theorem Win.blk (h:Win w b o vs pre post T):Row w ⟨b,o,none⟩ vs:=by
 have:=Blk.sub h.1.blk o vs.length;obtain ⟨-,rfl⟩:=h
 simpa [List.append_assoc] using this
theorem Jq : ∀(us pre vs post:List Value) (i:Nat),i+us.length≤vs.length→Bp (pre++vs++post) (pre.length+i) us=pre++Bp vs i us++post
 | [],_,_,_,_,_=>rfl
 | u::r,pre,vs,post,i,h=>by
  simp only [List.length_cons] at h;simp only [Bp]
  rw [show (pre++vs++post).set (pre.length+i) u=pre++vs.set i u++post by
   rw [List.append_assoc,List.set_append_right _ _ (by omega),show pre.length+i-pre.length=i by omega,List.set_append_left _ _ (by omega),←List.append_assoc]]
  exact Jq r pre (vs.set i u) post (i+1) (by simp;omega)
theorem CA {P:Program} {m:Nat} {l:Sl} {tab:Tab} {ty:TypeId} {x y:Operand} {t:Nat} {s:Sk} {us:List Value} (b o i:Nat) (vs':List Value) (TT:TabOk P tab) (ht:AL tab t=some (s,sz)) (hx:ev l x=some (.pointer (some ⟨b,o+i,none⟩))) (hy:ev l y=some v)
 (hv:v.cells=us.toArray) (hl:us.length=sz) (h1:us.all Value.one=true) (hb:Win w b o vs pre post T) (ho:Nat.ble (i+us.length) vs.length=true) (he:Bp vs i us=vs') :
 Cj P m l (.store t x y) ty w (Hy fun w'=>Win w' b o vs' pre post T∧Fr (· = b) w w'∧w'.heap.size=w.heap.size):=by
 unfold Cj
 intro a dst pos after g next Q ha _ hn;rw [Nat.ble_eq] at ho;obtain ⟨hb,rfl⟩:=hb;obtain ⟨w1,e1,e2,e3⟩:=ER (P:=P) us w b (pre.length+i) 0 _ hb (by simp only [List.length_append];omega) h1
 have e:(execOp a.eval ⟨dst,.store t x y,ty,pos,after,g⟩).run P w = .ok .skip w1:=by
  have hcs:v.cells.toList=us:=by rw [hv]
  have hsz:v.cells.size=sz:=by rw [hv];simpa using hl
  simp only [execOp,ha.ev hx,ha.ev hy,Instr.storeAt,Instr.sureAddr,Sem.run_bind,Sem.run_pure,Result.andThen,storeVar,Ci (TT _ _ _ ht),hsz,hcs,e1];simp only [ne_eq,not_true,if_false,Sem.run_bind,Sem.run_pure,Result.andThen,e1]
 unfold Oper.wp
 rw [e];refine hn _ ⟨⟨?_,rfl⟩,e2.fr,e2.size⟩;rw [Nat.add_zero,Jq us pre vs post i ho,he] at e3
 exact e3
theorem E0 {P:Program} {m:Nat} {l:Sl} {tab:Tab} {ty:TypeId} {x y:Operand} {t:Nat} {s:Sk} {us:List Value} (b o:Nat) (vs':List Value) (TT:TabOk P tab) (ht:AL tab t=some (s,sz)) (hx:ev l x=some (.pointer (some ⟨b,o,none⟩))) (hy:ev l y=some v)
 (hv:v.cells=us.toArray) (hl:us.length=sz) (h1:us.all Value.one=true) (hb:Win w b o vs pre post T) (ho:Nat.ble us.length vs.length=true) (he:Bp vs 0 us=vs') :
 Cj P m l (.store t x y) ty w (Hy fun w'=>Win w' b o vs' pre post T∧Fr (· = b) w w'∧w'.heap.size=w.heap.size):=
 CA b o 0 vs' TT ht hx hy hv hl h1 hb (by rw [Nat.zero_add];exact ho) he
def OwnP (ρ:Nat→Rl) (r:Rl) (w:World) (e sz:Nat) (v:Value) (n:Nat) (cs:List Value):Prop:=Own w 0 e sz v n cs ∧ ∀k,v.ownBlock=some k→ρ k=r
theorem OwnP.ext (h:OwnP ρ r w e sz v n cs) (x:Ext w w'):OwnP ρ r w' e sz v n cs:=⟨h.1.ext x,h.2⟩
instance  : LfE w w' (OwnP ρ r w e sz v n cs) (OwnP ρ r w' e sz v n cs):=⟨fun x h=>Bk.OwnP.ext h x⟩
theorem OwnP.fr (h:OwnP ρ r w e sz v n cs) (x:Fr S w w') (hs : ∀k,S k→ρ k≠r):OwnP ρ r w' e sz v n cs:=⟨h.1.fr x (fun k hk hS=>hs k hS (h.2 k hk)),h.2⟩
instance  : LfF S w w' (OwnP ρ r w e sz v n cs) (∀k,S k→ρ k≠r) (OwnP ρ r w' e sz v n cs):=⟨fun x s h=>Bk.OwnP.fr h x s⟩
theorem OwnP.ro (h:OwnP ρ r w e sz v n cs) (x:Ro ρ ρ' w0) (hs:w.heap.size≤w0.heap.size):OwnP ρ' r w e sz v n cs:=
 ⟨h.1,fun k hk=>by have:=(h.1.blk hk).2;rw [x k (by omega)];exact h.2 k hk⟩
theorem OwnP.move (h:OwnP ρ r w e sz v n cs) (x:Fr S w w') (hs : ∀k,S k→ρ k≠r) (hr:Ro ρ ρ' w):OwnP ρ' r w' e sz v n cs:=
 ⟨(h.fr x hs).1,(h.ro hr (Nat.le_refl _)).2⟩
theorem OwnR.move {xs:List Int} (h:OwnR ρ r w v xs) (x:Fr S w w') (hs : ∀k,S k→ρ k≠r) (hr:Ro ρ ρ' w):OwnR ρ' r w' v xs:=
 ⟨(h.fr x hs).1,(h.ro hr (Nat.le_refl _)).2⟩
abbrev IV (κ:Nat→Nat) (c:Nat):Value:=.pointer (some ⟨κ c,0,none⟩)
structure FrameOk (ρ:Nat→Rl) (κ:Nat→Nat) (w:World) (j:Nat) (f:Frm) (vv vc:Value):Prop where
 v:OwnP ρ (.vars j) w 66 3 vv f.vars.length (f.vars.flatMap VD.cells)
 c:OwnP ρ (.cels j) w 150 1 vc f.cells.length (f.cells.map (IV κ))
variable {j:Nat} {f:Frm} {vv vc:Value}
theorem FrameOk.ext (h:FrameOk ρ κ w j f vv vc) (x:Ext w w'):FrameOk ρ κ w' j f vv vc:=⟨h.v.ext x,h.c.ext x⟩
instance  : LfE w w' (FrameOk ρ κ w j f vv vc) (FrameOk ρ κ w' j f vv vc):=⟨fun x h=>Bk.FrameOk.ext h x⟩
theorem FrameOk.fr (h:FrameOk ρ κ w j f vv vc) (x:Fr S w w') (hs : ∀k,S k→ρ k≠.vars j∧ρ k≠.cels j):FrameOk ρ κ w' j f vv vc:=⟨h.v.fr x (fun k hk=>(hs k hk).1),h.c.fr x (fun k hk=>(hs k hk).2)⟩
instance  : LfF S w w' (FrameOk ρ κ w j f vv vc) (∀k,S k→ρ k≠.vars j∧ρ k≠.cels j) (FrameOk ρ κ w' j f vv vc):=⟨fun x s h=>Bk.FrameOk.fr h x s⟩
theorem FrameOk.move (h:FrameOk ρ κ w j f vv vc) (x:Fr S w w') (hs : ∀k,S k→ρ k≠.vars j∧ρ k≠.cels j) (hr:Ro ρ ρ' w) (hk : ∀c∈f.cells,κ' c=κ c):FrameOk ρ' κ' w' j f vv vc:=
 ⟨h.v.move x (fun k hk=>(hs k hk).1) hr,by
  have:=h.c.move x (fun k hk=>(hs k hk).2) hr;rw [show f.cells.map (IV κ')=f.cells.map (IV κ) from List.map_congr_left fun c hc=>by simp only [IV,hk c hc]]
  exact this⟩
def FramesOk (ρ:Nat→Rl) (κ:Nat→Nat) (w:World):Nat→List Frm→List Value→Prop
 | _,[],cs=>cs=[]
 | j,f::r,cs=> ∃vv vc cs',cs=[vv,vc,.int .i64 f.locals]++cs'∧FrameOk ρ κ w j f vv vc∧FramesOk ρ κ w (j+1) r cs'
theorem FramesOk.move {S:Nat→Prop} (x:Fr S w w') (hr:Ro ρ ρ' w) : ∀(l:List Frm) (j:Nat) (cs:List Value),FramesOk ρ κ w j l cs→(∀k,S k → ∀i,j≤i→i<j+l.length→ρ k≠.vars i∧ρ k≠.cels i)→(∀f∈l,∀c∈f.cells,κ' c=κ c)→FramesOk ρ' κ' w' j l cs
 | [],_,_,h,_,_=>h
 | f::l,j,cs,⟨vv,vc,cs',h1,h2,h3⟩,hs,hk=>⟨vv,vc,cs',h1,h2.move x (fun k hS=>hs k hS j (Nat.le_refl _) (by simp)) hr (hk f (by simp)),FramesOk.move x hr l (j+1) cs' h3 (fun k hS i h1 h2=>hs k hS i (by omega) (by simp only [List.length_cons];omega)) (fun f hf=>hk f (by simp [hf]))⟩
theorem FramesOk.snoc : ∀(l:List Frm) (j:Nat) (f:Frm) (cs:List Value),FramesOk ρ κ w j (l++[f]) cs ↔ ∃cs0 vv vc,cs=cs0++[vv,vc,.int .i64 f.locals]∧FramesOk ρ κ w j l cs0∧FrameOk ρ κ w (j+l.length) f vv vc
 | [],j,f,cs=>by
  constructor
  · rintro ⟨vv,vc,cs',rfl,h2,h3⟩
    obtain rfl:cs'=[]:=h3
    exact ⟨[],vv,vc,rfl,rfl,h2⟩
  · rintro ⟨cs0,vv,vc,rfl,h1,h2⟩
    obtain rfl:cs0=[]:=h1
    exact ⟨vv,vc,[],rfl,h2,rfl⟩
 | g::l,j,f,cs=>by
  constructor
  · rintro ⟨vv,vc,cs',rfl,h2,h3⟩
    obtain ⟨cs0,vv',vc',rfl,h4,h5⟩:=(FramesOk.snoc l (j+1) f cs').1 h3
    exact ⟨[vv,vc,.int .i64 g.locals]++cs0,vv',vc',by simp,⟨vv,vc,cs0,rfl,h2,h4⟩,by rw [List.length_cons,show j+(l.length+1)=j+1+l.length by omega];exact h5⟩
  · rintro ⟨cs0,vv',vc',rfl,⟨vv,vc,cs1,rfl,h2,h4⟩,h5⟩
    refine ⟨vv,vc,cs1++[vv',vc',.int .i64 f.locals],by simp,h2,(FramesOk.snoc l (j+1) f _).2 ⟨cs1,vv',vc',rfl,h4,?_⟩⟩;rw [List.length_cons,show j+(l.length+1)=j+1+l.length by omega] at h5
    exact h5
theorem FramesOk.len : ∀(l:List Frm) (j:Nat) (cs:List Value),FramesOk ρ κ w j l cs→cs.length=l.length*3
 | [],_,_,h=>by obtain rfl:_=[]:=h;rfl
 | f::l,j,cs,⟨vv,vc,cs',h1,h2,h3⟩=>by
  have:=FramesOk.len l (j+1) cs' h3;rw [h1];simp only [List.length_append,List.length_cons,List.length_nil]
  omega
def CellAt (ρ:Nat→Rl) (κ:Nat→Nat) (w:World) (c:Nat) (xs:List Int):Prop:=ρ (κ c) = .cell c ∧ ∃v,Blk w (κ c) [v]∧OwnR ρ (.items c) w v xs
theorem CellAt.ext {c:Nat} {xs:List Int} (h:CellAt ρ κ w c xs) (x:Ext w w'):CellAt ρ κ w' c xs:=⟨h.1,h.2.imp fun v hv=>⟨hv.1.ext x,hv.2.ext x⟩⟩
instance {c:Nat} {xs:List Int}:LfE w w' (CellAt ρ κ w c xs) (CellAt ρ κ w' c xs):=⟨fun x h=>Bk.CellAt.ext h x⟩
theorem CellAt.move {c:Nat} {xs:List Int} (h:CellAt ρ κ w c xs) (x:Fr S w w') (hs : ∀k,S k→ρ k≠.cell c∧ρ k≠.items c) (hr:Ro ρ ρ' w) (hk:κ' c=κ c):CellAt ρ' κ' w' c xs:=by
 obtain ⟨h1,v,h2,h3⟩:=h;have hlt:=h2.lt;refine ⟨by rw [hk,hr _ hlt,h1],v,?_,h3.move x (fun k hk=>(hs k hk).2) hr⟩;rw [hk]
 exact h2.fr x (fun hS=>(hs _ hS).1 h1)
def Fresh (ρ:Nat→Rl) (w:World):Prop:= ∀b,w.heap.size≤b→ρ b = .none
theorem Fresh.ext (h:Fresh ρ w) (x:Ext w w'):Fresh ρ w':=fun b hb=>h b (by have:=x.size;omega)
instance  : LfE w w' (Fresh ρ w) (Fresh ρ w'):=⟨fun x h=>Bk.Fresh.ext h x⟩
theorem Fresh.mv (h:Fresh ρ w) (x:Fr S w w'):Fresh ρ w':=fun b hb=>h b (by have:=x.size;omega)
structure StoreAt (ρ:Nat→Rl) (κ:Nat→Nat) (w:World) (sb:Nat) (st:Stp):Prop where
 role:ρ sb = .store
 fresh:Fresh ρ w
 frs : ∃bv bc cv tb cs,Blk w sb [bv,bc,.int .i64 st.base.locals,cv,.pointer (some ⟨tb,0,none⟩)]∧FrameOk ρ κ w 0 st.base bv bc∧OwnP ρ .calls w 145 3 cv st.calls.length cs∧FramesOk ρ κ w 1 st.calls cs∧TapeAt ρ w tb st.tin st.tout
 cells : ∀c xs,st.heap[c]? = some xs→CellAt ρ κ w c xs
def Kk:Rl→Prop
 | .none | .other _=>False
 | _=>True
variable {sb:Nat} {st:Stp}
theorem TapeAt.move {tb:Nat} {ti to:List Int} (h:TapeAt ρ w tb ti to) (x:Fr S w w') (hs : ∀k,S k→ρ k≠.tape∧ρ k≠.tin∧ρ k≠.tout) (hr:Ro ρ ρ' w):TapeAt ρ' w' tb ti to:=by
 obtain ⟨h1,⟨vi,vo,h2,h3,h4⟩,h5,h6⟩:=h;have hlt:=h2.lt
 exact ⟨by rw [hr _ hlt,h1],⟨vi,vo,h2.fr x (fun hS=>(hs _ hS).1 h1),h3.move x (fun k hk=>(hs k hk).2.1) hr,h4.move x (fun k hk=>(hs k hk).2.2) hr⟩,h5,h6⟩
theorem StoreAt.move (h:StoreAt ρ κ w sb st) (x:Fr S w w') (hs : ∀k,S k → ¬Kk (ρ k)) (hr:Ro ρ ρ' w) (hfr:Fresh ρ' w'):StoreAt ρ' κ w' sb st:=by
 obtain ⟨h1,-,⟨bv,bc,cv,tb,cs,h2,h3,h4,h5,h6⟩,h7⟩:=h;have hlt:=h2.lt
 have hn : ∀ {r:Rl},Kk r → ∀k,S k→ρ k≠r:=fun hr k hk e=>hs k hk (by rw [e];exact hr)
 exact ⟨by rw [hr _ hlt,h1],hfr,⟨bv,bc,cv,tb,cs,h2.fr x (fun hS=>hn (r:=.store) trivial _ hS h1),h3.move x (fun k hk=>⟨hn (by exact trivial) k hk,hn (by exact trivial) k hk⟩) hr (fun _ _=>rfl),h4.move x (hn (by exact trivial)) hr,FramesOk.move x hr _ _ _ h5 (fun k hk i _ _=>⟨hn (by exact trivial) k hk,hn (by exact trivial) k hk⟩) (fun _ _ _ _=>rfl),h6.move x (fun k hk=>⟨hn (by exact trivial) k hk,hn (by exact trivial) k hk,hn (by exact trivial) k hk⟩) hr⟩,
  fun c xs hc=>(h7 c xs hc).move x (fun k hk=>⟨hn (by exact trivial) k hk,hn (by exact trivial) k hk⟩) hr rfl⟩
theorem Fr.none {w w':World} (x:Ext w w'):Fr (fun _=>False) w w':=.of_ext x
theorem StoreAt.ext (h:StoreAt ρ κ w sb st) (x:Ext w w'):StoreAt ρ κ w' sb st:=h.move (Fr.none x) (fun _ h=>h.elim) (Ro.refl _ _) (h.fresh.ext x)
instance  : LfE w w' (StoreAt ρ κ w sb st) (StoreAt ρ κ w' sb st):=⟨fun x h=>Bk.StoreAt.ext h x⟩
theorem StoreAt.fr (h:StoreAt ρ κ w sb st) (x:Fr S w w') (hs : ∀k,S k → ¬Kk (ρ k)):StoreAt ρ κ w' sb st:=h.move x hs (Ro.refl _ _) (h.fresh.mv x)
instance  : LfF S w w' (StoreAt ρ κ w sb st) (∀k,S k → ¬Kk (ρ k)) (StoreAt ρ κ w' sb st):=⟨fun x s h=>Bk.StoreAt.fr h x s⟩
theorem StoreAt.ro (h:StoreAt ρ κ w sb st) (hr:Ro ρ ρ' w) (hfr:Fresh ρ' w):StoreAt ρ' κ w sb st:=h.move (Fr.refl (fun _=>False) w) (fun _ h=>h.elim) hr hfr
def CurP (w:World) (sb fb fo n:Nat):Prop:= ∃x y z a c tp,Blk w sb [x,y,z,.slice a n c,tp]∧((n=0∧fb=sb∧fo=0)∨(0<n∧a=some ⟨fb,0,none⟩∧fo=(n-1)*3))
theorem CurP.ext {fb fo:Nat} (h:CurP w sb fb fo n) (x:Ext w w'):CurP w' sb fb fo n:=by
 obtain ⟨a1,a2,a3,a4,a5,a6,h1,h2⟩:=h
 exact ⟨a1,a2,a3,a4,a5,a6,h1.ext x,h2⟩
instance {fb fo:Nat}:LfE w w' (CurP w sb fb fo n) (CurP w' sb fb fo n):=⟨fun x h=>Bk.CurP.ext h x⟩
def E1 (ρ:Nat→Rl) (j fb k:Nat):Prop:=k=fb∨ρ k = .vars j∨ρ k = .cels j
def Np (ρ:Nat→Rl) (κ:Nat→Nat) (w:World) (sb:Nat) (st:Stp) (fb fo:Nat) (pre post:List Value) (T:TypeId):Prop:=
 ∀(ρ':Nat→Rl) (κ':Nat→Nat) (w':World) (f':Frm) (vv' vc':Value),Ro ρ ρ' w→Fresh ρ' w'→(∀f∈st.base::st.calls,∀c∈f.cells,κ' c=κ c)→(∀c,c<st.heap.length→κ' c=κ c)→Fr (E1 ρ st.calls.length fb) w w'→Win w' fb fo [vv',vc',.int .i64 f'.locals] pre post T→FrameOk ρ' κ' w' st.calls.length f' vv' vc'→StoreAt ρ' κ' w' sb (st.setCur f')
theorem StoreAt.open (h:StoreAt ρ κ w sb st) : ∃fb fo pre post T vv vc,CurP w sb fb fo st.calls.length∧(ρ fb = .store∨ρ fb = .calls)∧Win w fb fo [vv,vc,.int .i64 st.cur.locals] pre post T∧FrameOk ρ κ w st.calls.length st.cur vv vc∧Np ρ κ w sb st fb fo pre post T:=by
 obtain ⟨h1,-,⟨bv,bc,cv,tb,cs,⟨Ts,h2⟩,h3,h4,h5,h6⟩,h7⟩:=h
 have hsl : ∃a c,cv = .slice a st.calls.length c:=by
  rcases h4.1.row with ⟨rfl,hn,-⟩|⟨g,cap,rfl,-⟩
  · exact ⟨none,0,by rw [hn]⟩
  · exact ⟨_,_,rfl⟩
 obtain ⟨ca,cc,rfl⟩:=hsl;have hlt:=Blk.lt ⟨Ts,h2⟩
 rcases List.eq_nil_or_concat st.calls with hc|⟨l,f,hc⟩
 · have hcur:st.cur=st.base:=by unfold Stp.cur;rw [hc];rfl
   refine ⟨sb,0,[],[.slice ca st.calls.length cc,.pointer (some ⟨tb,0,none⟩)],Ts,bv,bc,⟨_,_,_,_,_,_,⟨Ts,h2⟩,Or.inl ⟨by rw [hc];rfl,rfl,rfl⟩⟩,Or.inl h1,⟨by rw [hcur];exact h2,rfl⟩,by rw [hcur,hc];exact h3,?_⟩;intro ρ' κ' w' f' vv' vc' hr hfr hk hk' x hw hf
   have hS : ∀k,E1 ρ st.calls.length sb k→ρ k = .store∨ρ k = .vars 0∨ρ k = .cels 0:=fun k hk=>by
    rcases hk with rfl|h|h
    · exact Or.inl h1
    · exact Or.inr (Or.inl (by rw [h,hc];rfl))
    · exact Or.inr (Or.inr (by rw [h,hc];rfl))
   have hN : ∀ {r:Rl},r≠.store→r≠.vars 0→r≠.cels 0 → ∀k,E1 ρ st.calls.length sb k→ρ k≠r:=fun n1 n2 n3 k hk e=>by
    rcases hS k hk with h|h|h
    · exact n1 (by rw [←e,h])
    · exact n2 (by rw [←e,h])
    · exact n3 (by rw [←e,h])
   have hse:st.setCur f'={ st with base:=f' }:=by unfold Stp.setCur;rw [if_pos hc]
   rw [hse]
   refine ⟨by rw [hr _ hlt,h1],hfr,⟨vv',vc',.slice ca st.calls.length cc,tb,cs,⟨Ts,hw.1⟩,?_,h4.move x (hN (by simp) (by simp) (by simp)) hr,?_,h6.move x (fun k hk=>⟨hN (by simp) (by simp) (by simp) k hk,hN (by simp) (by simp) (by simp) k hk,hN (by simp) (by simp) (by simp) k hk⟩) hr⟩,fun c xs hx=>(h7 c xs hx).move x (fun k hk=>⟨hN (by simp) (by simp) (by simp) k hk,hN (by simp) (by simp) (by simp) k hk⟩) hr (hk' c (by
    rcases Nat.lt_or_ge c st.heap.length with h|h
    · exact h
    · rw [List.getElem?_eq_none h] at hx;cases hx))⟩
   · rw [hc] at hf;exact hf
   · show FramesOk ρ' κ' w' 1 st.calls cs
     rw [hc] at h5 ⊢
     exact h5
 · have hcur:st.cur=f:=by unfold Stp.cur;rw [hc];simp
   have hn:st.calls.length=l.length+1:=by rw [hc];simp
   rw [hc,List.concat_eq_append] at h5;obtain ⟨b,vv,vc,rfl,h8,h9⟩:=(FramesOk.snoc l 1 f cs).1 h5;have d:=FramesOk.len _ _ _ h8;obtain ⟨m,n⟩:=h4;obtain ⟨o1,⟨o2,-⟩|⟨g,cap,cur,o2,o3,o4,o5,o6,o7,o8⟩⟩:=m
   · simp [hn] at o2
   · obtain ⟨rfl,rfl⟩:ca=some ⟨g,0,none⟩∧cc=cap:=by simpa using o2
     have hg:=n g rfl
     have hsg:sb≠g:=fun e=>by rw [e,hg] at h1;cases h1
     have hcurl:cur.toList=b++[vv,vc,.int .i64 f.locals]++cur.toList.drop (st.calls.length*3):=by rw [←o8,List.take_append_drop]
     have htb:TB w g (b++[vv,vc,.int .i64 f.locals]++cur.toList.drop (st.calls.length*3)) 145:=by
      unfold TB
      rw [o4,←hcurl]
     refine ⟨g,(st.calls.length-1)*3,b,cur.toList.drop (st.calls.length*3),145,vv,vc,⟨_,_,_,_,_,_,⟨Ts,h2⟩,Or.inr ⟨by omega,rfl,rfl⟩⟩,Or.inr hg,⟨by rw [hcur];exact htb,by rw [d,hn];rfl⟩,by rw [hcur,hn,Nat.add_comm];exact h9,?_⟩;intro ρ' κ' w' f' vv' vc' hr hfr hk hk' x hw hf
     have hN : ∀ {r:Rl},r≠.calls→r≠.vars st.calls.length→r≠.cels st.calls.length → ∀k,E1 ρ st.calls.length g k→ρ k≠r:=fun n1 n2 n3 k hk e=>by
      rcases hk with rfl|h|h
      · exact n1 (by rw [←e,hg])
      · exact n2 (by rw [←e,h])
      · exact n3 (by rw [←e,h])
     have hse:st.setCur f'={ st with calls:=l++[f'] }:=by
      unfold Stp.setCur
      rw [if_neg (by rw [hc];simp),hc]
      simp
     have hne : ∀i,i<st.calls.length → ∀k,E1 ρ st.calls.length g k→ρ k≠.vars i∧ρ k≠.cels i:=fun i hi k hk=>⟨hN (by simp) (by simp;omega) (by simp) k hk,hN (by simp) (by simp) (by simp;omega) k hk⟩
     have hgl:g<w.heap.size:=htb.blk.lt;rw [hse]
     refine ⟨by rw [hr _ hlt,h1],hfr,⟨bv,bc,.slice (some ⟨g,0,none⟩) (l++[f']).length cc,tb,b++[vv',vc',.int .i64 f'.locals],?_,h3.move x (hne 0 (by omega)) hr (hk _ (by simp)),⟨?_,fun k hk=>?_⟩,(FramesOk.snoc l 1 f' _).2 ⟨b,vv',vc',rfl,FramesOk.move x hr l 1 b h8 (fun k hk i h1 h2=>hne i (by omega) k hk) (fun f hf=>hk f (by rw [hc];simp [hf])),?_⟩,h6.move x (fun k hk=>⟨hN (by simp) (by simp) (by simp) k hk,hN (by simp) (by simp) (by simp) k hk,hN (by simp) (by simp) (by simp) k hk⟩) hr⟩,fun c xs hx=>(h7 c xs hx).move x (fun k hk=>⟨hN (by simp) (by simp) (by simp) k hk,hN (by simp) (by simp) (by simp) k hk⟩) hr (hk' c (by
      rcases Nat.lt_or_ge c st.heap.length with h|h
      · exact h
      · rw [List.getElem?_eq_none h] at hx;cases hx))⟩
     · have:(l++[f']).length=st.calls.length:=by rw [hn];simp
       rw [this]
       exact Blk.fr ⟨Ts,h2⟩ x (fun h=>by
        rcases h with h|h|h
        · exact hsg h
        · rw [h1] at h;cases h
        · rw [h1] at h;cases h)
     · have hn':(l++[f']).length=st.calls.length:=by rw [hn];simp
       rw [hn'];have j:=hw.1
       unfold TB at j
       refine ⟨by simp [d,hn];omega,Or.inr ⟨g,cc,_,rfl,Nat.zero_le _,j,o5,o6,?_,?_⟩⟩
       · have:=congrArg List.length hcurl
         simp only [Array.length_toList] at this;simp only [List.size_toArray];rw [o7] at this;simp only [List.length_append,List.length_cons,List.length_nil] at this ⊢
         omega
       · simp only [List.toList_toArray]
         rw [List.take_append_of_le_length (by simp [d,hn];omega)];rw [List.take_of_length_le (by simp [d,hn];omega)]
     · simp only [Value.ownBlock,Option.some.injEq] at hk
       rw [←hk,hr _ hgl,hg]
     · rw [hn,Nat.add_comm] at hf;exact hf
end
section
variable {P:Program} {n:Nat} {l:Sl} {S:World→Prop} {tab:Tab} {ty:TypeId}
theorem EF {x y:Operand} {t e sz1 sz len cap m:Nat} {sE:Sk} {a:Option Addr} {k:IntKind} {iv:Int} (T:TabOk P tab) (ht:AL tab t=some (.slice e,sz1)) (hE:AL tab e=some (sE,sz)) (hx:ev l x=some (.slice a len cap)) (hy:ev l y=some (.int k iv)) (hiv:iv=(m:Int)) (hm:m≤cap) :
 BE P n l S (.slice t x none (some y) none) ty (.slice a m cap):=by
 subst hiv
 unfold BE
 intro act w dst pos after g ha _;have hu:P.underlying t=some (.slice e):=(T _ _ _ ht).under
 have hel:P.elem t=e:=by simp [Program.elem,hu]
 have b:P.underlying t=some (.slice (P.elem t)):=by rw [hel];exact hu
 obtain ⟨i,hi,hs⟩:=(T _ _ _ hE).info
 have hsz:(Go.sizeOf e).run P w = .ok sz w:=by simp [Go.sizeOf,typeInfo,program,Sem.run,bind,Sem.bind,pure,hi,hs]
 have h1:(Instr.sliceAt t (.slice a len cap) none (some (.int k (m:Int))) none).run P w = .ok (.slice a m cap) w:=by
  rw [run_sliceAt_slice w t _ _ _ _ b,run_slice_h w t a len cap b k m (by omega) (by omega)];rw [hel,hsz]
  cases a<;>simp [Result.andThen,sliced,Addr.add]
 simp [execOp,ha.ev hx,ha.ev hy,Sem.run_bind,h1,Result.andThen]
end
mutual
theorem Kl {S:Nat→Prop} {w:World} : ∀(l:List Nd) (a:Option Addr),rowSits S w l a→rowSits (· < w.heap.size) w l a
 | [],_,_=>by simp [rowSits]
 | t::r,a,h=>by
  simp only [rowSits] at h ⊢;obtain ⟨b,o,a',c,rfl,hb,h0,h1,h2,h3,hs,hr⟩:=h
  exact ⟨b,o,a',c,rfl,Ca h0,h0,h1,h2,h3,PM t a' hs,Kl r _ hr⟩
theorem PM {S:Nat→Prop} {w:World} : ∀(t:Nd) (a:Option Addr),t.sits S w a→t.sits (· < w.heap.size) w a
 | .mk _ _ _ l,a,h=>by
  simp only [Nd.sits] at h ⊢
  exact Kl l a h
end
mutual
theorem Jr {S:Nat→Prop} {w:World} : ∀(l:List Nd) (a:Option Addr),rowSits S w l a→rowSits (fun b=>S b∧b<w.heap.size) w l a
 | [],_,_=>by simp [rowSits]
 | t::r,a,h=>by
  simp only [rowSits] at h ⊢;obtain ⟨b,o,a',c,rfl,hb,h0,h1,h2,h3,hs,hr⟩:=h
  exact ⟨b,o,a',c,rfl,⟨hb,Ca h0⟩,h0,h1,h2,h3,Nq t a' hs,Jr r _ hr⟩
theorem Nq {S:Nat→Prop} {w:World} : ∀(t:Nd) (a:Option Addr),t.sits S w a→t.sits (fun b=>S b∧b<w.heap.size) w a
 | .mk _ _ _ l,a,h=>by
  simp only [Nd.sits] at h ⊢
  exact Jr l a h
end
theorem GH (k:Int) (w:World) (h0:0≤k) (h1:k≤255):Calls prog 69 #[.int .u8 k] w fun e w'=>e = .returned (.int .u8 (BN k))∧w=w':=by
 refine Ad func69 ntmps69 rfl rfl ?_
 focus
  refine eK ?_;refine AO rfl (fun c1=>?_) (fun c1=>?_);refine eK ?_;refine Af rfl rfl ?_;rotate_left;refine eK ?_;refine AO rfl (fun c2=>?_) (fun c2=>?_);refine eK ?_;refine Af rfl rfl ?_;rotate_left;refine eK ?_;refine AO rfl (fun c3=>?_) (fun c3=>?_);refine eK ?_;refine Af rfl rfl ?_;rotate_left;refine eK ?_;refine AO rfl (fun c4=>?_) (fun c4=>?_);refine eK ?_;refine Af rfl rfl ?_;rotate_left;refine eK ?_;refine AO rfl (fun c5=>?_) (fun c5=>?_);refine eK ?_;refine Af rfl rfl ?_;rotate_left;refine eK ?_;refine AO rfl (fun c6=>?_) (fun c6=>?_);refine eK ?_;refine Af rfl rfl ?_;rotate_left;refine eK ?_;refine AO rfl (fun c7=>?_) (fun c7=>?_);refine eK ?_;refine Af rfl rfl ?_;rotate_left;refine eK ?_;refine AO rfl (fun c8=>?_) (fun c8=>?_);refine eK ?_;refine Af rfl rfl ?_;rotate_left;refine eK ?_;refine AO rfl (fun c9=>?_) (fun c9=>?_);refine eK ?_;refine Af rfl rfl ?_;rotate_left;refine eK ?_;refine AO rfl (fun a=>?_) (fun a=>?_);refine eK ?_;refine Af rfl rfl ?_;rotate_left;refine eK ?_;refine Af rfl rfl ?_;rotate_left
 all_goals (refine ⟨congrArg (fun x=>Ending.returned (.int .u8 x)) ?_,rfl⟩;unfold BN;(repeat' split)<;>omega)
def CopyR (u:Nd) (w:World):Ending→World→Prop:=fun e w'=> ∃a c,e = .returned (u.val a c)∧u.sits (fun b=>w.heap.size≤b∧b<w'.heap.size) w' a∧Ext w w'
theorem CopyR.ret {u:Nd} {w:World} {e:Ending} {w':World} (h:CopyR u w e w') : ∃v,e = .returned v:=by
 obtain ⟨_,_,h,-⟩:=h
 exact ⟨_,h⟩
def CopyC (u:Nd) (w:World):Ending→World→Prop:=fun e w'=> ∃a c,e = .returned (u.val a c)∧u.sits (fun b=>w.heap.size≤b∧b<w'.heap.size) w' a∧Ext w w'∧u.kids.length≤c
theorem CopyC.ret {u:Nd} {w:World} {e:Ending} {w':World} (h:CopyC u w e w') : ∃v,e = .returned v:=by
 obtain ⟨_,_,h,-⟩:=h
 exact ⟨_,h⟩
theorem CopyC.copy {u:Nd} {w:World} {e:Ending} {w':World} (h:CopyC u w e w'):CopyR u w e w':=by
 obtain ⟨a,c,h1,h2,h3,-⟩:=h
 exact ⟨a,c,h1,h2,h3⟩
theorem PN {w:World} {b e sz n c:Nat} {a:Option Addr} {cs:List Value} (h:Own w b e sz (.slice a n c) n cs):n≤c:=by
 rcases h.2 with ⟨hv,-⟩|⟨g',cap',cur,hv,-,-,hc,-⟩
 · simp only [Value.slice.injEq] at hv
   omega
 · simp only [Value.slice.injEq] at hv
   obtain ⟨-,-,rfl⟩:=hv;exact hc
theorem I8 {S:Nat→Prop} {w:World} {k n:Int} {s:List UInt8} {l:List Nd} {a:Option Addr} (h:(Nd.mk k n s l).sits S w a):rowSits S w l a:=h
theorem T1 (N:Nat) : ∀(t:Nd) (S:Nat→Prop) (a:Option Addr) (c:Nat) (w:World),t.size<N→t.size≤1000000→t.sits S w a→Calls prog 36 #[t.val a c] w (CopyC t w):=by
 induction N with
 | zero=>intro t S a c w h;omega
 | succ N ih=>
  rintro ⟨k,n,s,l⟩ S a c w hN hM hs;have hlen:=EO l;simp only [Nd.size] at hN hM
  have hC : ∀x∈l,∀(S:Nat→Prop) (a:Option Addr) (c:Nat) (w:World),x.sits S w a→Calls prog 36 #[x.val a c] w (CopyC x w):=fun x hx S a c w h=>by
   have:=D2 hx
   exact ih x S a c w (by omega) (by omega) h
  clear ih;have HC:=Lib.hid hC;clear hC;replace hs:=Cy _ _ (I8 hs);have X:=Ext.refl w;refine Ad func36 ntmps36 rfl rfl ?_
  focus
   refine cS (eB [_,_,_,_] ?_);intro b1 w2 h4 x5 p6 z7;revert hs X;refine eE x5 ?_;intro hs X;refine eA [_,_,_,_] ?_;intro b8 w9 u D Z aa;revert h4 hs X;refine eE D ?_;intro h4 hs X;refine cN (C1 Pa (cT (Am (cS (C1 Pf (C1 (Pl h4) (C1 Pz (C1 Mv (cT (AK ?_))))))))));rotate_left
  have hgg:b8+1=w9.heap.size:=by omega
  refine Bn (ι:=Nat×List Nd×Option Addr×Nat) (fun x=>[(1,.pointer (some ⟨b1,0,none⟩)),(2,.pointer (some ⟨b8,0,none⟩)),(3,.slice x.2.2.1 x.2.1.length x.2.2.2),(7,.slice a l.length c),(8,.int .i64 l.length),(9,.int .i64 x.1)])
   (fun x w'=>OwnL ndShape w' (b8+1) 26 (.slice x.2.2.1 x.2.1.length x.2.2.2) x.2.1∧x.1≤l.length∧x.2.1=l.take x.1∧rowSits (· < w.heap.size) w' l a∧Blk w' b1 [.int .u8 k,.int .i64 n,str s,.slice a l.length c]∧Blk w' b8 [.int .u8 0,.int .i64 0,str [],.slice none 0 0]∧Ext w w'∧b8+1≤w'.heap.size)
   (fun x=>l.length-x.1) (0,[],none,0) sB ⟨OwnL.nil,Nat.zero_le _,rfl,hs,h4,u,X,by omega⟩ ?_
  clear hs h4 u X;rintro ⟨j,xs,ra,rc⟩ w1 ⟨hown,hj,hxs,hs,f,d,X,hg⟩;simp only at hown hj hxs hs f d X hg
  have hob : ∀g,(Value.slice ra xs.length rc).ownBlock=some g→g<w1.heap.size:=fun g h=>hown.lt h
  have hxl:xs.length≤l.length:=by rw [hxs,List.length_take];omega
  refine CW.sub (m:=[(1,.pointer (some ⟨b1,0,none⟩)),(2,.pointer (some ⟨b8,0,none⟩)),(3,.slice ra xs.length rc),(7,.slice a l.length c),(8,.int .i64 l.length),(9,.int .i64 j)]) ?_ sB
  by_cases hlt:j<l.length
  · obtain ⟨kb,ko,rfl,kS,hkid⟩:=Cv hs (by intro e;subst e;simp at hlt);obtain ⟨xa,xc,rx,sx⟩:=hkid j l[j] (List.getElem?_eq_getElem hlt);have hz:=D2 (List.getElem_mem hlt);have HX:=Lib.hid (HC.out l[j] (List.getElem_mem hlt))
    have hnext:xs++[l[j]]=l.take (j+1):=by rw [hxs,List.take_succ_eq_append_getElem hlt]
    clear hkid HC hxs
    generalize l[j]=x at *
    focus
     refine eK ?_;refine C1 (Gb rx) (AB [_,_,_,_] Bj rfl rfl ?_);intro ab ac E;refine eI [_,_,_,_] E ?_;intro ad o F ae af;revert hown d X hs f rx sx;refine eE F ?_;intro hown d X hs f rx sx;refine eK ?_;refine Ae [_,_,_,_] Aa rfl rfl rfl o rfl rfl rfl (eQ rfl (HX.out _ _ _ _ ‹_›) ?_);rintro _ I ⟨ag,⟨J,⟨⟨⟩,⟨p,⟨v,K⟩⟩⟩⟩⟩;revert o hown d X hs f rx sx;refine eY v ?_;intro L o hown d X hs f rx sx;refine AQ (AM [_,_,_,_] Aa Bj rfl rfl rfl rfl rfl rfl rfl rfl rfl) rfl ?_ (fun _ h=>h);rintro _ M ⟨O,rfl,i,Q⟩;have y:=i.blk;have A:=i.ext;have R:=i.pos;have T:=i.size;revert p o hown d X hs f rx sx;refine eE A ?_;intro p o hown d X hs f rx sx;refine CQ (sh:=ndShape) (z:=x) Aa Bj rfl rfl rfl rfl (by kernel_rfl) rfl rfl rfl hown (Blk.row ‹_›) ⟨_,_,rfl,Nd.sits.wide ‹_› (fun b h=>⟨by omega,fun e=>by have:=hob _ e;omega⟩)⟩ (by omega) (by omega) rfl ?_;rintro U B V W q;have Y:=q.size;clear y p o hown;revert d X hs f rx sx;refine eF q ?_;intro d X hs f rx sx;refine C1 Pa (Aj (An (Ai (Ah (C1 V7 (C1 Mv (Aj ?_)))))));rotate_left
    refine AW (j+1,xs++[x],some ⟨_,0,none⟩,_) sB ⟨by assumption,by simp only;omega,hnext,hs,f,d,X,by omega⟩ (by omega)
  · obtain rfl:j=l.length:=by omega
    rw [List.take_length] at hxs;subst hxs
    focus
     refine eK ?_;refine eV [_] [_,_,_,_] f ?_;intro ah r G ai;revert hown d X hs;refine eF G ?_;intro hown d X hs;refine cN (Ae [_,_,_,_] Aa rfl rfl rfl r rfl rfl rfl (eS [_,_,_,_] d ?_));intro aj C H ak;revert r hown X hs;refine eF H ?_;intro r hown X hs;refine eK ?_;refine AZ rfl Aa rfl rfl rfl C rfl ?_;rotate_left
    have hcap:=PN hown.ex.choose_spec.1
    exact ⟨ra,rc,rfl,Nq (Nd.mk k n s xs) ra (GZ (hown.sits (S:=fun b=>w.heap.size≤b) (fun b h=>by omega))),X,hcap⟩
theorem T2 (t:Nd) (hz:t.size≤1000000) (S:Nat→Prop) (a:Option Addr) (c:Nat) (w:World) (hs:t.sits S w a):Calls prog 36 #[t.val a c] w (CopyC t w):=T1 (t.size+1) t S a c w (by omega) hz hs
theorem T3 (t:Nd) (hz:t.size≤1000000) (S:Nat→Prop) (a:Option Addr) (c:Nat) (w:World) (hs:t.sits S w a):Calls prog 36 #[t.val a c] w (CopyR t w):=Calls.mono (T2 t hz S a c w hs) (fun _ _ h=>h.copy)
def Nr (xs ys:List Nd) (i:Nat):Prop:=ys.length=xs.length ∧ ∀k,k<xs.length→ys[k]? = if k<i∨xs.length-i≤k then xs[xs.length-1-k]? else xs[k]?
theorem T4 (xs:List Nd):Nr xs xs 0:=⟨rfl,fun k hk=>by rw [if_neg (by omega)]⟩
theorem Q1 {xs ys:List Nd} {i:Nat} (h:Nr xs ys i) (hi:xs.length≤2*i+1):ys=xs.reverse:=by
 apply List.ext_getElem?
 intro k
 by_cases hk:k<xs.length
 · rw [h.2 k hk,List.getElem?_reverse hk]
   split
   · rfl
   · have:xs.length-1-k=k:=by omega
     rw [this]
 · rw [List.getElem?_eq_none (by rw [h.1];omega),List.getElem?_eq_none (by rw [List.length_reverse];omega)]
theorem OK {xs ys:List Nd} {i:Nat} (h:Nr xs ys i) (hi:2*i+1<xs.length) {x y:Nd} (hx:ys[i]? = some x) (hy:ys[xs.length-1-i]? = some y):Nr xs ((ys.set i y).set (xs.length-1-i) x) (i+1):=by
 refine ⟨by simp [h.1],fun k hk=>?_⟩;have hl:=h.1;rw [h.2 i (by omega),if_neg (by omega)] at hx;rw [h.2 (xs.length-1-i) (by omega),if_neg (by omega)] at hy
 by_cases h1:k=xs.length-1-i
 · subst h1
   rw [List.getElem?_set_self (by simp [h.1];omega),if_pos (by omega),show xs.length-1-(xs.length-1-i)=i by omega,hx]
 · rw [List.getElem?_set_ne (fun e=>h1 e.symm)]
   by_cases h2:k=i
   · subst h2
     rw [List.getElem?_set_self (by omega),if_pos (by omega),hy]
   · rw [List.getElem?_set_ne (fun e=>h2 e.symm),h.2 k hk]
     by_cases h3:k<i∨xs.length-i≤k
     · rw [if_pos h3,if_pos (by omega)]
     · rw [if_neg h3,if_neg (by omega)]
theorem Q2 (C D g cap:Nat) (xs:List Nd) (w:World) (hA:ArrS ndShape C D w g xs) (hg:g<C∨D≤g) (hl:xs.length≤1000000):Calls prog 68 #[.slice (some ⟨g,0,none⟩) xs.length cap] w fun e w'=>e = .returned (.tuple #[])∧ArrS ndShape C D w' g xs.reverse∧Fr (· = g) w w':=by
 have X:=Fr.refl (· = g) w
 by_cases hn:xs.length=0
 · have e0:xs=[]:=List.eq_nil_of_length_eq_zero hn;subst e0;refine Ad func68 ntmps68 rfl rfl ?_
   focus
    refine eK ?_;refine C1 (Bs rfl rfl (IntWalk.i64_in _ (by omega))) (C1 Pa (C1 Pa (cT (AK ?_))));rotate_left
   refine Bn (ι:=Unit) (fun _=>[(2,.int .i64 0),(3,.int .i64 (-1))]) (fun _ w'=>ArrS ndShape C D w' g []∧Fr (· = g) w w') (fun _=>0) () sB ⟨hA,X⟩ ?_;rintro _ w1 ⟨hA,X⟩
   focus
    refine Am (cS (C1 Mv (C1 Mv (C1 V3 (cT (U7 (Ds (A5 (A5 (Bw (Bt rfl ?_)))))))))));rotate_left
   exact ⟨rfl,hA,X⟩
 refine Ad func68 ntmps68 rfl rfl ?_
 focus
  refine eK ?_;refine C1 (Bs rfl rfl (IntWalk.i64_in _ (by omega))) (C1 Pa (C1 Pa (cT (AK ?_))));rotate_left
 obtain ⟨m0,hm0⟩ : ∃m:Nat,((xs.length:Int)-1)=(m:Int):=⟨xs.length-1,by omega⟩;rw [hm0];refine Bn (ι:=Nat×Nat×List Nd) (fun x=>[(0,.slice (some ⟨g,0,none⟩) xs.length cap),(2,.int .i64 x.1),(3,.int .i64 x.2.1)]) (fun x w'=>ArrS ndShape C D w' g x.2.2∧Nr xs x.2.2 x.1∧x.1+x.2.1+1=xs.length∧Fr (· = g) w w') (fun x=>x.2.1) (0,m0,xs) sB ⟨hA,T4 xs,by simp only;omega,X⟩ ?_;clear hA X hm0;rintro ⟨i,m,ys⟩ w1 ⟨hA,hR,hm,X⟩;simp only at hA hR hm;refine CW.sub (m:=[(0,.slice (some ⟨g,0,none⟩) xs.length cap),(2,.int .i64 i),(3,.int .i64 m)]) ?_ sB;have hyl:=hR.1
 by_cases hlt:i<m
 · obtain ⟨x,hx⟩ : ∃x,ys[i]? = some x:=⟨_,List.getElem?_eq_getElem (by omega)⟩;obtain ⟨y,hy⟩ : ∃y,ys[m]? = some y:=⟨_,List.getElem?_eq_getElem (by omega)⟩;obtain ⟨_,r1,xa,xc,rfl,sx⟩:=hA.row hx;obtain ⟨_,r2,ya,yc,rfl,sy⟩:=hA.row hy;have hR2:=OK hR (by omega) hx (show ys[xs.length-1-i]? = some y by rw [show xs.length-1-i=m by omega];exact hy);rw [show xs.length-1-i=m by omega] at hR2;clear hR hx hy;replace r1:Row w1 ⟨g,0+i*4,none⟩ _:=r1;replace r2:Row w1 ⟨g,0+m*4,none⟩ _:=r2
   focus
    refine eK ?_;refine FR (fun wz=>Ext w1 wz) (fun wz=>Fr (fun x=>x=g) w1 wz) [2,3,13,14,15] [2,3] 13 14 (.free 2 (.free 3 (.pure 0 (.pure 1 (.pure 4 (.pure 5 (.pure 6 (.pure 7 (.pure 8 (.pure 9 (.pure 10 (.pure 11 (.pure 12 (.put 13 (.tail 14))))))))))))))) (fun _ h=>Fr.of_ext h) mixed (by kernel_rfl) (Ao (Ac (Ac (Ao Ak)))) ?_;intro wc1 xc2 _;have qsc3:(fun wz=>Ext w1 wz) wc1:=xc2;simp only at qsc3;have qtc4:(fun wz=>Fr (fun x=>x=g) w1 wz) wc1:=Fr.of_ext xc2;simp only at qtc4;have d_hA:=hA;have d_sx:=sx;have d_sy:=sy;have d_r1:=r1;have d_r2:=r2;revert hA X sx sy r1 r2;refine eY xc2 ?_;intro zc5 hA X sx sy r1 r2;refine BI ‹_› rfl (Ap rfl) rfl (BI ‹_› rfl (Ap rfl) rfl (Ar ‹_› rfl (Ap rfl) rfl (Ar ‹_› rfl (Ap rfl) rfl (Ar ‹_› rfl (Ap rfl) rfl (Ar ‹_› rfl (Ap rfl) rfl (Ar ‹_› rfl (A4 Aa rfl rfl rfl rfl (by omega) (by omega)) rfl (Ar ‹_› rfl (BF Aa rfl rfl rfl (fun wz hz=>(Row.ext d_r2 hz)) rfl) rfl (Ar ‹_› rfl (Ap rfl) rfl (Ar ‹_› rfl (Ap rfl) rfl (Ar ‹_› rfl (A4 Aa rfl rfl rfl rfl (by omega) (by omega)) rfl (Ar ‹_› rfl (BF Aa rfl rfl rfl (fun wz hz=>(Row.ext d_r1 hz)) rfl) rfl ?_)))))))))))
    refine Ar ‹_› rfl (A4 Aa rfl rfl rfl rfl (by omega) (by omega)) rfl (Ei rfl (Cz (sh:=ndShape) (j:=i) (z:=y) (us:=[_,_,_,_]) Aa rfl rfl rfl rfl rfl rfl hA (by omega) hg ⟨_,_,rfl,by assumption⟩) (Cf ?_));rintro _ wc9 ⟨hc6,⟨fc7,hc8⟩⟩;have zc10:=fc7.size;replace qtc4:=qtc4.fr fc7 (by omega);clear hA;revert X sx sy;refine eF fc7 ?_;intro X sx sy;refine ⟨by assumption,?_⟩;refine Eh rfl (C1 Pi (Br (Cz (sh:=ndShape) (j:=m) (z:=x) (us:=[_,_,_,_]) Aa rfl rfl rfl rfl rfl rfl ‹_› (by rw [List.length_set];omega) hg ⟨_,_,rfl,by assumption⟩) (Cf ?_)));rintro _ wc14 ⟨hc11,⟨fc12,hc13⟩⟩;have zc15:=fc12.size;revert X sx sy;refine eF fc12 ?_;intro X sx sy;refine eK ?_;refine C1 (Bs rfl rfl (IntWalk.i64_in _ (by omega))) (C1 Pa (C1 Pa (Aj ?_)));rotate_left
   refine AW (i+1,m-1,(ys.set i y).set m x) (by (refine Be rfl ?_;refine Be rfl ?_;refine BZ rfl (by go_num) ?_;exact Dq)) ⟨by assumption,hR2,by simp only;omega,X⟩ (by simp only;omega)
 · have e:=Q1 hR (by omega);subst e
   focus
    refine Am (cS (C1 Mv (C1 Mv (C1 V3 (cT (Hn (Ds (A5 (A5 (Bw (Bt rfl ?_)))))))))));rotate_left
   exact ⟨rfl,hA,X⟩
def De (q:Bool) (k:Int) (x:Nd):Nd:=if k=57∨x.kind=57 then x.inv q else x
theorem OL (q:Bool) (l:List Nd):BY q l=l.map (De q 57):=by
 induction l with
 | nil=>rfl
 | cons t r ih=>simp only [BY,List.map_cons,ih,De,true_or,if_true]
theorem Ns (q:Bool) {k:Int} (hk:k≠57) (l:List Nd):Dt q l=l.map (De q k):=by
 induction l with
 | nil=>rfl
 | cons t r ih=>simp only [Dt,List.map_cons,ih,De,hk,false_or]
def FL (f:Nd→Nd) (l:List Nd) (j:Nat):List Nd:=(l.take j).map f++List.replicate (l.length-j) Ge
theorem OM (f:Nd→Nd) (l:List Nd) (j:Nat) (h:j≤l.length):(FL f l j).length=l.length:=by
 simp only [FL,List.length_append,List.length_map,List.length_take,List.length_replicate];omega
theorem ON (f:Nd→Nd) (l:List Nd) (j:Nat) (h:j<l.length):(FL f l j).set j (f l[j])=FL f l (j+1):=by
 unfold FL
 have h1:((l.take j).map f).length=j:=by simp;omega
 rw [List.set_append_right _ _ (by omega),h1,Nat.sub_self,show l.length-j=(l.length-(j+1))+1 by omega,List.replicate_succ,List.set_cons_zero,List.take_succ_eq_append_getElem h,List.map_append,List.append_assoc]
 rfl
theorem OO (f:Nd→Nd) (l:List Nd):FL f l l.length=l.map f:=by simp [FL]
theorem OP {k n:Int} {s:List UInt8} {l:List Nd} (h:(Nd.mk k n s l).isStmt=true∨(Nd.mk k n s l).isBlock=true):(∀x∈l,k=57∨x.kind=57→x.isStmt=true∨x.isBlock=true)∧(k=52∨k=53∨k=54→l≠[])∧40≤k∧k≤57:=by
 rcases h with h|h
 · have hk:=Ly h
   simp only [Nd.kind] at hk
   have hx : ∀x:Nd,x.isExpr=true → ¬x.kind=57:=fun x hx=>by have:=I3 hx;omega
   have key : ∀x∈l,x.isBlock=true∨x.isExpr=true:=by
    cases Dc h with
    | call _ _ _ ha=>intro x hx;exact Or.inr (Hr (List.all_eq_true.1 ha x hx))
    | upd _ h1 h2=>intro x hx;simp only [List.mem_cons,List.not_mem_nil,or_false] at hx;rcases hx with rfl|rfl<;>first|exact Or.inr (Bl ‹_›)|exact Or.inr ‹_›
    | swap h1 h2=>intro x hx;simp only [List.mem_cons,List.not_mem_nil,or_false] at hx;rcases hx with rfl|rfl<;>exact Or.inr (Bl ‹_›)
    | stack _ _ h1=>intro x hx;simp only [List.mem_cons,List.not_mem_nil,or_false] at hx;rw [hx];exact Or.inr (Bl h1)
    | tape _ h1=>intro x hx;simp only [List.mem_cons,List.not_mem_nil,or_false] at hx;rw [hx];exact Or.inr (Bl h1)
    | branch _ h1 h2 h3 h4=>intro x hx;simp only [List.mem_cons,List.not_mem_nil,or_false] at hx;rcases hx with rfl|rfl|rfl|rfl<;>first|exact Or.inr ‹_› | exact Or.inl ‹_›
    | local_ _ h1 h2 h3=>intro x hx;simp only [List.mem_cons,List.not_mem_nil,or_false] at hx;rcases hx with rfl|rfl|rfl<;>first|exact Or.inr ‹_› | exact Or.inl ‹_›
    | lstack _ h1=>intro x hx;simp only [List.mem_cons,List.not_mem_nil,or_false] at hx;rw [hx];exact Or.inl h1
   refine ⟨fun x hxl hc=>?_,fun hc=>?_,by omega,by omega⟩
   · rcases hc with rfl|hc
     · omega
     · rcases key x hxl with hb|he
       · exact Or.inr hb
       · exact absurd hc (hx x he)
   · rintro rfl
     cases Dc h with
     | call hk2=>omega
 · obtain ⟨e,hr⟩:=Ev h
   simp only [Nd.kids,Nd.mk.injEq,and_true] at e hr;obtain ⟨rfl,-,-⟩:=e
   exact ⟨fun x hx _=>Or.inl (rowStmt_iff.1 hr x hx),fun hc=>by omega,by omega,by omega⟩
theorem Nt (q:Bool) {k n:Int} {s:List UInt8} {l:List Nd} (hk : ¬k=57):(Nd.mk k n s l).inv q=if k=52∨k=53∨k=54 then .mk k n s (FT (l.map (De q k))) else .mk (if k=50∨k=51 then (if q then k else BN k) else BN k) n s (l.map (De q k)):=by
 conv=>lhs;unfold Nd.inv
 rw [if_neg hk,Ns q hk]
 by_cases h1:k=52∨k=53∨k=54
 · rw [if_pos h1,if_pos h1]
 · rw [if_neg h1,if_neg h1]
   by_cases h2:k=50∨k=51
   · rw [if_pos h2,if_pos h2]
   · rw [if_neg h2,if_neg h2]
theorem Nu (w:World) (S:Nat→Prop):ndShape.rep w S Ge [.int .u8 0,.int .i64 0,.string ⟨#[]⟩,.slice none 0 0]:=⟨none,0,rfl,CK⟩
theorem ArrS.sits {C D g:Nat} {w:World} {xs:List Nd} (h:ArrS ndShape C D w g xs) {S:Nat→Prop} (hg:S g) (hS : ∀b,C≤b→b<D→S b):rowSits S w xs (some ⟨g,0,none⟩):=
 DD hg xs 0 (fun i x hi=>by
  obtain ⟨cs,hr,a,c,rfl,hs⟩:=h.row hi
  exact ⟨a,c,hr,Nd.sits.wide hs (fun b hb=>hS b hb.1 hb.2)⟩)
theorem DL {C g:Nat} {w w':World} {k n:Int} {s:List UInt8} {xs:List Nd} {m:Nat} (hm:xs.length=m) (h:ArrS ndShape C w'.heap.size w' g xs) (h1:w.heap.size≤g) (h2:w.heap.size≤C) (X:Ext w w'):CopyR (.mk k n s xs) w (.returned (.agg #[.int .u8 k,.int .i64 n,str s,.slice (some ⟨g,0,none⟩) m m])) w':=by
 subst hm
 exact ⟨some ⟨g,0,none⟩,xs.length,rfl,GZ (h.sits ⟨h1,h.lt⟩ (fun b c a=>⟨by omega,a⟩)),X⟩
theorem Sh (q:Bool) (N:Nat) : ∀(t:Nd) (S:Nat→Prop) (a:Option Addr) (c:Nat) (w:World),t.size<N→t.size≤1000000→(t.isStmt=true∨t.isBlock=true)→t.sits S w a→Calls prog 39 #[t.val a c,.bool q] w (CopyR (t.inv q) w):=by
 induction N with
 | zero=>intro t S a c w h;omega
 | succ N ih=>
  rintro ⟨k,n,s,l⟩ S a c w hN hM hv hs;have hlen:=EO l;simp only [Nd.size] at hN hM;obtain ⟨v1,v2,v3,v4⟩:=OP hv;clear hv
  have hC : ∀x∈l,(k=57∨x.kind=57) → ∀(S:Nat→Prop) (a:Option Addr) (c:Nat) (w:World),x.sits S w a→Calls prog 39 #[x.val a c,.bool q] w (CopyR (x.inv q) w):=fun x hx hk S a c w h=>by
   have:=D2 hx
   exact ih x S a c w (by omega) (by omega) (v1 x hx hk) h
  clear ih v1;have HC:=Lib.hid hC;clear hC;replace hs:=Cy _ _ (I8 hs);have X:=Ext.refl w;refine Ad func39 ntmps39 rfl rfl ?_
  focus
   refine cS (eB [_,_,_,_] ?_);intro b1 w2 h4 x5 p6 z7;revert hs X;refine eE x5 ?_;intro hs X;refine eA [_,_,_,_] ?_;intro b8 w9 h12 x13 p14 z15;revert h4 hs X;refine eE x13 ?_;intro h4 hs X;refine cT ?_;rotate_left
  refine G1 (ι:=Nat×Nat) (fun x=>[(1,.bool q),(2,.pointer (some ⟨b1,0,none⟩)),(4,.pointer (some ⟨b8,0,none⟩)),(5,.pointer (some ⟨x.1,0,none⟩))])
   (fun x w'=>ArrS ndShape (b1+4) (b1+4) w' x.2 (List.replicate l.length Ge)∧Blk w' x.1 [.int .u8 k,.int .i64 n,str s,.slice (some ⟨x.2,0,none⟩) l.length l.length]∧b8<x.1∧b8<x.2∧x.1≠x.2∧x.1<b1+4∧x.2<b1+4∧Blk w' b1 [.int .u8 k,.int .i64 n,str s,.slice a l.length c]∧Blk w' b8 [.int .u8 0,.int .i64 0,str [],.slice none 0 0]∧rowSits (· < w.heap.size) w' l a∧Ext w w'∧w'.heap.size=b1+4) ?_ ?_
  · focus
     refine Ax (fun wz=>Ext w9 wz) 12 (.pure 0 (.pure 1 (.pure 2 (.pure 3 (.pure 4 (.pure 5 (.pure 6 (.pure 7 (.pure 8 (.fork 9 (.pure 10 (.fork 11 .tail .none)) (.fork 11 (.fork 9 (.pure 10 .tail) .none) .none))))))))))) mixed (by kernel_rfl) (Ac Ak) ?_;intro wa1 xa2 _;have qsa3:(fun wz=>Ext w9 wz) wa1:=xa2;simp only at qsa3;have d_h12:=h12;have d_h4:=h4;have d_hs:=hs;revert h12 h4 hs X;refine eY xa2 ?_;intro za4 h12 h4 hs X;refine ⟨qsa3,?_⟩;refine Tq rfl Pg (Tq rfl (Db d_h4) (Tq rfl Pf (Tq rfl (Db d_h4) (Tq rfl Pf (Tq rfl (Db d_h4) (Tq rfl Pf (Tq rfl (Db d_h4) (Tq rfl Pz ?_))))))));refine At rfl (E7 (sh:=ndShape) (C:=b1+4) (D:=b1+4) (N:=l.length) (z:=Ge) Aa Bj rfl rfl rfl rfl (by kernel_rfl) rfl rfl (by omega) Nu) rfl ?_ (fun _ h=>h) ?kra5;rintro _ wa11 ⟨ga6,⟨rfl,⟨ha7,⟨ha8,⟨ha9,xa10⟩⟩⟩⟩⟩;revert qsa3 h12 h4 hs X;refine eY xa10 ?_;intro za12 qsa3 h12 h4 hs X;refine ⟨qsa3,?_⟩;refine Tq rfl (AC [_,_,_,_] Aa Bj rfl rfl rfl rfl) ?_;refine At rfl (BG Bj rfl) rfl ?_ (fun _ h=>h) As;rintro _ wa15 ⟨ba14,rfl,na16⟩;have ha17:=na16.blk;dsimp only at ha17;have xa18:=na16.ext;have pa19:=na16.pos;have za20:=na16.size;revert ha7 qsa3 h12 h4 hs X;refine eE xa18 ?_;intro ha7 qsa3 h12 h4 hs X;refine ⟨qsa3,?_⟩;refine Az rfl (eS [_,_,_,_] ha17 ?_)
     intro wa21 ha25 fa23 za24;revert ha7 h12 h4 hs X;refine eF fa23 ?_;intro ha7 h12 h4 hs X;refine Aj ?_;rotate_left;refine At rfl (BG Bj rfl) rfl ?_ (fun _ h=>h) As;rintro _ wa28 ⟨ba27,rfl,na29⟩;have ha30:=na29.blk;dsimp only at ha30;have xa31:=na29.ext;have pa32:=na29.pos;have za33:=na29.size;revert qsa3 h12 h4 hs X;refine eE xa31 ?_;intro qsa3 h12 h4 hs X;refine ⟨qsa3,?_⟩;refine At rfl (E7 (sh:=ndShape) (C:=b1+4) (D:=b1+4) (N:=l.length) (z:=Ge) Aa Bj rfl rfl rfl rfl (by kernel_rfl) rfl rfl (by omega) Nu) rfl ?_ (fun _ h=>h) As;rintro _ wa40 ⟨ga35,⟨rfl,⟨ha36,⟨ha37,⟨ha38,xa39⟩⟩⟩⟩⟩;revert ha30 qsa3 h12 h4 hs X;refine eY xa39 ?_;intro za41 ha30 qsa3 h12 h4 hs X;refine ⟨qsa3,?_⟩;refine Tq rfl (AC [_,_,_,_] Aa Bj rfl rfl rfl rfl) ?_;refine Az rfl (eS [_,_,_,_] ha30 ?_);intro wa42 ha46 fa44 za45;revert ha36 h12 h4 hs X;refine eF fa44 ?_;intro ha36 h12 h4 hs X;refine Aj ?_;rotate_left
    · have hq:wa1.heap.size=w9.heap.size:=congrArg Array.size ‹_›
      exact CG (ba14,ga6) sB ⟨ha7,ha25,by simp only;omega,by simp only;omega,by simp only;omega,by simp only;omega,by simp only;omega,h4,h12,hs,X,by omega⟩
    · have hq:wa1.heap.size=w9.heap.size:=congrArg Array.size ‹_›
      exact CG (ba27,ga35) sB ⟨ha36,ha46,by simp only;omega,by simp only;omega,by simp only;omega,by simp only;omega,by simp only;omega,h4,h12,hs,X,by omega⟩
  · clear h4 h12 hs X;rintro ⟨bm,g⟩ w1 ⟨hA,hbm,o1,o2,o3,o4,o5,hb1,hb8,hs,X,hz⟩;simp only at hA hbm o1 o2 o3 o4 o5;refine CW.sub (m:=[(1,.bool q),(2,.pointer (some ⟨b1,0,none⟩)),(4,.pointer (some ⟨b8,0,none⟩)),(5,.pointer (some ⟨bm,0,none⟩))]) ?_ sB
    have e0:List.replicate l.length Ge=FL (De q k) l 0:=by simp [FL]
    rw [e0] at hA;refine G1 (ι:=Unit) (fun _=>[(1,.bool q),(2,.pointer (some ⟨b1,0,none⟩)),(4,.pointer (some ⟨b8,0,none⟩)),(5,.pointer (some ⟨bm,0,none⟩))])
     (fun _ w'=>ArrS ndShape (b1+4) w'.heap.size w' g (l.map (De q k))∧Blk w' bm [.int .u8 k,.int .i64 n,str s,.slice (some ⟨g,0,none⟩) l.length l.length]∧Blk w' b1 [.int .u8 k,.int .i64 n,str s,.slice a l.length c]∧Blk w' b8 [.int .u8 0,.int .i64 0,str [],.slice none 0 0]∧Ext w w'∧b1+4≤w'.heap.size) ?_ ?_
    · focus
       refine cS (C1 Pf (C1 (Pl hb1) (C1 Pz (C1 Mv (cT ?_)))));rotate_left
      refine AK ?_;refine Bn (ι:=Nat) (fun j=>[(1,.bool q),(2,.pointer (some ⟨b1,0,none⟩)),(4,.pointer (some ⟨b8,0,none⟩)),(5,.pointer (some ⟨bm,0,none⟩)),(21,.slice a l.length c),(22,.int .i64 l.length),(23,.int .i64 j)])
       (fun j w'=>j≤l.length∧ArrS ndShape (b1+4) w'.heap.size w' g (FL (De q k) l j)∧Blk w' bm [.int .u8 k,.int .i64 n,str s,.slice (some ⟨g,0,none⟩) l.length l.length]∧Blk w' b1 [.int .u8 k,.int .i64 n,str s,.slice a l.length c]∧Blk w' b8 [.int .u8 0,.int .i64 0,str [],.slice none 0 0]∧rowSits (· < w.heap.size) w' l a∧Ext w w'∧b1+4≤w'.heap.size)
       (fun j=>l.length-j) 0 sB ⟨Nat.zero_le _,hA.wide (by omega),hbm,hb1,hb8,hs,X,by omega⟩ ?_
      clear hA hbm hb1 hb8 hs X hz e0;rintro j w2 ⟨hj,hA,hbm,hb1,hb8,hs,X,hz⟩
      by_cases hlt:j<l.length
      · obtain ⟨kb,ko,rfl,kS,hkid⟩:=Cv hs (by intro e;subst e;simp at hlt);obtain ⟨xa,xc,rx,sx⟩:=hkid j l[j] (List.getElem?_eq_getElem hlt);have HX:=Lib.hid (HC.out l[j] (List.getElem_mem hlt));have hxz:=D2 (List.getElem_mem hlt);have hnext:=ON (De q k) l j hlt;have hdl:=OM (De q k) l j hj;clear hkid HC
        by_cases hk:k=57∨(l[j]).kind=57
        · have HX2:=Lib.hid (HX.out hk)
          have hfx:De q k l[j]=(l[j]).inv q:=by unfold De;rw [if_pos hk]
          rw [hfx] at hnext;clear HX hfx
          generalize l[j]=x at *
          focus
           refine eK ?_;refine C1 (Gb rx) (eA [_,_,_,_] ?_);intro bc1 wc2 hc5 xc6 pc7 zc8;revert hA hbm hb8 X hb1 hs rx sx;refine eE xc6 ?_;intro hA hbm hb8 X hb1 hs rx sx;refine C1 Pa (eS [_,_,_,_] hc5 ?_);intro wc9 hc13 fc11 zc12;revert hA hbm hb8 X hb1 hs rx sx;refine eF fc11 ?_;intro hA hbm hb8 X hb1 hs rx sx;refine eK ?_;refine CP rfl rfl rfl (fun cc14=>?_) (fun cc14=>?_);refine eK ?_;refine Ax (fun wz=>Ext wc9 wz) 6 (.pure 0 (.pure 1 (.pure 2 (.pure 3 (.pure 4 (.fork 5 .tail .none)))))) mixed (by kernel_rfl) (Ao (Ac (Ac (Ao (Ac Ak))))) ?_;intro wc15 xc16 _;have qsc17:(fun wz=>Ext wc9 wz) wc15:=xc16;simp only at qsc17;have d_hc13:=hc13;have d_hA:=hA;have d_hbm:=hbm;have d_hb8:=hb8;have d_hb1:=hb1;have d_hs:=hs;have d_rx:=rx;have d_sx:=sx;revert hc13 hA hbm hb8 X hb1 hs rx sx;refine eY xc16 ?_;intro zc18 hc13 hA hbm hb8 X hb1 hs rx sx;refine ⟨qsc17,?_⟩;refine Tq rfl Pf (Tq rfl (Db d_hbm) (Tq rfl Mv (Tq rfl (Aw [_,_,_,_] Aa rfl rfl rfl (fun wz hz=>(Blk.ext d_hc13 hz)) rfl rfl) (Tq rfl Mv ?_))));refine At rfl (Av (by kernel_rfl) rfl (HX2.out _ _ _ _ ‹_›) (fun _ _ h=>h.ret)) rfl ?_ (fun _ h=>h) As;rintro _ wc24 ⟨ac20,⟨cc21,⟨⟨⟩,⟨hc22,xc23⟩⟩⟩⟩;revert qsc17 hc13 hA hbm hb8 X hb1 hs rx sx;refine eY xc23 ?_;intro zc25 qsc17 hc13 hA hbm hb8 X hb1 hs rx sx
           refine ⟨qsc17,?_⟩;refine Az rfl (C1 Pi (Br (FD (sh:=ndShape) (j:=j) (z:=x.inv q) (us:=[_,_,_,_]) Aa rfl rfl rfl rfl rfl rfl ‹_› (by omega) (by omega) (by omega) ⟨_,_,rfl,Nd.sits.wide ‹_› (fun b h=>by omega)⟩) (Cf ?_)));rintro _ wc29 ⟨hc26,⟨fc27,hc28⟩⟩;revert hc22 hc13;refine eZ fc27 ?_;intro zc30 hc22 hc13;clear hA;revert hbm hb8 X hb1 hs rx sx;refine eF fc27 ?_;intro hbm hb8 X hb1 hs rx sx;refine Aj (An (Ai (Ah (C1 V7 (C1 Mv (Aj ?_))))));rotate_left;refine eK ?_;refine Ax (fun wz=>Ext wc9 wz) 6 (.pure 0 (.pure 1 (.pure 2 (.pure 3 (.pure 4 (.fork 5 .tail .none)))))) mixed (by kernel_rfl) (Ao (Ac (Ac (Ao (Ac Ak))))) ?_;intro wc31 xc32 _;have qsc33:(fun wz=>Ext wc9 wz) wc31:=xc32;simp only at qsc33;have d_hc13:=hc13;have d_hA:=hA;have d_hbm:=hbm;have d_hb8:=hb8;have d_hb1:=hb1;have d_hs:=hs;have d_rx:=rx;have d_sx:=sx;revert hc13 hA hbm hb8 X hb1 hs rx sx;refine eY xc32 ?_;intro zc34 hc13 hA hbm hb8 X hb1 hs rx sx;refine ⟨qsc33,?_⟩;refine Tq rfl Pf (Tq rfl (Db d_hbm) (Tq rfl Mv (Tq rfl (Aw [_,_,_,_] Aa rfl rfl rfl (fun wz hz=>(Blk.ext d_hc13 hz)) rfl rfl) (Tq rfl Mv ?_))));refine At rfl (Av (by kernel_rfl) rfl (HX2.out _ _ _ _ ‹_›) (fun _ _ h=>h.ret)) rfl ?_ (fun _ h=>h) As
           rintro _ wc40 ⟨ac36,⟨cc37,⟨⟨⟩,⟨hc38,xc39⟩⟩⟩⟩;revert qsc33 hc13 hA hbm hb8 X hb1 hs rx sx;refine eY xc39 ?_;intro zc41 qsc33 hc13 hA hbm hb8 X hb1 hs rx sx;refine ⟨qsc33,?_⟩;refine Az rfl (C1 Pi (Br (FD (sh:=ndShape) (j:=j) (z:=x.inv q) (us:=[_,_,_,_]) Aa rfl rfl rfl rfl rfl rfl ‹_› (by omega) (by omega) (by omega) ⟨_,_,rfl,Nd.sits.wide ‹_› (fun b h=>by omega)⟩) (Cf ?_)));rintro _ wc45 ⟨hc42,⟨fc43,hc44⟩⟩;revert hc38 hc13;refine eZ fc43 ?_;intro zc46 hc38 hc13;clear hA;revert hbm hb8 X hb1 hs rx sx;refine eF fc43 ?_;intro hbm hb8 X hb1 hs rx sx;refine Aj (An (Ai (Ah (C1 V7 (C1 Mv (Aj ?_))))));rotate_left
          all_goals exact AW (j+1) (by (repeat (first|exact Dq|refine Be rfl ?_|refine BZ rfl (by go_num) ?_))) ⟨by omega,by rw [←hnext];exact ArrS.wide ‹_› (by omega),hbm,hb1,hb8,hs,X,by omega⟩ (by omega)
        · have hfx:De q k l[j]=l[j]:=by unfold De;rw [if_neg hk]
          rw [hfx] at hnext;clear HX hfx
          generalize l[j]=x at *
          have hk1 : ¬k=57:=fun e=>hk (Or.inl e)
          have hk2 : ¬x.kind=57:=fun e=>hk (Or.inr e)
          have HX2:=Lib.hid (T3 x (by omega))
          focus
           refine eK ?_;refine C1 (Gb rx) (eA [_,_,_,_] ?_);intro bd1 wd2 hd5 xd6 pd7 zd8;revert hA hbm hb8 X hb1 hs rx sx;refine eE xd6 ?_;intro hA hbm hb8 X hb1 hs rx sx;refine C1 Pa (eS [_,_,_,_] hd5 ?_);intro wd9 hd13 fd11 zd12;revert hA hbm hb8 X hb1 hs rx sx;refine eF fd11 ?_;intro hA hbm hb8 X hb1 hs rx sx;refine eK ?_;refine Ax (fun wz=>Ext wd9 wz) 5 (.pure 0 (.pure 1 (.pure 2 (.pure 3 (.fork 4 .tail .none))))) mixed (by kernel_rfl) (Ao (Ac (Ac (Ao (Ac Ak))))) ?_;intro wd14 xd15 _;have qsd16:(fun wz=>Ext wd9 wz) wd14:=xd15;simp only at qsd16;have d_hd13:=hd13;have d_hA:=hA;have d_hbm:=hbm;have d_hb8:=hb8;have d_hb1:=hb1;have d_hs:=hs;have d_rx:=rx;have d_sx:=sx;revert hd13 hA hbm hb8 X hb1 hs rx sx;refine eY xd15 ?_;intro zd17 hd13 hA hbm hb8 X hb1 hs rx sx;refine ⟨qsd16,?_⟩;refine Tq rfl Pf (Tq rfl (Db d_hbm) (Tq rfl Mv (Tq rfl (Aw [_,_,_,_] Aa rfl rfl rfl (fun wz hz=>(Blk.ext d_hd13 hz)) rfl rfl) ?_)));refine At rfl (Av (by kernel_rfl) rfl (HX2.out _ _ _ _ ‹_›) (fun _ _ h=>h.ret)) rfl ?_ (fun _ h=>h) As;rintro _ wd23 ⟨ad19,⟨cd20,⟨⟨⟩,⟨hd21,xd22⟩⟩⟩⟩;revert qsd16 hd13 hA hbm hb8 X hb1 hs rx sx;refine eY xd22 ?_;intro zd24 qsd16 hd13 hA hbm hb8 X hb1 hs rx sx;refine ⟨qsd16,?_⟩
           refine Az rfl (C1 Pi (Br (FD (sh:=ndShape) (j:=j) (z:=x) (us:=[_,_,_,_]) Aa rfl rfl rfl rfl rfl rfl ‹_› (by omega) (by omega) (by omega) ⟨_,_,rfl,Nd.sits.wide ‹_› (fun b h=>by omega)⟩) (Cf ?_)));rintro _ wd28 ⟨hd25,⟨fd26,hd27⟩⟩;revert hd21 hd13;refine eZ fd26 ?_;intro zd29 hd21 hd13;clear hA;revert hbm hb8 X hb1 hs rx sx;refine eF fd26 ?_;intro hbm hb8 X hb1 hs rx sx;refine Aj (An (Ai (Ah (C1 V7 (C1 Mv (Aj ?_))))));rotate_left
          all_goals exact AW (j+1) sB ⟨by omega,by rw [←hnext];exact ArrS.wide ‹_› (by omega),hbm,hb1,hb8,hs,X,by omega⟩ (by omega)
      · obtain rfl:j=l.length:=by omega
        rw [OO] at hA
        focus
         refine cS (C1 V3 (cT (Am (Hn (Ds (A5 (A5 (Bw ?_))))))));rotate_left
        exact CG () sB ⟨hA,hbm,hb1,hb8,X,hz⟩
    · clear hA hbm hb1 hb8 hs X hz e0 HC;rintro _ w3 ⟨hA,hbm,hb1,hb8,X,hz⟩
      have hxl:(l.map (De q k)).length=l.length:=by simp
      by_cases k57:k=57
      · subst k57
        have ht:(Nd.mk 57 n s l).inv q = .mk 57 n s (BY q l).reverse:=by
         conv=>lhs;unfold Nd.inv
         rw [if_pos rfl]
        rw [ht,OL]
        generalize l.map (De q 57)=xs at *
        rw [←hxl] at hbm
        focus
         refine eK ?_;refine C1 (Bs rfl rfl (IntWalk.i64_in _ (by omega))) ?_;refine eK ?_;refine cC rfl (Q2 (b1+4) _ _ _ _ _ ‹_› (Or.inl (by omega)) (by omega)) ?_;rintro _ wf3 ⟨⟨⟩,⟨hf1,ff2⟩⟩;revert hb8 X hb1 hbm;refine eZ ff2 ?_;intro zf4 hb8 X hb1 hbm;clear hA ff2;refine eK ?_;refine Ae [_,_,_,_] Aa rfl rfl rfl hbm rfl rfl rfl (eS [_,_,_,_] hb8 ?_);intro wf5 hf9 ff7 zf8;revert hf1 X hb1 hbm;refine eF ff7 ?_;intro hf1 X hb1 hbm;refine eK ?_;refine AZ rfl Aa rfl rfl rfl hf9 rfl ?_;rotate_left
        exact DL (by simp) (hf1.wide (by omega)) (by omega) (by omega) X
      rw [Nt q k57]
      by_cases k5:k=52∨k=53∨k=54
      · rw [if_pos k5];have hne:=v2 k5
        generalize l.map (De q k)=xs at *
        have hpos:0<xs.length:=by rw [hxl];exact List.length_pos_iff.2 hne
        obtain ⟨x,hx⟩ : ∃x,xs[0]? = some x:=⟨_,List.getElem?_eq_getElem hpos⟩;obtain ⟨y,hy⟩ : ∃y,xs[xs.length-1]? = some y:=⟨_,List.getElem?_eq_getElem (by omega)⟩;obtain ⟨_,r1,xa,xc,rfl,sx⟩:=hA.row hx;obtain ⟨_,r2,ya,yc,rfl,sy⟩:=hA.row hy
        have em:((xs.length:Int)-1).toNat=xs.length-1:=by omega
        have hsw:FT xs=(xs.set 0 y).set ((xs.length:Int)-1).toNat x:=by
         unfold FT
         rw [em,List.getD_eq_getElem?_getD,List.getD_eq_getElem?_getD,hx,hy]
         rfl
        rw [hsw]
        have hsl:((xs.set 0 y).set ((xs.length:Int)-1).toNat x).length=xs.length:=by simp
        replace r1:Row w3 ⟨g,0+0*4,none⟩ (x.cells xa xc):=r1
        replace r2:Row w3 ⟨g,0+((xs.length:Int)-1).toNat*4,none⟩ (y.cells ya yc):=by rw [em];exact r2
        rw [←hxl] at hbm
        clear hx hy hsw
        rcases k5 with rfl|rfl|rfl
        · focus
           refine eK ?_;refine C1 (Bs rfl rfl (IntWalk.i64_in _ (by omega))) ?_;refine eK ?_;refine FR (fun wz=>Ext w3 wz) (fun wz=>Fr (fun x=>x=g) w3 wz) [2,3,4,15,16,17] [2,3,4] 15 16 (.free 2 (.free 3 (.free 4 (.pure 0 (.pure 1 (.pure 5 (.pure 6 (.pure 7 (.pure 8 (.pure 9 (.pure 10 (.pure 11 (.pure 12 (.pure 13 (.pure 14 (.put 15 (.tail 16))))))))))))))))) (fun _ h=>Fr.of_ext h) mixed (by kernel_rfl) (Ao (Ac Ak)) ?_;intro wg1 xg2 _;have qsg3:(fun wz=>Ext w3 wz) wg1:=xg2;simp only at qsg3;have qtg4:(fun wz=>Fr (fun x=>x=g) w3 wz) wg1:=Fr.of_ext xg2;simp only at qtg4;have d_hb8:=hb8;have d_hA:=hA;have d_sx:=sx;have d_sy:=sy;have d_r1:=r1;have d_r2:=r2;have d_hb1:=hb1;have d_hbm:=hbm;revert hb8 X hA sx sy r1 r2 hb1 hbm;refine eY xg2 ?_;intro zg5 hb8 X hA sx sy r1 r2 hb1 hbm;refine BI ‹_› rfl (Aq Aa rfl rfl rfl) rfl (BI ‹_› rfl (Al Aa rfl rfl rfl (fun wz hz=>Blk.cell (Blk.fr d_hbm hz (by omega)) rfl)) rfl (BI ‹_› rfl (Ap rfl) rfl (Ar ‹_› rfl (Aq Aa rfl rfl rfl) rfl (Ar ‹_› rfl (Al Aa rfl rfl rfl (fun wz hz=>Blk.cell (Blk.ext d_hbm hz) rfl)) rfl (Ar ‹_› rfl (Aq Aa rfl rfl rfl) rfl (Ar ‹_› rfl (Al Aa rfl rfl rfl (fun wz hz=>Blk.cell (Blk.ext d_hbm hz) rfl)) rfl (Ar ‹_› rfl (Ap rfl) rfl (Ar ‹_› rfl (A4 Aa rfl rfl rfl rfl (by omega) (by omega)) rfl (Ar ‹_› rfl (BF Aa rfl rfl rfl (fun wz hz=>(Row.ext d_r2 hz)) rfl) rfl (Ar ‹_› rfl (Aq Aa rfl rfl rfl) rfl (Ar ‹_› rfl (Al Aa rfl rfl rfl (fun wz hz=>Blk.cell (Blk.ext d_hbm hz) rfl)) rfl ?_)))))))))))
           refine Ar ‹_› rfl (A4 Aa rfl rfl rfl rfl (by omega) (by omega)) rfl (Ar ‹_› rfl (Ef [_,_,_,_] Aa rfl rfl rfl (fun wz hz=>(Row.ext d_r1 hz)) rfl rfl) rfl (Ar ‹_› rfl (A4 Aa rfl rfl rfl rfl (by omega) (by omega)) rfl (Ei rfl (Cz (sh:=ndShape) (j:=0) (z:=y) (us:=[_,_,_,_]) Aa rfl rfl rfl rfl rfl rfl ‹_› (by omega) (Or.inl (by omega)) ⟨_,_,rfl,by assumption⟩) (Cf ?_))));rintro _ wg9 ⟨hg6,⟨fg7,hg8⟩⟩;revert qtg4 hb8 X;refine eZ fg7 ?_;intro zg10 qtg4 hb8 X;clear hA;revert sx sy;refine eF fg7 ?_;intro sx sy;revert hb1 hbm;refine eF fg7 ?_;intro hb1 hbm;refine ⟨by assumption,?_⟩;refine Eh rfl (C1 Pi (Br (Cz (sh:=ndShape) (j:=((xs.length:Int)-1).toNat) (z:=x) (us:=[_,_,_,_]) Aa rfl rfl rfl rfl rfl rfl ‹_› (by rw [List.length_set];omega) (Or.inl (by omega)) ⟨_,_,rfl,by assumption⟩) (Cf ?_)));rintro _ wg14 ⟨hg11,⟨fg12,hg13⟩⟩;have zg15:=fg12.size;revert hb8 X sx sy hb1 hbm;refine eF fg12 ?_;intro hb8 X sx sy hb1 hbm;refine eK ?_;refine Ae [_,_,_,_] Aa rfl rfl rfl hbm rfl rfl rfl (eS [_,_,_,_] hb8 ?_);intro wg16 hg20 fg18 zg19;revert hg11 X sx sy hb1 hbm;refine eF fg18 ?_;intro hg11 X sx sy hb1 hbm
           refine eK ?_;refine AZ rfl Aa rfl rfl rfl hg20 rfl ?_;rotate_left
          exact DL hsl (ArrS.wide ‹_› (by omega)) (by omega) (by omega) X
        · focus
           refine eK ?_;refine C1 (Bs rfl rfl (IntWalk.i64_in _ (by omega))) ?_;refine eK ?_;refine FR (fun wz=>Ext w3 wz) (fun wz=>Fr (fun x=>x=g) w3 wz) [2,3,4,15,16,17] [2,3,4] 15 16 (.free 2 (.free 3 (.free 4 (.pure 0 (.pure 1 (.pure 5 (.pure 6 (.pure 7 (.pure 8 (.pure 9 (.pure 10 (.pure 11 (.pure 12 (.pure 13 (.pure 14 (.put 15 (.tail 16))))))))))))))))) (fun _ h=>Fr.of_ext h) mixed (by kernel_rfl) (Ao (Ac Ak)) ?_;intro wh1 xh2 _;have qsh3:(fun wz=>Ext w3 wz) wh1:=xh2;simp only at qsh3;have qth4:(fun wz=>Fr (fun x=>x=g) w3 wz) wh1:=Fr.of_ext xh2;simp only at qth4;have d_hb8:=hb8;have d_hA:=hA;have d_sx:=sx;have d_sy:=sy;have d_r1:=r1;have d_r2:=r2;have d_hb1:=hb1;have d_hbm:=hbm;revert hb8 X hA sx sy r1 r2 hb1 hbm;refine eY xh2 ?_;intro zh5 hb8 X hA sx sy r1 r2 hb1 hbm;refine BI ‹_› rfl (Aq Aa rfl rfl rfl) rfl (BI ‹_› rfl (Al Aa rfl rfl rfl (fun wz hz=>Blk.cell (Blk.fr d_hbm hz (by omega)) rfl)) rfl (BI ‹_› rfl (Ap rfl) rfl (Ar ‹_› rfl (Aq Aa rfl rfl rfl) rfl (Ar ‹_› rfl (Al Aa rfl rfl rfl (fun wz hz=>Blk.cell (Blk.ext d_hbm hz) rfl)) rfl (Ar ‹_› rfl (Aq Aa rfl rfl rfl) rfl (Ar ‹_› rfl (Al Aa rfl rfl rfl (fun wz hz=>Blk.cell (Blk.ext d_hbm hz) rfl)) rfl (Ar ‹_› rfl (Ap rfl) rfl (Ar ‹_› rfl (A4 Aa rfl rfl rfl rfl (by omega) (by omega)) rfl (Ar ‹_› rfl (BF Aa rfl rfl rfl (fun wz hz=>(Row.ext d_r2 hz)) rfl) rfl (Ar ‹_› rfl (Aq Aa rfl rfl rfl) rfl (Ar ‹_› rfl (Al Aa rfl rfl rfl (fun wz hz=>Blk.cell (Blk.ext d_hbm hz) rfl)) rfl ?_)))))))))))
           refine Ar ‹_› rfl (A4 Aa rfl rfl rfl rfl (by omega) (by omega)) rfl (Ar ‹_› rfl (Ef [_,_,_,_] Aa rfl rfl rfl (fun wz hz=>(Row.ext d_r1 hz)) rfl rfl) rfl (Ar ‹_› rfl (A4 Aa rfl rfl rfl rfl (by omega) (by omega)) rfl (Ei rfl (Cz (sh:=ndShape) (j:=0) (z:=y) (us:=[_,_,_,_]) Aa rfl rfl rfl rfl rfl rfl ‹_› (by omega) (Or.inl (by omega)) ⟨_,_,rfl,by assumption⟩) (Cf ?_))));rintro _ wh9 ⟨hh6,⟨fh7,hh8⟩⟩;revert qth4 hb8 X;refine eZ fh7 ?_;intro zh10 qth4 hb8 X;clear hA;revert sx sy;refine eF fh7 ?_;intro sx sy;revert hb1 hbm;refine eF fh7 ?_;intro hb1 hbm;refine ⟨by assumption,?_⟩;refine Eh rfl (C1 Pi (Br (Cz (sh:=ndShape) (j:=((xs.length:Int)-1).toNat) (z:=x) (us:=[_,_,_,_]) Aa rfl rfl rfl rfl rfl rfl ‹_› (by rw [List.length_set];omega) (Or.inl (by omega)) ⟨_,_,rfl,by assumption⟩) (Cf ?_)));rintro _ wh14 ⟨hh11,⟨fh12,hh13⟩⟩;have zh15:=fh12.size;revert hb8 X sx sy hb1 hbm;refine eF fh12 ?_;intro hb8 X sx sy hb1 hbm;refine eK ?_;refine Ae [_,_,_,_] Aa rfl rfl rfl hbm rfl rfl rfl (eS [_,_,_,_] hb8 ?_);intro wh16 hh20 fh18 zh19;revert hh11 X sx sy hb1 hbm;refine eF fh18 ?_;intro hh11 X sx sy hb1 hbm
           refine eK ?_;refine AZ rfl Aa rfl rfl rfl hh20 rfl ?_;rotate_left
          exact DL hsl (ArrS.wide ‹_› (by omega)) (by omega) (by omega) X
        · focus
           refine eK ?_;refine C1 (Bs rfl rfl (IntWalk.i64_in _ (by omega))) ?_;refine eK ?_;refine FR (fun wz=>Ext w3 wz) (fun wz=>Fr (fun x=>x=g) w3 wz) [2,3,4,15,16,17] [2,3,4] 15 16 (.free 2 (.free 3 (.free 4 (.pure 0 (.pure 1 (.pure 5 (.pure 6 (.pure 7 (.pure 8 (.pure 9 (.pure 10 (.pure 11 (.pure 12 (.pure 13 (.pure 14 (.put 15 (.tail 16))))))))))))))))) (fun _ h=>Fr.of_ext h) mixed (by kernel_rfl) (Ao (Ac Ak)) ?_;intro wi1 xi2 _;have qsi3:(fun wz=>Ext w3 wz) wi1:=xi2;simp only at qsi3;have qti4:(fun wz=>Fr (fun x=>x=g) w3 wz) wi1:=Fr.of_ext xi2;simp only at qti4;have d_hb8:=hb8;have d_hA:=hA;have d_sx:=sx;have d_sy:=sy;have d_r1:=r1;have d_r2:=r2;have d_hb1:=hb1;have d_hbm:=hbm;revert hb8 X hA sx sy r1 r2 hb1 hbm;refine eY xi2 ?_;intro zi5 hb8 X hA sx sy r1 r2 hb1 hbm;refine BI ‹_› rfl (Aq Aa rfl rfl rfl) rfl (BI ‹_› rfl (Al Aa rfl rfl rfl (fun wz hz=>Blk.cell (Blk.fr d_hbm hz (by omega)) rfl)) rfl (BI ‹_› rfl (Ap rfl) rfl (Ar ‹_› rfl (Aq Aa rfl rfl rfl) rfl (Ar ‹_› rfl (Al Aa rfl rfl rfl (fun wz hz=>Blk.cell (Blk.ext d_hbm hz) rfl)) rfl (Ar ‹_› rfl (Aq Aa rfl rfl rfl) rfl (Ar ‹_› rfl (Al Aa rfl rfl rfl (fun wz hz=>Blk.cell (Blk.ext d_hbm hz) rfl)) rfl (Ar ‹_› rfl (Ap rfl) rfl (Ar ‹_› rfl (A4 Aa rfl rfl rfl rfl (by omega) (by omega)) rfl (Ar ‹_› rfl (BF Aa rfl rfl rfl (fun wz hz=>(Row.ext d_r2 hz)) rfl) rfl (Ar ‹_› rfl (Aq Aa rfl rfl rfl) rfl (Ar ‹_› rfl (Al Aa rfl rfl rfl (fun wz hz=>Blk.cell (Blk.ext d_hbm hz) rfl)) rfl ?_)))))))))))
           refine Ar ‹_› rfl (A4 Aa rfl rfl rfl rfl (by omega) (by omega)) rfl (Ar ‹_› rfl (Ef [_,_,_,_] Aa rfl rfl rfl (fun wz hz=>(Row.ext d_r1 hz)) rfl rfl) rfl (Ar ‹_› rfl (A4 Aa rfl rfl rfl rfl (by omega) (by omega)) rfl (Ei rfl (Cz (sh:=ndShape) (j:=0) (z:=y) (us:=[_,_,_,_]) Aa rfl rfl rfl rfl rfl rfl ‹_› (by omega) (Or.inl (by omega)) ⟨_,_,rfl,by assumption⟩) (Cf ?_))));rintro _ wi9 ⟨hi6,⟨fi7,hi8⟩⟩;revert qti4 hb8 X;refine eZ fi7 ?_;intro zi10 qti4 hb8 X;clear hA;revert sx sy;refine eF fi7 ?_;intro sx sy;revert hb1 hbm;refine eF fi7 ?_;intro hb1 hbm;refine ⟨by assumption,?_⟩;refine Eh rfl (C1 Pi (Br (Cz (sh:=ndShape) (j:=((xs.length:Int)-1).toNat) (z:=x) (us:=[_,_,_,_]) Aa rfl rfl rfl rfl rfl rfl ‹_› (by rw [List.length_set];omega) (Or.inl (by omega)) ⟨_,_,rfl,by assumption⟩) (Cf ?_)));rintro _ wi14 ⟨hi11,⟨fi12,hi13⟩⟩;have zi15:=fi12.size;revert hb8 X sx sy hb1 hbm;refine eF fi12 ?_;intro hb8 X sx sy hb1 hbm;refine eK ?_;refine Ae [_,_,_,_] Aa rfl rfl rfl hbm rfl rfl rfl (eS [_,_,_,_] hb8 ?_);intro wi16 hi20 fi18 zi19;revert hi11 X sx sy hb1 hbm;refine eF fi18 ?_;intro hi11 X sx sy hb1 hbm
           refine eK ?_;refine AZ rfl Aa rfl rfl rfl hi20 rfl ?_;rotate_left
          exact DL hsl (ArrS.wide ‹_› (by omega)) (by omega) (by omega) X
      · rw [if_neg k5]
        generalize l.map (De q k)=xs at *
        have k52 : ¬k=52:=fun e=>k5 (Or.inl e)
        have k53 : ¬k=53:=fun e=>k5 (Or.inr (Or.inl e))
        have k54 : ¬k=54:=fun e=>k5 (Or.inr (Or.inr e))
        by_cases k6:k=50∨k=51
        · rw [if_pos k6]
          cases q
          · simp only [Bool.false_eq_true,if_false]
            rcases k6 with rfl|rfl
            · focus
               refine eK ?_;refine C1 (Bs rfl rfl (IntWalk.i64_in _ (by omega))) ?_;refine eK ?_;refine cC rfl (GH _ _ (by omega) (by omega)) ?_;rintro _ wj1 ⟨⟨⟩,rfl⟩;refine C1 Pg (eV [_] [_,_,_,_] hbm ?_);intro wj2 hj6 fj4 zj5;clear hbm;revert hb8 X hA hb1;refine eF fj4 ?_;intro hb8 X hA hb1;refine eK ?_;refine Ae [_,_,_,_] Aa rfl rfl rfl hj6 rfl rfl rfl (eS [_,_,_,_] hb8 ?_);intro wj7 hj11 fj9 zj10;revert hj6 X hA hb1;refine eF fj9 ?_;intro hj6 X hA hb1;refine eK ?_;refine AZ rfl Aa rfl rfl rfl hj11 rfl ?_;rotate_left
              exact DL hxl (ArrS.wide ‹_› (by omega)) (by omega) (by omega) X
            · focus
               refine eK ?_;refine C1 (Bs rfl rfl (IntWalk.i64_in _ (by omega))) ?_;refine eK ?_;refine cC rfl (GH _ _ (by omega) (by omega)) ?_;rintro _ wk1 ⟨⟨⟩,rfl⟩;refine C1 Pg (eV [_] [_,_,_,_] hbm ?_);intro wk2 hk6 fk4 zk5;clear hbm;revert hb8 X hA hb1;refine eF fk4 ?_;intro hb8 X hA hb1;refine eK ?_;refine Ae [_,_,_,_] Aa rfl rfl rfl hk6 rfl rfl rfl (eS [_,_,_,_] hb8 ?_);intro wk7 hk11 fk9 zk10;revert hk6 X hA hb1;refine eF fk9 ?_;intro hk6 X hA hb1;refine eK ?_;refine AZ rfl Aa rfl rfl rfl hk11 rfl ?_;rotate_left
              exact DL hxl (ArrS.wide ‹_› (by omega)) (by omega) (by omega) X
          · simp only [if_true]
            rcases k6 with rfl|rfl
            · focus
               refine eK ?_;refine C1 (Bs rfl rfl (IntWalk.i64_in _ (by omega))) ?_;refine eK ?_;refine Ae [_,_,_,_] Aa rfl rfl rfl hbm rfl rfl rfl (eS [_,_,_,_] hb8 ?_);intro wl1 hl5 fl3 zl4;revert X hA hbm hb1;refine eF fl3 ?_;intro X hA hbm hb1;refine eK ?_;refine AZ rfl Aa rfl rfl rfl hl5 rfl ?_;rotate_left
              exact DL hxl (ArrS.wide ‹_› (by omega)) (by omega) (by omega) X
            · focus
               refine eK ?_;refine C1 (Bs rfl rfl (IntWalk.i64_in _ (by omega))) ?_;refine eK ?_;refine Ae [_,_,_,_] Aa rfl rfl rfl hbm rfl rfl rfl (eS [_,_,_,_] hb8 ?_);intro wm1 hm5 fm3 zm4;revert X hA hbm hb1;refine eF fm3 ?_;intro X hA hbm hb1;refine eK ?_;refine AZ rfl Aa rfl rfl rfl hm5 rfl ?_;rotate_left
              exact DL hxl (ArrS.wide ‹_› (by omega)) (by omega) (by omega) X
        · rw [if_neg k6]
          have k50 : ¬k=50:=fun e=>k6 (Or.inl e)
          have k51 : ¬k=51:=fun e=>k6 (Or.inr e)
          focus
           refine eK ?_;refine C1 (Bs rfl rfl (IntWalk.i64_in _ (by omega))) ?_;refine eK ?_;refine cC rfl (GH _ _ (by omega) (by omega)) ?_;rintro _ wn1 ⟨⟨⟩,rfl⟩;refine C1 Pg (eV [_] [_,_,_,_] hbm ?_);intro wn2 hn6 fn4 zn5;clear hbm;revert hb1 hb8 X hA;refine eF fn4 ?_;intro hb1 hb8 X hA;refine eK ?_;refine Ae [_,_,_,_] Aa rfl rfl rfl hn6 rfl rfl rfl (eS [_,_,_,_] hb8 ?_);intro wn7 hn11 fn9 zn10;revert hn6 hb1 X hA;refine eF fn9 ?_;intro hn6 hb1 X hA;refine eK ?_;refine AZ rfl Aa rfl rfl rfl hn11 rfl ?_;rotate_left
          exact DL hxl (ArrS.wide ‹_› (by omega)) (by omega) (by omega) X
structure OwnM {α:Type} (sh:Shape α) (w:World) (R:Nat→Prop) (B:Nat) (e:TypeId) (v:Value) (xs:List α):Prop where
 ex : ∃css:List (List Value),Own w B e sh.sz v xs.length css.flatten∧css.length=xs.length ∧ ∀(i:Nat) (x:α) (cs:List Value),xs[i]? = some x→css[i]? = some cs→sh.rep w (fun b=>(R b∨B≤b)∧v.ownBlock≠some b) x cs
section
variable {α:Type} {sh:Shape α} {R:Nat→Prop} {B e:Nat} {w w':World} {v:Value} {xs:List α}
theorem OwnM.nil:OwnM sh w R B e (.slice none 0 0) []:=⟨⟨[],Own.nil,rfl,by simp⟩⟩
theorem OwnM.ge (h:OwnM sh w R B e v xs) {k:Nat} (hk:v.ownBlock=some k):B≤k:=by
 obtain ⟨css,h1,-⟩:=h.ex
 exact h1.ge hk
theorem OwnM.lt (h:OwnM sh w R B e v xs) {k:Nat} (hk:v.ownBlock=some k):k<w.heap.size:=by
 obtain ⟨css,h1,-⟩:=h.ex
 exact (h1.blk hk).2
theorem OwnM.ext (h:OwnM sh w R B e v xs) (x:Ext w w'):OwnM sh w' R B e v xs:=by
 obtain ⟨css,h1,h2,h3⟩:=h.ex
 exact ⟨css,h1.ext x,h2,fun i y cs hy hc=>sh.mono (h3 i y cs hy hc) (fun _ h=>h) (fun b o u _ hu=>x.keep hu)⟩
instance  : LfE w w' (OwnM sh w R B e v xs) (OwnM sh w' R B e v xs):=⟨fun x h=>Bk.OwnM.ext h x⟩
theorem OwnM.fr {S:Nat→Prop} (h:OwnM sh w R B e v xs) (x:Fr S w w') (hs : ∀k,S k → ¬R k∧k<B):OwnM sh w' R B e v xs:=by
 obtain ⟨css,h1,h2,h3⟩:=h.ex
 exact ⟨css,h1.fr x (fun k hk hS=>by have:=h1.ge hk;have:=(hs k hS).2;omega),h2,fun i y cs hy hc=>sh.mono (h3 i y cs hy hc) (fun _ h=>h) (fun b o u hb hu=>x.keep (fun hS=>by
  obtain ⟨h1,h2⟩:=hs b hS
  rcases hb.1 with h|h
  · exact h1 h
  · omega) hu)⟩
instance {S:Nat→Prop}:LfF S w w' (OwnM sh w R B e v xs) (∀k,S k → ¬R k∧k<B) (OwnM sh w' R B e v xs):=⟨fun x s h=>Bk.OwnM.fr h x s⟩
theorem OwnM.rows (h:OwnM sh w R B e v xs) (hx:xs≠[]) : ∃g cap,v = .slice (some ⟨g,0,none⟩) xs.length cap∧B≤g ∧ ∀(i:Nat) (x:α),xs[i]? = some x → ∃cs,Row w ⟨g,i*sh.sz,none⟩ cs∧sh.rep w (fun b=>R b∨B≤b) x cs:=by
 obtain ⟨css,h1,h2,h3⟩:=h.ex
 rcases h1.row with ⟨rfl,hn,-⟩|⟨g,cap,rfl,hg,hob,hr⟩
 · exact absurd (List.length_eq_zero_iff.1 hn) hx
 · refine ⟨g,cap,rfl,hg,fun i x hi=>?_⟩
   have hlt:i<xs.length:=by
    rcases Nat.lt_or_ge i xs.length with h|h
    · exact h
    · rw [List.getElem?_eq_none h] at hi;cases hi
   have hc:css[i]? = some css[i]:=List.getElem?_eq_getElem (by omega)
   have hlen : ∀cs∈css,cs.length=sh.sz:=fun cs hcs=>by
    obtain ⟨k,hk,rfl⟩:=List.mem_iff_getElem.1 hcs
    exact sh.len (h3 k xs[k] css[k] (List.getElem?_eq_getElem (by omega)) (List.getElem?_eq_getElem hk))
   obtain ⟨e1,e2⟩:=Gm hlen (show i<css.length by omega);refine ⟨css[i],fun j u hj=>?_,sh.mono (h3 i x _ hi hc) (fun _ h=>h.1) (fun _ _ _ _ h=>h)⟩
   have hjl:j<css[i].length:=by
    rcases Nat.lt_or_ge j css[i].length with h|h
    · exact h
    · rw [List.getElem?_eq_none h] at hj;cases hj
   have hget:css.flatten[i*sh.sz+j]? = some u:=by
    rw [e1,List.append_assoc,List.getElem?_append_right (by omega),e2,Nat.add_sub_cancel_left,List.getElem?_append_left hjl]
    exact hj
   have:=hr.at (i:=i*sh.sz+j) hget
   have e:(⟨g,i*sh.sz,none⟩:Addr).add j=⟨g,0+(i*sh.sz+j),none⟩:=by unfold Addr.add;by_cases h0:j=0<;>simp [h0]
   rw [e];exact this
theorem OwnM.slice (h:OwnM sh w R B e v xs) : ∃a cap,v = .slice a xs.length cap:=by
 obtain ⟨css,h1,h2,h3⟩:=h.ex
 rcases h1.row with ⟨rfl,hn,-⟩|⟨g,cap,rfl,-⟩
 · exact ⟨none,0,by rw [hn]⟩
 · exact ⟨_,_,rfl⟩
end
theorem OwnM.sits {w:World} {R:Nat→Prop} {B e:Nat} {a:Option Addr} {len cap:Nat} {xs:List Nd} {S:Nat→Prop} (h:OwnM ndShape w R B e (.slice a len cap) xs) (hS : ∀b,R b∨B≤b→S b):rowSits S w xs a:=by
 by_cases hx:xs=[]
 · subst hx;simp [rowSits]
 · obtain ⟨g,cap',hv,hg,hall⟩:=h.rows hx
   simp only [Value.slice.injEq] at hv;obtain ⟨rfl,-,-⟩:=hv;refine DD (hS g (Or.inr hg)) xs 0 (fun i x hi=>?_);obtain ⟨cs,hr,a,c,rfl,hs⟩:=hall i x hi
   exact ⟨a,c,by simpa [ndShape] using hr,Nd.sits_mono (fun b hb=>hS b hb) (fun _ _ _ _ h=>h) _ _ hs⟩
def ShareR (S:Nat→Prop) (u:Nd) (w:World):Ending→World→Prop:=fun e w'=> ∃a c,e = .returned (u.val a c)∧u.sits (fun b=>S b∨w.heap.size≤b) w' a∧Ext w w'
theorem ShareR.ret {S:Nat→Prop} {u:Nd} {w:World} {e:Ending} {w':World} (h:ShareR S u w e w') : ∃v,e = .returned v:=by
 obtain ⟨_,_,h,-⟩:=h
 exact ⟨_,h⟩
section
variable {ts:List Tok} {n:Int}
structure Le (ts:List Tok) (σ σ':PS):Prop where
 le:σ.at_≤σ'.at_
 wf:σ'.at_≤ts.length
 err:σ.err≠0→σ'=σ
def Lt (σ σ':PS):Prop:=σ'.err=0→σ.at_<σ'.at_
theorem Le.refl {σ:PS} (h:σ.at_≤ts.length):Le ts σ σ:=⟨Nat.le_refl _,h,fun _=>rfl⟩
theorem Le.trans {a b c:PS} (h:Le ts a b) (k:Le ts b c):Le ts a c:=⟨Nat.le_trans h.le k.le,k.wf,fun e=>by rw [k.err (by rw [h.err e];exact e),h.err e]⟩
theorem Le.ok {a b:PS} (h:Le ts a b) (e:b.err=0):a.err=0:=by
 rcases Int.lt_trichotomy a.err 0 with h'|h'|h'
 · have:=h.err (by omega);rw [this] at e;exact e
 · exact h'
 · have:=h.err (by omega);rw [this] at e;exact e
theorem Lt.of_lt {a b c:PS} (h:Lt a b) (k:Le ts b c):Lt a c:=fun e=>Nat.lt_of_lt_of_le (h (k.ok e)) k.le
theorem Lt.of_le {a b c:PS} (h:Le ts a b) (k:Lt b c):Lt a c:=fun e=>Nat.lt_of_le_of_lt h.le (k e)
theorem Si {σ:PS} (h:σ.err≠0):AN ts σ=Tok.zero:=by unfold AN;rw [if_pos (Or.inl h)]
theorem Sj {σ:PS} (h:σ.at_=ts.length):AN ts σ=Tok.zero:=by unfold AN;rw [if_pos (Or.inr h)]
theorem Du {σ:PS} (hw:σ.at_≤ts.length) (h:(AN ts σ).text≠[]∨(AN ts σ).kind≠0):σ.err=0∧σ.at_<ts.length:=by
 by_cases h1:σ.err=0
 · by_cases h2:σ.at_=ts.length
   · rw [Sj h2] at h;simp [Tok.zero] at h
   · exact ⟨h1,by omega⟩
 · rw [Si h1] at h;simp [Tok.zero] at h
theorem Co {σ:PS} {t:List UInt8} (hw:σ.at_≤ts.length) (h:Dh ts σ t=true) (ht:t≠[]):σ.err=0∧σ.at_<ts.length:=by
 unfold Dh at h
 have:=of_decide_eq_true h
 exact Du hw (Or.inl (by rw [this];exact ht))
theorem Bm {σ:PS} (h:σ.err=0∧σ.at_<ts.length):Le ts σ (AD σ):=⟨Nat.le_succ _,h.2,fun e=>absurd h.1 e⟩
theorem next_lt {σ:PS}:Lt σ (AD σ):=fun _=>Nat.lt_succ_self _
theorem Iz {σ:PS} (h:σ.at_≤ts.length) (off e:Int):Le ts σ (CT σ off e):=by
 unfold CT
 split
 · rename_i h0;exact ⟨Nat.le_refl _,h,fun e=>absurd h0 e⟩
 · exact Le.refl h
theorem Nv {σ:PS} {off e:Int} (he:e≠0):(CT σ off e).err≠0:=by
 unfold CT
 split
 · exact he
 · assumption
theorem GI {σ:PS} (h:σ.at_≤ts.length):Le ts σ (DA ts n σ):=by
 unfold DA;split<;>exact Iz h _ _
theorem Q3 {σ:PS}:(DA ts n σ).err≠0:=by
 unfold DA;split<;>exact Nv (by decide)
theorem Km {σ:PS}:Lt σ (DA ts n σ):=fun e=>absurd e Q3
theorem A3 {σ:PS} {t:List UInt8} (h:σ.at_≤ts.length) (ht:t≠[]):Le ts σ (A1 ts n σ t):=by
 unfold A1
 split
 · rename_i hh;exact Bm (Co h hh ht)
 · exact GI h
theorem D5 {σ:PS} {t:List UInt8}:Lt σ (A1 ts n σ t):=by
 unfold A1
 split
 · exact next_lt
 · exact Km
theorem LM {s:List UInt8} (h:Cu s=true):s≠[]:=by
 intro e;subst e;simp [Cu] at h
theorem BT {σ:PS} (h:σ.at_≤ts.length):Le ts σ (BJ ts n σ).2:=by
 unfold BJ
 split
 · rename_i hh;exact Bm (Du h (Or.inl (LM hh)))
 · exact GI h
theorem T5 {σ:PS}:Lt σ (BJ ts n σ).2:=by
 unfold BJ
 split
 · exact next_lt
 · exact Km
theorem LN {σ:PS} {a b:Int} (h:σ.at_≤ts.length):Le ts σ (CF ts n a b σ).2:=by
 unfold CF
 split
 · rename_i hh
   have hn:=Du h (Or.inr (by rw [hh];decide))
   split
   · exact Bm hn
   · exact (Bm hn).trans (Iz (Bm hn).wf _ _)
 · exact GI h
theorem Q4 {σ:PS} {a b:Int}:Lt σ (CF ts n a b σ).2:=by
 unfold CF
 split
 · split
   · exact next_lt
   · exact fun e=>absurd e (Nv (by decide))
 · exact Km
theorem Kn {t:List UInt8} {op:Int} (h:Lz t=some op):t≠[]∧8≤op∧op≤23∧Fh op=t:=by
 unfold Lz at h
 have h1:=List.find?_some h;have h2:=List.mem_of_find?_eq_some h;have h3:=of_decide_eq_true h1;simp only [List.mem_cons,List.not_mem_nil,or_false] at h2;refine ⟨?_,by omega,by omega,h3⟩;rintro rfl
 rcases h2 with rfl|rfl|rfl|rfl|rfl|rfl|rfl|rfl|rfl|rfl|rfl|rfl|rfl|rfl|rfl|rfl<;>exact absurd h3 (by decide)
theorem GJ (k:Nat):(∀lv σ,σ.at_≤ts.length→Le ts σ (Cl ts n k lv σ).2∧(4≤k→Lt σ (Cl ts n k lv σ).2))∧(∀lv x σ,σ.at_≤ts.length→Le ts σ (Dd ts n k lv x σ).2) ∧
 (∀ σ,σ.at_≤ts.length→Le ts σ (BL ts n k σ).2∧(3≤k→Lt σ (BL ts n k σ).2))∧(∀ σ,σ.at_≤ts.length→Le ts σ (BV ts n k σ).2∧(2≤k→Lt σ (BV ts n k σ).2)) ∧
 (∀ σ,σ.at_≤ts.length→Le ts σ (Cq ts n k σ).2∧(1≤k→Lt σ (Cq ts n k σ).2)):=by
 induction k with
 | zero=>
  refine ⟨fun lv σ h=>⟨?_,fun h=>by omega⟩,fun lv x σ h=>?_,fun σ h=>⟨?_,fun h=>by omega⟩,fun σ h=>⟨?_,fun h=>by omega⟩,fun σ h=>⟨?_,fun h=>by omega⟩⟩
  · rw [Cl];exact Le.refl h
  · rw [Dd];exact Le.refl h
  · rw [BL];exact Le.refl h
  · rw [BV];exact Le.refl h
  · rw [Cq];exact Le.refl h
 | succ k ih=>
  obtain ⟨iE,iC,iU,iP,iL⟩:=ih;refine ⟨fun lv σ h=>?_,fun lv x σ h=>?_,fun σ h=>?_,fun σ h=>?_,fun σ h=>?_⟩
  · rw [Cl]
    have hu:=iU σ h;have hc:=iC lv (BL ts n k σ).1 (BL ts n k σ).2 hu.1.wf
    exact ⟨hu.1.trans hc,fun hk=>(hu.2 (by omega)).of_lt hc⟩
  · rw [Dd]
    split
    · exact Le.refl h
    · rename_i op hop
      obtain ⟨hne,-⟩:=Kn hop;have hn:=Du h (Or.inl hne)
      split
      · exact Le.refl h
      · have h1:=Bm hn
        have h2:=iE (Dz op+1) (AD σ) h1.wf
        exact (h1.trans h2.1).trans (iC _ _ _ h2.1.wf)
  · rw [BL]
    split
    · rename_i hh
      have hn:=Co h hh (by decide);have h1:=Bm hn;have h2:=iU (AD σ) h1.wf
      exact ⟨h1.trans h2.1,fun _=>next_lt.of_lt h2.1⟩
    · split
      · rename_i hh
        have hn:=Co h hh (by decide);have h1:=Bm hn;have h2:=iU (AD σ) h1.wf
        exact ⟨h1.trans h2.1,fun _=>next_lt.of_lt h2.1⟩
      · exact ⟨(iP σ h).1,fun hk=>(iP σ h).2 (by omega)⟩
  · rw [BV]
    split
    · exact ⟨LN h,fun _=>Q4⟩
    · split
      · rename_i hh
        have hn:=Co h hh (by decide);have h1:=Bm hn;have h2:=h1.trans (A3 (n:=n) (t:=[40]) h1.wf (by decide));have h3:=h2.trans (BT (n:=n) h2.wf);have h4:=h3.trans (A3 (n:=n) (t:=[41]) h3.wf (by decide))
        exact ⟨h4,fun _=>Lt.of_le (ts:=ts) h3 D5⟩
      · split
        · rename_i hh
          have hn:=Co h hh (by decide);have h1:=Bm hn;have h2:=h1.trans (A3 (n:=n) (t:=[40]) h1.wf (by decide));have h3:=h2.trans (BT (n:=n) h2.wf);have h4:=h3.trans (A3 (n:=n) (t:=[41]) h3.wf (by decide))
          exact ⟨h4,fun _=>Lt.of_le (ts:=ts) h3 D5⟩
        · split
          · rename_i hh
            have hn:=Co h hh (by decide);have h1:=Bm hn;have h2:=h1.trans (iE 1 (AD σ) h1.wf).1
            exact ⟨h2.trans (A3 h2.wf (by decide)),fun _=>Lt.of_le (ts:=ts) h2 D5⟩
          · exact ⟨(iL σ h).1,fun hk=>(iL σ h).2 (by omega)⟩
  · rw [Cq]
    have h0:=BT (n:=n) h
    split
    · rename_i hh
      have hn:=Co h0.wf hh (by decide);have h1:=h0.trans (Bm hn);have h2:=h1.trans (iE 1 _ h1.wf).1
      exact ⟨h2.trans (A3 h2.wf (by decide)),fun _=>Lt.of_le (ts:=ts) h2 D5⟩
    · exact ⟨h0,fun _=>T5⟩
end
structure PC where
 pb:Nat
 B:Nat
 ts:List Tok
 n:Int
 a:Option Addr
 cap:Nat
 r:Nat
abbrev Tok.cells (t:Tok):List Value:=[.int .u8 t.kind,str t.text,.int .i64 t.pos]
abbrev Tok.val (t:Tok):Value:=.agg #[.int .u8 t.kind,str t.text,.int .i64 t.pos]
def Sm (w:World) (b o:Nat) (t:Tok):Prop:=Row w ⟨b,o,none⟩ t.cells
def binMap:List (List UInt8×Value):=[8,9,10,11,12,13,14,15,16,17,18,19,20,21,22,23].map fun k=>(Fh k,.int .u8 k)
abbrev PC.cells (c:PC) (σ:PS):List Value:=[.slice c.a c.ts.length c.cap,.int .i64 σ.at_,.int .i64 c.n,.map (some c.r),.int .i64 σ.off,.int .i64 σ.err]
structure Errs (w:World):Prop where
 ex : ∃te pe,w.cell? ⟨3,0,none⟩=some (.iface te pe)
theorem Errs.ext {w w':World} (h:Errs w) (x:Ext w w'):Errs w':=by
 obtain ⟨te,pe,h⟩:=h.ex
 exact ⟨te,pe,x.keep h⟩
instance {w w':World}:LfE w w' (Errs w) (Errs w'):=⟨fun x h=>Bk.Errs.ext h x⟩
theorem Errs.fr {S:Nat→Prop} {w w':World} (h:Errs w) (x:Fr S w w') (hs : ¬S 3):Errs w':=by
 obtain ⟨te,pe,h⟩:=h.ex
 exact ⟨te,pe,x.keep hs h⟩
instance {S:Nat→Prop} {w w':World}:LfF S w w' (Errs w) (¬S 3) (Errs w'):=⟨fun x s h=>Bk.Errs.fr h x s⟩
structure PP (c:PC) (σ:PS) (w:World):Prop where
 blk:Blk w c.pb (c.cells σ)
 toks:Arr (fun b=>b<c.B∧b≠c.pb) 3 Sm w c.ts c.a
 map:MapIs w c.r binMap
 pbB:c.pb<c.B
 rB:c.r<c.B
 rne:c.r≠c.pb
 B:c.B≤w.heap.size
 at_:σ.at_≤c.ts.length
 len:c.ts.length≤1000000
 tok : ∀t∈c.ts,t.text.length≤1000000
 num : ∀t∈c.ts,t.kind=2→t.text≠[] ∧ ∀x∈t.text,C8 x=true
 errs:Errs w
 gl:3<c.pb
theorem PP.ext {c:PC} {σ:PS} {w w':World} (h:PP c σ w) (x:Ext w w'):PP c σ w':=
 ⟨h.blk.ext x,h.toks.mono (fun _ h=>h) (fun _ _ _ _ _ h=>Row.ext h x),h.map.ext x,h.pbB,h.rB,h.rne,Nat.le_trans h.B x.size,h.at_,h.len,h.tok,h.num,h.errs.ext x,h.gl⟩
instance {c:PC} {σ:PS} {w w':World}:LfE w w' (PP c σ w) (PP c σ w'):=⟨fun x h=>Bk.PP.ext h x⟩
theorem PP.fr {c:PC} {σ:PS} {S:Nat→Prop} {w w':World} (h:PP c σ w) (x:Fr S w w') (hs : ∀k,S k→c.B≤k):PP c σ w':=
 ⟨h.blk.fr x (fun e=>by have:=hs _ e;have:=h.pbB;omega),h.toks.mono (fun _ h=>h) (fun b _ _ _ hb h=>Row.fr h x (fun e=>by have h1:=hs _ e;have h2:=hb.1;have h3:c.B≤b:=h1;omega)),h.map.fr x (fun e=>by have:=hs _ e;have:=h.rB;omega),h.pbB,h.rB,h.rne,Nat.le_trans h.B x.size,h.at_,h.len,h.tok,h.num,h.errs.fr x (fun e=>by have:=hs _ e;have:=h.gl;have:=h.pbB;omega),h.gl⟩
instance {c:PC} {σ:PS} {S:Nat→Prop} {w w':World}:LfF S w w' (PP c σ w) (∀k,S k→c.B≤k) (PP c σ w'):=⟨fun x s h=>Bk.PP.fr h x s⟩
theorem PP.put {c:PC} {σ σ':PS} {w w':World} (h:PP c σ w) (p:Put w w' c.pb (c.cells σ')) (ha:σ'.at_≤c.ts.length):PP c σ' w':=
 ⟨p.blk,h.toks.mono (fun _ h=>h) (fun b _ _ _ hb h=>Row.fr h p.fr (fun e=>hb.2 e)),h.map.fr p.fr (fun e=>h.rne e),h.pbB,h.rB,h.rne,Nat.le_trans h.B p.fr.size,ha,h.len,h.tok,h.num,h.errs.fr p.fr (fun e=>by have:=h.gl;have e':3=c.pb:=e;omega),h.gl⟩
section
variable {P:Program} {n:Nat} {ops:Array Oper} {Q:Exit→Act→World→Prop} {rest:List Oper} {l:Sl} {w:World} {tab:Tab} {ty:TypeId} {pos:String} {after:Array Edge}
theorem Sn {c:PC} {σ σ':PS} {x y:Operand} {t sz o:Nat} {s:Sk} {v:Value} (T:TabOk P tab) (ht:AL tab t=some (s,sz)) (hsz:sz=1) (hx:ev l x=some (.pointer (some ⟨c.pb,o,none⟩))) (hy:ev l y=some v) (hv:v.cells = #[v]) (h1:Value.one v=true) (hP:PP c σ w) (ho:Nat.ble (o+1) 6=true)
 (he:(c.cells σ).set o v=c.cells σ') (ha:σ'.at_≤c.ts.length) (k : ∀w1,PP c σ' w1→Fr (· = c.pb) w w1→LW P n ops Q rest l w1):LW P n ops Q (⟨none,.store t x y,ty,pos,after,none⟩::rest) l w:=
 Id T ht hx hy (us:=[v]) hv (by simp [hsz]) (by simp [h1]) hP.blk (by simpa using ho) (fun w1 p=>by
  have e:Bp (c.cells σ) o [v]=c.cells σ':=by simp only [Bp];exact he
  rw [e] at p
  exact k w1 (hP.put p ha) p.fr)
theorem Cd {c:PC} {σ:PS} {x y:Operand} {t sz:Nat} {s:Sk} (T:TabOk P tab) (ht:AL tab t=some (s,sz)) (hsz:sz=1) (hx:ev l x=some (.pointer (some ⟨c.pb,1,none⟩))) (hy:ev l y=some (.int .i64 ((σ.at_:Int)+1))) (hP:PP c σ w) (ha:σ.at_<c.ts.length)
 (k : ∀w1,PP c (AD σ) w1→Fr (· = c.pb) w w1→LW P n ops Q rest l w1):LW P n ops Q (⟨none,.store t x y,ty,pos,after,none⟩::rest) l w:=
 Sn (σ':=AD σ) T ht hsz hx hy rfl rfl hP rfl rfl ha k
theorem Q5 {c:PC} {σ:PS} {x y:Operand} {t sz:Nat} {s:Sk} {v:Int} (T:TabOk P tab) (ht:AL tab t=some (s,sz)) (hsz:sz=1) (hx:ev l x=some (.pointer (some ⟨c.pb,4,none⟩))) (hy:ev l y=some (.int .i64 v)) (hP:PP c σ w)
 (k : ∀w1,PP c ⟨σ.at_,v,σ.err⟩ w1→Fr (· = c.pb) w w1→LW P n ops Q rest l w1):LW P n ops Q (⟨none,.store t x y,ty,pos,after,none⟩::rest) l w:=
 Sn (σ':=⟨σ.at_,v,σ.err⟩) T ht hsz hx hy rfl rfl hP rfl rfl hP.at_ k
theorem Q6 {c:PC} {σ:PS} {x y:Operand} {t sz:Nat} {s:Sk} {v:Int} (T:TabOk P tab) (ht:AL tab t=some (s,sz)) (hsz:sz=1) (hx:ev l x=some (.pointer (some ⟨c.pb,5,none⟩))) (hy:ev l y=some (.int .i64 v)) (hP:PP c σ w)
 (k : ∀w1,PP c ⟨σ.at_,σ.off,v⟩ w1→Fr (· = c.pb) w w1→LW P n ops Q rest l w1):LW P n ops Q (⟨none,.store t x y,ty,pos,after,none⟩::rest) l w:=
 Sn (σ':=⟨σ.at_,σ.off,v⟩) T ht hsz hx hy rfl rfl hP rfl rfl hP.at_ k
end
theorem Ko {ts:List Tok} {σ:PS} (h:σ.err≠0∨σ.at_=ts.length):AN ts σ=Tok.zero:=by unfold AN;rw [if_pos h]
theorem Mn {ts:List Tok} {σ:PS} (h : ¬(σ.err≠0∨σ.at_=ts.length)) (hl:σ.at_<ts.length):AN ts σ=ts[σ.at_]:=by unfold AN;rw [if_neg h];simp [hl]
theorem BD (c:PC) (σ:PS) (w:World) (hP:PP c σ w) :
 Calls prog 75 #[.pointer (some ⟨c.pb,0,none⟩)] w fun e w'=>e = .returned (AN c.ts σ).val∧Ext w w':=by
 have hat:=hP.at_;have X:=Ext.refl w
 by_cases h:σ.err≠0∨σ.at_=c.ts.length
 · rw [Ko h]
   by_cases he:σ.err=0
   · have ha:σ.at_=c.ts.length:=h.resolve_left (fun e=>e he);refine Ad func75 ntmps75 rfl rfl ?_
     focus
      refine cS (eA [_,_,_] ?_);intro b1 w2 h5 x6 p7 z8;revert hP X;refine eE x6 ?_;intro hP X;refine eK ?_;refine Ax (fun wz=>Ext w2 wz) 15 (.pure 0 (.pure 1 (.pure 2 (.pure 3 (.pure 4 (.pure 5 (.pure 6 (.pure 7 (.pure 8 (.pure 9 (.pure 10 (.pure 11 (.pure 12 (.pure 13 (.pure 14 .tail))))))))))))))) mixed (by kernel_rfl) (Ac (Ac Ak)) ?_;intro w9 q _;have j:(fun wz=>Ext w2 wz) w9:=q;simp only at j;have F:=h5;have a:=hP;revert h5 hP X;refine eY q ?_;intro N h5 hP X;refine ⟨j,?_⟩;refine Tq rfl Mv (Tq rfl Pn (Tq rfl Pf (Tq rfl (Al Aa rfl rfl rfl (fun wz hz=>Blk.cell (Blk.ext (PP.blk a) hz) rfl)) (Tq rfl V2 (Tq rfl Mv (Bb rfl rfl rfl rfl (BB (by omega)) (Ap rfl) rfl (Bb rfl rfl rfl rfl (BB (by omega)) (A6 rfl) rfl (Bb rfl rfl rfl rfl (BB (by omega)) (Aq Aa rfl rfl rfl) rfl (Bb rfl rfl rfl rfl (BB (by omega)) (Al Aa rfl rfl rfl (fun wz hz=>Blk.cell (Blk.ext (PP.blk a) hz) rfl)) rfl (Bb rfl rfl rfl rfl (BB (by omega)) (Ap rfl) rfl (Bb rfl rfl rfl rfl (BB (by omega)) (A6 rfl) rfl ?_)))))))))));refine Bb rfl rfl rfl rfl (BB (by omega)) (AR Aa rfl rfl rfl) rfl (Bb rfl rfl rfl rfl (BB (by omega)) (Al Aa rfl rfl rfl (fun wz hz=>Blk.cell (Blk.ext (PP.blk a) hz) rfl)) rfl (Bb rfl rfl rfl rfl (BB (by omega)) (AS Aa rfl rfl) rfl ?_))
      refine Az rfl ?_;refine eK ?_;refine C1 (AC [_,_,_] Aa Bj rfl rfl rfl rfl) (eS [_,_,_] h5 ?_);intro O z A Q;clear h5 hP;replace X:=X.fr A (by omega);refine eK ?_;refine AZ rfl Aa rfl rfl rfl z rfl ?_;rotate_left
     exact ⟨rfl,X⟩
   · refine Ad func75 ntmps75 rfl rfl ?_
     focus
      refine cS (eA [_,_,_] ?_);intro R r d B S T;revert hP X;refine eE B ?_;intro hP X;refine eK ?_;refine Ax (fun wz=>Ext r wz) 15 (.pure 0 (.pure 1 (.pure 2 (.pure 3 (.pure 4 (.pure 5 (.pure 6 (.pure 7 (.pure 8 (.pure 9 (.pure 10 (.pure 11 (.pure 12 (.pure 13 (.pure 14 .tail))))))))))))))) mixed (by kernel_rfl) (Ac (Ac Ak)) ?_;intro C k _;have f:(fun wz=>Ext r wz) C:=k;simp only at f;have D:=d;have a:=hP;revert d hP X;refine eY k ?_;intro G d hP X;refine ⟨f,?_⟩;refine Tq rfl Mv (Tq rfl Pn (Tq rfl Pf (Tq rfl (Al Aa rfl rfl rfl (fun wz hz=>Blk.cell (Blk.ext (PP.blk a) hz) rfl)) (Tq rfl V2 (Tq rfl Mv (BC rfl rfl rfl rfl (Cw ‹_›) rfl (BC rfl rfl rfl rfl (Cw ‹_›) rfl (BC rfl rfl rfl rfl (Cw ‹_›) rfl (BC rfl rfl rfl rfl (Cw ‹_›) rfl (BC rfl rfl rfl rfl (Cw ‹_›) rfl (BC rfl rfl rfl rfl (Cw ‹_›) rfl ?_)))))))))));refine BC rfl rfl rfl rfl (Cw ‹_›) rfl (BC rfl rfl rfl rfl (Cw ‹_›) rfl (BC rfl rfl rfl rfl (Cw ‹_›) rfl ?_));refine Az rfl ?_;refine eK ?_;refine C1 (AC [_,_,_] Aa Bj rfl rfl rfl rfl) (eS [_,_,_] d ?_);intro H s t I;clear d hP;replace X:=X.fr t (by omega)
      refine eK ?_;refine AZ rfl Aa rfl rfl rfl s rfl ?_;rotate_left
     exact ⟨rfl,X⟩
 · have he:σ.err=0:=Decidable.byContradiction fun e=>h (Or.inl e)
   have hlt:σ.at_<c.ts.length:=by have:σ.at_≠c.ts.length:=fun e=>h (Or.inr e);omega
   rw [Mn h hlt];obtain ⟨tb,tof,hta,-,hrow⟩:=hP.toks.get (by omega);have hr:Row w ⟨tb,tof+σ.at_*3,none⟩ c.ts[σ.at_].cells:=hrow σ.at_ _ (List.getElem?_eq_getElem hlt);clear hrow;refine Ad func75 ntmps75 rfl rfl ?_
   focus
    refine cS (eA [_,_,_] ?_);intro U u b E V W;revert hP X hr;refine eE E ?_;intro hP X hr;refine eK ?_;refine Ax (fun wz=>Ext u wz) 15 (.pure 0 (.pure 1 (.pure 2 (.pure 3 (.pure 4 (.pure 5 (.pure 6 (.pure 7 (.pure 8 (.pure 9 (.pure 10 (.pure 11 (.pure 12 (.pure 13 (.pure 14 .tail))))))))))))))) mixed (by kernel_rfl) (Ac (Ac Ak)) ?_;intro o l _;have g:(fun wz=>Ext u wz) o:=l;simp only at g;have p:=b;have a:=hP;have v:=hr;revert b hP X hr;refine eY l ?_;intro J b hP X hr;refine ⟨g,?_⟩;refine Tq rfl Mv (Tq rfl Pn (Tq rfl Pf (Tq rfl (Al Aa rfl rfl rfl (fun wz hz=>Blk.cell (Blk.ext (PP.blk a) hz) rfl)) (Tq rfl V2 (Tq rfl Mv (Bb rfl rfl rfl rfl (BB (by omega)) (Ap rfl) rfl (Bb rfl rfl rfl rfl (BB (by omega)) (A6 rfl) rfl (Bb rfl rfl rfl rfl (BB (by omega)) (Aq Aa rfl rfl rfl) rfl (Bb rfl rfl rfl rfl (BB (by omega)) (Al Aa rfl rfl rfl (fun wz hz=>Blk.cell (Blk.ext (PP.blk a) hz) rfl)) rfl (Bb rfl rfl rfl rfl (BB (by omega)) (Ap rfl) rfl (Bb rfl rfl rfl rfl (BB (by omega)) (A6 rfl) rfl ?_)))))))))));refine Bb rfl rfl rfl rfl (BB (by omega)) (AR Aa rfl rfl rfl) rfl (Bb rfl rfl rfl rfl (BB (by omega)) (Al Aa rfl rfl rfl (fun wz hz=>Blk.cell (Blk.ext (PP.blk a) hz) rfl)) rfl (Bb rfl rfl rfl rfl (BB (by omega)) (AS Aa rfl rfl) rfl ?_))
    refine Az rfl ?_;refine eK ?_;refine Ax (fun wz=>Ext o wz) 8 (.pure 0 (.pure 1 (.pure 2 (.pure 3 (.pure 4 (.pure 5 (.pure 6 (.pure 7 .tail)))))))) mixed (by kernel_rfl) (Ac Ak) ?_;intro x m _;have i:(fun wz=>Ext o wz) x:=m;simp only at i;have p:=b;have a:=hP;have v:=hr;revert b hP X hr;refine eY m ?_;intro K b hP X hr;refine ⟨i,?_⟩;refine Tq rfl Mv (Tq rfl Pn (Tq rfl Pg (Tq rfl (Al Aa rfl rfl rfl (fun wz hz=>Blk.cell (Blk.ext (PP.blk a) hz) rfl)) (Tq rfl Mv (Tq rfl Pn (Tq rfl Pf (Tq rfl (Al Aa rfl rfl rfl (fun wz hz=>Blk.cell (Blk.ext (PP.blk a) hz) rfl)) ?_)))))));refine Az rfl (C1 (FQ Aa rfl rfl rfl ‹_› rfl (by omega) (by omega)) (C1 (Gb hr) (eS [_,_,_] b ?_)));intro L y n M;clear b hP;replace X:=X.fr n (by omega);clear hr n;refine eK ?_;refine AZ rfl Aa rfl rfl rfl y rfl ?_;rotate_left
   exact ⟨rfl,X⟩
theorem GK (c:PC) (σ:PS) (off e:Int) (w:World) (hP:PP c σ w) :
 Calls prog 116 #[.pointer (some ⟨c.pb,0,none⟩),.int .i64 off,.int .i64 e] w fun r w'=>r = .returned (.tuple #[])∧PP c (CT σ off e) w'∧Fr (· = c.pb) w w':=by
 have X:=Fr.refl (· = c.pb) w
 by_cases he:σ.err=0
 · rw [show CT σ off e=⟨σ.at_,off,e⟩ from by simp [CT,he]];refine Ad func116 ntmps116 rfl rfl ?_
   focus
    refine eK ?_;refine A2 Aa rfl rfl rfl (PP.blk hP) rfl rfl ?_;refine eK ?_;refine Q5 Aa rfl rfl rfl rfl hP ?_;rintro w1 h2 f3;have z4:=f3.size;clear hP;replace X:=X.fr f3 (by omega);refine eK ?_;refine Q6 Aa rfl rfl rfl rfl ‹_› ?_;rintro w5 h6 f7;have z8:=f7.size;replace X:=X.fr f7 (by omega);refine Aj (Bt rfl ?_);rotate_left
   exact ⟨rfl,by assumption,X⟩
 · rw [show CT σ off e=σ from by simp [CT,he]];refine Ad func116 ntmps116 rfl rfl ?_
   focus
    refine eK ?_;refine A2 Aa rfl rfl rfl (PP.blk hP) rfl rfl (C1 V1 (cT (WB (AH (Bt rfl ?_)))));rotate_left
   exact ⟨rfl,hP,X⟩
theorem E2 (c:PC) (σ:PS) (w:World) (hP:PP c σ w) :
 Calls prog 83 #[.pointer (some ⟨c.pb,0,none⟩)] w fun r w'=>r = .returned (.tuple #[])∧PP c (DA c.ts c.n σ) w'∧Fr (· = c.pb) w w':=by
 have X:=Fr.refl (· = c.pb) w
 by_cases hlt:σ.at_<c.ts.length
 · rw [show DA c.ts c.n σ=CT σ (c.ts[σ.at_]).pos 3 from by simp [DA,hlt]];obtain ⟨tb,tof,hta,-,hrow⟩:=hP.toks.get (by omega);have hr:Row w ⟨tb,tof+σ.at_*3,none⟩ c.ts[σ.at_].cells:=hrow σ.at_ _ (List.getElem?_eq_getElem hlt);clear hrow;refine Ad func83 ntmps83 rfl rfl ?_
   focus
    refine Am (Ax (fun wz=>Ext w wz) 9 (.pure 0 (.pure 1 (.pure 2 (.pure 3 (.pure 4 (.pure 5 (.pure 6 (.pure 7 (.pure 8 .tail))))))))) mixed (by kernel_rfl) (Ac Ak) ?_);intro w1 x2 _;have f:(fun wz=>Ext w wz) w1:=x2;simp only at f;have a:=hP;have b:=hr;revert hP X hr;refine eY x2 ?_;intro z4 hP X hr;refine ⟨f,?_⟩;refine Tq rfl Mv (Tq rfl Pn (Tq rfl Pf (Tq rfl (Al Aa rfl rfl rfl (fun wz hz=>Blk.cell (Blk.ext (PP.blk a) hz) rfl)) (Tq rfl Mv (Tq rfl Pn (Tq rfl Pg (Tq rfl (Al Aa rfl rfl rfl (fun wz hz=>Blk.cell (Blk.ext (PP.blk a) hz) rfl)) (Tq rfl Pz ?_))))))));refine Az rfl ?_;refine eK ?_;refine Ax (fun wz=>Ext w1 wz) 12 (.pure 0 (.pure 1 (.pure 2 (.pure 3 (.pure 4 (.pure 5 (.pure 6 (.pure 7 (.pure 8 (.pure 9 (.pure 10 (.pure 11 .tail)))))))))))) mixed (by kernel_rfl) Ak ?_;intro w5 x6 _;have g:(fun wz=>Ext w1 wz) w5:=x6;simp only at g;have a:=hP;have b:=hr;revert hP X hr;refine eY x6 ?_;intro z8 hP X hr;refine ⟨g,?_⟩;refine Tq rfl Mv (Tq rfl Mv (Tq rfl Pn (Tq rfl Pg (Tq rfl (Al Aa rfl rfl rfl (fun wz hz=>Blk.cell (Blk.ext (PP.blk a) hz) rfl)) (Tq rfl Mv (Tq rfl Pn (Tq rfl Pf (Tq rfl (Al Aa rfl rfl rfl (fun wz hz=>Blk.cell (Blk.ext (PP.blk a) hz) rfl)) (Tq rfl (FQ Aa rfl rfl rfl ‹_› rfl (by omega) (by omega)) (Tq rfl Pf (Tq rfl (Dr b) ?_)))))))))))
    refine Az rfl (cC rfl (GK _ _ _ _ _ ‹_›) ?_);rintro _ k ⟨⟨⟩,⟨h9,e⟩⟩;have l:=e.size;clear hP;replace X:=X.fr e (by omega);clear hr e;refine Aj (Bt rfl ?_);rotate_left
   exact ⟨rfl,by assumption,X⟩
 · rw [show DA c.ts c.n σ=CT σ c.n 4 from by simp [DA,hlt]];refine Ad func83 ntmps83 rfl rfl ?_
   focus
    refine Am (Ax (fun wz=>Ext w wz) 9 (.pure 0 (.pure 1 (.pure 2 (.pure 3 (.pure 4 (.pure 5 (.pure 6 (.pure 7 (.pure 8 .tail))))))))) mixed (by kernel_rfl) (Ac Ak) ?_);intro j h _;have d:(fun wz=>Ext w wz) j:=h;simp only at d;have a:=hP;revert hP X;refine eY h ?_;intro m hP X;refine ⟨d,?_⟩;refine Tq rfl Mv (Tq rfl Pn (Tq rfl Pf (Tq rfl (Al Aa rfl rfl rfl (fun wz hz=>Blk.cell (Blk.ext (PP.blk a) hz) rfl)) (Tq rfl Mv (Tq rfl Pn (Tq rfl Pg (Tq rfl (Al Aa rfl rfl rfl (fun wz hz=>Blk.cell (Blk.ext (PP.blk a) hz) rfl)) (Tq rfl Pz ?_))))))));refine Az rfl ?_;refine eK ?_;refine A2 Aa rfl rfl rfl (PP.blk hP) rfl rfl (cC rfl (GK _ _ _ _ _ ‹_›) ?_);rintro _ o ⟨⟨⟩,⟨p,i⟩⟩;have q:=i.size;clear hP;replace X:=X.fr i (by omega);refine Aj (Bt rfl ?_);rotate_left
   exact ⟨rfl,by assumption,X⟩
theorem IA (c:PC) (σ:PS) (t:List UInt8) (w:World) (hP:PP c σ w) (ht:t≠[]) :
 Calls prog 82 #[.pointer (some ⟨c.pb,0,none⟩),str t] w fun r w'=>r = .returned (.bool (Dh c.ts σ t))∧PP c (DJ c.ts σ t) w'∧Fr (· = c.pb) w w':=by
 have X:=Fr.refl (· = c.pb) w;have hl:=hP.len
 by_cases h:(AN c.ts σ).text=t
 · have h1:Dh c.ts σ t=true:=by simp [Dh,h]
   rw [show DJ c.ts σ t=AD σ from by simp [DJ,h1],h1];obtain ⟨h2,h3⟩:=Co hP.at_ h1 ht;refine Ad func82 ntmps82 rfl rfl ?_
   focus
    refine eK ?_;refine cC rfl (BD _ _ _ ‹_›) ?_;rintro _ w2 ⟨⟨⟩,x1⟩;revert hP X;refine eY x1 ?_;intro z3 hP X;refine C1 (Bq Aa rfl rfl rfl rfl rfl rfl) (C1 Mv (C1 V9 (cT (Cb rfl (not_not_intro ‹_›) ?_))));refine eK ?_;refine A2 Aa rfl rfl rfl (PP.blk hP) rfl rfl ?_;refine eK ?_;refine Cd Aa rfl rfl rfl rfl ‹_› h3 ?_;rintro w4 h5 f6;have z7:=f6.size;clear hP;replace X:=X.fr f6 (by omega);refine eK ?_;refine Af rfl rfl ?_;rotate_left
   exact ⟨rfl,by assumption,X⟩
 · have h1:Dh c.ts σ t=false:=by simp [Dh,h]
   rw [show DJ c.ts σ t=σ from by simp [DJ,h1],h1];refine Ad func82 ntmps82 rfl rfl ?_
   focus
    refine eK ?_;refine cC rfl (BD _ _ _ ‹_›) ?_;rintro _ b ⟨⟨⟩,a⟩;revert hP X;refine eY a ?_;intro d hP X;refine C1 (Bq Aa rfl rfl rfl rfl rfl rfl) ?_;refine eK ?_;refine Af rfl rfl ?_;rotate_left
   exact ⟨rfl,by assumption,X⟩
theorem Dj (c:PC) (σ:PS) (t:List UInt8) (w:World) (hP:PP c σ w) (ht:t≠[]) (h:Dh c.ts σ t=true) :
 Calls prog 82 #[.pointer (some ⟨c.pb,0,none⟩),str t] w fun r w'=>r = .returned (.bool true)∧PP c (AD σ) w'∧Fr (· = c.pb) w w':=by
 have:=IA c σ t w hP ht;rw [show DJ c.ts σ t=AD σ from by simp [DJ,h],h] at this
 exact this
theorem CL (c:PC) (σ:PS) (t:List UInt8) (w:World) (hP:PP c σ w) (ht:t≠[]) (h:Dh c.ts σ t=false) :
 Calls prog 82 #[.pointer (some ⟨c.pb,0,none⟩),str t] w fun r w'=>r = .returned (.bool false)∧PP c σ w'∧Fr (· = c.pb) w w':=by
 have:=IA c σ t w hP ht;rw [show DJ c.ts σ t=σ from by simp [DJ,h],h] at this
 exact this
theorem CE (c:PC) (σ:PS) (t:List UInt8) (w:World) (hP:PP c σ w) (ht:t≠[]) :
 Calls prog 45 #[.pointer (some ⟨c.pb,0,none⟩),str t] w fun r w'=>r = .returned (.tuple #[])∧PP c (A1 c.ts c.n σ t) w'∧Fr (· = c.pb) w w':=by
 have X:=Fr.refl (· = c.pb) w
 cases h:Dh c.ts σ t
 · have e1:DJ c.ts σ t=σ:=by simp [DJ,h]
   have e2:A1 c.ts c.n σ t=DA c.ts c.n σ:=by simp [A1,h]
   rw [e2];refine Ad func45 ntmps45 rfl rfl ?_
   focus
    refine eK ?_;refine cC rfl (IA _ _ _ _ ‹_› ‹_›) ?_;rintro _ w3 ⟨⟨⟩,⟨h1,f2⟩⟩;have z4:=f2.size;clear hP;replace X:=X.fr f2 (by omega);refine C1 Pt (cT (UU rfl ‹_› ?_));refine eK ?_;refine cC rfl (E2 _ _ _ ‹_›) ?_;rintro _ w7 ⟨⟨⟩,⟨h5,f6⟩⟩;have z8:=f6.size;replace X:=X.fr f6 (by omega);refine Aj (Bt rfl ?_);rotate_left
   exact ⟨rfl,by rw [e1] at *;assumption,X⟩
 · have e1:DJ c.ts σ t=AD σ:=by simp [DJ,h]
   have e2:A1 c.ts c.n σ t=AD σ:=by simp [A1,h]
   rw [e2];refine Ad func45 ntmps45 rfl rfl ?_
   focus
    refine eK ?_;refine cC rfl (IA _ _ _ _ ‹_› ‹_›) ?_;rintro _ b ⟨⟨⟩,⟨d,a⟩⟩;have e:=a.size;clear hP;replace X:=X.fr a (by omega);refine C1 Pt (cT (UV rfl ‹_› (AH (Bt rfl ?_))));rotate_left
   exact ⟨rfl,by rw [e1] at *;assumption,X⟩
theorem Nw {c:PC} {σ:PS} {w:World} (hP:PP c σ w):(AN c.ts σ).text.length≤1000000:=by
 by_cases h:σ.err≠0∨σ.at_=c.ts.length
 · rw [Ko h];simp [Tok.zero]
 · have hlt:σ.at_<c.ts.length:=by have:σ.at_≠c.ts.length:=fun e=>h (Or.inr e);have:=hP.at_;omega
   rw [Mn h hlt]
   exact hP.tok _ (List.getElem_mem hlt)
def TreeR (c:PC) (w:World) (r:Nd×PS):Ending→World→Prop:=fun e w'=> ∃a k,e = .returned (r.1.val a k)∧r.1.sits (fun b=>w.heap.size≤b∧b<w'.heap.size) w' a∧PP c r.2 w'∧Fr (· = c.pb) w w'
theorem Ba {c:PC} {w w':World} {r:Nd×PS} {a:Option Addr} {k:Nat} (hs:r.1.sits (w.heap.size ≤ ·) w' a) (hP:PP c r.2 w') (X:Fr (· = c.pb) w w'):TreeR c w r (.returned (r.1.val a k)) w':=
 ⟨a,k,rfl,EN _ _ hs,hP,X⟩
theorem TreeR.ret {c:PC} {w:World} {r:Nd×PS} {e:Ending} {w':World} (h:TreeR c w r e w') : ∃v,e = .returned v:=by
 obtain ⟨_,_,h,-⟩:=h
 exact ⟨_,h⟩
theorem Gn (c:PC) (σ:PS) (w:World) (hP:PP c σ w) :
 Calls prog 114 #[.pointer (some ⟨c.pb,0,none⟩)] w fun r w'=>r = .returned (str (BJ c.ts c.n σ).1)∧PP c (BJ c.ts c.n σ).2 w'∧Fr (· = c.pb) w w':=by
 have X:=Fr.refl (· = c.pb) w;have hl:=hP.len;have hpl:=Nw hP;have hpb:=hP.pbB;have hB:=hP.B
 cases h:Cu (AN c.ts σ).text
 · rw [show BJ c.ts c.n σ=([],DA c.ts c.n σ) from by simp [BJ,h]];refine Ad func114 ntmps114 rfl rfl ?_
   focus
    refine eK ?_;refine cC rfl (BD _ _ _ ‹_›) ?_;rintro _ w2 ⟨⟨⟩,x1⟩;revert hP X;refine eY x1 ?_;intro z3 hP X;refine AB [_,_,_] Bj rfl rfl ?_;intro b4 w5 n6;refine eI [_,_,_] n6 ?_;intro w7 h8 x9 t u;revert hP X;refine eE x9 ?_;intro hP X;refine eK ?_;refine cC rfl (Hx _ _ (by omega)) ?_;rintro _ v ⟨⟨⟩,f⟩;revert h8 hP X;refine eY f ?_;intro x h8 hP X;refine C1 Pt (cT (UU rfl ‹_› ?_));refine eK ?_;refine cC rfl (E2 _ _ _ ‹_›) ?_;rintro _ y ⟨⟨⟩,⟨z,d⟩⟩;have A:=d.size;replace h8:=h8.fr d (by omega);clear hP;replace X:=X.fr d (by omega);refine eK ?_;refine Af rfl rfl ?_;rotate_left
   exact ⟨rfl,by assumption,X⟩
 · rw [show BJ c.ts c.n σ=((AN c.ts σ).text,AD σ) from by simp [BJ,h]];obtain ⟨h2,h3⟩:=Du hP.at_ (Or.inl (LM h));refine Ad func114 ntmps114 rfl rfl ?_
   focus
    refine eK ?_;refine cC rfl (BD _ _ _ ‹_›) ?_;rintro _ C ⟨⟨⟩,g⟩;revert hP X;refine eY g ?_;intro D hP X;refine AB [_,_,_] Bj rfl rfl ?_;intro E F i;refine eI [_,_,_] i ?_;intro G b j k l;revert hP X;refine eE j ?_;intro hP X;refine eK ?_;refine cC rfl (Hx _ _ (by omega)) ?_;rintro _ m ⟨⟨⟩,e⟩;revert b hP X;refine eY e ?_;intro o b hP X;refine C1 Pt (cT (UV rfl ‹_› ?_));refine eK ?_;refine A2 Aa rfl rfl rfl (PP.blk hP) rfl rfl ?_;refine eK ?_;refine Cd Aa rfl rfl rfl rfl ‹_› h3 ?_;rintro p q a;have s:=a.size;replace b:=b.fr a (by omega);clear hP;replace X:=X.fr a (by omega);refine eK ?_;refine Af rfl rfl ?_;rotate_left
   exact ⟨rfl,by assumption,X⟩
theorem Gp (c:PC) (σ:PS) (w:World) (hP:PP c σ w) :
 Calls prog 115 #[.pointer (some ⟨c.pb,0,none⟩)] w (TreeR c w (Eb c.ts c.n σ)):=by
 have X:=Fr.refl (· = c.pb) w;have hpb:=hP.pbB;have hB:=hP.B;refine Ad func115 ntmps115 rfl rfl ?_
 focus
  refine cS (eA [_,_,_,_] ?_);intro b1 w2 h5 x6 p7 z8;revert hP X;refine eE x6 ?_;intro hP X;refine eK ?_;refine cC rfl (Gn _ _ _ ‹_›) ?_;rintro _ e ⟨⟨⟩,⟨h9,a⟩⟩;have f:=a.size;replace h5:=h5.fr a (by omega);clear hP;replace X:=X.fr a (by omega);refine C1 (AC [_,_,_,_] Aa Bj rfl rfl rfl rfl) (eS [_,_,_,_] h5 ?_);intro g b d h;revert h9 X;refine eF d ?_;intro h9 X;refine eK ?_;refine AZ rfl Aa rfl rfl rfl b rfl ?_;rotate_left
 exact Ba CK ‹_› X
theorem Js (c:PC) (σ:PS) (kind:Int) (w:World) (hP:PP c σ w) :
 Calls prog 177 #[.pointer (some ⟨c.pb,0,none⟩),.int .u8 kind] w (TreeR c w (.mk kind 0 (BJ c.ts c.n (A1 c.ts c.n σ [40])).1 [],A1 c.ts c.n (BJ c.ts c.n (A1 c.ts c.n σ [40])).2 [41])):=by
 have X:=Fr.refl (· = c.pb) w;have hpb:=hP.pbB;have hB:=hP.B;refine Ad func177 ntmps177 rfl rfl ?_
 focus
  refine cS (eA [_,_,_,_] ?_);intro b1 w2 h5 x6 p7 z8;revert hP X;refine eE x6 ?_;intro hP X;refine eK ?_;refine cC rfl (CE _ _ _ _ ‹_› (by decide)) ?_;rintro _ l ⟨⟨⟩,⟨h9,b⟩⟩;have m:=b.size;replace h5:=h5.fr b (by omega);clear hP;replace X:=X.fr b (by omega);refine eK ?_;refine cC rfl (Gn _ _ _ ‹_›) ?_;rintro _ o ⟨⟨⟩,⟨e,f⟩⟩;have p:=f.size;revert h5 X;refine eF f ?_;intro h5 X;refine C1 (AC [_,_,_,_] Aa Bj rfl rfl rfl rfl) (AB [_,_,_,_] Bj rfl rfl ?_);intro q r h;refine eI [_,_,_,_] h ?_;intro s a i t u;revert e h5 X;refine eE i ?_;intro e h5 X;refine eK ?_;refine cC rfl (CE _ _ _ _ ‹_› (by decide)) ?_;rintro _ v ⟨⟨⟩,⟨g,d⟩⟩;have x:=d.size;replace a:=a.fr d (by omega);revert h5 X;refine eF d ?_;intro h5 X;refine cN (Ae [_,_,_,_] Aa rfl rfl rfl a rfl rfl rfl (eS [_,_,_,_] h5 ?_));intro y j k z;revert g a X;refine eF k ?_;intro g a X;refine eK ?_;refine AZ rfl Aa rfl rfl rfl j rfl ?_;rotate_left
 exact Ba CK ‹_› X
def Df (a:Nat) (s:List UInt8):Nat:=s.foldl (fun a c=>a*10+(c.toNat-48)) a
theorem Lk (s:List UInt8) : ∀a,a≤Df a s:=by
 induction s with
 | nil=>intro a;exact Nat.le_refl _
 | cons c r ih=>intro a;have:=ih (a*10+(c.toNat-48));simp only [Df,List.foldl_cons] at this ⊢;omega
theorem FX : ∀(s:List UInt8) (a:Nat),a<18446744073709551616→(∀c∈s,C8 c=true) →
 (Lib.parseUint10 a s = .ok (Df a s)∧Df a s<18446744073709551616)∨(Lib.parseUint10 a s = .range∧18446744073709551616≤Df a s)
 | [],a,ha,_=>Or.inl ⟨rfl,ha⟩
 | c::r,a,ha,hd=>by
  have hc:=hd c List.mem_cons_self;simp only [C8,Bool.and_eq_true,decide_eq_true_eq] at hc
  have hr : ∀x∈r,C8 x=true:=fun x hx=>hd x (List.mem_cons_of_mem _ hx)
  have hle:=Lk r (a*10+(c.toNat-48));have he:Df a (c::r)=Df (a*10+(c.toNat-48)) r:=rfl;rw [he];simp only [Lib.parseUint10,hc,and_self,if_true]
  by_cases h1:1844674407370955162≤a
  · rw [if_pos h1];exact Or.inr ⟨rfl,by omega⟩
  · rw [if_neg h1]
    by_cases h2:18446744073709551616≤a*10+(c.toNat-48)
    · rw [if_pos h2];exact Or.inr ⟨rfl,by omega⟩
    · rw [if_neg h2]
      exact FX r _ (by omega) hr
theorem Jt (s:List UInt8) (hs:s≠[]) (hd : ∀c∈s,C8 c=true) :
 Lib.atoiAll s=if (B3 s:Int)≤9223372036854775807 then .ok (B3 s) else .range:=by
 cases s with
 | nil=>exact absurd rfl hs
 | cons c r=>
  have hc:=hd c List.mem_cons_self;simp only [C8,Bool.and_eq_true,decide_eq_true_eq] at hc
  have a : ¬c.toNat=45:=by omega
  have b : ¬c.toNat=43:=by omega
  have e:B3 (c::r)=Df 0 (c::r):=rfl;rw [e]
  have hm:Lib.parseMag (c::r)=Lib.parseUint10 0 (c::r):=by simp [Lib.parseMag]
  unfold Lib.atoiAll
  simp only [a,b,or_self,if_false,hm,not_false_eq_true,true_and,false_and]
  rcases FX (c::r) 0 (by omega) hd with ⟨h1,h2⟩|⟨h1,h2⟩
  · rw [h1]
    simp only
    by_cases h:9223372036854775808≤Df 0 (c::r)
    · rw [if_pos h,if_neg (by omega)]
    · rw [if_neg h,if_pos (by omega)]
  · rw [h1,if_neg (by omega)]
theorem Ext.bytes (w:World) (e:TypeId) (s:ByteArray):Ext w (Lib.bytesWorld w e s):=Lib.bytesWorld_below w e s
theorem Mo (s:List UInt8) (w:World) (hs:s≠[]) (hd : ∀c∈s,C8 c=true) (hl:s.length≤1000000) (h:(B3 s:Int)≤9223372036854775807) :
 Calls prog 188 #[str s] w fun e w'=>e = .returned (.tuple #[.int .i64 (B3 s),.nilIface])∧Ext w w':=by
 have ha:=Jt s hs hd;rw [if_pos h] at ha;refine (Tryz.strconv_Atoi_ok ⟨s.toArray⟩ (by rw [JI];omega) (B3 s) (by simpa using ha) w).mono ?_;rintro e w' ⟨rfl,rfl|⟨t,rfl⟩⟩
 · exact ⟨rfl,Ext.refl _⟩
 · exact ⟨rfl,Ext.bytes _ _ _⟩
theorem OQ (s:List UInt8) (w:World) (hs:s≠[]) (hd : ∀c∈s,C8 c=true) (hl:s.length≤1000000) (h : ¬(B3 s:Int)≤9223372036854775807) (he:Errs w) :
 Calls prog 188 #[str s] w fun e w'=> ∃te pe,e = .returned (.tuple #[.int .i64 9223372036854775807,.iface te pe])∧Ext w w':=by
 have ha:=Jt s hs hd;rw [if_neg h] at ha;obtain ⟨te,pe,hv⟩:=he.ex;refine (Tryz.strconv_Atoi_range ⟨s.toArray⟩ (by rw [JI];omega) (by simpa using ha) (.iface te pe) w hv (Or.inr ⟨te,pe,rfl⟩)).mono ?_;rintro e w' ⟨N,rfl,-,-,hb⟩
 have:Lib.atoiSat (⟨s.toArray⟩:ByteArray).data.toList=9223372036854775807:=by
  cases s with
  | nil=>exact absurd rfl hs
  | cons c r=>
   have hc:=hd c List.mem_cons_self;simp only [C8,Bool.and_eq_true,decide_eq_true_eq] at hc
   simp [Lib.atoiSat];omega
 rw [this]
 exact ⟨_,_,rfl,hb⟩
theorem So {c:PC} {σ:PS} {w:World} (hP:PP c σ w) (h:(AN c.ts σ).kind=2):(AN c.ts σ).text≠[] ∧ ∀x∈(AN c.ts σ).text,C8 x=true:=by
 by_cases h':σ.err≠0∨σ.at_=c.ts.length
 · rw [Ko h'] at h;simp [Tok.zero] at h
 · have hlt:σ.at_<c.ts.length:=by have:σ.at_≠c.ts.length:=fun e=>h' (Or.inr e);have:=hP.at_;omega
   rw [Mn h' hlt] at h ⊢
   exact hP.num _ (List.getElem_mem hlt) h
theorem Sq (c:PC) (σ:PS) (least most:Int) (w:World) (hP:PP c σ w) (h0 : -1≤least) :
 Calls prog 176 #[.pointer (some ⟨c.pb,0,none⟩),.int .i64 least,.int .i64 most] w fun r w'=>r = .returned (.int .i64 (CF c.ts c.n least most σ).1)∧PP c (CF c.ts c.n least most σ).2 w'∧Fr (· = c.pb) w w':=by
 have X:=Fr.refl (· = c.pb) w;have hl:=hP.len;have hpl:=Nw hP;have hpb:=hP.pbB;have hB:=hP.B
 by_cases hk:(AN c.ts σ).kind=2
 · obtain ⟨h2,h3⟩:=Du hP.at_ (Or.inr (show (AN c.ts σ).kind≠0 by omega));obtain ⟨d1,d2⟩:=So hP hk
   by_cases hr:(B3 (AN c.ts σ).text:Int)≤9223372036854775807
   · by_cases s:least≤(B3 (AN c.ts σ).text:Int)∧(B3 (AN c.ts σ).text:Int)≤most
     · obtain ⟨r1,r2⟩:=s;rw [show CF c.ts c.n least most σ=((B3 (AN c.ts σ).text:Int),AD σ) from by simp [CF,hk,hr,r1,r2]];refine Ad func176 ntmps176 rfl rfl ?_
       focus
        refine eK ?_;refine cC rfl (BD _ _ _ ‹_›) ?_;rintro _ w2 ⟨⟨⟩,x1⟩;revert hP X;refine eY x1 ?_;intro z3 hP X;refine AB [_,_,_] Bj rfl rfl ?_;intro b4 w5 n6;refine eI [_,_,_] n6 ?_;intro w7 h8 x9 az a0;revert hP X;refine eE x9 ?_;intro hP X;refine eK ?_;refine A2 Aa rfl rfl rfl (PP.blk hP) rfl rfl ?_;refine eK ?_;refine Cd Aa rfl rfl rfl rfl ‹_› h3 ?_;rintro a1 t q;have a2:=q.size;replace h8:=h8.fr q (by omega);clear hP;replace X:=X.fr q (by omega);refine eK ?_;refine cC rfl (Mo _ _ d1 d2 hpl hr) ?_;rintro _ a3 ⟨⟨⟩,z⟩;revert t h8 X;refine eY z ?_;intro a4 t h8 X;refine eK ?_;refine C1 (JX Aa rfl rfl) ?_;refine eK ?_;refine C1 (Bh rfl rfl rfl) ?_;refine eK ?_;refine Af rfl rfl ?_;rotate_left
       exact ⟨rfl,by assumption,X⟩
     · rw [show CF c.ts c.n least most σ=(0,CT (AD σ) (AN c.ts σ).pos 2) from by simp [CF,hk,hr,s]]
       by_cases r1:least≤(B3 (AN c.ts σ).text:Int)
       · have r2:most<(B3 (AN c.ts σ).text:Int):=by omega
         refine Ad func176 ntmps176 rfl rfl ?_
         focus
          refine eK ?_;refine cC rfl (BD _ _ _ ‹_›) ?_;rintro _ a5 ⟨⟨⟩,A⟩;revert hP X;refine eY A ?_;intro a6 hP X;refine AB [_,_,_] Bj rfl rfl ?_;intro a7 a8 C;refine eI [_,_,_] C ?_;intro a9 a D Q R;revert hP X;refine eE D ?_;intro hP X;refine eK ?_;refine A2 Aa rfl rfl rfl (PP.blk hP) rfl rfl ?_;refine eK ?_;refine Cd Aa rfl rfl rfl rfl ‹_› h3 ?_;rintro S j e;have T:=e.size;replace a:=a.fr e (by omega);clear hP;replace X:=X.fr e (by omega);refine eK ?_;refine cC rfl (Mo _ _ d1 d2 hpl hr) ?_;rintro _ U ⟨⟨⟩,u⟩;revert j a X;refine eY u ?_;intro V j a X;refine eK ?_;refine C1 (JX Aa rfl rfl) ?_;refine eK ?_;refine C1 (Bh rfl rfl rfl) ?_;refine eK ?_;refine cC rfl (GK _ _ _ _ _ ‹_›) ?_;rintro _ W ⟨⟨⟩,⟨Y,k⟩⟩;have Z:=k.size;revert a X;refine eF k ?_;intro a X;refine eK ?_;refine Af rfl rfl ?_;rotate_left
         exact ⟨rfl,by assumption,X⟩
       · refine Ad func176 ntmps176 rfl rfl ?_
         focus
          refine eK ?_;refine cC rfl (BD _ _ _ ‹_›) ?_;rintro _ ba ⟨⟨⟩,E⟩;revert hP X;refine eY E ?_;intro bb hP X;refine AB [_,_,_] Bj rfl rfl ?_;intro bc bd F;refine eI [_,_,_] F ?_;intro be b G aa ab;revert hP X;refine eE G ?_;intro hP X;refine eK ?_;refine A2 Aa rfl rfl rfl (PP.blk hP) rfl rfl ?_;refine eK ?_;refine Cd Aa rfl rfl rfl rfl ‹_› h3 ?_;rintro ac l f;have ad:=f.size;replace b:=b.fr f (by omega);clear hP;replace X:=X.fr f (by omega);refine eK ?_;refine cC rfl (Mo _ _ d1 d2 hpl hr) ?_;rintro _ ae ⟨⟨⟩,v⟩;revert l b X;refine eY v ?_;intro af l b X;refine eK ?_;refine C1 (JX Aa rfl rfl) ?_;refine eK ?_;refine C1 (Bh rfl rfl rfl) ?_;refine eK ?_;refine cC rfl (GK _ _ _ _ _ ‹_›) ?_;rintro _ ag ⟨⟨⟩,⟨ah,m⟩⟩;have ai:=m.size;revert b X;refine eF m ?_;intro b X;refine eK ?_;refine Af rfl rfl ?_;rotate_left
         exact ⟨rfl,by assumption,X⟩
   · rw [show CF c.ts c.n least most σ=(0,CT (AD σ) (AN c.ts σ).pos 2) from by simp [CF,hk,hr]];refine Ad func176 ntmps176 rfl rfl ?_
     focus
      refine eK ?_;refine cC rfl (BD _ _ _ ‹_›) ?_;rintro _ bf ⟨⟨⟩,H⟩;revert hP X;refine eY H ?_;intro bg hP X;refine AB [_,_,_] Bj rfl rfl ?_;intro bh bi I;refine eI [_,_,_] I ?_;intro bj d J aj ak;revert hP X;refine eE J ?_;intro hP X;refine eK ?_;refine A2 Aa rfl rfl rfl (PP.blk hP) rfl rfl ?_;refine eK ?_;refine Cd Aa rfl rfl rfl rfl ‹_› h3 ?_;rintro al o g;have am:=g.size;replace d:=d.fr g (by omega);clear hP;replace X:=X.fr g (by omega);refine eK ?_;refine AQ (Av (by kernel_rfl) rfl (OQ _ _ d1 d2 hpl hr (PP.errs ‹_›)) (fun _ _ ⟨_,_,h⟩=>⟨_,h.1⟩)) rfl ?_ (fun _ h=>h);rintro _ an ⟨K,⟨L,⟨⟨⟩,x⟩⟩⟩;revert o d X;refine eY x ?_;intro ao o d X;refine eK ?_;refine C1 (RW Aa rfl rfl) ?_;refine eK ?_;refine C1 (A0 rfl rfl rfl) ?_;refine eK ?_;refine C1 (A0 rfl rfl rfl) ?_;refine eK ?_;refine cC rfl (GK _ _ _ _ _ ‹_›) ?_;rintro _ ap ⟨⟨⟩,⟨aq,p⟩⟩;have ar:=p.size;revert d X;refine eF p ?_;intro d X;refine eK ?_;refine Af rfl rfl ?_;rotate_left
     exact ⟨rfl,by assumption,X⟩
 · rw [show CF c.ts c.n least most σ=(0,DA c.ts c.n σ) from by simp [CF,hk]];refine Ad func176 ntmps176 rfl rfl ?_
   focus
    refine eK ?_;refine cC rfl (BD _ _ _ ‹_›) ?_;rintro _ bk ⟨⟨⟩,M⟩;revert hP X;refine eY M ?_;intro bl hP X;refine AB [_,_,_] Bj rfl rfl ?_;intro bm bn N;refine eI [_,_,_] N ?_;intro bo y O au av;revert hP X;refine eE O ?_;intro hP X;refine eK ?_;refine cC rfl (E2 _ _ _ ‹_›) ?_;rintro _ aw ⟨⟨⟩,⟨ax,i⟩⟩;have ay:=i.size;replace y:=y.fr i (by omega);clear hP;replace X:=X.fr i (by omega);refine eK ?_;refine Af rfl rfl ?_;rotate_left
   exact ⟨rfl,by assumption,X⟩
section
variable {ts:List Tok} {n:Int}
def mS (ts:List Tok) (σ:PS):Nat:=if σ.err=0 then ts.length-σ.at_ else 0
theorem DS {σ σ':PS} (h:Le ts σ σ'):mS ts σ'≤mS ts σ:=by
 unfold mS
 by_cases e':σ'.err=0
 · have:=h.ok e'
   have:=h.le
   rw [if_pos e',if_pos ‹_›];omega
 · rw [if_neg e'];omega
theorem VX {σ σ':PS} (h:Le ts σ σ') (k:Lt σ σ'):mS ts σ'+1≤mS ts σ∨mS ts σ'=0:=by
 unfold mS
 by_cases e':σ'.err=0
 · have:=h.ok e'
   have:=k e';have:=h.wf
   rw [if_pos e',if_pos ‹_›];omega
 · rw [if_neg e'];exact Or.inr rfl
theorem EG {σ:PS} (h:σ.err=0∧σ.at_<ts.length):mS ts (AD σ)+1=mS ts σ:=by
 unfold mS AD
 simp only [h.1,if_true]
 omega
end
def UX (c:PC) (k:Nat):Prop:= ∀(lv:Int) (σ:PS) (w:World),PP c σ w→4*mS c.ts σ+4≤k→1≤lv→lv≤9 →
 Calls prog 117 #[.pointer (some ⟨c.pb,0,none⟩),.int .i64 lv] w (TreeR c w (Cl c.ts c.n k lv σ))
def Sr (c:PC) (k:Nat):Prop:= ∀(σ:PS) (w:World),PP c σ w→4*mS c.ts σ+3≤k →
 Calls prog 144 #[.pointer (some ⟨c.pb,0,none⟩)] w (TreeR c w (BL c.ts c.n k σ))
def Nx (c:PC) (k:Nat):Prop:= ∀(σ:PS) (w:World),PP c σ w→4*mS c.ts σ+2≤k →
 Calls prog 163 #[.pointer (some ⟨c.pb,0,none⟩)] w (TreeR c w (BV c.ts c.n k σ))
def Ss (c:PC) (k:Nat):Prop:= ∀(σ:PS) (w:World),PP c σ w→4*mS c.ts σ+1≤k →
 Calls prog 113 #[.pointer (some ⟨c.pb,0,none⟩)] w (TreeR c w (Cq c.ts c.n k σ))
structure ExprsC (c:PC) (k:Nat):Prop where
 expr:UX c k
 unary:Sr c k
 primary:Nx c k
 place:Ss c k
theorem Mp {c:PC} {σ:PS} {t:List UInt8} (h:σ.at_≤c.ts.length) (hh:Dh c.ts σ t=true) (ht:t≠[]):mS c.ts (AD σ)+1=mS c.ts σ:=EG (Co h hh ht)
theorem T6 (c:PC) (k:Nat) (IH : ∀j,j≤k→ExprsC c j):Ss c (k+1):=by
 intro σ w hP hk;have X:=Fr.refl (· = c.pb) w;have hpb:=hP.pbB;have hB:=hP.B;have hn:=BT (n:=c.n) hP.at_
 cases hh:Dh c.ts (BJ c.ts c.n σ).2 [91]
 · rw [show Cq c.ts c.n (k+1) σ=(.mk 2 0 (BJ c.ts c.n σ).1 [],(BJ c.ts c.n σ).2) from by rw [Cq];simp [hh]];refine Ad func113 ntmps113 rfl rfl ?_
   focus
    refine cS (eA [_,_,_,_] ?_);intro b1 w2 h5 x6 p7 z8;revert hP X;refine eE x6 ?_;intro hP X;refine eK ?_;refine cC rfl (Gn _ _ _ ‹_›) ?_;rintro _ ad ⟨⟨⟩,⟨h9,r⟩⟩;have ae:=r.size;replace h5:=h5.fr r (by omega);clear hP;replace X:=X.fr r (by omega);refine eK ?_;refine cC rfl (CL _ _ _ _ ‹_› (by decide) ‹_›) ?_;rintro _ af ⟨⟨⟩,⟨s,t⟩⟩;have ag:=t.size;revert h5 X;refine eF t ?_;intro h5 X;refine eK ?_;refine C1 (AC [_,_,_,_] Aa Bj rfl rfl rfl rfl) (eS [_,_,_,_] h5 ?_);intro ah A C ai;revert s X;refine eF C ?_;intro s X;refine eK ?_;refine AZ rfl Aa rfl rfl rfl A rfl ?_;rotate_left
   exact Ba CK ‹_› X
 · rw [show Cq c.ts c.n (k+1) σ=(.mk 3 0 (BJ c.ts c.n σ).1 [(Cl c.ts c.n k 1 (AD (BJ c.ts c.n σ).2)).1],A1 c.ts c.n (Cl c.ts c.n k 1 (AD (BJ c.ts c.n σ).2)).2 [93]) from by rw [Cq];simp [hh]];have hm:=Mp hn.wf hh (by decide);have aj:=DS hn
   have hf:4*mS c.ts (AD (BJ c.ts c.n σ).2)+4≤k:=by omega
   refine Ad func113 ntmps113 rfl rfl ?_
   focus
    refine cS (eA [_,_,_,_] ?_);intro ak al a D am an;revert hP X;refine eE D ?_;intro hP X;refine eK ?_;refine cC rfl (Gn _ _ _ ‹_›) ?_;rintro _ E ⟨⟨⟩,⟨ao,i⟩⟩;have F:=i.size;replace a:=a.fr i (by omega);clear hP;replace X:=X.fr i (by omega);refine eK ?_;refine cC rfl (Dj _ _ _ _ ‹_› (by decide) ‹_›) ?_;rintro _ G ⟨⟨⟩,⟨H,l⟩⟩;have I:=l.size;revert a X;refine eF l ?_;intro a X;refine eK ?_;refine eQ rfl ((IH k (Nat.le_refl _)).expr _ _ _ ‹_› hf (by decide) (by decide)) ?_;rintro _ J ⟨K,⟨L,⟨⟨⟩,⟨d,⟨m,o⟩⟩⟩⟩⟩;have M:=o.size;revert a X;refine eF o ?_;intro a X;refine AB [_,_,_,_] Bj rfl rfl ?_;intro N O u;refine eI [_,_,_,_] u ?_;intro Q e v R S;revert d m a X;refine eE v ?_;intro d m a X;refine eK ?_;refine cC rfl (CE _ _ _ _ ‹_› (by decide)) ?_;rintro _ T ⟨⟨⟩,⟨f,p⟩⟩;revert e d;refine eZ p ?_;intro U e d;revert a X;refine eF p ?_;intro a X;refine eK ?_;refine Ae [_,_,_,_] Aa rfl rfl rfl e rfl rfl rfl ?_;refine AQ (AM [_,_,_,_] Aa Bj rfl rfl rfl rfl rfl rfl rfl rfl rfl) rfl ?_ (fun _ h=>h)
    rintro _ V ⟨W,rfl,g,Y⟩;have q:=g.blk;have x:=g.ext;have Z:=g.pos;have aa:=g.size;revert f e d a X;refine eE x ?_;intro f e d a X;refine C1 (AC [_,_,_,_] Aa Bj rfl rfl rfl rfl) (eS [_,_,_,_] a ?_);intro ab y z ac;revert q f e d X;refine eF z ?_;intro q f e d X;refine eK ?_;refine AZ rfl Aa rfl rfl rfl y rfl ?_;rotate_left
   exact Ba (I5 ‹_› (by omega) ‹_› (fun b h=>by omega)) ‹_› X
theorem Q7 (c:PC) (k:Nat) (IH : ∀j,j≤k→ExprsC c j):Nx c (k+1):=by
 intro σ w hP hk;have X:=Fr.refl (· = c.pb) w;have hpb:=hP.pbB;have hB:=hP.B
 by_cases h2:(AN c.ts σ).kind=2
 · rw [show BV c.ts c.n (k+1) σ=(.mk 1 (CF c.ts c.n 0 9223372036854775807 σ).1 [] [],(CF c.ts c.n 0 9223372036854775807 σ).2) from by rw [BV];simp [h2]];refine Ad func163 ntmps163 rfl rfl ?_
   focus
    refine cS (eA [_,_,_,_] ?_);intro b1 w2 h5 x6 p7 z8;revert hP X;refine eE x6 ?_;intro hP X;refine eK ?_;refine cC rfl (BD _ _ _ ‹_›) ?_;rintro _ cg ⟨⟨⟩,x9⟩;revert h5 hP X;refine eY x9 ?_;intro ch h5 hP X;refine C1 (Bq Aa rfl rfl rfl rfl rfl rfl) ?_;refine eK ?_;refine cC rfl (Sq _ _ _ _ _ ‹_› (by decide)) ?_;rintro _ ci ⟨⟨⟩,⟨L,K⟩⟩;have cj:=K.size;replace h5:=h5.fr K (by omega);clear hP;replace X:=X.fr K (by omega);refine C1 (AC [_,_,_,_] Aa Bj rfl rfl rfl rfl) (eS [_,_,_,_] h5 ?_);intro ck Y Z cl;revert L X;refine eF Z ?_;intro L X;refine eK ?_;refine AZ rfl Aa rfl rfl rfl Y rfl ?_;rotate_left
   exact Ba CK ‹_› X
 cases ht:Dh c.ts σ [116,111,112]
 case true=>
  rw [show BV c.ts c.n (k+1) σ=(.mk 4 0 (BJ c.ts c.n (A1 c.ts c.n (AD σ) [40])).1 [],A1 c.ts c.n (BJ c.ts c.n (A1 c.ts c.n (AD σ) [40])).2 [41]) from by rw [BV];simp [h2,ht]];refine Ad func163 ntmps163 rfl rfl ?_
  focus
   refine cS (eA [_,_,_,_] ?_);intro cm cn i aa co cp;revert hP X;refine eE aa ?_;intro hP X;refine eK ?_;refine cC rfl (BD _ _ _ ‹_›) ?_;rintro _ ai ⟨⟨⟩,ab⟩;revert i hP X;refine eY ab ?_;intro aj i hP X;refine C1 (Bq Aa rfl rfl rfl rfl rfl rfl) ?_;refine eK ?_;refine cC rfl (Dj _ _ _ _ ‹_› (by decide) ‹_›) ?_;rintro _ ak ⟨⟨⟩,⟨al,l⟩⟩;have am:=l.size;replace i:=i.fr l (by omega);clear hP;replace X:=X.fr l (by omega);refine eK ?_;refine eQ rfl (Js _ _ _ _ ‹_›) ?_;rintro _ an ⟨ao,⟨ap,⟨⟨⟩,⟨q,⟨r,s⟩⟩⟩⟩⟩;have aq:=s.size;revert i X;refine eF s ?_;intro i X;refine eS [_,_,_,_] i ?_;intro ar M N au;revert q r X;refine eF N ?_;intro q r X;refine eK ?_;refine AZ rfl Aa rfl rfl rfl M rfl ?_;rotate_left
  exact Ba CK ‹_› X
 cases hs:Dh c.ts σ [115,105,122,101]
 case true=>
  rw [show BV c.ts c.n (k+1) σ=(.mk 5 0 (BJ c.ts c.n (A1 c.ts c.n (AD σ) [40])).1 [],A1 c.ts c.n (BJ c.ts c.n (A1 c.ts c.n (AD σ) [40])).2 [41]) from by rw [BV];simp [h2,ht,hs]];refine Ad func163 ntmps163 rfl rfl ?_
  focus
   refine cS (eA [_,_,_,_] ?_);intro cq cr f ac cs ct;revert hP X;refine eE ac ?_;intro hP X;refine eK ?_;refine cC rfl (BD _ _ _ ‹_›) ?_;rintro _ av ⟨⟨⟩,ad⟩;revert f hP X;refine eY ad ?_;intro aw f hP X;refine C1 (Bq Aa rfl rfl rfl rfl rfl rfl) ?_;refine eK ?_;refine cC rfl (CL _ _ _ _ ‹_› (by decide) ‹_›) ?_;rintro _ ax ⟨⟨⟩,⟨ay,m⟩⟩;have az:=m.size;replace f:=f.fr m (by omega);clear hP;replace X:=X.fr m (by omega);refine eK ?_;refine cC rfl (Dj _ _ _ _ ‹_› (by decide) ‹_›) ?_;rintro _ a0 ⟨⟨⟩,⟨a1,t⟩⟩;have a2:=t.size;revert f X;refine eF t ?_;intro f X;refine eK ?_;refine eQ rfl (Js _ _ _ _ ‹_›) ?_;rintro _ a3 ⟨a4,⟨a5,⟨⟨⟩,⟨u,⟨v,x⟩⟩⟩⟩⟩;have a6:=x.size;revert f X;refine eF x ?_;intro f X;refine eS [_,_,_,_] f ?_;intro a7 O Q a8;revert u v X;refine eF Q ?_;intro u v X;refine eK ?_;refine AZ rfl Aa rfl rfl rfl O rfl ?_;rotate_left
  exact Ba CK ‹_› X
 cases hp:Dh c.ts σ [40]
 case true=>
  rw [show BV c.ts c.n (k+1) σ=((Cl c.ts c.n k 1 (AD σ)).1,A1 c.ts c.n (Cl c.ts c.n k 1 (AD σ)).2 [41]) from by rw [BV];simp [h2,ht,hs,hp]];have hm:=Mp hP.at_ hp (by decide)
  have hf:4*mS c.ts (AD σ)+4≤k:=by omega
  refine Ad func163 ntmps163 rfl rfl ?_
  focus
   refine cS (eA [_,_,_,_] ?_);intro cu cv a ae cw cx;revert hP X;refine eE ae ?_;intro hP X;refine eK ?_;refine cC rfl (BD _ _ _ ‹_›) ?_;rintro _ a9 ⟨⟨⟩,af⟩;revert a hP X;refine eY af ?_;intro ba a hP X;refine C1 (Bq Aa rfl rfl rfl rfl rfl rfl) ?_;refine eK ?_;refine cC rfl (CL _ _ _ _ ‹_› (by decide) ‹_›) ?_;rintro _ bb ⟨⟨⟩,⟨bc,o⟩⟩;have bd:=o.size;replace a:=a.fr o (by omega);clear hP;replace X:=X.fr o (by omega);refine eK ?_;refine cC rfl (CL _ _ _ _ ‹_› (by decide) ‹_›) ?_;rintro _ be ⟨⟨⟩,⟨bf,y⟩⟩;have bg:=y.size;revert a X;refine eF y ?_;intro a X;refine eK ?_;refine cC rfl (Dj _ _ _ _ ‹_› (by decide) ‹_›) ?_;rintro _ bh ⟨⟨⟩,⟨bi,z⟩⟩;have bj:=z.size;revert a X;refine eF z ?_;intro a X;refine eK ?_;refine eQ rfl ((IH k (Nat.le_refl _)).expr _ _ _ ‹_› hf (by decide) (by decide)) ?_;rintro _ bk ⟨bl,⟨bm,⟨⟨⟩,⟨e,⟨A,C⟩⟩⟩⟩⟩;have bn:=C.size;revert a X;refine eF C ?_;intro a X;refine AB [_,_,_,_] Bj rfl rfl ?_;intro bo bp R;refine eI [_,_,_,_] R ?_;intro bq g S br bs;revert e A a X;refine eE S ?_;intro e A a X
   refine eK ?_;refine cC rfl (CE _ _ _ _ ‹_› (by decide)) ?_;rintro _ bt ⟨⟨⟩,⟨D,E⟩⟩;revert g e;refine eZ E ?_;intro bu g e;revert a X;refine eF E ?_;intro a X;refine cN (Ae [_,_,_,_] Aa rfl rfl rfl g rfl rfl rfl (eS [_,_,_,_] a ?_));intro bv T U bw;revert D g e X;refine eF U ?_;intro D g e X;refine eK ?_;refine AZ rfl Aa rfl rfl rfl T rfl ?_;rotate_left
  exact Ba (Nd.sits.wide ‹_› (fun b h=>by omega)) ‹_› X
 · rw [show BV c.ts c.n (k+1) σ=Cq c.ts c.n k σ from by rw [BV];simp [h2,ht,hs,hp]]
   have hf:4*mS c.ts σ+1≤k:=by omega
   refine Ad func163 ntmps163 rfl rfl ?_
   focus
    refine cS (eA [_,_,_,_] ?_);intro cy cz d ag c0 c1;revert hP X;refine eE ag ?_;intro hP X;refine eK ?_;refine cC rfl (BD _ _ _ ‹_›) ?_;rintro _ bx ⟨⟨⟩,ah⟩;revert d hP X;refine eY ah ?_;intro bz d hP X;refine C1 (Bq Aa rfl rfl rfl rfl rfl rfl) ?_;refine eK ?_;refine cC rfl (CL _ _ _ _ ‹_› (by decide) ‹_›) ?_;rintro _ b0 ⟨⟨⟩,⟨b2,p⟩⟩;have b3:=p.size;replace d:=d.fr p (by omega);clear hP;replace X:=X.fr p (by omega);refine eK ?_;refine cC rfl (CL _ _ _ _ ‹_› (by decide) ‹_›) ?_;rintro _ b4 ⟨⟨⟩,⟨b5,F⟩⟩;have b6:=F.size;revert d X;refine eF F ?_;intro d X;refine eK ?_;refine cC rfl (CL _ _ _ _ ‹_› (by decide) ‹_›) ?_;rintro _ b7 ⟨⟨⟩,⟨b8,G⟩⟩;have b9:=G.size;revert d X;refine eF G ?_;intro d X;refine eK ?_;refine eQ rfl ((IH k (Nat.le_refl _)).place _ _ ‹_› hf) ?_;rintro _ ca ⟨cb,⟨cc,⟨⟨⟩,⟨H,⟨I,J⟩⟩⟩⟩⟩;have cd:=J.size;revert d X;refine eF J ?_;intro d X;refine eS [_,_,_,_] d ?_;intro ce V W cf;revert H I X;refine eF W ?_;intro H I X;refine eK ?_;refine AZ rfl Aa rfl rfl rfl V rfl ?_;rotate_left
   exact Ba (Nd.sits.wide ‹_› (fun b h=>by omega)) ‹_› X
theorem T7 (c:PC) (k:Nat) (IH : ∀j,j≤k→ExprsC c j):Sr c (k+1):=by
 intro σ w hP hk;have X:=Fr.refl (· = c.pb) w;have hpb:=hP.pbB;have hB:=hP.B
 cases h1:Dh c.ts σ [45]
 case true=>
  rw [show BL c.ts c.n (k+1) σ=(.mk 6 0 [] [(BL c.ts c.n k (AD σ)).1],(BL c.ts c.n k (AD σ)).2) from by rw [BL];simp [h1]];have hm:=Mp hP.at_ h1 (by decide)
  have hf:4*mS c.ts (AD σ)+3≤k:=by omega
  refine Ad func144 ntmps144 rfl rfl ?_
  focus
   refine cS (eA [_,_,_,_] ?_);intro b1 w2 h5 x6 p7 z8;revert hP X;refine eE x6 ?_;intro hP X;refine eK ?_;refine cC rfl (Dj _ _ _ _ ‹_› (by decide) ‹_›) ?_;rintro _ ap ⟨⟨⟩,⟨h9,y⟩⟩;have aq:=y.size;replace h5:=h5.fr y (by omega);clear hP;replace X:=X.fr y (by omega);refine eK ?_;refine eQ rfl ((IH k (Nat.le_refl _)).unary _ _ ‹_› hf) ?_;rintro _ ar ⟨au,⟨av,⟨⟨⟩,⟨m,⟨o,z⟩⟩⟩⟩⟩;have aw:=z.size;revert h5 X;refine eF z ?_;intro h5 X;refine AQ (AM [_,_,_,_] Aa Bj rfl rfl rfl rfl rfl rfl rfl rfl rfl) rfl ?_ (fun _ h=>h);rintro _ ax ⟨ay,rfl,p,az⟩;have A:=p.blk;have H:=p.ext;have a0:=p.pos;have a1:=p.size;revert m o h5 X;refine eE H ?_;intro m o h5 X;refine C1 (AC [_,_,_,_] Aa Bj rfl rfl rfl rfl) (eS [_,_,_,_] h5 ?_);intro a2 I J a3;revert A m o X;refine eF J ?_;intro A m o X;refine eK ?_;refine AZ rfl Aa rfl rfl rfl I rfl ?_;rotate_left
  exact Ba (I5 ‹_› (by omega) ‹_› (fun b h=>by omega)) ‹_› X
 cases h2:Dh c.ts σ [33]
 case true=>
  rw [show BL c.ts c.n (k+1) σ=(.mk 7 0 [] [(BL c.ts c.n k (AD σ)).1],(BL c.ts c.n k (AD σ)).2) from by rw [BL];simp [h1,h2]];have hm:=Mp hP.at_ h2 (by decide)
  have hf:4*mS c.ts (AD σ)+3≤k:=by omega
  refine Ad func144 ntmps144 rfl rfl ?_
  focus
   refine cS (eA [_,_,_,_] ?_);intro a4 a5 a K a6 a7;revert hP X;refine eE K ?_;intro hP X;refine eK ?_;refine cC rfl (CL _ _ _ _ ‹_› (by decide) ‹_›) ?_;rintro _ M ⟨⟨⟩,⟨a8,i⟩⟩;have N:=i.size;replace a:=a.fr i (by omega);clear hP;replace X:=X.fr i (by omega);refine eK ?_;refine cC rfl (Dj _ _ _ _ ‹_› (by decide) ‹_›) ?_;rintro _ O ⟨⟨⟩,⟨Q,q⟩⟩;have R:=q.size;revert a X;refine eF q ?_;intro a X;refine eK ?_;refine eQ rfl ((IH k (Nat.le_refl _)).unary _ _ ‹_› hf) ?_;rintro _ S ⟨T,⟨U,⟨⟨⟩,⟨e,⟨f,r⟩⟩⟩⟩⟩;have V:=r.size;revert a X;refine eF r ?_;intro a X;refine AQ (AM [_,_,_,_] Aa Bj rfl rfl rfl rfl rfl rfl rfl rfl rfl) rfl ?_ (fun _ h=>h);rintro _ W ⟨Y,rfl,g,Z⟩;have s:=g.blk;have C:=g.ext;have aa:=g.pos;have ab:=g.size;revert e f a X;refine eE C ?_;intro e f a X;refine C1 (AC [_,_,_,_] Aa Bj rfl rfl rfl rfl) (eS [_,_,_,_] a ?_);intro ac D E ad;revert s e f X;refine eF E ?_;intro s e f X;refine eK ?_;refine AZ rfl Aa rfl rfl rfl D rfl ?_;rotate_left
  exact Ba (I5 ‹_› (by omega) ‹_› (fun b h=>by omega)) ‹_› X
 · rw [show BL c.ts c.n (k+1) σ=BV c.ts c.n k σ from by rw [BL];simp [h1,h2]]
   have hf:4*mS c.ts σ+2≤k:=by omega
   refine Ad func144 ntmps144 rfl rfl ?_
   focus
    refine cS (eA [_,_,_,_] ?_);intro a9 ba d L bb bc;revert hP X;refine eE L ?_;intro hP X;refine eK ?_;refine cC rfl (CL _ _ _ _ ‹_› (by decide) ‹_›) ?_;rintro _ ae ⟨⟨⟩,⟨bd,l⟩⟩;have af:=l.size;replace d:=d.fr l (by omega);clear hP;replace X:=X.fr l (by omega);refine eK ?_;refine cC rfl (CL _ _ _ _ ‹_› (by decide) ‹_›) ?_;rintro _ ag ⟨⟨⟩,⟨ah,t⟩⟩;have ai:=t.size;revert d X;refine eF t ?_;intro d X;refine eK ?_;refine eQ rfl ((IH k (Nat.le_refl _)).primary _ _ ‹_› hf) ?_;rintro _ aj ⟨ak,⟨al,⟨⟨⟩,⟨u,⟨v,x⟩⟩⟩⟩⟩;have am:=x.size;revert d X;refine eF x ?_;intro d X;refine eS [_,_,_,_] d ?_;intro an F G ao;revert u v X;refine eF G ?_;intro u v X;refine eK ?_;refine AZ rfl Aa rfl rfl rfl F rfl ?_;rotate_left
   exact Ba (Nd.sits.wide ‹_› (fun b h=>by omega)) ‹_› X
end Bk
