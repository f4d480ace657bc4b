/- Several texts in one: Inf, Base, Seq, Laws, LawsB, Loc, Ops, Wk, Wk2, Str, Wk3, U32, Wk4, Wk5, Wk6, Wk7, Wk8, Seq2, Sq, Wk9, Wk10, Wk15, Seq3, Wk11, Tab, Wk12, Wk13, Seq4, Wk14, Wk16, Cut. -/
import Derived.Test.YtihgmaoghbnnaaaGreatDoorProg
import Derived.KernelRfl
import Derived.WalkKit
import Derived.Lib.Hide
import Derived.OrdersHeld
import Derived.Maps.AppendAt
import Derived.Laws.CopyOwn
import Derived.IntWalk
import Derived.ChangeKeysEq
import Derived.Great.BuildSlice
import Derived.Lib.ConvBytes
import Derived.Lib.AppendZeros
import Derived.Laws.CopyRow
import Derived.Laws.MakeOwn
import Derived.Scope
import Derived.Lib.MinMax
set_option linter.unusedVariables false
set_option linter.unusedSimpArgs false
set_option maxRecDepth 100000
set_option maxHeartbeats 1000000
namespace Go.Proofs.YtihgmaoghbnnaaaGreatDoor
open Go.RowKit
variable {a:Act} {K:Act→World→Prop} {ps:Array (Nat × Operand)} {L L' L1:Array Bool} {ts:Array TypeId} {vs:Array Value} {r:Bool} {R:Ending→World→Prop} {Q:Exit→Act→World→Prop} {fn:Func} {f:FuncId} {h n1 n2:Int} {k2:IntKind} {l lk:List (List UInt8)} {m m':List (Nat × Value)} {cur:List Int} {rest:List Oper} {l1 l2 la:List UInt8} {cs xs ys:List Value} {B N b base base' bytes cap dj g i id j k n off q sz:Nat} {S S' S1 S2:Nat→Prop} {oi oj:Oper} {x y:Operand} {A:Option Addr} {P:Program} {α:Type} {td:TypeDesc} {dst e s src st t tt ty xt yt:TypeId} {u u1 u2 v v1 v2 v3 z:Value} {W' w w' w0 w1 w2:World}
theorem inf159 : (Tryz.prog.info? 159).map (·.size) = some 160 := by kernel_rfl
theorem inf157 : (Tryz.prog.info? 157).map (·.size) = some 160 := by kernel_rfl
theorem inf158 : (Tryz.prog.info? 158).map (·.size) = some 16 := by kernel_rfl
theorem inf152 : (Tryz.prog.info? 152).map (·.size) = some 16 := by kernel_rfl
theorem inf156 : (Tryz.prog.info? 156).map (·.size) = some 16 := by kernel_rfl
theorem inf161 : (Tryz.prog.info? 161).map (·.size) = some 4 := by kernel_rfl
theorem inf144 : (Tryz.prog.info? 144).map (·.size) = some 8 := by kernel_rfl
theorem inf27 : (Tryz.prog.info? 27).map (·.size) = some 1 := by kernel_rfl
theorem inf30 : (Tryz.prog.info? 30).map (·.size) = some 1 := by kernel_rfl
theorem inf26 : (Tryz.prog.info? 26).map (·.size) = some 1 := by kernel_rfl
theorem inf25 : (Tryz.prog.info? 25).map (·.size) = some 1 := by kernel_rfl
theorem inf22 : (Tryz.prog.info? 22).map (·.size) = some 1 := by kernel_rfl
theorem inf66 : (Tryz.prog.info? 66).map (·.size) = some 3 := by kernel_rfl
theorem inf29 : (Tryz.prog.info? 29).map (·.size) = some 32 := by kernel_rfl
theorem inf48 : (Tryz.prog.info? 48).map (·.size) = some 36 := by kernel_rfl
theorem inf61 : (Tryz.prog.info? 61).map (·.size) = some 2 := by kernel_rfl
theorem inf24 : (Tryz.prog.info? 24).map (·.size) = some 3 := by kernel_rfl
theorem inf32 : (Tryz.prog.info? 32).map (·.size) = some 4 := by kernel_rfl
theorem inf34 : (Tryz.prog.info? 34).map (·.size) = some 38 := by kernel_rfl
theorem inf4 : (Tryz.prog.info? 4).map (·.size) = some 1 := by kernel_rfl
theorem inf3 : (Tryz.prog.info? 3).map (·.size) = some 1 := by kernel_rfl
theorem inf116 : (Tryz.prog.info? 116).map (·.size) = some 0 := by kernel_rfl
theorem inf99 : (Tryz.prog.info? 99).map (·.size) = some 64 := by kernel_rfl
theorem inf97 : (Tryz.prog.info? 97).map (·.size) = some 2 := by kernel_rfl
theorem inf143 : (Tryz.prog.info? 143).map (·.size) = some 1 := by kernel_rfl
theorem inf5 : (Tryz.prog.info? 5).map (·.size) = some 1 := by kernel_rfl
abbrev uu159:=@Tryz.underlying159
abbrev uu157:=@Tryz.underlying157
abbrev uu158:=@Tryz.underlying158
abbrev uu152:=@Tryz.underlying152
abbrev uu156:=@Tryz.underlying156
abbrev uu161:=@Tryz.underlying161
abbrev uu144:=@Tryz.underlying144
abbrev uu113:=@Tryz.underlying113
abbrev uu127:=@Tryz.underlying127
abbrev uu27:=@Tryz.underlying27
abbrev uu30:=@Tryz.underlying30
abbrev uu26:=@Tryz.underlying26
abbrev uu25:=@Tryz.underlying25
abbrev uu104:=@Tryz.underlying104
abbrev uu154:=@Tryz.underlying154
abbrev uu22:=@Tryz.underlying22
abbrev uu66:=@Tryz.underlying66
abbrev uu29:=@Tryz.underlying29
abbrev uu48:=@Tryz.underlying48
abbrev uu61:=@Tryz.underlying61
abbrev uu24:=@Tryz.underlying24
abbrev uu32:=@Tryz.underlying32
abbrev uu34:=@Tryz.underlying34
abbrev uu4:=@Tryz.underlying4
abbrev uu153:=@Tryz.underlying153
abbrev uu3:=@Tryz.underlying3
abbrev uu99:=@Tryz.underlying99
abbrev uu9:=@Tryz.underlying9
abbrev uu112:=@Tryz.underlying112
abbrev uu143:=@Tryz.underlying143
abbrev uu130:=@Tryz.underlying130
abbrev uu5:=@Tryz.underlying5
theorem ret_bool {a b:Bool} (h:a=b):Ending.returned (.bool a)=.returned (.bool b):=by rw [h]
theorem ret_int {k:IntKind} {a b:Int} (h:a=b):Ending.returned (.int k a)=.returned (.int k b):=by rw [h]
def Ext (w w':World):Prop:=Below w.heap.size w w'
theorem Ext.refl (w:World):Ext w w:=Below.refl _ _
theorem Ext.size (h:Ext w w'):w.heap.size≤w'.heap.size:=Below.size h
theorem Ext.trans {a b c:World} (h:Ext a b) (k:Ext b c):Ext a c:=Below.trans h (Below.mono k h.size)
theorem Ext.below (h:Ext w w'):Below w.heap.size w w':=h
theorem Ext.drew {a:World} (h:Ext a w):Ext a w.drew:=Below.drew h
theorem Ext.alloc {a:World} (h:Ext a w) (o:Obj):Ext a (w.alloc o):=Below.alloc h h.size o
theorem Ext.setCell {a:World} (h:Ext a w) {p:Addr} (hp:a.heap.size≤p.block) (u:Value):Ext a (w.setCell p u):=Below.setCell h hp u
theorem Ext.cellA (h:Ext w w') {p:Addr} (hp:p.block<w.heap.size):w'.cell? p=w.cell? p:=Below.cell h hp
theorem Ext.cell (h:Ext w w') {b o:Nat} (hp:b<w.heap.size):w'.cell? ⟨b,o,none⟩=w.cell? ⟨b,o,none⟩:=Below.cell (p:=⟨b,o,none⟩) h hp
theorem Ext.cells (h:Ext w w'):∀ b o,b<w.heap.size→w'.cell? ⟨b,o,none⟩=w.cell? ⟨b,o,none⟩:=fun _ _ hp=>h.cell hp
theorem Ext.frz (h:Ext w w'):∀ b o,b<w.heap.size→w'.frozen? ⟨b,o,none⟩=w.frozen? ⟨b,o,none⟩:=fun b o hp=>Below.frozen (p:=⟨b,o,none⟩) h hp
theorem Ext.keep (h:Ext w w') {p:Addr} {u:Value} (hc:w.cell? p=some u):w'.cell? p=some u:=by
  rw [h.cellA (World.block_lt_of_cell? w p hc)];exact hc
theorem Ext.grown {a:World} {row:Option Nat} (h:Ext a w) (hg:w.grownBy w' row) (hr:∀ k,row=some k→a.heap.size≤k):Ext a w':=Below.grown h hg h.size hr
def Blk (w:World) (n:Nat) (t:TypeId) (cs:List Value):Prop:=w.heap[n]?=some (.cells cs.toArray t (0,0))
theorem Blk.lt (h:Blk w n t cs):n<w.heap.size:=(Array.getElem?_eq_some_iff.1 h).1
theorem Blk.rule (h:Blk w n t cs):(∀ o,w.cell? ⟨n,o,none⟩=cs[o]?)∧(∀ o,w.frozen? ⟨n,o,none⟩=false) :=
  ⟨fun o=>by rw [cell_of_row w n o _ t (0,0) h];simp,fun o=>frozen_of_row w n o _ t h⟩
theorem Blk.ext (h:Blk w n t cs) (he:Ext w w'):Blk w' n t cs:=(he.below.block n h.lt).trans h
theorem Blk.grown {row:Option Nat} (h:Blk w n t cs) (hg:w.grownBy w' row) (hr:some n≠row):Blk w' n t cs:=(hg.block n h.lt hr).trans h
theorem Blk.new (w:World) (n:Nat) (t:TypeId) (cs:List Value) (hn:n=w.heap.size):Blk (w.alloc (.cells cs.toArray t)) n t cs:=by subst hn;exact heap_alloc_new w _
theorem Blk.alloc (h:Blk w n t cs) (o:Obj):Blk (w.alloc o) n t cs:=(Below.heap_alloc w o n h.lt).trans h
theorem Blk.drew (h:Blk w n t cs):Blk w.drew n t cs:=h
theorem Blk.set (h:Blk w n t cs) (i:Nat) (u:Value):Blk (w.setCell ⟨n,i,none⟩ u) n t (cs.set i u):=by
  have:=heap_setCell_same w n i cs.toArray t u h
  unfold Blk
  rw [this];simp
theorem Blk.far (h:Blk w n t cs) {p:Addr} (hp:n≠p.block) (u:Value):Blk (w.setCell p u) n t cs:=(Below.heap_setCell w p u n hp).trans h
def Cel (w:World) (k:Nat) (A:Option Addr) (n:Nat) (xs:List Value):Prop :=
  xs.length=n*k∧(∀ u∈xs,u.oneCell'=true)∧(0<n→∃ b off,A=some ⟨b,off,none⟩∧b<w.heap.size∧∀ j u,xs[j]?=some u→w.cell? ⟨b,off+j,none⟩=some u)
theorem Cel.ext (h:Cel w k A n xs) (he:Ext w w'):Cel w' k A n xs:=by
  obtain ⟨h1,h2,h3⟩:=h
  refine ⟨h1,h2,fun h0=>?_⟩
  obtain ⟨b,off,ha,hb,hx⟩:=h3 h0
  exact ⟨b,off,ha,Nat.lt_of_lt_of_le hb he.size,fun j u hu=>he.keep (hx j u hu)⟩
theorem Cel.none (w:World) (k:Nat) (A:Option Addr):Cel w k A 0 []:=⟨by simp,fun _ h=>by simp at h,fun h=>absurd h (by simp)⟩
def chunk (k:Nat) (xs:List Value) (i:Nat):List Value:=(xs.drop (i*k)).take k
theorem chunk_length (h:xs.length=n*k) {i:Nat} (hi:i<n):(chunk k xs i).length=k:=by
  unfold chunk
  rw [List.length_take,List.length_drop,h]
  have:(i+1)*k≤n*k:=Nat.mul_le_mul_right _ hi
  rw [Nat.add_mul,Nat.one_mul] at this
  omega
theorem chunk_get (h:(chunk k xs i)[j]?=some u):xs[i*k+j]?=some u:=by
  unfold chunk at h
  rw [List.getElem?_take] at h
  split at h
  · rwa [List.getElem?_drop] at h
  · cases h
theorem chunk_append_left (h:xs.length=n*k) {i:Nat} (hi:i<n):chunk k (xs++ys) i=chunk k xs i:=by
  unfold chunk
  have:(i+1)*k≤n*k:=Nat.mul_le_mul_right _ hi
  rw [Nat.add_mul,Nat.one_mul] at this
  rw [List.drop_append_of_le_length (by omega),List.take_append_of_le_length (by rw [List.length_drop];omega)]
theorem chunk_append_right (h:xs.length=n*k) {i:Nat} (hi:n≤i):chunk k (xs++ys) i=chunk k ys (i - n):=by
  unfold chunk
  have:n*k≤i*k:=Nat.mul_le_mul_right _ hi
  rw [List.drop_append,List.drop_eq_nil_of_le (by omega),List.nil_append,h,Nat.sub_mul]
theorem chunk_one (hi:i<xs.length):chunk 1 xs i=[xs[i]]:=by
  unfold chunk
  rw [Nat.mul_one,List.drop_eq_getElem_cons hi];rfl
theorem chunk_self (h:xs.length=k):chunk k xs 0=xs:=by
  unfold chunk;rw [Nat.zero_mul,List.drop_zero,List.take_of_length_le (by omega)]
def Fr (S:Nat→Prop) (w:World) (k:Nat):Prop:=S k∨w.heap.size≤k
def RSl {α:Type} (S:Nat→Prop) (k:Nat) (R:World→List Value→α→Prop) (w:World) (v:Value) (l:List α):Prop :=
  ∃ A cap xs,v=.slice A l.length cap∧(l.length≤cap∧cap≤9223372036854775807)∧Cel w k A l.length xs∧(∀ i (h:i<l.length),R w (chunk k xs i) l[i])∧(0<l.length→∃ b off,A=some ⟨b,off,none⟩∧S b)
theorem RSl.ext {R:World→List Value→α→Prop} {l:List α} (h:RSl S k R w v l) (he:Ext w w')
    (hR:∀ cs x,R w cs x→R w' cs x):RSl S k R w' v l:=by
  obtain ⟨A,cap,xs,hv,hc,hl,hr,hs⟩:=h
  exact ⟨A,cap,xs,hv,hc,hl.ext he,fun i hi=>hR _ _ (hr i hi),hs⟩
theorem RSl.keep {R:World→List Value→α→Prop} {l:List α} (h:RSl S k R w v l) (hz:w.heap.size≤w'.heap.size) (hk:∀ b,S b→b<w.heap.size→w'.heap[b]?=w.heap[b]?)
    (hR:∀ cs x,R w cs x→R w' cs x):RSl S k R w' v l:=by
  obtain ⟨A,cap,xs,hv,hc,⟨h1,h2,h3⟩,hr,hs⟩:=h
  refine ⟨A,cap,xs,hv,hc,⟨h1,h2,fun h0=>?_⟩,fun i hi=>hR _ _ (hr i hi),hs⟩
  obtain ⟨b,off,ha,hb,hx⟩:=h3 h0
  obtain ⟨b',off',ha',hS⟩:=hs h0
  rw [ha] at ha'
  cases ha'
  exact ⟨b,off,ha,Nat.lt_of_lt_of_le hb hz,fun j u hu=>by rw [World.cell?_of_block (w:=w) (a:=⟨b,off+j,none⟩) (hk b hS hb)];exact hx j u hu⟩
theorem RSl.sub {R R':World→List Value→α→Prop} {l:List α} (h:RSl S k R w v l) (hs:∀ b,S b→S' b) (hR:∀ cs x,R w cs x→R' w cs x):RSl S' k R' w v l:=by
  obtain ⟨A,cap,xs,hv,hc,hl,hr,h4⟩:=h
  refine ⟨A,cap,xs,hv,hc,hl,fun i hi=>hR _ _ (hr i hi),fun h0=>?_⟩
  obtain ⟨b,off,ha,hS⟩:=h4 h0
  exact ⟨b,off,ha,hs b hS⟩
theorem RSl.nil {R:World→List Value→α→Prop} (w:World):RSl S k R w (.slice none 0 0) ([]:List α) :=
  ⟨none,0,[],rfl,⟨Nat.le_refl _,by omega⟩,Cel.none _ _ _,fun i h=>absurd h (by simp),fun h=>absurd h (by simp)⟩
theorem RSl.own {R:World→List Value→α→Prop} {l:List α} (h:w.ownsRow base e k v n xs) (hS:∀ b,base≤b→S b) (hn:n=l.length)
    (h1:∀ u∈xs,u.oneCell'=true) (hR:∀ i (h:i<l.length),R w (chunk k xs i) l[i]):RSl S k R w v l:=by
  subst hn
  rcases h.2 with ⟨rfl,h0⟩ | ⟨g,cap,cur,rfl,hb,hg,hnc,hcm,hcs,ht⟩
  · have:l=[]:=List.eq_nil_of_length_eq_zero h0
    subst this
    exact RSl.nil w
  · refine ⟨_,cap,xs,rfl,⟨hnc,by simpa [maxLen] using hcm⟩,⟨h.1,h1,fun h0=>⟨g,0,rfl,(Array.getElem?_eq_some_iff.1 hg).1,fun j u hu=>?_⟩⟩,hR,fun _=>⟨g,0,rfl,hS g hb⟩⟩
    have hc:=h.cells (g:=g) rfl j u hu
    have hadd:(⟨g,0,none⟩:Addr).add j=⟨g,0+j,none⟩:=by unfold Addr.add;split <;> simp_all
    rw [hadd] at hc
    exact hc
theorem RSl.form {R:World→List Value→α→Prop} {l:List α} (h:RSl S k R w v l) :
    ∃ A cap,v=.slice A l.length cap∧l.length≤cap∧cap≤9223372036854775807:=by
  obtain ⟨A,cap,xs,hv,hc,_,_,_⟩:=h;exact ⟨A,cap,hv,hc.1,hc.2⟩
theorem RSl.cel {R:World→List Value→α→Prop} {l:List α} (h:RSl S k R w (.slice A n cap) l) :
    n=l.length∧(n≤cap∧cap≤9223372036854775807)∧∃ xs,Cel w k A n xs∧∀ i (h:i<l.length),R w (chunk k xs i) l[i]:=by
  obtain ⟨A',cap',xs,hv,hc,hl,hr,_⟩:=h
  cases hv
  exact ⟨rfl,hc,xs,hl,hr⟩
theorem RSl.elem {R:World→List Value→α→Prop} {l:List α} (h:RSl S k R w (.slice A n cap) l):n=l.length∧(n≤cap∧cap≤9223372036854775807) ∧
    (0<n→∃ b off,A=some ⟨b,off,none⟩∧b<w.heap.size∧∀ i (h:i<l.length),∃ cs:List Value,cs.length=k∧(∀ j u,cs[j]?=some u→w.cell? ⟨b,off+i*k+j,none⟩=some u)∧R w cs l[i]):=by
  obtain ⟨hn,hc,xs,⟨h1,h2,h3⟩,hr⟩:=h.cel
  refine ⟨hn,hc,fun h0=>?_⟩
  obtain ⟨b,off,ha,hb,hx⟩:=h3 h0
  refine ⟨b,off,ha,hb,fun i hi=>⟨chunk k xs i,chunk_length h1 (by omega),fun j u hu=>?_,hr i hi⟩⟩
  rw [Nat.add_assoc]
  exact hx _ u (chunk_get hu)
def RByte (_:World) (cs:List Value) (c:UInt8):Prop:=cs=[.int .u8 c.toNat]
def RBs (S:Nat→Prop) (w:World) (v:Value) (l:List UInt8):Prop:=RSl S 1 RByte w v l
theorem RBs.ext {l:List UInt8} (h:RBs S w v l) (he:Ext w w'):RBs S w' v l:=RSl.ext h he fun _ _ h=>h
def RB1 (S:Nat→Prop) (w:World) (cs:List Value) (l:List UInt8):Prop:=∃ v,cs=[v]∧RBs S w v l
theorem RB1.ext {l:List UInt8} (h:RB1 S w cs l) (he:Ext w w'):RB1 S w' cs l:=by
  obtain ⟨v,hv,h⟩:=h;exact ⟨v,hv,h.ext he⟩
def RBss (S:Nat→Prop) (w:World) (v:Value) (l:List (List UInt8)):Prop:=RSl S 1 (RB1 S) w v l
theorem RBss.ext (h:RBss S w v l) (he:Ext w w'):RBss S w' v l:=RSl.ext h he fun _ _ h=>h.ext he
theorem RBs.keep {l:List UInt8} (h:RBs S w v l) (hz:w.heap.size≤w'.heap.size) (hk:∀ b,S b→b<w.heap.size→w'.heap[b]?=w.heap[b]?):RBs S w' v l:=RSl.keep h hz hk fun _ _ h=>h
theorem RBs.sub {l:List UInt8} (h:RBs S w v l) (hs:∀ b,S b→S' b):RBs S' w v l:=RSl.sub h hs fun _ _ h=>h
theorem RB1.sub {l:List UInt8} (h:RB1 S w cs l) (hs:∀ b,S b→S' b):RB1 S' w cs l:=by
  obtain ⟨v,hv,h⟩:=h;exact ⟨v,hv,h.sub hs⟩
theorem RB1.keep {l:List UInt8} (h:RB1 S w cs l) (hz:w.heap.size≤w'.heap.size) (hk:∀ b,S b→b<w.heap.size→w'.heap[b]?=w.heap[b]?):RB1 S w' cs l:=by
  obtain ⟨v,hv,h⟩:=h;exact ⟨v,hv,h.keep hz hk⟩
theorem RBss.keep (h:RBss S w v l) (hz:w.heap.size≤w'.heap.size) (hk:∀ b,S b→b<w.heap.size→w'.heap[b]?=w.heap[b]?):RBss S w' v l:=RSl.keep h hz hk fun _ _ h=>h.keep hz hk
theorem RBss.sub (h:RBss S w v l) (hs:∀ b,S b→S' b):RBss S' w v l:=RSl.sub h hs fun _ _ h=>h.sub hs
theorem RBs.up {l:List UInt8} (h:RBs S w v l):RBs (Fr S w0) w v l:=h.sub fun _=>.inl
theorem RBss.up (h:RBss S w v l):RBss (Fr S w0) w v l:=h.sub fun _=>.inl
theorem Fr.new (hB:w.heap.size≤B):∀ b,B≤b→Fr S w b:=fun _ h=>.inr (Nat.le_trans hB h)
theorem RBs.at {l:List UInt8} (h:RBs S w (.slice A n cap) l):n=l.length∧(n≤cap∧cap≤9223372036854775807) ∧
    (0<n→∃ b off,A=some ⟨b,off,none⟩∧b<w.heap.size∧∀ i (h:i<l.length),w.cell? ⟨b,off+i,none⟩=some (.int .u8 l[i].toNat)):=by
  obtain ⟨hn,hc,hl⟩:=RSl.elem h
  refine ⟨hn,hc,fun h0=>?_⟩
  obtain ⟨b,off,ha,hb,hx⟩:=hl h0
  refine ⟨b,off,ha,hb,fun i hi=>?_⟩
  obtain ⟨cs,hk,hcs,hr⟩:=hx i hi
  unfold RByte at hr;subst hr
  simpa using hcs 0 _ rfl
theorem RBss.at (h:RBss S w (.slice A n cap) l):n=l.length∧(n≤cap∧cap≤9223372036854775807) ∧
    (0<n→∃ b off,A=some ⟨b,off,none⟩∧b<w.heap.size∧∀ i (h:i<l.length),∃ v,w.cell? ⟨b,off+i,none⟩=some v∧RBs S w v l[i]):=by
  obtain ⟨hn,hc,hl⟩:=RSl.elem h
  refine ⟨hn,hc,fun h0=>?_⟩
  obtain ⟨b,off,ha,hb,hx⟩:=hl h0
  refine ⟨b,off,ha,hb,fun i hi=>?_⟩
  obtain ⟨cs,hk,hcs,v,rfl,hr⟩:=hx i hi
  exact ⟨v,by simpa using hcs 0 _ rfl,hr⟩
theorem RBs.form {l:List UInt8} (h:RBs S w v l):∃ A cap,v=.slice A l.length cap∧l.length≤cap∧cap≤9223372036854775807:=RSl.form h
theorem RBss.form (h:RBss S w v l):∃ A cap,v=.slice A l.length cap∧l.length≤cap∧cap≤9223372036854775807:=RSl.form h
def byteVals (l:List UInt8):List Value:=l.map fun c=>.int .u8 c.toNat
theorem byteVals_one (l:List UInt8):∀ u∈byteVals l,u.oneCell'=true:=by
  intro u hu
  simp only [byteVals,List.mem_map] at hu
  obtain ⟨c,_,rfl⟩:=hu
  rfl
theorem RBs.vals {l:List UInt8} (h:RBs S w (.slice A n cap) l):n=l.length∧(n≤cap∧cap≤9223372036854775807)∧Cel w 1 A n (byteVals l):=by
  obtain ⟨rfl,hc,xs,h1,hr⟩:=RSl.cel h
  refine ⟨rfl,hc,?_⟩
  have hl:xs.length=l.length:=by have:=h1.1;omega
  have:xs=byteVals l:=by
    apply List.ext_getElem (by simp [byteVals,hl])
    intro i h2 h3
    have:=hr i (by omega)
    unfold RByte at this
    rw [chunk_one h2] at this
    simp [byteVals]
    simpa using this
  rw [this] at h1
  exact h1
theorem RBs.own {l:List UInt8} (h:w.ownsRow base e 1 v n (byteVals l)) (hS:∀ b,base≤b→S b):RBs S w v l:=by
  have hl:n=l.length:=by have:=h.1;simp [byteVals] at this;exact this.symm
  exact RSl.own h hS hl (byteVals_one l) fun i hi=>by
    unfold RByte
    rw [chunk_one (by simpa [byteVals] using hi)]
    simp [byteVals]
section
variable {P:Program} {ops:Array Oper} {Q:Exit→Act→World→Prop} {S:World→Prop} {F:Nat→Bool} {light:Nat→Bool}
def wpAnyF (P:Program) (ops:Array Oper) (Q:Exit→Act→World→Prop) (S:World→Prop) (F:Nat→Bool):Nat→Array Bool→Act→World→Prop
  | 0,listed,a,w=>Region.ready .any ops listed=[]∧Q .normal a w
  | fuel+1,listed,a,w =>
    (Region.ready .any ops listed=[]→Q .normal a w) ∧
    ∀ i∈Region.ready .any ops listed,wpOp P ops Q i (fun a' w'=>(F i=false→S w→S w')∧wpAnyF P ops Q S F fuel (listed.setIfInBounds i true) a' w') a w
theorem wpAny_of_F:∀ (fuel:Nat) (listed:Array Bool) (a:Act) (w:World),wpAnyF P ops Q S F fuel listed a w→wpAny P .any ops Q fuel listed a w
  | 0,_,_,_,h=>h
  | fuel+1,_,_,_,h=>⟨h.1,fun i hi=>wpOp_mono (fun a' w' h'=>wpAny_of_F fuel _ a' w' h'.2) (h.2 i hi)⟩
theorem wpAnyF_first {i:Nat} {v:Value} (hi:ops[i]?=some oi) (hsel:∀ (j:Nat) (o:Oper) cs b,ops[j]?=some o→o.op≠.select cs b)
    (hQ:∀ c a w,Q (.panic c) (a.put oi.dst v) w→Q (.panic c) a w) (hFi:F i=false) :
    ∀ (fuel:Nat) (listed:Array Bool) (a:Act) (w:World),
      (∀ j oj,ops[j]?=some oj→j≠i→listed.getD j true=false→(∀ e∈oj.after,Region.binds .any e=true→e.on≠i)→oi.apart ops oj=true) →
      (∀ j oj,ops[j]?=some oj→F j=true→∃ e∈oj.after,Region.binds .any e=true∧e.on=i) →
      i∈Region.ready .any ops listed→YieldsIf P ops S oi v a→S w →
      wpAnyF P ops Q S F fuel (listed.setIfInBounds i true) (a.put oi.dst v) w→wpAnyF P ops Q S F (fuel+1) listed a w:=by
  intro fuel
  induction fuel with
  | zero =>
    intro listed a w _ _ hr hy hS H
    refine ⟨fun h=>(by rw [h] at hr;cases hr),fun j hj=>?_⟩
    by_cases hji:j=i
    · subst hji;exact hy.wpOp hi hS ⟨fun _ h=>h,H⟩
    · have:=ready_mono hj hji
      rw [H.1] at this
      cases this
  | succ fuel ih =>
    intro listed a w hfree hwait hr hy hS H
    refine ⟨fun h=>(by rw [h] at hr;cases hr),fun j hj=>?_⟩
    by_cases hji:j=i
    · subst hji;exact hy.wpOp hi hS ⟨fun _ h=>h,H⟩
    · have h1:=H.2 j (ready_mono hj hji)
      obtain ⟨hjun,oj,hoj,hall⟩:=mem_ready.1 hj
      have hnot:∀ e∈oj.after,Region.binds .any e=true→e.on≠i:=fun e he hb heq=>by
        have h1:=hall e he hb
        have h0:=(mem_ready.1 hr).1
        rw [heq] at h1
        rcases Nat.lt_or_ge i listed.size with h' | h'
        · simp [h'] at h0 h1;rw [h0] at h1;cases h1
        · simp [Array.getElem?_eq_none h'] at h1
      have hFj:F j=false:=by
        cases hF:F j with
        | false=>rfl
        | true =>
          obtain ⟨e,he,hb,heq⟩:=hwait j oj hoj hF
          exact absurd heq (hnot e he hb)
      have h2:=wpOp_putIf hoj (hfree j oj hoj hji hjun hnot) (fun cs b=>hsel i oi cs b hi) (fun cs b=>hsel j oj cs b hoj) hQ hy h1
      have hfree':∀ k ok,ops[k]?=some ok→k≠i→(listed.setIfInBounds j true).getD k true=false →
          (∀ e∈ok.after,Region.binds .any e=true→e.on≠i)→oi.apart ops ok=true:=fun k ok hk hki hun hno=>by
        refine hfree k ok hk hki ?_ hno
        by_cases hjk:j=k
        · subst hjk;exact hjun
        · rw [getD_set_ne true hjk] at hun;exact hun
      refine wpOp_mono (fun a' w' h3=>⟨h3.2.1,ih (listed.setIfInBounds j true) a' w' hfree' hwait (ready_mono hr (Ne.symm hji)) h3.1 (h3.2.1 hFj hS) ?_⟩) h2
      rw [Array.setIfInBounds_comm _ _ hji]
      exact h3.2.2
theorem wpAnyF_firstP {i:Nat} {v:Value} (hi:ops[i]?=some oi) (hsel:∀ (j:Nat) (o:Oper) cs b,ops[j]?=some o→o.op≠.select cs b)
    (hQ:∀ c a w,Q (.panic c) (a.put oi.dst v) w→Q (.panic c) a w) :
    ∀ (fuel:Nat) (listed:Array Bool) (a:Act) (w:World),
      (∀ j oj,ops[j]?=some oj→j≠i→listed.getD j true=false→(∀ e∈oj.after,Region.binds .any e=true→e.on≠i)→oi.apart ops oj=true) →
      i∈Region.ready .any ops listed→Yields P ops oi v a →
      wpAnyF P ops Q S F fuel (listed.setIfInBounds i true) (a.put oi.dst v) w→wpAnyF P ops Q S F (fuel+1) listed a w:=by
  intro fuel
  induction fuel with
  | zero =>
    intro listed a w _ hr hy H
    refine ⟨fun h=>(by rw [h] at hr;cases hr),fun j hj=>?_⟩
    by_cases hji:j=i
    · subst hji;exact hy.wpOp hi ⟨fun _ h=>h,H⟩
    · have:=ready_mono hj hji
      rw [H.1] at this
      cases this
  | succ fuel ih =>
    intro listed a w hfree hr hy H
    refine ⟨fun h=>(by rw [h] at hr;cases hr),fun j hj=>?_⟩
    by_cases hji:j=i
    · subst hji;exact hy.wpOp hi ⟨fun _ h=>h,H⟩
    · have h1:=H.2 j (ready_mono hj hji)
      obtain ⟨hjun,oj,hoj,hall⟩:=mem_ready.1 hj
      have hnot:∀ e∈oj.after,Region.binds .any e=true→e.on≠i:=fun e he hb heq=>by
        have h1:=hall e he hb
        have h0:=(mem_ready.1 hr).1
        rw [heq] at h1
        rcases Nat.lt_or_ge i listed.size with h' | h'
        · simp [h'] at h0 h1;rw [h0] at h1;cases h1
        · simp [Array.getElem?_eq_none h'] at h1
      have h2:=wpOp_put hoj (hfree j oj hoj hji hjun hnot) (fun cs b=>hsel i oi cs b hi) (fun cs b=>hsel j oj cs b hoj) hQ hy h1
      have hfree':∀ k ok,ops[k]?=some ok→k≠i→(listed.setIfInBounds j true).getD k true=false →
          (∀ e∈ok.after,Region.binds .any e=true→e.on≠i)→oi.apart ops ok=true:=fun k ok hk hki hun hno=>by
        refine hfree k ok hk hki ?_ hno
        by_cases hjk:j=k
        · subst hjk;exact hjun
        · rw [getD_set_ne true hjk] at hun;exact hun
      refine wpOp_mono (fun a' w' h3=>⟨h3.2.1,ih (listed.setIfInBounds j true) a' w' hfree' (ready_mono hr (Ne.symm hji)) h3.1 ?_⟩) h2
      rw [Array.setIfInBounds_comm _ _ hji]
      exact h3.2.2
def waitsB (ops:Array Oper) (F:Nat→Bool) (i:Nat):Bool :=
  (List.range ops.size).all fun j=>!F j||((ops[j]?).map fun o=>o.after.any fun e=>Region.binds .any e&&e.on==i).getD true
theorem waitsB_spec {i:Nat} (h:waitsB ops F i=true) (j:Nat) (oj:Oper) (hj:ops[j]?=some oj) (hF:F j=true):∃ e∈oj.after,Region.binds .any e=true∧e.on=i:=by
  have hl:j<ops.size:=(Array.getElem?_eq_some_iff.1 hj).1
  have:=List.all_eq_true.1 h j (List.mem_range.2 hl)
  rw [hF,hj] at this
  simp only [Bool.not_true,Option.map_some,Option.getD_some,Bool.false_or] at this
  obtain ⟨e,he,h2⟩:=Array.any_eq_true'.1 this
  simp only [Bool.and_eq_true,beq_iff_eq] at h2
  exact ⟨e,he,h2⟩
def lightB (ops:Array Oper) (F:Nat→Bool) (listed:Array Bool) (i:Nat):Bool :=
  !F i&&Region.free .any ops listed i&&(Region.ready .any ops listed).contains i&&waitsB ops F i
theorem any_start {a:Act} {w:World} (S:World→Prop) (F:Nat→Bool) (n:Nat) (L:Array Bool) (hm:P.follows .mixedOrders=true) (hn:n=ops.size) (hL:L=Array.replicate ops.size false)
    (h:wpAnyF P ops Q S F n L a w.drew):(Code.region id ops true).wp P Q a w :=
  wp_region_any hm (wpAny_of_F _ _ _ _ (hL ▸ hn ▸ h))
theorem any_nil {a:Act} {w:World} (hr:Region.ready .any ops L=[]) (h:Q .normal a w):wpAnyF P ops Q S F 0 L a w:=⟨hr,h⟩
theorem any_light {i:Nat} {a:Act} {w:World} {o:Oper} {v:Value} (hs:Region.noSelect ops=true) (hb:lightB ops F L i=true) (hL:L.setIfInBounds i true=L') (ho:ops[i]?=some o) (hQ:∀ c a w,Q (.panic c) (a.put o.dst v) w→Q (.panic c) a w) (hw:Region.wanted o (yielded ops a.tmps)=true) (hS:S w)
    (hr:∀ W,S W→(execOp a.eval o).run P W=.ok (.value v) W) (h:wpAnyF P ops Q S F n L' (a.put o.dst v) w):wpAnyF P ops Q S F (n+1) L a w:=by
  subst hL
  simp only [lightB,Bool.and_eq_true,Bool.not_eq_true'] at hb
  obtain ⟨⟨⟨h2,h3⟩,h4⟩,h5⟩:=hb
  exact wpAnyF_first ho (Region.noSelect_spec hs) hQ h2 n L a w (Region.free_spec ho h3) (fun j oj hj hF=>waitsB_spec h5 j oj hj hF) (by simpa using h4) (.inl ⟨hw,hr⟩) hS h
def freeB (ops:Array Oper) (listed:Array Bool) (i:Nat):Bool:=Region.free .any ops listed i&&(Region.ready .any ops listed).contains i
theorem any_pureY {i:Nat} {a:Act} {w:World} {o:Oper} {v:Value} (hs:Region.noSelect ops=true) (hb:freeB ops L i=true) (hL:L.setIfInBounds i true=L') (ho:ops[i]?=some o) (hQ:∀ c a w,Q (.panic c) (a.put o.dst v) w→Q (.panic c) a w)
    (hy:Yields P ops o v a) (h:wpAnyF P ops Q S F n L' (a.put o.dst v) w):wpAnyF P ops Q S F (n+1) L a w:=by
  subst hL
  simp only [freeB,Bool.and_eq_true] at hb
  exact wpAnyF_firstP ho (Region.noSelect_spec hs) hQ n L a w (Region.free_spec ho hb.1) (by simpa using hb.2) hy h
theorem any_one {i:Nat} {a:Act} {w:World} (hr:Region.ready .any ops L=[i]) (hL:L.setIfInBounds i true=L')
    (h:wpOp P ops Q i (fun a' w'=>(F i=false→S w→S w')∧wpAnyF P ops Q S F n L' a' w') a w):wpAnyF P ops Q S F (n+1) L a w:=by
  subst hL
  refine ⟨fun h0=>(by rw [hr] at h0;cases h0),fun j hj=>?_⟩
  rw [hr] at hj
  simp only [List.mem_singleton] at hj
  subst hj
  exact h
theorem any_two {i:Nat} {L2:Array Bool} {a:Act} {w:World} (hr:Region.ready .any ops L=[i,k]) (hL:L.setIfInBounds i true=L1) (hL2:L.setIfInBounds k true=L2)
    (h:wpOp P ops Q i (fun a' w'=>(F i=false→S w→S w')∧wpAnyF P ops Q S F n L1 a' w') a w)
    (h2:wpOp P ops Q k (fun a' w'=>(F k=false→S w→S w')∧wpAnyF P ops Q S F n L2 a' w') a w):wpAnyF P ops Q S F (n+1) L a w:=by
  subst hL
  subst hL2
  refine ⟨fun h0=>(by rw [hr] at h0;cases h0),fun j hj=>?_⟩
  rw [hr] at hj
  simp only [List.mem_cons,List.not_mem_nil,or_false] at hj
  rcases hj with rfl | rfl
  · exact h
  · exact h2
section
variable {i:Nat} {a:Act} {w w':World} {o:Oper} {v:Value} {K:Act→World→Prop}
theorem op_run (ho:ops[i]?=some o) (hw:Region.wanted o (yielded ops a.tmps)=true) (hr:(execOp a.eval o).run P w=.ok (.value v) w') (h:K (a.put o.dst v) w'):wpOp P ops Q i K a w:=by
  unfold wpOp
  rw [ho]
  simp only [hw,if_true]
  exact .inl (by unfold Oper.wp;rw [hr];exact h)
theorem op_do (ho:ops[i]?=some o) (hw:Region.wanted o (yielded ops a.tmps)=true) (hr:(execOp a.eval o).run P w=.ok .skip w') (h:K (a.put o.dst undef) w'):wpOp P ops Q i K a w:=by
  unfold wpOp
  rw [ho]
  simp only [hw,if_true]
  exact .inl (by unfold Oper.wp;rw [hr];exact h)
theorem op_wp (ho:ops[i]?=some o) (hw:Region.wanted o (yielded ops a.tmps)=true) (h:o.wp P a w K Q):wpOp P ops Q i K a w:=by
  unfold wpOp
  rw [ho]
  simp only [hw,if_true]
  exact .inl h
theorem op_call (ho:ops[i]?=some o) (hw:Region.wanted o (yielded ops a.tmps)=true) {f:FuncId} {args:Array Value} (hr:(execOp a.eval o).run P w=.ok (.enter f args) w') {R:Ending→World→Prop} (hc:Calls P f args w' R)
    (h:∀ e w'',R e w''→∃ v,e=.returned v∧K (a.put o.dst v) w''):wpOp P ops Q i K a w:=by
  unfold wpOp
  rw [ho]
  simp only [hw,if_true]
  refine .inl ?_
  unfold Oper.wp
  rw [hr]
  refine hc.mono fun e w'' hR=>?_
  obtain ⟨v,rfl,hk⟩:=h e w'' hR
  exact hk
end
section
variable {ρ:Operand→Value} {W:World} {d:Option Tmp} {t:TypeId} {p:String} {af:Array Edge} {g:Option (Nat × Bool)}
def fieldOk (P:Program) (fl:Field):Bool:=match P.info? fl.type with | some i=>i.size != 0 | none=>false
theorem rn_field {f o:Nat} {fs:Array Field} {fl:Field} (hu:P.underlying s=some (.struct fs)) (hf:fs[f]?=some fl) (hsz:fieldOk P fl=true) (hx:ρ x=.pointer (some ⟨b,o,none⟩)) (hk:o+fl.offset=k) :
    (execOp ρ ⟨d,.fieldAddr s x f,t,p,af,g⟩).run P W=.ok (.value (.pointer (some ⟨b,k,none⟩))) W:=by
  subst hk
  have ha:(⟨b,o,none⟩:Addr).add fl.offset=⟨b,o+fl.offset,none⟩:=by unfold Addr.add;split <;> simp_all
  unfold fieldOk at hsz
  cases hi:P.info? fl.type with
  | none=>rw [hi] at hsz;cases hsz
  | some i =>
    rw [hi] at hsz
    have hsz:i.size≠0:=by simpa using hsz
    simp [execOp,Instr.fieldAt,run_underlying hu,hf,Instr.sureAddr,fieldPlace,sizeOf,typeInfo,hi,hsz,hx,ha]
theorem rn_load {o:Nat} {v:Value} (hagg:(isAgg s).run P W=.ok false W) (hx:ρ x=.pointer (some ⟨b,o,none⟩)) (hc:W.cell? ⟨b,o,none⟩=some v) :
    (execOp ρ ⟨d,.load s x,t,p,af,g⟩).run P W=.ok (.value v) W:=by
  simp [execOp,Instr.loadAt,Instr.sureAddr,loadVar,hagg,hx,go_sem,hc]
theorem run_storeVar_cell {q:Addr} {v:Value} (hi:(P.info? ty).map (·.size)=some 1) (h1:u.oneCell'=true) (hc:W.cell? q=some v) (hf:W.frozen? q=false) :
    (storeVar ty q u).run P W=.ok () (W.setCell q u):=by
  have hcs:u.cells=#[u]:=by cases u <;> simp_all [Value.cells,Value.oneCell']
  have ha:q.add 0=q:=by simp [Addr.add]
  cases hq:P.info? ty with
  | none=>simp [hq] at hi
  | some i =>
    have hs:i.size=1:=by simp [hq] at hi;exact hi
    simp [storeVar,sizeOf,typeInfo,hq,hcs,hs,storeCells,ha,run_store P W q u .plain h1,hc,hf]
theorem isAgg_no (hu:P.underlying s=some td) (h:(match td with | .struct _ | .array _ _=>true | _=>false)=false):(isAgg s).run P W=.ok false W:=by
  cases td <;> simp_all [isAgg,run_underlying hu]
end
end
structure El (P:Program) (t e:TypeId) (z:Value) (k bytes:Nat):Prop where
  ht:P.underlying t=some (.slice e)
  hi:(P.info? e).map (fun i=>(i.zero,i.size,i.bytes))=some (some z,k,bytes)
  hz:z.cells.size=k
  hk:0<k
theorem stop_append {P:Program} {ops:Array Oper} {Q:Exit→Act→World→Prop} {rest:List Oper} {a:Act} {w:World} {dst:Option Tmp} {pos:String} {after:Array Edge} {g:Option (Nat × Bool)} {as_:Array Operand} 
    (h:Hid (wpList P ops Q ({ dst:=dst,op:=.call { callee:=.builtin .append,args:=as_,argTypes:=ts },type:=ty,pos:=pos,after:=after,guard:=g }::rest) a w)) :
    wpList P ops Q ({ dst:=dst,op:=.call { callee:=.builtin .append,args:=as_,argTypes:=ts },type:=ty,pos:=pos,after:=after,guard:=g }::rest) a w:=h
theorem addr_add (b off j:Nat):(⟨b,off,none⟩:Addr).add j=⟨b,off+j,none⟩:=by unfold Addr.add;split <;> simp_all
theorem own_form {w:World} (h:w.ownsRow base e k v n xs) (hn:0<n) :
    ∃ g cap,v=.slice (some ⟨g,0,none⟩) n cap∧base≤g∧g<w.heap.size∧n≤cap∧cap≤9223372036854775807:=by
  rcases h.2 with ⟨_,h0⟩ | ⟨g,cap,cur,rfl,hb,hg,hnc,hcm,_⟩
  · omega
  · exact ⟨g,cap,rfl,hb,(Array.getElem?_eq_some_iff.1 hg).1,hnc,by simpa [maxLen] using hcm⟩
theorem own_any {w:World} (h:w.ownsRow base e k v n xs) :
    ∃ A cap,v=.slice A n cap∧n≤cap∧cap≤9223372036854775807:=by
  rcases h.2 with ⟨rfl,h0⟩ | ⟨g,cap,cur,rfl,hb,hg,hnc,hcm,_⟩
  · exact ⟨none,0,by rw [h0],by omega,by omega⟩
  · exact ⟨_,cap,rfl,hnc,by simpa [maxLen] using hcm⟩
theorem own_cel {w:World} {m:Nat} (h:w.ownsRow base e k (.slice A m cap) n xs) (h1:∀ u∈xs,u.oneCell'=true):m=n∧n≤cap∧Cel w k A n xs:=by
  rcases h.2 with ⟨h',h0⟩ | ⟨g,cap',cur,h',hb,hg,hnc,hcm,hcs,ht⟩
  · cases h'
    subst h0
    exact ⟨rfl,Nat.le_refl _,h.1,h1,fun h=>absurd h (by omega)⟩
  · cases h'
    refine ⟨rfl,hnc,h.1,h1,fun h0=>⟨g,0,rfl,(Array.getElem?_eq_some_iff.1 hg).1,fun j u hu=>?_⟩⟩
    have hc:=h.cells (g:=g) rfl j u hu
    rwa [addr_add] at hc
theorem own_ext {w:World} (h:w.ownsRow base e k v n xs) (he:Ext w w'):w'.ownsRow base e k v n xs :=
  h.kept (row:=none) ⟨he.below.os,he.below.tape,he.below.output,he.size,fun i hi _=>he.below.block i hi⟩ (by cases v.ownBlock <;> simp)
section
variable {P:Program} {w:World} {ops:Array Oper} {rest:List Oper} {o:Oper} {a:Act} {Q:Exit→Act→World→Prop}
theorem append_nil_src (E:El P t e z k bytes) {v:Value} {n:Nat} {xs:List Value} (hown:w.ownsRow base e k v n xs) (c:Nat) :
    (Builtin.append_ #[t,t] ty #[v,.slice none 0 c]).run P w=.ok v w:=by
  obtain ⟨i,hi,hz0,hz1,hz2⟩:=info_parts E.hi
  rcases hown.2 with ⟨rfl,rfl⟩ | ⟨g,cap,cur,rfl,_,_,hnc,_⟩
  · simp [Builtin.append_,run_underlying E.ht,sizeOf,typeInfo,hi,Builtin.lenOf,Builtin.firstCells]
  · simp [Builtin.append_,run_underlying E.ht,sizeOf,typeInfo,hi,Builtin.lenOf,Builtin.firstCells,hnc,storeCells]
theorem run_app (E:El P t e z k bytes) {v:Value} {n:Nat} {xs:List Value} (hown:w.ownsRow base e k v n xs)
    {A:Option Addr} {m c:Nat} {ys:List Value} (hr:Cel w k A m ys) (h63:n+m≤9223372036854775807) (hbytes:(n+m)*bytes≤140737488355328) (hbase:base≤w.heap.size) :
    ∃ v' w',(Builtin.append_ #[t,t] ty #[v,.slice A m c]).run P w=.ok v' w'∧w'.ownsRow base e k v' (n+m) (xs++ys)∧w.grownBy w' v.ownBlock∧(v'.ownBlock=v.ownBlock∨v'.ownBlock=some w.heap.size):=by
  obtain ⟨i,hi,hz0,hz1,hz2⟩:=info_parts E.hi
  obtain ⟨hl,h1,hc⟩:=hr
  rcases A with _ | ad
  · have hm:m=0:=by
      rcases Nat.eq_zero_or_pos m with h0 | h0
      · exact h0
      · obtain ⟨b,off,h,_⟩:=hc h0
        cases h
    subst hm
    have hn:ys=[]:=List.eq_nil_of_length_eq_zero (by simpa using hl)
    subst hn
    exact ⟨v,w,append_nil_src E hown c,by simpa using hown,⟨rfl,rfl,rfl,Nat.le_refl _,fun _ _ _=>rfl⟩,.inl rfl⟩
  · have hcells:∀ j u,ys[j]?=some u→w.cell? (ad.add j)=some u:=by
      intro j u hu
      rcases Nat.eq_zero_or_pos m with h0 | h0
      · subst h0
        have hn:ys=[]:=List.eq_nil_of_length_eq_zero (by simpa using hl)
        subst hn
        simp at hu
      · obtain ⟨b,off,h,_,hx⟩:=hc h0
        injection h with h
        subst h
        rw [addr_add]
        exact hx j u hu
    obtain ⟨v',w',hrun,h2,h3,_,h5⟩:=run_append_own_at (P:=P) w base t ty e i z k bytes E.ht hi hz0 hz1 hz2 E.hz E.hk v n xs hown ad m c ys hl hcells h1 (by simpa [maxLen] using h63) hbytes hbase
    exact ⟨v',w',hrun,h2,h3,h5⟩
theorem wpList_app (E:El P t e z k bytes) (hgd:o.guard=none) {s x:Operand}
    (ho:o.op=.call { callee:=.builtin .append,args:=#[s,x],argTypes:=#[t,t] })
    {v:Value} (hs:a.eval s=v) {A:Option Addr} {m c:Nat} (hx:a.eval x=.slice A m c)
    {base n:Nat} {xs ys:List Value} (hown:w.ownsRow base e k v n xs) (hr:Cel w k A m ys) (hbase:base≤w.heap.size)
    (h63:n+m≤9223372036854775807) (hbytes:(n+m)*bytes≤140737488355328)
    (h:∀ v' w',w'.ownsRow base e k v' (n+m) (xs++ys)→w.grownBy w' v.ownBlock→(v'.ownBlock=v.ownBlock∨v'.ownBlock=some w.heap.size)→wpList P ops Q rest (a.put o.dst v') w'):wpList P ops Q (o::rest) a w:=by
  refine wpList_plain hgd fun K hK=>?_
  obtain ⟨v',w',hrun,h2,h3,h4⟩:=run_app (P:=P) (ty:=o.type) (c:=c) E hown hr h63 hbytes hbase
  unfold Oper.wp execOp
  simp only [ho,resolve,invoke,builtin,Sem.run_bind,Sem.run_pure,Result.andThen_ok,List.map_toArray,List.map_cons,List.map_nil,hs,hx,hrun]
  exact hK _ _ (h v' w' h2 h3 h4)
theorem own_of_blk {w:World} {cur:List Value} (hg:w.heap[g]?=some (.cells cur.toArray t (0,0))) (hn:n≤cap) (hcap:cap≤9223372036854775807) (hc:cur.length=cap*k) {base:Nat} (hb:base≤g) :
    w.ownsRow base t k (.slice (some ⟨g,0,none⟩) n cap) n (cur.take (n*k)):=by
  have:n*k≤cap*k:=Nat.mul_le_mul_right _ hn
  exact ⟨by rw [List.length_take];omega,.inr ⟨g,cap,cur.toArray,rfl,hb,hg,hn,by simpa [maxLen] using hcap,by simpa using hc,by simp⟩⟩
end
theorem grown_setC {a:World} (h:a.grownBy w (some n)):a.grownBy (w.setCell ⟨n,i,none⟩ u) (some n) :=
  ⟨h.os,h.tape,h.output,by simpa [World.setCell] using h.size,fun k hk hne=>(Below.heap_setCell w ⟨n,i,none⟩ u k (fun e=>hne (by rw [e]))).trans (h.block k hk hne)⟩
theorem grown_rfl (w:World) (row:Option Nat):w.grownBy w row:=⟨rfl,rfl,rfl,Nat.le_refl _,fun _ _ _=>rfl⟩
theorem Ext.grownN {a:World} (h:Ext a w) (hg:w.grownBy w' (some n)) (hn:a.heap.size≤n):Ext a w' :=
  h.grown hg (fun k hk=>by injection hk with hk;omega)
theorem Blk.grownN {m:Nat} (h:Blk w m t cs) (hg:w.grownBy w' (some n)) (hn:m≠n):Blk w' m t cs :=
  h.grown hg (fun e=>hn (by injection e))
theorem Blk.below (h:Blk w n t cs) (hb:Below B w w') (hn:n<B):Blk w' n t cs:=(hb.block n hn).trans h
theorem RBss.get (h:RBss S w (.slice A n cap) l) {i:Nat} {x:List UInt8} (hi:l[i]?=some x) :
    ∃ b off A' c',A=some ⟨b,off,none⟩∧b<w.heap.size∧w.cell? ⟨b,off+i,none⟩=some (.slice A' x.length c')∧RBs S w (.slice A' x.length c') x∧x.length≤c'∧c'≤9223372036854775807:=by
  obtain ⟨hl,rfl⟩:=List.getElem?_eq_some_iff.1 hi
  obtain ⟨hn,_,hx⟩:=h.at
  obtain ⟨b,off,ha,hb,hc⟩:=hx (by omega)
  obtain ⟨v,c1,c2⟩:=hc i hl
  obtain ⟨A',c',rfl,h1,h2⟩:=c2.form
  exact ⟨b,off,A',c',ha,hb,c1,c2,h1,h2⟩
theorem RSl.inS {R:World→List Value→α→Prop} {l:List α} (h:RSl S k R w (.slice A n cap) l):0<n→∃ b off,A=some ⟨b,off,none⟩∧S b:=by
  obtain ⟨A',cap',xs,hv,hc,hl,hr,h4⟩:=h
  cases hv
  exact h4
theorem RSl.take {R:World→List Value→α→Prop} {l:List α} (h:RSl S k R w (.slice A n cap) l) {m c:Nat} (hm:m≤n) (hc:m≤c) (hc2:c≤9223372036854775807):RSl S k R w (.slice A m c) (l.take m):=by
  have hSS:=h.inS
  obtain ⟨hn,_,xs,⟨h1,h2,h3⟩,hr⟩:=h.cel
  have hmk:m*k≤n*k:=Nat.mul_le_mul_right _ hm
  have hl:(l.take m).length=m:=by rw [List.length_take];omega
  refine ⟨A,c,xs.take (m*k),by rw [hl],⟨by omega,hc2⟩,⟨by rw [List.length_take,hl];omega,fun u hu=>h2 u (List.mem_of_mem_take hu),fun h0=>?_⟩,fun i hi=>?_,fun h0=>hSS (by omega)⟩
  · obtain ⟨b,off,ha,hb,hx⟩:=h3 (by omega)
    refine ⟨b,off,ha,hb,fun j u hu=>hx j u ?_⟩
    rw [List.getElem?_take] at hu
    split at hu
    · exact hu
    · cases hu
  · have hi':i<m:=by omega
    have:chunk k (xs.take (m*k)) i=chunk k xs i:=by
      unfold chunk
      have:(i+1)*k≤m*k:=Nat.mul_le_mul_right _ hi'
      rw [Nat.add_mul,Nat.one_mul] at this
      rw [List.drop_take,List.take_take]
      congr 1
      omega
    rw [this,List.getElem_take]
    exact hr i (by omega)
def Pres (S:Nat→Prop) (w w':World):Prop:=w.heap.size≤w'.heap.size∧∀ b,S b→b<w.heap.size→w'.heap[b]?=w.heap[b]?
theorem Pres.refl (w:World):Pres S w w:=⟨Nat.le_refl _,fun _ _ _=>rfl⟩
theorem Pres.trans {a b c:World} (h:Pres S a b) (k:Pres S b c):Pres S a c:=⟨Nat.le_trans h.1 k.1,fun n hn hl=>(k.2 n hn (Nat.lt_of_lt_of_le hl h.1)).trans (h.2 n hn hl)⟩
theorem Pres.of_ext {a b:World} (h:Ext a b):Pres S a b:=⟨h.size,fun n _ hl=>h.below.block n hl⟩
theorem Pres.ext {a b c:World} (h:Pres S a b) (k:Ext b c):Pres S a c:=h.trans (Pres.of_ext k)
theorem Pres.alloc {a w:World} (h:Pres S a w) (o:Obj):Pres S a (w.alloc o):=h.ext ((Ext.refl _).alloc _)
theorem Pres.drew {a w:World} (h:Pres S a w):Pres S a w.drew:=h.ext (Ext.refl w).drew
theorem Pres.grownN {a w:World} (h:Pres S a w) (hg:w.grownBy w' (some n)) (hn:¬ S n):Pres S a w' :=
  h.trans ⟨hg.size,fun b hb hl=>hg.block b hl (fun e=>hn (by injection e with e;rw [← e];exact hb))⟩
theorem RBs.pres {w:World} {l:List UInt8} (h:RBs S w v l) (hp:Pres S w w'):RBs S w' v l:=h.keep hp.1 hp.2
theorem RBss.pres {w:World} (h:RBss S w v l) (hp:Pres S w w'):RBss S w' v l:=h.keep hp.1 hp.2
theorem RSl.subB {R R':World→List Value→α→Prop} {w:World} {l:List α} (h:RSl S k R w v l) (hs:∀ b,b<w.heap.size→S b→S' b) (hR:∀ cs x,R w cs x→R' w cs x):RSl S' k R' w v l:=by
  obtain ⟨A,cap,xs,hv,hc,hl,hr,h4⟩:=h
  refine ⟨A,cap,xs,hv,hc,hl,fun i hi=>hR _ _ (hr i hi),fun h0=>?_⟩
  obtain ⟨b,off,ha,hS⟩:=h4 h0
  obtain ⟨b',off',ha',hb',_⟩:=hl.2.2 h0
  rw [ha] at ha'
  cases ha'
  exact ⟨b,off,ha,hs b hb' hS⟩
theorem RBs.subB {w:World} {l:List UInt8} (h:RBs S w v l) (hs:∀ b,b<w.heap.size→S b→S' b):RBs S' w v l:=RSl.subB h hs fun _ _ h=>h
theorem RB1.subB {w:World} {l:List UInt8} (h:RB1 S w cs l) (hs:∀ b,b<w.heap.size→S b→S' b):RB1 S' w cs l:=by
  obtain ⟨v,hv,h⟩:=h;exact ⟨v,hv,h.subB hs⟩
theorem RBss.subB {w:World} (h:RBss S w v l) (hs:∀ b,b<w.heap.size→S b→S' b):RBss S' w v l:=RSl.subB h hs fun _ _ h=>h.subB hs
theorem Blk.newE {w:World} {a:Array Value} (hn:n=w.heap.size) (e:cs.toArray=a):Blk (w.alloc (.cells a t)) n t cs:=by
  subst e;exact Blk.new w n t cs hn
theorem Blk.cel {w:World} {m:Nat} (h:Blk w n t cs) (hl:cs.length=m*k) (h1:∀ u∈cs,u.oneCell'=true):Cel w k (some ⟨n,0,none⟩) m cs :=
  ⟨hl,h1,fun _=>⟨n,0,rfl,h.lt,fun j u hu=>by rw [Nat.zero_add,h.rule.1];exact hu⟩⟩
theorem own_ne {w:World} (h:w.ownsRow base e k v n xs) {b:Nat} (hb:b<base):some b≠v.ownBlock:=fun e=>by
  have:=(h.lt b e.symm).1
  omega
theorem own_heap {w:World} (h:w.ownsRow base e k v n xs) {g:Nat} (hg:v.ownBlock=some g):∃ cur,w.heap[g]?=some (.cells cur e (0,0)):=by
  rcases h.2 with ⟨rfl,_⟩ | ⟨g',cap,cur,rfl,hb,hg',_⟩
  · cases hg
  · injection hg with hg
    subst hg
    exact ⟨cur,hg'⟩
theorem Blk.ne_tag {w:World} {cur:Array Value} (h:Blk w b t cs) (hg:w.heap[g]?=some (.cells cur e (0,0))) (hte:t≠e):b≠g:=by
  rintro rfl
  unfold Blk at h
  rw [hg] at h
  injection h with h
  injection h with _ h _
  exact hte h.symm
theorem grown_blk {w:World} (ho:w.ownsRow base e k v n xs) (hg:w.grownBy w' v.ownBlock) {b:Nat} {t:TypeId} {cs:List Value} (h:Blk w b t cs) (hte:t≠e):Blk w' b t cs:=by
  refine h.grown hg (fun e1=>?_)
  obtain ⟨cur,hc⟩:=own_heap ho e1.symm
  exact h.ne_tag hc hte rfl
section
variable {P:Program} {w:World} {ops:Array Oper} {o:Oper} {a:Act} {K:Act→World→Prop} {Q:Exit→Act→World→Prop} {E:Prop}
end
section
variable {P:Program} {ops:Array Oper} {Q:Exit→Act→World→Prop} {i:Nat} {a:Act} {w:World} {o:Oper} {K:Act→World→Prop}
theorem op_new (f:Nat→Value) (cs:List Value) (T:TypeId) (ho:ops[i]?=some o) (hw:Region.wanted o (yielded ops a.tmps)=true)
    (hr:(execOp a.eval o).run P w=.ok (.value (f w.heap.size)) (w.alloc (.cells cs.toArray T)))
    (h:∀ g w',w.heap.size=g→w'.heap.size=g+1→Blk w' g T cs→Ext w w'→K (a.put o.dst (f g)) w'):wpOp P ops Q i K a w :=
  op_run ho hw hr (h _ _ rfl (by simp) (Blk.new w _ _ _ rfl) ((Ext.refl _).alloc _))
theorem op_app (E:El P t e z k bytes) (ho:ops[i]?=some o) (hw:Region.wanted o (yielded ops a.tmps)=true) {s x:Operand}
    (hop:o.op=.call { callee:=.builtin .append,args:=#[s,x],argTypes:=#[t,t] })
    {v:Value} (hs:a.eval s=v) {A:Option Addr} {m c:Nat} (hx:a.eval x=.slice A m c)
    {base n:Nat} {xs ys:List Value} (hown:w.ownsRow base e k v n xs) (hr:Cel w k A m ys) (hbase:base≤w.heap.size)
    (h63:n+m≤9223372036854775807) (hbytes:(n+m)*bytes≤140737488355328)
    (h:∀ v' w',w'.ownsRow base e k v' (n+m) (xs++ys)→w.grownBy w' v.ownBlock→(v'.ownBlock=v.ownBlock∨v'.ownBlock=some w.heap.size)→K (a.put o.dst v') w'):wpOp P ops Q i K a w:=by
  obtain ⟨v',w',hrun,h2,h3,h4⟩:=run_app (P:=P) (ty:=o.type) (c:=c) E hown hr h63 hbytes hbase
  refine op_wp ho hw ?_
  unfold Oper.wp execOp
  simp only [hop,resolve,invoke,builtin,Sem.run_bind,Sem.run_pure,Result.andThen_ok,List.map_toArray,List.map_cons,List.map_nil,hs,hx,hrun]
  exact h v' w' h2 h3 h4
theorem op_store (ho:ops[i]?=some o) (hw:Region.wanted o (yielded ops a.tmps)=true) (hop:o.op=.store ty x y) {g:Nat} {t:TypeId} {old cells:List Value}
    (hx:a.eval x=.pointer (some ⟨g,0,none⟩)) (hy:a.eval y=.agg cells.toArray) (hg:Blk w g t old) (hi:(P.info? ty).map (·.size)=some cells.length) (hl:old.length=cells.length) (h1:∀ u∈cells,u.oneCell'=true)
    (h:∀ w',Blk w' g t cells→w.grownBy w' (some g)→K (a.put o.dst undef) w'):wpOp P ops Q i K a w:=by
  have hr:=run_storeVar_row (P:=P) w g t ty old.toArray cells.toArray hg (by simpa using hi) (by simpa using hl) (by simpa using h1)
  refine op_do (w':=w.setRow g cells.toArray) ho hw ?_ (h _ (setRow_heap w g old.toArray cells.toArray t _ hg) ⟨rfl,rfl,rfl,by simp,fun k _ hk=>setRow_other w g k _ (fun e=>hk (by rw [e]))⟩)
  unfold execOp
  simp only [hop,hx,hy,Instr.storeAt,Instr.sureAddr,Sem.run_bind,Sem.run_pure,Result.andThen_ok,hr]
theorem op_store1 (ho:ops[i]?=some o) (hw:Region.wanted o (yielded ops a.tmps)=true) (hop:o.op=.store ty x y) {g j:Nat} {t:TypeId} {old:List Value} {u:Value}
    (hx:a.eval x=.pointer (some ⟨g,j,none⟩)) (hy:a.eval y=u) (hg:Blk w g t old) (hi:(P.info? ty).map (·.size)=some 1) (hj:j<old.length) (h1:u.oneCell'=true)
    (h:∀ w',Blk w' g t (old.set j u)→w.grownBy w' (some g)→K (a.put o.dst undef) w'):wpOp P ops Q i K a w:=by
  have hr:(storeVar ty ⟨g,j,none⟩ u).run P w=.ok () (w.setCell ⟨g,j,none⟩ u):=run_storeVar_cell hi h1 (by rw [hg.rule.1];exact List.getElem?_eq_getElem hj) (hg.rule.2 j)
  refine op_do (w':=w.setCell ⟨g,j,none⟩ u) ho hw ?_ (h _ (hg.set j u) (grown_setC (grown_rfl _ _)))
  unfold execOp
  simp only [hop,hx,hy,Instr.storeAt,Instr.sureAddr,Sem.run_bind,Sem.run_pure,Result.andThen_ok,hr]
end
def look:List (Nat × Value)→Nat→Option Value
  | [],_=>none
  | (k,v)::r,t=>cond (Nat.beq k t) (some v) (look r t)
def Sl (N:Nat) (m:List (Nat × Value)) (a:Act):Prop:=a.tmps.size=N∧a.defers=[]∧∀ t v,look m t=some v→a.eval (.tmp t)=v
def aggTy:TypeDesc→Bool | .struct _=>true | .array _ _=>true | _=>false
theorem Sl.get (h:Sl N m a) {t:Nat} {v:Value} (e:look m t=some v):a.eval (.tmp t)=v:=h.2.2 t v e
theorem Sl.put (h:Sl N m a) {d:Nat} {v:Value} (hd:Nat.blt d N=true):Sl N ((d,v)::m) (a.put (some d) v):=by
  obtain ⟨h1,h2,h3⟩:=h
  have hd:d<a.tmps.size:=by rw [h1];simpa [Nat.blt_eq] using hd
  refine ⟨by simp [Act.put,h1],by simp [Act.put,h2],fun t u ht=>?_⟩
  simp only [look] at ht
  simp only [Act.eval,Act.put,Array.getD_eq_getD_getElem?,Array.getElem?_setIfInBounds]
  by_cases hdt:d=t
  · subst hdt
    rw [Nat.beq_refl] at ht
    injection ht with ht
    subst ht
    simp [hd]
  · have:Nat.beq d t=false:=by rw [← Bool.not_eq_true];simpa [Nat.beq_eq] using hdt
    rw [this] at ht
    rw [if_neg hdt]
    have:=h3 t u ht
    simpa [Act.eval,Array.getD_eq_getD_getElem?] using this
theorem Sl.none (h:Sl N m a) {v:Value}:Sl N m (a.put Option.none v):=h
theorem Sl.nil (h:Sl N m a):Sl N [] a:=⟨h.1,h.2.1,fun _ _ e=>by cases e⟩
theorem Sl.cons (h:Sl N m' a) {t:Nat} {v:Value} (e:a.eval (.tmp t)=v):Sl N ((t,v)::m') a:=by
  refine ⟨h.1,h.2.1,fun s u hs=>?_⟩
  simp only [look] at hs
  by_cases hst:t=s
  · subst hst
    rw [Nat.beq_refl] at hs
    injection hs with hs
    rw [← hs];exact e
  · have:Nat.beq t s=false:=by rw [← Bool.not_eq_true];simpa [Nat.beq_eq] using hst
    rw [this] at hs
    exact h.2.2 s u hs
theorem Sl.start (args:Array Value) (n:Nat):Sl (args.size+n) [] { tmps:=args++Array.replicate n undef,defers:=[] }:=⟨by simp,rfl,fun _ _ e=>by cases e⟩
def argList:Nat→List Value→List (Nat × Value)
  | _,[]=>[]
  | k,v::r=>(k,v)::argList (k+1) r
theorem look_args:∀ (l:List Value) (k t:Nat) (v:Value),look (argList k l) t=some v→k≤t∧l[t - k]?=some v
  | [],_,_,_,h=>by cases h
  | u::l,k,t,v,h=>by
    simp only [argList,look] at h
    by_cases hk:k=t
    · subst hk
      rw [Nat.beq_refl] at h
      simpa using h
    · have:Nat.beq k t=false:=by rw [← Bool.not_eq_true];simpa [Nat.beq_eq] using hk
      rw [this] at h
      obtain ⟨h1,h2⟩:=look_args l (k+1) t v h
      exact ⟨by omega,by rw [show t - k=(t - (k+1))+1 from by omega];simpa using h2⟩
theorem Sl.args (l:List Value) (n N:Nat) (hN:l.length+n=N):Sl N (argList 0 l) { tmps:=l.toArray++Array.replicate n undef,defers:=[] }:=by
  refine ⟨by simp [hN],rfl,fun t v e=>?_⟩
  obtain ⟨_,h⟩:=look_args l 0 t v e
  rw [Nat.sub_zero] at h
  have hl:=(List.getElem?_eq_some_iff.1 h).1
  simp only [Act.eval,Array.getD_eq_getD_getElem?]
  rw [Array.getElem?_append_left (by simpa using hl)]
  simp [h]
theorem calls_enter {P:Program} {c:Code} {l:List Value} {w:World} (hf:P.funcs[f]?=some fn) (hb:fn.body=some c) (hn:fn.ntmps=N) (hl:Nat.ble l.length N=true)
    (h:∀ a,Sl N (argList 0 l) a→c.wp P (bodyPost P fn R) a w):Calls P f l.toArray w R:=by
  refine calls_of_wp hf hb (h _ ?_)
  rw [hn]
  refine Sl.args l _ N ?_
  have:l.length≤N:=by simpa using hl
  simp;omega
section
variable {P:Program} {ops:Array Oper} {Q:Exit→Act→World→Prop} {S:World→Prop} {F:Nat→Bool} {i:Nat} {w w':World} {o:Oper} {v:Value} {K:Act→World→Prop} {d:Nat}
theorem wanted_guard {b x:Bool} (hg:o.guard=some (j,b)) (hj:ops[j]?=some oj) (hd:oj.dst=some dj) (hF:Sl N m a) {y:Bool} (hv:look m dj=some (.bool y)) (hy:y=x) (hb:(x==b)=true):Region.wanted o (yielded ops a.tmps)=true:=by
  subst hy
  have h:=hF.get hv
  simp only [Act.eval,Array.getD_eq_getD_getElem?] at h
  have h2:a.tmps[dj]?=some (.bool y):=by
    cases hc:a.tmps[dj]? with
    | none=>rw [hc] at h;cases h
    | some u=>rw [hc] at h;rw [← h];rfl
  have hb:y=b:=by simpa using hb
  simp [Region.wanted,hg,yielded,hj,hd,h2,hb]
theorem unwanted_guard {b x:Bool} (hg:o.guard=some (j,b)) (hj:ops[j]?=some oj) (hd:oj.dst=some dj) (hF:Sl N m a) {y:Bool} (hv:look m dj=some (.bool y)) (hy:y=x) (hb:(x==b)=false):Region.wanted o (yielded ops a.tmps)=false:=by
  subst hy
  have h:=hF.get hv
  simp only [Act.eval,Array.getD_eq_getD_getElem?] at h
  have h2:a.tmps[dj]?=some (.bool y):=by
    cases hc:a.tmps[dj]? with
    | none=>rw [hc] at h;cases h
    | some u=>rw [hc] at h;rw [← h];rfl
  have hb:y≠b:=by simpa using hb
  simp [Region.wanted,hg,yielded,hj,hd,h2,hb]
theorem wpl_op (ho:ops[i]?=some o) (h:wpOp P ops Q i (wpList P ops Q rest) a w):wpList P ops Q (o::rest) a w:=by
  unfold wpOp at h
  rw [ho] at h
  exact h
theorem o_val (hF:Sl N m a) (ho:ops[i]?=some o) (hw:Region.wanted o (yielded ops a.tmps)=true) (hd:o.dst=some d) (hN:Nat.blt d N=true)
    (hr:(execOp a.eval o).run P w=.ok (.value v) w) (h:∀ a',Sl N ((d,v)::m) a'→K a' w):wpOp P ops Q i K a w :=
  op_run ho hw hr (h _ (by rw [hd];exact hF.put hN))
theorem o_skip (hF:Sl N m a) (ho:ops[i]?=some o) (hw:Region.wanted o (yielded ops a.tmps)=false) (hd:o.dst=some d) (hN:Nat.blt d N=true)
    (h:∀ a',Sl N ((d,undef)::m) a'→K a' w):wpOp P ops Q i K a w:=by
  unfold wpOp
  rw [ho]
  simp only [hw]
  exact h _ (by rw [hd];exact hF.put hN)
theorem o_new (f:Nat→Value) (cs:List Value) (T:TypeId) (hF:Sl N m a) (ho:ops[i]?=some o) (hw:Region.wanted o (yielded ops a.tmps)=true) (hd:o.dst=some d) (hN:Nat.blt d N=true)
    (hr:(execOp a.eval o).run P w=.ok (.value (f w.heap.size)) (w.alloc (.cells cs.toArray T)))
    (h:∀ g w' a',Sl N ((d,f g)::m) a'→w.heap.size=g→w'.heap.size=g+1→Blk w' g T cs→Ext w w'→K a' w'):wpOp P ops Q i K a w :=
  op_new f cs T ho hw hr fun g w' h1 h2 h3 h4=>h g w' _ (by rw [hd];exact hF.put hN) h1 h2 h3 h4
theorem o_store {x y:Operand} (_hF:Sl N m a) (ho:ops[i]?=some o) (hw:Region.wanted o (yielded ops a.tmps)=true) (hd:o.dst=none) (hop:o.op=.store ty x y) {g:Nat} {t:TypeId} {old cells:List Value}
    (hx:a.eval x=.pointer (some ⟨g,0,none⟩)) (hy:a.eval y=.agg cells.toArray) (hg:Blk w g t old) (hi:(P.info? ty).map (·.size)=some cells.length) (hl:old.length=cells.length) (h1:∀ u∈cells,u.oneCell'=true)
    (h:∀ w',Blk w' g t cells→w.grownBy w' (some g)→K a w'):wpOp P ops Q i K a w :=
  op_store ho hw hop hx hy hg hi hl h1 fun w' h1 h2=>by rw [hd];exact h w' h1 h2
theorem o_store1 {x y:Operand} (_hF:Sl N m a) (ho:ops[i]?=some o) (hw:Region.wanted o (yielded ops a.tmps)=true) (hd:o.dst=none) (hop:o.op=.store ty x y) {g j:Nat} {t:TypeId} {old:List Value} {u:Value}
    (hx:a.eval x=.pointer (some ⟨g,j,none⟩)) (hy:a.eval y=u) (hg:Blk w g t old) (hi:(P.info? ty).map (·.size)=some 1) (hj:j<old.length) (h1:u.oneCell'=true) {new:List Value} (hn:old.set j u=new)
    (h:∀ w',Blk w' g t new→w.grownBy w' (some g)→K a w'):wpOp P ops Q i K a w :=
  op_store1 ho hw hop hx hy hg hi hj h1 fun w' h1 h2=>by rw [hd];exact h w' (hn ▸ h1) h2
theorem o_call (hF:Sl N m a) (ho:ops[i]?=some o) (hw:Region.wanted o (yielded ops a.tmps)=true) (hd:o.dst=some d) (hN:Nat.blt d N=true) {f:FuncId} {args:Array Value} (hr:(execOp a.eval o).run P w=.ok (.enter f args) w)
    {R:Ending→World→Prop} (hc:Calls P f args w R) (h:∀ e w',R e w'→∃ v,e=.returned v∧∀ a',Sl N ((d,v)::m) a'→K a' w'):wpOp P ops Q i K a w :=
  op_call ho hw hr hc fun e w' hR=>by
    obtain ⟨v,he,hk⟩:=h e w' hR
    exact ⟨v,he,hk _ (by rw [hd];exact hF.put hN)⟩
theorem any_val (hF:Sl N m a) (hs:Region.noSelect ops=true) (hb:lightB ops F L i=true) (hL:L.setIfInBounds i true=L') (ho:ops[i]?=some o) (hd:o.dst=some d) (hN:Nat.blt d N=true)
    (hQ:∀ c a w v,Q (.panic c) (a.put (some d) v) w→Q (.panic c) a w) (hw:Region.wanted o (yielded ops a.tmps)=true) (hS:S w)
    (hr:∀ W,S W→(execOp a.eval o).run P W=.ok (.value v) W) (h:∀ a',Sl N ((d,v)::m) a'→wpAnyF P ops Q S F n L' a' w):wpAnyF P ops Q S F (n+1) L a w :=
  any_light hs hb hL ho (by rw [hd];exact fun c a w=>hQ c a w _) hw hS hr (h _ (by rw [hd];exact hF.put hN))
theorem any_pure (hF:Sl N m a) (hs:Region.noSelect ops=true) (hb:freeB ops L i=true) (hL:L.setIfInBounds i true=L') (ho:ops[i]?=some o) (hd:o.dst=some d) (hN:Nat.blt d N=true)
    (hQ:∀ c a w v,Q (.panic c) (a.put (some d) v) w→Q (.panic c) a w) (hw:Region.wanted o (yielded ops a.tmps)=true)
    (hr:∀ W,(execOp a.eval o).run P W=.ok (.value v) W) (h:∀ a',Sl N ((d,v)::m) a'→wpAnyF P ops Q S F n L' a' w):wpAnyF P ops Q S F (n+1) L a w :=
  any_pureY hs hb hL ho (by rw [hd];exact fun c a w=>hQ c a w _) (.inl ⟨hw,hr⟩) (h _ (by rw [hd];exact hF.put hN))
theorem any_pass (hF:Sl N m a) (hs:Region.noSelect ops=true) (hb:freeB ops L i=true) (hL:L.setIfInBounds i true=L') (ho:ops[i]?=some o) (hd:o.dst=some d) (hN:Nat.blt d N=true)
    (hQ:∀ c a w v,Q (.panic c) (a.put (some d) v) w→Q (.panic c) a w) (hw:Region.wanted o (yielded ops a.tmps)=false)
    (h:∀ a',Sl N ((d,undef)::m) a'→wpAnyF P ops Q S F n L' a' w):wpAnyF P ops Q S F (n+1) L a w :=
  any_pureY hs hb hL ho (by rw [hd];exact fun c a w=>hQ c a w _) (.inr ⟨hw,rfl⟩) (h _ (by rw [hd];exact hF.put hN))
end
section
variable {P:Program} {ρ:Operand→Value} {W:World} {d:Option Tmp} {t:TypeId} {p:String} {af:Array Edge} {g:Option (Nat × Bool)} {v:Value}
theorem rn_move {x:Operand} (hx:ρ x=v):(execOp ρ ⟨d,.move x,t,p,af,g⟩).run P W=.ok (.value v) W:=by simp [execOp,hx]
theorem rn_assign {x:Operand} (hx:ρ x=v):(execOp ρ ⟨d,.assign x,t,p,af,g⟩).run P W=.ok (.value v) W:=by simp [execOp,hx]
theorem rn_pickT {c x y:Operand} (hc:ρ c=.bool true) (hx:ρ x=v):(execOp ρ ⟨d,.pick c x y,t,p,af,g⟩).run P W=.ok (.value v) W:=by simp [execOp,hc,hx,asBool]
theorem rn_pickF {c x y:Operand} (hc:ρ c=.bool false) (hy:ρ y=v):(execOp ρ ⟨d,.pick c x y,t,p,af,g⟩).run P W=.ok (.value v) W:=by simp [execOp,hc,hy,asBool]
theorem rn_extract {x:Operand} (hx:ρ x=.tuple vs) (hv:vs[n]?=some v):(execOp ρ ⟨d,.extract x n,t,p,af,g⟩).run P W=.ok (.value v) W:=by
  simp [execOp,hx,Instr.extract,hv]
theorem rn_not {x:Operand} {b:Bool} (hx:ρ x=.bool b):(execOp ρ ⟨d,.unOp .not s x,t,p,af,g⟩).run P W=.ok (.value (.bool (!b))) W:=by simp [execOp,hx,Op.unary]
theorem rn_not' {x:Operand} {b:Bool} (hx:ρ x=.bool b) (hr:(!b)=r):(execOp ρ ⟨d,.unOp .not s x,t,p,af,g⟩).run P W=.ok (.value (.bool r)) W:=by subst hr;simp [execOp,hx,Op.unary]
theorem rn_bin {b:BinOp} {xt yt:TypeId} {x y:Operand} (hx:ρ x=u1) (hy:ρ y=u2) (hg:(eqGuard b xt x y u1 u2).run P W=.ok () W) (hr:(binOp b xt u1 u2).run P W=.ok v W):(execOp ρ ⟨d,.binOp b xt x y yt,t,p,af,g⟩).run P W=.ok (.value v) W:=by
  simp [execOp,hx,hy,hg,hr]
theorem guard_int {b:BinOp} {xt:TypeId} {x y:Operand} {k1:IntKind} {n1 n2:Int}:(eqGuard b xt x y (.int k1 n1) (.int k2 n2)).run P W=.ok () W:=by
  unfold eqGuard;cases b <;> simp <;> rfl
theorem guard_bool {b:BinOp} {xt:TypeId} {x y:Operand} {b1 b2:Bool}:(eqGuard b xt x y (.bool b1) (.bool b2)).run P W=.ok () W:=by
  unfold eqGuard;cases b <;> simp <;> rfl
theorem guard_str {b:BinOp} {xt:TypeId} {x y:Operand} {b1 b2:ByteArray}:(eqGuard b xt x y (.string b1) (.string b2)).run P W=.ok () W:=by
  unfold eqGuard;cases b <;> simp <;> rfl
section
variable {xt yt:TypeId} {x y:Operand} {k:IntKind} {n1 n2 n3:Int}
theorem rn_lss (hx:ρ x=.int k n1) (hy:ρ y=.int k n2):(execOp ρ ⟨d,.binOp .lss xt x y yt,t,p,af,g⟩).run P W=.ok (.value (.bool (decide (n1<n2)))) W:=rn_bin hx hy guard_int (by simp [binOp,Op.intCmp])
theorem rn_leq (hx:ρ x=.int k n1) (hy:ρ y=.int k n2):(execOp ρ ⟨d,.binOp .leq xt x y yt,t,p,af,g⟩).run P W=.ok (.value (.bool (decide (n1≤n2)))) W:=rn_bin hx hy guard_int (by simp [binOp,Op.intCmp])
theorem rn_gtr (hx:ρ x=.int k n1) (hy:ρ y=.int k n2):(execOp ρ ⟨d,.binOp .gtr xt x y yt,t,p,af,g⟩).run P W=.ok (.value (.bool (decide (n2<n1)))) W:=rn_bin hx hy guard_int (by simp [binOp,Op.intCmp])
theorem rn_geq (hx:ρ x=.int k n1) (hy:ρ y=.int k n2):(execOp ρ ⟨d,.binOp .geq xt x y yt,t,p,af,g⟩).run P W=.ok (.value (.bool (decide (n2≤n1)))) W:=rn_bin hx hy guard_int (by simp [binOp,Op.intCmp])
theorem rn_eql (hx:ρ x=.int k n1) (hy:ρ y=.int k n2):(execOp ρ ⟨d,.binOp .eql xt x y yt,t,p,af,g⟩).run P W=.ok (.value (.bool (decide (n1=n2)))) W:=rn_bin hx hy guard_int (by simp [binOp,Op.intCmp];rw [Bool.eq_iff_iff];simp)
theorem rn_neq (hx:ρ x=.int k n1) (hy:ρ y=.int k n2):(execOp ρ ⟨d,.binOp .neq xt x y yt,t,p,af,g⟩).run P W=.ok (.value (.bool (decide (n1≠n2)))) W:=rn_bin hx hy guard_int (by simp [binOp,Op.intCmp];rw [Bool.eq_iff_iff];simp)
theorem rn_lss' (hx:ρ x=.int k n1) (hy:ρ y=.int k n2) (hr:decide (n1<n2)=r):(execOp ρ ⟨d,.binOp .lss xt x y yt,t,p,af,g⟩).run P W=.ok (.value (.bool r)) W:=hr ▸ rn_lss hx hy
theorem rn_eql' (hx:ρ x=.int k n1) (hy:ρ y=.int k n2) (hr:decide (n1=n2)=r):(execOp ρ ⟨d,.binOp .eql xt x y yt,t,p,af,g⟩).run P W=.ok (.value (.bool r)) W:=hr ▸ rn_eql hx hy
theorem rn_neq' (hx:ρ x=.int k n1) (hy:ρ y=.int k n2) (hr:decide (n1≠n2)=r):(execOp ρ ⟨d,.binOp .neq xt x y yt,t,p,af,g⟩).run P W=.ok (.value (.bool r)) W:=hr ▸ rn_neq hx hy
theorem rn_add (hx:ρ x=.int .i64 n1) (hy:ρ y=.int .i64 n2) (hb:-9223372036854775808≤n1+n2∧n1+n2≤9223372036854775807) (he:n1+n2=n3):(execOp ρ ⟨d,.binOp .add xt x y yt,t,p,af,g⟩).run P W=.ok (.value (.int .i64 n3)) W :=
  rn_bin hx hy guard_int (by subst he;simp [binOp,Op.intArith,IntWalk.i64_in _ hb])
theorem rn_sub (hx:ρ x=.int .i64 n1) (hy:ρ y=.int .i64 n2) (hb:-9223372036854775808≤n1 - n2∧n1 - n2≤9223372036854775807) (he:n1 - n2=n3):(execOp ρ ⟨d,.binOp .sub xt x y yt,t,p,af,g⟩).run P W=.ok (.value (.int .i64 n3)) W :=
  rn_bin hx hy guard_int (by subst he;simp [binOp,Op.intArith,IntWalk.i64_in _ hb])
theorem rn_mul (hx:ρ x=.int .i64 n1) (hy:ρ y=.int .i64 n2) (hb:-9223372036854775808≤n1*n2∧n1*n2≤9223372036854775807) (he:n1*n2=n3):(execOp ρ ⟨d,.binOp .mul xt x y yt,t,p,af,g⟩).run P W=.ok (.value (.int .i64 n3)) W :=
  rn_bin hx hy guard_int (by subst he;simp [binOp,Op.intArith,IntWalk.i64_in _ hb])
end
theorem rn_index1 {x y:Operand} {len:Nat} {kd:IntKind} {n:Int} (hu:P.underlying s=some (.slice e)) (hi:(P.info? e).map (·.size)=some 1) (hx:ρ x=.slice (some ⟨b,off,none⟩) len cap) (hy:ρ y=.int kd n) (h0:0≤n) (h1:n<len) :
    (execOp ρ ⟨d,.indexAddr s x y,t,p,af,g⟩).run P W=.ok (.value (.pointer (some ⟨b,off+n.toNat,none⟩))) W:=by
  cases hq:P.info? e with
  | none=>simp [hq] at hi
  | some i =>
    have hs:i.size=1:=by simpa [hq] using hi
    simp [execOp,Instr.indexAt,hx,hy,asIntOf,run_underlying hu,sizeOf,typeInfo,hq,hs,h0,h1,addr_add]
theorem rn_call {xs:Array Operand} (ha:xs.map ρ=vs) (hf:ρ (.func f)=.func (.func f) #[] #[]) (hc:(callFunc f vs).run P W=.ok (.enter f vs) W) :
    (execOp ρ ⟨d,.call { callee:=.value (.func f),args:=xs,argTypes:=ts },t,p,af,g⟩).run P W=.ok (.enter f vs) W:=by
  simp [execOp,resolve,hf,ha,Deferred.ofValue,invoke,hc]
theorem rn_len_slice {x:Operand} {c:Nat} (hu:P.underlying s=some (.slice e)) (hx:ρ x=.slice A n c):(execOp ρ ⟨d,.call { callee:=.builtin .len,args:=#[x],argTypes:=#[s] },t,p,af,g⟩).run P W=.ok (.value (.int .i64 n)) W:=by
  simp [execOp,resolve,invoke,builtin,hx,Builtin.len_,goInt,run_underlying hu]
theorem rn_len_str {x:Operand} {s:ByteArray} (hu:P.underlying st=some .string) (hx:ρ x=.string s):(execOp ρ ⟨d,.call { callee:=.builtin .len,args:=#[x],argTypes:=#[st] },t,p,af,g⟩).run P W=.ok (.value (.int .i64 s.size)) W:=by
  simp [execOp,resolve,invoke,builtin,hx,Builtin.len_,goInt,run_underlying hu]
theorem rn_build {vs:Array (Nat × Value)} (hp:ps.map (fun x=>(x.1,ρ x.2))=vs) (hb:(Instr.build s vs).run P W=.ok v W):(execOp ρ ⟨d,.build s ps,t,p,af,g⟩).run P W=.ok (.value v) W:=by
  have:(ps.map fun (i,x)=>(i,ρ x))=vs:=hp
  simp [execOp,this,hb]
theorem rn_buildSlice {vs:Array (Nat × Value)} (hp:ps.map (fun x=>(x.1,ρ x.2))=vs) (hb:(Instr.buildSlice s n vs).run P W=.ok v W'):(execOp ρ ⟨d,.buildSlice s n ps,t,p,af,g⟩).run P W=.ok (.value v) W':=by
  have:(ps.map fun (i,x)=>(i,ρ x))=vs:=hp
  simp [execOp,this,hb]
theorem rn_box {x:Operand} (hx:ρ x=u) (hb:(Instr.box s u).run P W=.ok v W'):(execOp ρ ⟨d,.box s x,t,p,af,g⟩).run P W=.ok (.value v) W':=by
  simp [execOp,hx,hb]
theorem rn_loadBlk {x:Operand} (hx:ρ x=.pointer (some ⟨b,0,none⟩)) (hB:Blk W b tt cs) (hu:P.underlying s=some td) (hd:aggTy td=true) (hi:(P.info? s).map (·.size)=some cs.length) :
    (execOp ρ ⟨d,.load s x,t,p,af,g⟩).run P W=.ok (.value (.agg cs.toArray)) W:=by
  have:=run_loadVar_row (P:=P) W b tt s cs.toArray (0,0) td hB hu (by cases td <;> simp_all [aggTy]) (by simpa using hi)
  simp [execOp,Instr.loadAt,Instr.sureAddr,hx,this]
theorem rn_index {x y:Operand} {len k:Nat} {kd:IntKind} {n:Int} (hu:P.underlying s=some (.slice e)) (hi:(P.info? e).map (·.size)=some k) (hx:ρ x=.slice (some ⟨b,off,none⟩) len cap) (hy:ρ y=.int kd n) (h0:0≤n) (h1:n<len) :
    (execOp ρ ⟨d,.indexAddr s x y,t,p,af,g⟩).run P W=.ok (.value (.pointer (some ⟨b,off+n.toNat*k,none⟩))) W:=by
  cases hq:P.info? e with
  | none=>simp [hq] at hi
  | some i =>
    have hs:i.size=k:=by simpa [hq] using hi
    simp [execOp,Instr.indexAt,hx,hy,asIntOf,run_underlying hu,sizeOf,typeInfo,hq,hs,h0,h1,addr_add]
end
theorem ret1 {P:Program} {w:World} {t:Nat} {v:Value} (hF:Sl N m a) (hr:fn.results=#[.tmp t]) (hv:look m t=some v) (h:R (.returned v) w):bodyPost P fn R .ret a w :=
  bodyPost_ret (results_tmp hr _ _ _) hF.2.1 (by have:=hF.get hv;simp only [Act.eval] at this;rw [this];exact h)
theorem ret2 {P:Program} {w:World} {t u:Nat} {v1 v2:Value} (hF:Sl N m a) (hr:fn.results=#[.tmp t,.tmp u]) (hv:look m t=some v1) (hu:look m u=some v2) (h:R (.returned (.tuple #[v1,v2])) w):bodyPost P fn R .ret a w :=
  bodyPost_ret (results_tmp2 hr _ _ _) hF.2.1 (by have h1:=hF.get hv;have h2:=hF.get hu;simp only [Act.eval] at h1 h2;rw [h1,h2];exact h)
theorem retC1 {P:Program} {w:World} {t u:Nat} {v2:Value} (hF:Sl N m a) (hr:fn.results=#[.cell t ty,.tmp u]) (hv:look m t=some (.pointer (some ⟨b,0,none⟩))) (hu:look m u=some v2)
    (hB:Blk w b tt cs) (hty:P.underlying ty=some td) (hd:aggTy td=true) (hi:(P.info? ty).map (·.size)=some cs.length) (h:R (.returned (.tuple #[.agg cs.toArray,v2])) w):bodyPost P fn R .ret a w:=by
  have h1:=hF.get hv
  have h2:=hF.get hu
  simp only [Act.eval] at h1 h2
  refine bodyPost_ret ?_ hF.2.1 h
  have:=run_loadVar_row (P:=P) w b tt ty cs.toArray (0,0) td hB hty (by cases td <;> simp_all [aggTy]) (by simpa using hi)
  rw [Array.getD_eq_getD_getElem?] at h1 h2
  simp [results,hr,h1,h2,asAddr,this]
theorem retC {P:Program} {w:World} {t:Nat} (hF:Sl N m a) (hr:fn.results=#[.cell t ty]) (hv:look m t=some (.pointer (some ⟨b,0,none⟩)))
    (hB:Blk w b tt cs) (hty:P.underlying ty=some td) (hd:aggTy td=true) (hi:(P.info? ty).map (·.size)=some cs.length) (h:R (.returned (.agg cs.toArray)) w):bodyPost P fn R .ret a w:=by
  have h1:=hF.get hv
  simp only [Act.eval] at h1
  refine bodyPost_ret ?_ hF.2.1 h
  have:=run_loadVar_row (P:=P) w b tt ty cs.toArray (0,0) td hB hty (by cases td <;> simp_all [aggTy]) (by simpa using hi)
  rw [Array.getD_eq_getD_getElem?] at h1
  simp [results,hr,h1,asAddr,this]
theorem q_get {t:Nat} {v:Value} (hF:Sl N m a) (e:look m t=some u) (h:u=v):a.eval (.tmp t)=v:=(hF.get e).trans h
theorem not_t {b:Bool} (h:b=true):(!b)=false:=by rw [h];rfl
theorem not_f {b:Bool} (h:b=false):(!b)=true:=by rw [h];rfl
section
variable {P:Program} {ρ:Operand→Value} {W:World} {d:Option Tmp} {t:TypeId} {p:String} {af:Array Edge} {g:Option (Nat × Bool)} {v:Value}
theorem rn_make {x y:Operand} (hx:ρ x=u1) (hy:ρ y=u2) (hb:(Instr.makeSlice s u1 u2).run P W=.ok v W'):(execOp ρ ⟨d,.makeSlice s x y,t,p,af,g⟩).run P W=.ok (.value v) W':=by
  simp [execOp,hx,hy,hb]
end
section
variable {ρ:Operand→Value} {x0 x1 x2 x3 x4 x5:Operand} {v0 v1 v2 v3 v4 v5:Value}
theorem args0:(#[]:Array Operand).map ρ=#[]:=by simp
theorem args1 (h0:ρ x0=v0):#[x0].map ρ=#[v0]:=by simp [h0]
theorem args2 (h0:ρ x0=v0) (h1:ρ x1=v1):#[x0,x1].map ρ=#[v0,v1]:=by simp [h0,h1]
theorem args3 (h0:ρ x0=v0) (h1:ρ x1=v1) (h2:ρ x2=v2):#[x0,x1,x2].map ρ=#[v0,v1,v2]:=by simp [h0,h1,h2]
theorem args4 (h0:ρ x0=v0) (h1:ρ x1=v1) (h2:ρ x2=v2) (h3:ρ x3=v3):#[x0,x1,x2,x3].map ρ=#[v0,v1,v2,v3]:=by simp [h0,h1,h2,h3]
theorem args5 (h0:ρ x0=v0) (h1:ρ x1=v1) (h2:ρ x2=v2) (h3:ρ x3=v3) (h4:ρ x4=v4):#[x0,x1,x2,x3,x4].map ρ=#[v0,v1,v2,v3,v4]:=by simp [h0,h1,h2,h3,h4]
theorem args6 (h0:ρ x0=v0) (h1:ρ x1=v1) (h2:ρ x2=v2) (h3:ρ x3=v3) (h4:ρ x4=v4) (h5:ρ x5=v5):#[x0,x1,x2,x3,x4,x5].map ρ=#[v0,v1,v2,v3,v4,v5]:=by simp [h0,h1,h2,h3,h4,h5]
variable {i0 i1 i2 i3:Nat}
theorem parts0:(#[]:Array (Nat × Operand)).map (fun x=>(x.1,ρ x.2))=#[]:=by simp
theorem parts1 (h0:ρ x0=v0):#[(i0,x0)].map (fun x=>(x.1,ρ x.2))=#[(i0,v0)]:=by simp [h0]
theorem parts2 (h0:ρ x0=v0) (h1:ρ x1=v1):#[(i0,x0),(i1,x1)].map (fun x=>(x.1,ρ x.2))=#[(i0,v0),(i1,v1)]:=by simp [h0,h1]
theorem parts3 (h0:ρ x0=v0) (h1:ρ x1=v1) (h2:ρ x2=v2):#[(i0,x0),(i1,x1),(i2,x2)].map (fun x=>(x.1,ρ x.2))=#[(i0,v0),(i1,v1),(i2,v2)]:=by simp [h0,h1,h2]
theorem parts4 (h0:ρ x0=v0) (h1:ρ x1=v1) (h2:ρ x2=v2) (h3:ρ x3=v3):#[(i0,x0),(i1,x1),(i2,x2),(i3,x3)].map (fun x=>(x.1,ρ x.2))=#[(i0,v0),(i1,v1),(i2,v2),(i3,v3)]:=by simp [h0,h1,h2,h3]
end
section
variable {P:Program} {Q:Exit→Act→World→Prop} {w:World} {id id':Nat}
theorem exit_here (h:Q .normal a w):Exit.inBlock id Q (.exit id) a w:=by simp only [Exit.inBlock,if_true];exact h
theorem c_true {t:Nat} {b:Bool} (hF:Sl N m a) (hv:look m t=some (.bool b)) (hb:b=true):a.eval (.tmp t)=.bool true:=by subst hb;exact hF.get hv
theorem c_false {t:Nat} {b:Bool} (hF:Sl N m a) (hv:look m t=some (.bool b)) (hb:b=false):a.eval (.tmp t)=.bool false:=by subst hb;exact hF.get hv
theorem wp_meet {x y:Code} (R:Act→World→Prop) (h1:x.wp P (Exit.then R Q) a w) (h2:∀ a w,R a w→y.wp P Q a w):(Code.seq x y).wp P Q a w :=
  wp_seq (Go.wp_mono h1 (fun e a w hq=>by cases e <;> first | exact h2 _ _ hq | exact hq))
end
theorem exit_then (h:Q (.exit id) a w):Exit.then K Q (.exit id) a w:=h
theorem own_lt {g:Nat} (h:w.ownsRow base e k (.slice (some ⟨g,0,none⟩) n cap) n xs):base≤g∧g<w.heap.size∧n≤cap∧cap≤9223372036854775807:=by
  rcases h.2 with ⟨h',_⟩ | ⟨g',cap',cur,h',hb,hg,hnc,hcm,_⟩
  · cases h'
  · cases h'
    exact ⟨hb,(Array.getElem?_eq_some_iff.1 hg).1,hnc,by simpa [maxLen] using hcm⟩
section
variable {P:Program} {ρ:Operand→Value} {W:World} {d:Option Tmp} {t:TypeId} {p:String} {af:Array Edge} {g:Option (Nat × Bool)} {v:Value}
theorem add_zero_addr (A:Option Addr):A.map (fun a=>a.add 0)=A:=by cases A <;> simp [Addr.add]
theorem size_of (hi:(P.info? e).map (·.size)=some k):(sizeOf e).run P W=.ok k W:=by
  cases hq:P.info? e with
  | none=>simp [hq] at hi
  | some i=>simp [hq] at hi;simp [sizeOf,typeInfo,hq,hi]
theorem bound_ok {k:IntKind} {n:Int} {y:Nat} {code:BoundsCode} (h0:0≤n) (h1:n≤y):(Instr.sliceBound (.int k n) y code).run P W=.ok n.toNat W:=by
  simp [Instr.sliceBound,asIntOf,h0,h1]
theorem rn_sliceHi {c:Nat} {k:IntKind} (hu:P.underlying s=some (.slice e)) (hi:(P.info? e).map (·.size)=some sz) (hx:ρ x=.slice A n c) (hy:ρ y=.int k h) (h0:0≤h) (h1:h≤c) :
    (execOp ρ ⟨d,.slice s x none (some y) none,t,p,af,g⟩).run P W=.ok (.value (.slice A h.toNat c)) W:=by
  have hz:=add_zero_addr A
  simp [execOp,Instr.sliceAt,Instr.slice,Instr.sliceBounds,run_underlying hu,hx,hy,bound_ok h0 h1,size_of hi,hz]
theorem rn_sliceLo {c l:Nat} {k:IntKind} (hu:P.underlying s=some (.slice e)) (hi:(P.info? e).map (·.size)=some sz) (hx:ρ x=.slice (some ⟨b,off,none⟩) n c) (hy:ρ y=.int k (l:Int)) (h1:l≤n) (h2:l<c) :
    (execOp ρ ⟨d,.slice s x (some y) none none,t,p,af,g⟩).run P W=.ok (.value (.slice (some ⟨b,off+l*sz,none⟩) (n - l) (c - l))) W:=by
  have hb:(Instr.sliceBound (.int k (l:Int)) n .sliceB).run P W=.ok l W:=by rw [bound_ok (by omega) (by omega)];simp
  have hne:c≠l:=by omega
  simp [execOp,Instr.sliceAt,Instr.slice,Instr.sliceBounds,run_underlying hu,hx,hy,hb,size_of hi,hne,addr_add]
end
theorem foldl_push (l:List UInt8):∀ s:ByteArray,(l.map fun c=>(c.toNat:Int)).foldl (fun r n=>r.push (UInt8.ofNat n.toNat)) s=⟨s.data++l.toArray⟩:=by
  induction l with
  | nil=>intro s;simp
  | cons c l ih =>
    intro s
    simp only [List.map_cons,List.foldl_cons]
    rw [ih]
    simp [ByteArray.push]
abbrev strOf (l:List UInt8):Value:=.string ⟨l.toArray⟩
theorem conv_str {c:Nat} {l:List UInt8} (h:RBs S w (.slice A n c) l)
    (hs:P.underlying src=some (.slice e)) (he:P.underlying e=some (.int .u8)) (hd:P.underlying dst=some .string) :
    (convert src dst (.slice A n c)).run P w=.ok (strOf l) w:=by
  rw [run_convert_bytes_string w src dst e A n c hs he hd]
  obtain ⟨hn,_,h1,h2,h3⟩:=h.vals
  rcases A with _ | ad
  · have h0:n=0:=by
      rcases Nat.eq_zero_or_pos n with h | h
      · exact h
      · obtain ⟨b,off,h,_⟩:=h3 h;cases h
    have hl:l=[]:=List.eq_nil_of_length_eq_zero (by omega)
    subst hl
    simp [Conv.bytesToString,strOf]
    rfl
  · have hc:(loadCells ad n).run P w=.ok ((l.map fun c=>(c.toNat:Int)).map (Value.int .u8)).toArray w:=by
      have hbl:(byteVals l).length=n:=by rw [h1];omega
      have:=run_loadCells_list (P:=P) w ad (byteVals l) (fun j v hv=>by
        rcases Nat.eq_zero_or_pos n with h0 | h0
        · rw [List.getElem?_eq_none (by omega)] at hv;cases hv
        · obtain ⟨b,off,ha,_,hx⟩:=h3 h0
          injection ha with ha
          subst ha
          rw [addr_add]
          exact hx j v hv)
      rw [hbl] at this
      rw [this]
      simp [byteVals]
    rw [run_bytesToString w ad n c _ hc,foldl_push]
    simp [strOf]
theorem neq_str (w:World) (a b:List UInt8):(binOp .neq 9 (strOf a) (strOf b)).run Tryz.prog w=.ok (.bool (!decide (a=b))) w:=by
  have h:(binOp .neq 9 (.string ⟨a.toArray⟩) (.string ⟨b.toArray⟩)).run Tryz.prog w=.ok (.bool (!(a==b))) w:=by simp [go_sem]
  unfold strOf
  rw [h]
  congr 2
  rw [Bool.eq_iff_iff]
  simp
theorem eql_str (w:World) (a b:List UInt8):(binOp .eql 9 (strOf a) (strOf b)).run Tryz.prog w=.ok (.bool (decide (a=b))) w:=by
  have h:(binOp .eql 9 (.string ⟨a.toArray⟩) (.string ⟨b.toArray⟩)).run Tryz.prog w=.ok (.bool (a==b)) w:=by simp [go_sem]
  unfold strOf
  rw [h]
  congr 2
  rw [Bool.eq_iff_iff]
  simp
def Clip (S:Nat→Prop) (w:World) (b:Nat):Prop:=S b∧b<w.heap.size
theorem RBs.clip {l:List UInt8} (h:RBs S w v l):RBs (Clip S w) w v l:=h.subB fun _ hb hs=>⟨hs,hb⟩
theorem RBs.all {l:List UInt8} (h:RBs S w v l):RBs (fun _=>True) w v l:=h.sub fun _ _=>trivial
section
variable {ρ:Operand→Value} {W:World} {d:Option Tmp} {t:TypeId} {p:String} {af:Array Edge} {g:Option (Nat × Bool)}
theorem rn_str {u:TypeId} {c:Nat} {l:List UInt8} (hx:ρ x=.slice A n c) (h:RBs S W (.slice A n c) l) (hs:P.underlying s=some (.slice e)) (he:P.underlying e=some (.int .u8)) (hu:P.underlying u=some .string) :
    (execOp ρ ⟨d,.convert s u x,t,p,af,g⟩).run P W=.ok (.value (strOf l)) W:=by
  simp [execOp,hx,conv_str h hs he hu]
theorem rn_eqs {l m:List UInt8} (hx:ρ x=strOf l) (hy:ρ y=strOf m) (hu:xt=9):(execOp ρ ⟨d,.binOp .eql xt x y yt,t,p,af,g⟩).run Tryz.prog W=.ok (.value (.bool (decide (l=m)))) W:=by
  subst hu;exact rn_bin hx hy guard_str (eql_str W l m)
theorem rn_nes {l m:List UInt8} (hx:ρ x=strOf l) (hy:ρ y=strOf m) (hu:xt=9):(execOp ρ ⟨d,.binOp .neq xt x y yt,t,p,af,g⟩).run Tryz.prog W=.ok (.value (.bool (!decide (l=m)))) W:=by
  subst hu;exact rn_bin hx hy guard_str (neq_str W l m)
end
section
variable {P:Program} {W:World} {ρ:Operand→Value} {d:Option Nat} {t:TypeId} {p:String} {af:Array Edge} {g:Option (Nat × Bool)}
theorem rn_conv {k:IntKind} {n:Int} (hs:P.underlying src=some td) (hu:P.underlying dst=some (.int k2)) (hx:ρ x=.int k n) (hw:k2.wrap n=n) :
    (execOp ρ ⟨d,.convert src dst x,t,p,af,g⟩).run P W=.ok (.value (.int k2 n)) W:=by
  simp [execOp,hx,convert,run_underlying hs,run_underlying hu,Conv.intToInt,hw]
theorem rn_rem {k:IntKind} (hx:ρ x=.int k n1) (hy:ρ y=.int k n2) (h1:0≤n1) (h2:0<n2):(execOp ρ ⟨d,.binOp .rem xt x y yt,t,p,af,g⟩).run P W=.ok (.value (.int k (n1 % n2))) W :=
  rn_bin hx hy guard_int (by simp only [binOp,Op.intDiv,if_neg (by omega:¬ n2=0),Int.tmod_eq_emod_of_nonneg h1,ne_eq,not_true_eq_false,if_false,Sem.run_pure])
theorem rn_indexArr {L:Nat} {kd:IntKind} {n:Int} (hu:P.underlying s=some (.array L e)) (hi:(P.info? e).map (·.size)=some 1) (hx:ρ x=.pointer (some ⟨b,off,none⟩)) (hy:ρ y=.int kd n) (h0:0≤n) (h1:n<L) :
    (execOp ρ ⟨d,.indexAddr s x y,t,p,af,g⟩).run P W=.ok (.value (.pointer (some ⟨b,off+n.toNat,none⟩))) W:=by
  cases hq:P.info? e with
  | none=>simp [hq] at hi
  | some i =>
    have hs:i.size=1:=by simpa [hq] using hi
    simp [execOp,Instr.indexAt,Instr.sureAddr,hx,hy,asIntOf,run_underlying hu,sizeOf,typeInfo,hq,hs,h0,h1,addr_add]
end
theorem box_arr {P:Program} {W:World} (cs:List Value):(Instr.box s (.agg cs.toArray)).run P W=.ok (.pointer (some ⟨W.heap.size,0,none⟩)) (W.alloc (.cells cs.toArray s)):=by
  simp [Instr.box,newVar,Value.cells,go_sem]
theorem byteVals_len (h:la.length=n):(byteVals la).length=n:=by simp [byteVals,h]
theorem blk_byte {W:World} {g:Nat} {t:TypeId} (h:Blk W g t (byteVals la)) {j i:Nat} (hj:j=i) (hi:i<la.length):W.cell? ⟨g,j,none⟩=some (.int .u8 ((la.getD i 0).toNat:Nat)):=by
  subst hj
  rw [h.rule.1]
  simp [byteVals,List.getD_eq_getElem?_getD,List.getElem?_eq_getElem hi]
theorem byteVals_set {x:UInt8} (hj:j=i):(byteVals la).set j (.int .u8 (x.toNat:Nat))=byteVals (la.set i x):=by
  subst hj;simp [byteVals,List.map_set]
theorem i64_nat (n:Nat) (h:n<9223372036854775808):IntKind.i64.wrap (n:Int)=n:=IntWalk.i64_in _ ⟨by omega,by omega⟩
theorem ofInt32 (a:UInt32):BitVec.ofInt IntKind.u32.bits ((a.toNat:Nat):Int)=a.toBitVec:=by
  show BitVec.ofInt 32 ((a.toNat:Nat):Int)=a.toBitVec
  rw [BitVec.ofInt_natCast]
  exact (BitVec.ofNat_toNat 32 a.toBitVec).trans (by simp)
theorem wrap32 (n:Nat) (h:n<4294967296):IntKind.u32.wrap (n:Int)=n:=by
  show (let m:=(n:Int) % (2 ^ 32:Int);if false&&m ≥ (2 ^ 31:Int) then m - (2 ^ 32:Int) else m)=n
  simp
  omega
theorem wrap32m (n:Int):IntKind.u32.wrap n=n % 4294967296:=by
  show (let m:=(n:Int) % (2 ^ 32:Int);if false&&m ≥ (2 ^ 31:Int) then m - (2 ^ 32:Int) else m)=_
  simp
section
variable {P:Program} {W:World} {t:TypeId}
theorem b_add32 (a b:UInt32):(binOp .add t (.int .u32 (a.toNat:Nat)) (.int .u32 (b.toNat:Nat))).run P W=.ok (.int .u32 ((a+b).toNat:Nat)) W:=by
  simp only [binOp,Op.intArith,ne_eq,not_true_eq_false,if_false,Sem.run_pure]
  rw [wrap32m,UInt32.toNat_add]
  rfl
theorem b_xor32 (a b:UInt32):(binOp .xor t (.int .u32 (a.toNat:Nat)) (.int .u32 (b.toNat:Nat))).run P W=.ok (.int .u32 ((a^^^b).toNat:Nat)) W:=by
  simp only [binOp,Op.intBits,ne_eq,not_true_eq_false,if_false,Sem.run_pure,ofInt32]
  congr 2
  exact wrap32 _ (a^^^b).toNat_lt
theorem b_or32 (a b:UInt32):(binOp .or t (.int .u32 (a.toNat:Nat)) (.int .u32 (b.toNat:Nat))).run P W=.ok (.int .u32 ((a ||| b).toNat:Nat)) W:=by
  simp only [binOp,Op.intBits,ne_eq,not_true_eq_false,if_false,Sem.run_pure,ofInt32]
  congr 2
  exact wrap32 _ (a ||| b).toNat_lt
theorem b_not32 (a:UInt32):(Op.unary .xor (.int .u32 (a.toNat:Nat))).run P W=.ok (.int .u32 ((~~~ a).toNat:Nat)) W:=by
  have h:BitVec.ofInt IntKind.u32.bits (if IntKind.u32.signed=true then (-1:Int) else IntKind.u32.max)=(0xffffffff:UInt32).toBitVec:=rfl
  show Sem.run P (pure (Value.int .u32 (IntKind.u32.wrap ((BitVec.ofInt IntKind.u32.bits (if IntKind.u32.signed=true then (-1:Int) else IntKind.u32.max)^^^BitVec.ofInt IntKind.u32.bits ((a.toNat:Nat):Int)).toNat:Nat)))) W=_
  rw [h,ofInt32,Sem.run_pure]
  congr 2
  rw [show (~~~ a)=(0xffffffff:UInt32)^^^a from UInt32.toBitVec_inj.1 (BitVec.allOnes_xor (x:=a.toBitVec)).symm]
  exact wrap32 _ ((0xffffffff:UInt32)^^^a).toNat_lt
theorem b_shl32 (a:UInt32) (k:IntKind) (n:Nat) (h:n<32):(binOp .shl t (.int .u32 (a.toNat:Nat)) (.int k (n:Nat))).run P W=.ok (.int .u32 ((a <<< UInt32.ofNat n).toNat:Nat)) W:=by
  have hn:min n IntKind.u32.bits=n:=Nat.min_eq_left (by show n≤32;omega)
  have h0:¬ ((n:Int)<0):=by omega
  show Sem.run P (Op.shift .shl .u32 ((a.toNat:Nat):Int) k (n:Nat)) W=_
  unfold Op.shift
  rw [if_neg h0]
  show Sem.run P (pure (Value.int .u32 (IntKind.u32.wrap (((a.toNat:Nat):Int)*2 ^ (min ((n:Int)).toNat IntKind.u32.bits))))) W=_
  rw [Int.toNat_natCast,hn,Sem.run_pure]
  congr 2
  rw [wrap32m,UInt32.toNat_shiftLeft,UInt32.toNat_ofNat_of_lt' (by show n<4294967296;omega),Nat.mod_eq_of_lt h,Nat.shiftLeft_eq]
  rw [Int.natCast_emod,Int.natCast_mul,Int.natCast_pow]
  rfl
theorem b_shr32 (a:UInt32) (k:IntKind) (n:Nat) (h:n<32):(binOp .shr t (.int .u32 (a.toNat:Nat)) (.int k (n:Nat))).run P W=.ok (.int .u32 ((a >>> UInt32.ofNat n).toNat:Nat)) W:=by
  have hn:min n IntKind.u32.bits=n:=Nat.min_eq_left (by show n≤32;omega)
  have h0:¬ ((n:Int)<0):=by omega
  show Sem.run P (Op.shift .shr .u32 ((a.toNat:Nat):Int) k (n:Nat)) W=_
  unfold Op.shift
  rw [if_neg h0]
  show Sem.run P (pure (Value.int .u32 (Int.fdiv ((a.toNat:Nat):Int) (2 ^ (min ((n:Int)).toNat IntKind.u32.bits))))) W=_
  rw [Int.toNat_natCast,hn,Sem.run_pure]
  congr 2
  rw [UInt32.toNat_shiftRight,UInt32.toNat_ofNat_of_lt' (by show n<4294967296;omega),Nat.mod_eq_of_lt h,Nat.shiftRight_eq_div_pow,Int.fdiv_eq_ediv_of_nonneg _ (by exact Int.pow_nonneg (by omega))]
  rw [Int.natCast_ediv,Int.natCast_pow]
  rfl
end
section
variable {P:Program} {ρ:Operand→Value} {W:World} {d:Option Tmp} {t xt yt:TypeId} {p:String} {af:Array Edge} {g:Option (Nat × Bool)} {x y:Operand}
theorem rn_add32 {a b:UInt32} (hx:ρ x=.int .u32 (a.toNat:Nat)) (hy:ρ y=.int .u32 (b.toNat:Nat)):(execOp ρ ⟨d,.binOp .add xt x y yt,t,p,af,g⟩).run P W=.ok (.value (.int .u32 ((a+b).toNat:Nat))) W:=rn_bin hx hy guard_int (b_add32 a b)
theorem rn_xor32 {a b:UInt32} (hx:ρ x=.int .u32 (a.toNat:Nat)) (hy:ρ y=.int .u32 (b.toNat:Nat)):(execOp ρ ⟨d,.binOp .xor xt x y yt,t,p,af,g⟩).run P W=.ok (.value (.int .u32 ((a^^^b).toNat:Nat))) W:=rn_bin hx hy guard_int (b_xor32 a b)
theorem rn_or32 {a b:UInt32} (hx:ρ x=.int .u32 (a.toNat:Nat)) (hy:ρ y=.int .u32 (b.toNat:Nat)):(execOp ρ ⟨d,.binOp .or xt x y yt,t,p,af,g⟩).run P W=.ok (.value (.int .u32 ((a ||| b).toNat:Nat))) W:=rn_bin hx hy guard_int (b_or32 a b)
theorem rn_shl32 {a:UInt32} {k:IntKind} (hx:ρ x=.int .u32 (a.toNat:Nat)) (hy:ρ y=.int k (n:Nat)) (h:n<32):(execOp ρ ⟨d,.binOp .shl xt x y yt,t,p,af,g⟩).run P W=.ok (.value (.int .u32 ((a <<< UInt32.ofNat n).toNat:Nat))) W:=rn_bin hx hy guard_int (b_shl32 a k n h)
theorem rn_shr32 {a:UInt32} {k:IntKind} (hx:ρ x=.int .u32 (a.toNat:Nat)) (hy:ρ y=.int k (n:Nat)) (h:n<32):(execOp ρ ⟨d,.binOp .shr xt x y yt,t,p,af,g⟩).run P W=.ok (.value (.int .u32 ((a >>> UInt32.ofNat n).toNat:Nat))) W:=rn_bin hx hy guard_int (b_shr32 a k n h)
theorem rn_not32 {a:UInt32} (hx:ρ x=.int .u32 (a.toNat:Nat)):(execOp ρ ⟨d,.unOp .xor xt x,t,p,af,g⟩).run P W=.ok (.value (.int .u32 ((~~~ a).toNat:Nat))) W:=by
  simp [execOp,hx,b_not32 a]
end
theorem wrap64 (n:Nat) (h:n<18446744073709551616):IntKind.u64.wrap (n:Int)=n:=by
  show (let m:=(n:Int) % (2 ^ 64:Int);if false&&m ≥ (2 ^ 63:Int) then m - (2 ^ 64:Int) else m)=n
  simp
  omega
theorem wrap64m (n:Int):IntKind.u64.wrap n=n % 18446744073709551616:=by
  show (let m:=(n:Int) % (2 ^ 64:Int);if false&&m ≥ (2 ^ 63:Int) then m - (2 ^ 64:Int) else m)=_
  simp
theorem wrap8m (n:Int):IntKind.u8.wrap n=n % 256:=by
  show (let m:=(n:Int) % (2 ^ 8:Int);if false&&m ≥ (2 ^ 7:Int) then m - (2 ^ 8:Int) else m)=_
  simp
section
variable {P:Program} {W:World} {t:TypeId}
theorem b_add64 (a b:UInt64):(binOp .add t (.int .u64 (a.toNat:Nat)) (.int .u64 (b.toNat:Nat))).run P W=.ok (.int .u64 ((a+b).toNat:Nat)) W:=by
  simp only [binOp,Op.intArith,ne_eq,not_true_eq_false,if_false,Sem.run_pure]
  rw [wrap64m,UInt64.toNat_add]
  rfl
theorem b_shr64 (a:UInt64) (k:IntKind) (n:Nat) (h:n<64):(binOp .shr t (.int .u64 (a.toNat:Nat)) (.int k (n:Nat))).run P W=.ok (.int .u64 ((a >>> UInt64.ofNat n).toNat:Nat)) W:=by
  have hn:min n IntKind.u64.bits=n:=Nat.min_eq_left (by show n≤64;omega)
  have h0:¬ ((n:Int)<0):=by omega
  show Sem.run P (Op.shift .shr .u64 ((a.toNat:Nat):Int) k (n:Nat)) W=_
  unfold Op.shift
  rw [if_neg h0]
  show Sem.run P (pure (Value.int .u64 (Int.fdiv ((a.toNat:Nat):Int) (2 ^ (min ((n:Int)).toNat IntKind.u64.bits))))) W=_
  rw [Int.toNat_natCast,hn,Sem.run_pure]
  congr 2
  rw [UInt64.toNat_shiftRight,UInt64.toNat_ofNat_of_lt' (by show n<18446744073709551616;omega),Nat.mod_eq_of_lt h,Nat.shiftRight_eq_div_pow,Int.fdiv_eq_ediv_of_nonneg _ (by exact Int.pow_nonneg (by omega))]
  rw [Int.natCast_ediv,Int.natCast_pow]
  rfl
end
section
variable {P:Program} {ρ:Operand→Value} {W:World} {d:Option Tmp} {t xt yt:TypeId} {p:String} {af:Array Edge} {g:Option (Nat × Bool)} {x y:Operand}
theorem rn_nil {a:Addr} (hx:ρ x=.pointer (some a)):(execOp ρ ⟨d,.nilCheck x,t,p,af,g⟩).run P W=.ok (.value (.pointer (some a))) W:=by simp [execOp,hx]
theorem rn_quo (hx:ρ x=.int .i64 n1) (hy:ρ y=.int .i64 n2) (h1:0≤n1) (h2:0<n2) (h3:n1≤9223372036854775807):(execOp ρ ⟨d,.binOp .quo xt x y yt,t,p,af,g⟩).run P W=.ok (.value (.int .i64 (n1 / n2))) W :=
  rn_bin hx hy guard_int (by
    have ha:0≤n1 / n2:=Int.ediv_nonneg h1 (by omega)
    have hb:n1 / n2≤n1:=Int.ediv_le_self _ h1
    simp only [binOp,Op.intDiv,if_neg (by omega:¬ n2=0),Int.tdiv_eq_ediv_of_nonneg h1,ne_eq,not_true_eq_false,if_false,Sem.run_pure,IntWalk.i64_in _ (⟨by omega,by omega⟩:-9223372036854775808≤n1 / n2∧n1 / n2≤9223372036854775807)])
theorem rn_add64 {a b:UInt64} (hx:ρ x=.int .u64 (a.toNat:Nat)) (hy:ρ y=.int .u64 (b.toNat:Nat)):(execOp ρ ⟨d,.binOp .add xt x y yt,t,p,af,g⟩).run P W=.ok (.value (.int .u64 ((a+b).toNat:Nat))) W:=rn_bin hx hy guard_int (b_add64 a b)
theorem rn_shr64 {a:UInt64} {k:IntKind} (hx:ρ x=.int .u64 (a.toNat:Nat)) (hy:ρ y=.int k (n:Nat)) (h:n<64):(execOp ρ ⟨d,.binOp .shr xt x y yt,t,p,af,g⟩).run P W=.ok (.value (.int .u64 ((a >>> UInt64.ofNat n).toNat:Nat))) W:=rn_bin hx hy guard_int (b_shr64 a k n h)
theorem rn_convW {k:IntKind} {n m:Int} (hs:P.underlying src=some td) (hu:P.underlying dst=some (.int k2)) (hx:ρ x=.int k n) (hw:k2.wrap n=m) :
    (execOp ρ ⟨d,.convert src dst x,t,p,af,g⟩).run P W=.ok (.value (.int k2 m)) W:=by
  simp [execOp,hx,convert,run_underlying hs,run_underlying hu,Conv.intToInt,hw]
theorem rn_callv {xs:Array Operand} {first:Array Value} (hf:ρ x=.func (.func f) first #[]) (ha:first++xs.map ρ=vs) (hc:(callFunc f vs).run P W=.ok (.enter f vs) W) :
    (execOp ρ ⟨d,.call { callee:=.value x,args:=xs,argTypes:=ts },t,p,af,g⟩).run P W=.ok (.enter f vs) W:=by
  simp [execOp,resolve,hf,ha,Deferred.ofValue,invoke,hc]
theorem rn_makeFunc {fn:Fn} {xs ys:Array Operand} {us:Array Value} (hx:xs.map ρ=vs) (hy:ys.map ρ=us):(execOp ρ ⟨d,.makeFunc fn xs ys,t,p,af,g⟩).run P W=.ok (.value (.func fn vs us)) W:=by
  simp [execOp,Instr.makeFunc,hx,hy]
end
theorem cv8_32 (c:UInt8):IntKind.u32.wrap ((c.toNat:Nat):Int)=((c.toUInt32.toNat:Nat):Int):=by
  rw [wrap32m,UInt8.toNat_toUInt32];have:=c.toNat_lt;omega
theorem cv64_32 (c:UInt64):IntKind.u32.wrap ((c.toNat:Nat):Int)=((c.toUInt32.toNat:Nat):Int):=by
  rw [wrap32m,UInt64.toNat_toUInt32];omega
theorem cv32_8 (c:UInt32):IntKind.u8.wrap ((c.toNat:Nat):Int)=((c.toUInt8.toNat:Nat):Int):=by
  rw [wrap8m,UInt32.toNat_toUInt8];omega
theorem cvi_64 (n:Nat) (h:n<18446744073709551616):IntKind.u64.wrap (n:Int)=(((UInt64.ofNat n).toNat:Nat):Int):=by
  rw [wrap64 n h,UInt64.toNat_ofNat_of_lt' h]
theorem ret0 {P:Program} (hF:Sl N m a) (hr:fn.results=#[]) (h:R (.returned (.tuple #[])) w):bodyPost P fn R .normal a w :=
  ⟨hF.2.1,.tuple #[],by simp [results,hr],h⟩
def u32Vals (l:List UInt32):List Value:=l.map fun c=>.int .u32 (c.toNat:Nat)
theorem u32Vals_one (l:List UInt32):∀ u∈u32Vals l,u.oneCell'=true:=by
  intro u hu
  simp only [u32Vals,List.mem_map] at hu
  obtain ⟨c,_,rfl⟩:=hu;rfl
theorem u32Vals_len {l:List UInt32} (h:l.length=n):(u32Vals l).length=n:=by simp [u32Vals,h]
theorem blk_word {W:World} {g:Nat} {t:TypeId} {l:List UInt32} (h:Blk W g t (u32Vals l)) {j i:Nat} (hj:j=i) (hi:i<l.length):W.cell? ⟨g,j,none⟩=some (.int .u32 ((l.getD i 0).toNat:Nat)):=by
  subst hj
  rw [h.rule.1]
  simp [u32Vals,List.getD_eq_getElem?_getD,List.getElem?_eq_getElem hi]
theorem u32Vals_set {l:List UInt32} {x:UInt32} (hj:j=i):(u32Vals l).set j (.int .u32 (x.toNat:Nat))=u32Vals (l.set i x):=by
  subst hj;simp [u32Vals,List.map_set]
section
variable {P:Program} {ρ:Operand→Value} {W:World} {d:Option Tmp} {t:TypeId} {p:String} {af:Array Edge} {g:Option (Nat × Bool)} {x y:Operand}
theorem rn_arrHi {b L:Nat} {k:IntKind} (hu:P.underlying s=some (.array L e)) (hi:(P.info? e).map (·.size)=some 1) (hx:ρ x=.pointer (some ⟨b,off,none⟩)) (hy:ρ y=.int k h) (h0:0≤h) (h1:h≤L) :
    (execOp ρ ⟨d,.slice s x none (some y) none,t,p,af,g⟩).run P W=.ok (.value (.slice (some ⟨b,off,none⟩) h.toNat L)) W:=by
  have hz:=add_zero_addr (some ⟨b,off,none⟩:Option Addr)
  simp [execOp,Instr.sliceAt,Instr.sureAddr,Instr.sliceBounds,run_underlying hu,hx,hy,bound_ok h0 h1,size_of hi,addr_add]
theorem rn_arrAll {b L:Nat} (hu:P.underlying s=some (.array L e)) (hi:(P.info? e).map (·.size)=some 1) (hx:ρ x=.pointer (some ⟨b,off,none⟩)) :
    (execOp ρ ⟨d,.slice s x none none none,t,p,af,g⟩).run P W=.ok (.value (.slice (some ⟨b,off,none⟩) L L)) W:=by
  simp [execOp,Instr.sliceAt,Instr.sureAddr,Instr.sliceBounds,run_underlying hu,hx,size_of hi,addr_add]
theorem rn_arrLo {b L l:Nat} {k:IntKind} (hu:P.underlying s=some (.array L e)) (hi:(P.info? e).map (·.size)=some 1) (hx:ρ x=.pointer (some ⟨b,off,none⟩)) (hy:ρ y=.int k (l:Int)) (h1:l<L) :
    (execOp ρ ⟨d,.slice s x (some y) none none,t,p,af,g⟩).run P W=.ok (.value (.slice (some ⟨b,off+l,none⟩) (L - l) (L - l))) W:=by
  have hb:(Instr.sliceBound (.int k (l:Int)) L .sliceB).run P W=.ok l W:=by rw [bound_ok (by omega) (by omega)];simp
  have hne:¬ L=l:=by omega
  simp [execOp,Instr.sliceAt,Instr.sureAddr,Instr.sliceBounds,run_underlying hu,hx,hy,hb,size_of hi,hne,addr_add]
theorem rn_indexAA {L:Nat} {kd:IntKind} {n:Int} (hu:P.underlying s=some (.array L e)) (he:P.underlying e=some td) (hd:aggTy td=true) (hi:(P.info? e).map (·.size)=some sz) (hx:ρ x=.agg vs) (hy:ρ y=.int kd n) (h0:0≤n) (h1:n<L) :
    (execOp ρ ⟨d,.index s x y,t,p,af,g⟩).run P W=.ok (.value (.agg (vs.extract (n.toNat*sz) (n.toNat*sz+sz)))) W:=by
  have ha:(isAgg e).run P W=.ok true W:=by cases td <;> simp_all [isAgg,run_underlying he,aggTy]
  simp [execOp,Instr.index,hx,hy,asIntOf,run_underlying hu,h0,h1,size_of hi,part,ha]
theorem rn_indexA1 {L:Nat} {kd:IntKind} {n:Int} (hu:P.underlying s=some (.array L e)) (he:P.underlying e=some td) (hd:aggTy td=false) (hi:(P.info? e).map (·.size)=some 1) (hx:ρ x=.agg vs) (hy:ρ y=.int kd n) (h0:0≤n) (h1:n<L) (hv:vs[n.toNat]?=some v) :
    (execOp ρ ⟨d,.index s x y,t,p,af,g⟩).run P W=.ok (.value v) W:=by
  have ha:(isAgg e).run P W=.ok false W:=by cases td <;> simp_all [isAgg,run_underlying he,aggTy]
  simp [execOp,Instr.index,hx,hy,asIntOf,run_underlying hu,h0,h1,size_of hi,part,ha,hv]
theorem rn_loadN {b o:Nat} (hx:ρ x=.pointer (some ⟨b,o,none⟩)) (hu:P.underlying s=some td) (hd:aggTy td=true) (hi:(P.info? s).map (·.size)=some cs.length)
    (hc:∀ j v,cs[j]?=some v→W.cell? ⟨b,o+j,none⟩=some v):(execOp ρ ⟨d,.load s x,t,p,af,g⟩).run P W=.ok (.value (.agg cs.toArray)) W:=by
  have ha:(isAgg s).run P W=.ok true W:=by cases td <;> simp_all [isAgg,run_underlying hu,aggTy]
  have hl:=run_loadCells_list (P:=P) W ⟨b,o,none⟩ cs (fun j v hv=>by rw [addr_add];exact hc j v hv)
  simp [execOp,Instr.loadAt,Instr.sureAddr,loadVar,hx,ha,size_of hi,hl]
end
section
variable {ρ:Operand→Value} {x0 x1 x2 x3 x4 x5:Operand} {u0 v0 v1 v2 v3 v4 v5:Value}
theorem args1_6 (h0:ρ x0=v0) (h1:ρ x1=v1) (h2:ρ x2=v2) (h3:ρ x3=v3) (h4:ρ x4=v4) (h5:ρ x5=v5):#[u0]++#[x0,x1,x2,x3,x4,x5].map ρ=#[u0,v0,v1,v2,v3,v4,v5]:=by simp [h0,h1,h2,h3,h4,h5]
end
section
variable {N:Nat} {m:List (Nat × Value)} {a:Act} {P:Program} {ops:Array Oper} {Q:Exit→Act→World→Prop} {i:Nat} {w:World} {o:Oper} {K:Act→World→Prop} {d:Nat}
theorem o_copy {t:TypeId} (E:El P t e z 1 bytes) (hF:Sl N m a) (ho:ops[i]?=some o) (hw:Region.wanted o (yielded ops a.tmps)=true) (hd:o.dst=some d) (hN:Nat.blt d N=true) {x y:Operand}
    (hop:o.op=.call { callee:=.builtin .copy,args:=#[x,y],argTypes:=#[t,t] }) {g off dl dc:Nat} (hx:a.eval x=.slice (some ⟨g,off,none⟩) dl dc) {A:Option Addr} {sl sc:Nat} (hy:a.eval y=.slice A sl sc)
    {cur:List Value} {T:TypeId} (hg:Blk w g T cur) {ys:List Value} (hr:Cel w 1 A sl ys) (hfit:off+min sl dl≤cur.length) {new:List Value} (hnew:splice cur off (ys.take (min sl dl))=new) {n:Nat} (hn:min sl dl=n)
    (h:∀ w' a',Sl N ((d,.int .i64 (n:Int))::m) a'→Blk w' g T new→w.grownBy w' (some g)→K a' w'):wpOp P ops Q i K a w:=by
  subst hnew
  subst hn
  obtain ⟨i,hi,hz0,hz1,hz2⟩:=info_parts E.hi
  have hsz:(P.info? e).map (·.size)=some 1:=by rw [hi];simp [hz1]
  obtain ⟨hl,h1,hc⟩:=hr
  have hcl:(ys.take (min sl dl)).length=min sl dl:=by rw [List.length_take];omega
  have key:∃ w',(Builtin.copy_ #[t,t] o.type #[.slice (some ⟨g,off,none⟩) dl dc,.slice A sl sc]).run P w=.ok (.int .i64 ((min sl dl:Nat):Int)) w'∧Blk w' g T (splice cur off (ys.take (min sl dl)))∧w.grownBy w' (some g):=by
    by_cases h0:min sl dl=0
    · have hrun:=run_copy_none (P:=P) w t t o.type e (some ⟨g,off,none⟩) A dl dc sl sc E.ht hsz h0
      refine ⟨w,?_,?_,⟨rfl,rfl,rfl,Nat.le_refl _,fun _ _ _=>rfl⟩⟩
      · rw [hrun,h0];rfl
      · rw [h0];simpa [splice] using hg
    · obtain ⟨b,off',rfl,hb,hx⟩:=hc (by omega)
      have hrun:=run_copy_row (P:=P) w t t o.type e g off dl dc ⟨b,off',none⟩ sl sc cur.toArray T (ys.take (min sl dl)) E.ht hsz hg hcl (fun j v hv=>by
        rw [addr_add]
        rw [List.getElem?_take] at hv
        split at hv
        · exact hx j v hv
        · cases hv) (by rw [hcl];simpa using hfit) (fun u hu=>h1 u (List.mem_of_mem_take hu))
      refine ⟨_,hrun.trans ?_,setRow_heap w g cur.toArray _ T _ hg,⟨rfl,rfl,rfl,by simp,fun k _ hk=>setRow_other w g k _ (fun e=>hk (by rw [e]))⟩⟩
      rw [hcl]
      simp [splice,goInt,hcl]
  obtain ⟨w',hrun,hB,hG⟩:=key
  refine op_run ho hw (v:=.int .i64 ((min sl dl:Nat):Int)) (w':=w') ?_ (by rw [hd];exact h w' _ (hF.put hN) hB hG)
  unfold execOp
  simp only [hop,resolve,invoke,builtin,Sem.run_bind,Sem.run_pure,Result.andThen_ok,List.map_toArray,List.map_cons,List.map_nil,hx,hy,hrun]
end
section
variable {P:Program} {W:World}
theorem run_part1 (he:P.underlying e=some td) (hd:aggTy td=false) {vs:Array Value} {i:Nat} {v:Value} (hv:vs[i]?=some v):(part e vs i).run P W=.ok v W:=by
  have ha:(isAgg e).run P W=.ok false W:=by cases td <;> simp_all [isAgg,run_underlying he,aggTy]
  simp [part,ha,hv]
theorem eqItems_bytes {d:Nat} (he:P.underlying e=some (.int .u8)) (la lb:List UInt8):∀ (n j:Nat),j+n=la.length→la.length=lb.length →
    (Op.eqItems (d+1) e 1 (byteVals la).toArray (byteVals lb).toArray (List.range' j n)).run P W=.ok (decide (la.drop j=lb.drop j)) W
  | 0,j,hj,hl=>by
    have h1:la.drop j=[]:=List.drop_eq_nil_of_le (by omega)
    have h2:lb.drop j=[]:=List.drop_eq_nil_of_le (by omega)
    simp [Op.eqItems,h1,h2]
  | n+1,j,hj,hl=>by
    have ha:j<la.length:=by omega
    have hb:j<lb.length:=by omega
    have p1:(part e (byteVals la).toArray (j*1)).run P W=.ok (.int .u8 (la[j].toNat:Nat)) W:=run_part1 he rfl (by simp [byteVals,ha])
    have p2:(part e (byteVals lb).toArray (j*1)).run P W=.ok (.int .u8 (lb[j].toNat:Nat)) W:=run_part1 he rfl (by simp [byteVals,hb])
    have ih:=eqItems_bytes (d:=d) he la lb n (j+1) (by omega) hl
    rw [List.range'_succ]
    simp only [Op.eqItems,Sem.run_bind,p1,p2,Result.andThen_ok,run_equalIn_int W d e .u8 .u8 _ _ he]
    have hd:(la.drop j=lb.drop j)↔(la[j]=lb[j]∧la.drop (j+1)=lb.drop (j+1)):=by
      rw [List.drop_eq_getElem_cons ha,List.drop_eq_getElem_cons hb,List.cons.injEq]
    by_cases hab:la[j]=lb[j]
    · have:(((la[j].toNat:Nat):Int)==((lb[j].toNat:Nat):Int))=true:=by rw [hab];simp
      have h3:decide (la.drop j=lb.drop j)=decide (la.drop (j+1)=lb.drop (j+1)):=by simp only [hd,hab,true_and]
      rw [h3]
      simp [this,ih]
    · have h2:¬ la[j].toNat=lb[j].toNat:=fun h=>hab (UInt8.toNat_inj.1 h)
      have:(((la[j].toNat:Nat):Int)==((lb[j].toNat:Nat):Int))=false:=by simp;omega
      have h3:decide (la.drop j=lb.drop j)=false:=by simp only [hd,hab,false_and,decide_false]
      rw [h3]
      simp [this]
theorem run_eqArr {t:TypeId} (hu:P.underlying t=some (.array n e)) (he:P.underlying e=some (.int .u8)) (hi:(P.info? e).map (·.size)=some 1) {la lb:List UInt8} (ha:la.length=n) (hb:lb.length=n) :
    (Op.equal t (.agg (byteVals la).toArray) (.agg (byteVals lb).toArray)).run P W=.ok (decide (la=lb)) W:=by
  obtain ⟨i,hi',hs⟩:∃ i,P.info? e=some i∧i.size=1:=by
    cases hq:P.info? e with
    | none=>simp [hq] at hi
    | some i=>exact ⟨i,rfl,by simpa [hq] using hi⟩
  have hc:P.cellsOf e=1:=by simp [Program.cellsOf,hi',hs]
  show (Op.equalIn (9999+1) t _ _).run P W=_
  rw [run_equalIn_array W 9999 _ _ hu hi',hc,List.range_eq_range',eqItems_bytes (d:=9998) he la lb n 0 (by omega) (by omega)]
  simp
variable {ρ:Operand→Value} {d:Option Tmp} {t xt yt:TypeId} {p:String} {af:Array Edge} {g:Option (Nat × Bool)} {x y:Operand}
theorem guard_agg {b:BinOp} {xs ys:Array Value} (hg:P.eqGuardType P.depth xt=false):(eqGuard b xt x y (.agg xs) (.agg ys)).run P W=.ok () W:=by
  unfold eqGuard
  cases b <;> simp [hg,go_sem]
theorem rn_eqA (hu:P.underlying xt=some (.array n e)) (he:P.underlying e=some (.int .u8)) (hi:(P.info? e).map (·.size)=some 1) (hg:P.eqGuardType P.depth xt=false) {la lb:List UInt8} (hx:ρ x=.agg (byteVals la).toArray) (hy:ρ y=.agg (byteVals lb).toArray) (ha:la.length=n) (hb:lb.length=n) :
    (execOp ρ ⟨d,.binOp .eql xt x y yt,t,p,af,g⟩).run P W=.ok (.value (.bool (decide (la=lb)))) W :=
  rn_bin hx hy (guard_agg hg) (by simp [binOp,run_eqArr hu he hi ha hb])
theorem rn_neA (hu:P.underlying xt=some (.array n e)) (he:P.underlying e=some (.int .u8)) (hi:(P.info? e).map (·.size)=some 1) (hg:P.eqGuardType P.depth xt=false) {la lb:List UInt8} (hx:ρ x=.agg (byteVals la).toArray) (hy:ρ y=.agg (byteVals lb).toArray) (ha:la.length=n) (hb:lb.length=n) :
    (execOp ρ ⟨d,.binOp .neq xt x y yt,t,p,af,g⟩).run P W=.ok (.value (.bool (!decide (la=lb)))) W :=
  rn_bin hx hy (guard_agg hg) (by simp [binOp,run_eqArr hu he hi ha hb])
end
def Fl (S:Nat→Prop) (w:World) (k:Nat) (v:Value) (n:Nat) (xs:List Value):Prop :=
  ∃ A cap,v=.slice A n cap∧(n≤cap∧cap≤9223372036854775807)∧Cel w k A n xs∧(0<n→∃ b off,A=some ⟨b,off,none⟩∧S b)
theorem Fl.ext {w:World} (h:Fl S w k v n xs) (he:Ext w w'):Fl S w' k v n xs:=by
  obtain ⟨A,cap,hv,hc,hl,hs⟩:=h;exact ⟨A,cap,hv,hc,hl.ext he,hs⟩
theorem Fl.pres {w:World} (h:Fl S w k v n xs) (hp:Pres S w w'):Fl S w' k v n xs:=by
  obtain ⟨A,cap,hv,hc,⟨h1,h2,h3⟩,hs⟩:=h
  refine ⟨A,cap,hv,hc,⟨h1,h2,fun h0=>?_⟩,hs⟩
  obtain ⟨b,off,ha,hb,hx⟩:=h3 h0
  obtain ⟨b',off',ha',hS⟩:=hs h0
  rw [ha] at ha'
  cases ha'
  exact ⟨b,off,ha,Nat.lt_of_lt_of_le hb hp.1,fun j u hu=>by rw [World.cell?_of_block (w:=w) (a:=⟨b,off+j,none⟩) (hp.2 b hS hb)];exact hx j u hu⟩
theorem Fl.subB {w:World} (h:Fl S w k v n xs) (hs:∀ b,b<w.heap.size→S b→S' b):Fl S' w k v n xs:=by
  obtain ⟨A,cap,hv,hc,hl,h4⟩:=h
  refine ⟨A,cap,hv,hc,hl,fun h0=>?_⟩
  obtain ⟨b,off,ha,hS⟩:=h4 h0
  obtain ⟨b',off',ha',hb',_⟩:=hl.2.2 h0
  rw [ha] at ha'
  cases ha'
  exact ⟨b,off,ha,hs b hb' hS⟩
theorem Fl.sub {w:World} (h:Fl S w k v n xs) (hs:∀ b,S b→S' b):Fl S' w k v n xs:=h.subB fun b _=>hs b
theorem Fl.clip {w:World} (h:Fl S w k v n xs):Fl (fun b=>S b∧b<w.heap.size) w k v n xs:=h.subB fun _ h1 h2=>⟨h2,h1⟩
theorem Fl.form {w:World} (h:Fl S w k v n xs):∃ A cap,v=.slice A n cap∧n≤cap∧cap≤9223372036854775807:=by
  obtain ⟨A,cap,hv,hc,_⟩:=h;exact ⟨A,cap,hv,hc⟩
theorem Fl.cel {w:World} {m c:Nat} (h:Fl S w k (.slice A m c) n xs):m=n∧(n≤c∧c≤9223372036854775807)∧Cel w k A n xs:=by
  obtain ⟨A',cap,hv,hc,hl,_⟩:=h
  cases hv
  exact ⟨rfl,hc,hl⟩
theorem Fl.len {w:World} (h:Fl S w k v n xs):xs.length=n*k:=by
  obtain ⟨A,cap,hv,hc,hl,_⟩:=h;exact hl.1
theorem Fl.nil (w:World):Fl S w k (.slice none 0 0) 0 []:=⟨none,0,rfl,⟨Nat.le_refl _,by omega⟩,Cel.none _ _ _,fun h=>absurd h (by omega)⟩
theorem Fl.at {w:World} {m c:Nat} (h:Fl S w k (.slice A m c) n xs) (h0:0<n):∃ b off,A=some ⟨b,off,none⟩∧b<w.heap.size∧S b∧∀ j u,xs[j]?=some u→w.cell? ⟨b,off+j,none⟩=some u:=by
  obtain ⟨A',cap,hv,hc,hl,hs⟩:=h
  cases hv
  obtain ⟨b,off,ha,hb,hx⟩:=hl.2.2 h0
  obtain ⟨b',off',ha',hS⟩:=hs h0
  rw [ha] at ha'
  cases ha'
  exact ⟨b,off,ha,hb,hS,hx⟩
theorem Fl.own {w:World} (h:w.ownsRow base e k v n xs) (hS:∀ b,base≤b→S b) (h1:∀ u∈xs,u.oneCell'=true):Fl S w k v n xs:=by
  obtain ⟨A,cap,rfl,h2,h3⟩:=own_any h
  obtain ⟨_,_,hc⟩:=own_cel h h1
  refine ⟨A,cap,rfl,⟨h2,h3⟩,hc,fun h0=>?_⟩
  obtain ⟨g,cap',hv,hb,_⟩:=own_form h h0
  cases hv
  exact ⟨g,0,rfl,hS g hb⟩
theorem Fl.blk {w:World} {g:Nat} {t:TypeId} {c:Nat} (h:Blk w g t cs) (hl:cs.length=n*k) (h1:∀ u∈cs,u.oneCell'=true) (hc:n≤c∧c≤9223372036854775807) (hS:S g):Fl S w k (.slice (some ⟨g,0,none⟩) n c) n cs :=
  ⟨_,c,rfl,hc,h.cel hl h1,fun _=>⟨g,0,rfl,hS⟩⟩
theorem Fl.take {w:World} {m c:Nat} (h:Fl S w k (.slice A m c) n xs) {j:Nat} (hj:j≤n):Fl S w k (.slice A j c) j (xs.take (j*k)):=by
  obtain ⟨A',cap,hv,hc,⟨h1,h2,h3⟩,hs⟩:=h
  cases hv
  have:j*k≤n*k:=Nat.mul_le_mul_right _ hj
  refine ⟨A,c,rfl,⟨by omega,hc.2⟩,⟨by rw [List.length_take];omega,fun u hu=>h2 u (List.mem_of_mem_take hu),fun h0=>?_⟩,fun h0=>hs (by omega)⟩
  obtain ⟨b,off,ha,hb,hx⟩:=h3 (by omega)
  refine ⟨b,off,ha,hb,fun i u hu=>hx i u ?_⟩
  rw [List.getElem?_take] at hu
  split at hu
  · exact hu
  · cases hu
theorem Fl.drop {w:World} {m c b:Nat} (h:Fl S w k (.slice (some ⟨b,off,none⟩) m c) n xs) {j:Nat} (hj:j≤n):Fl S w k (.slice (some ⟨b,off+j*k,none⟩) (n - j) (c - j)) (n - j) (xs.drop (j*k)):=by
  obtain ⟨A',cap,hv,hc,⟨h1,h2,h3⟩,hs⟩:=h
  cases hv
  refine ⟨_,_,rfl,⟨by omega,by omega⟩,⟨by rw [List.length_drop,h1,Nat.sub_mul],fun u hu=>h2 u (List.mem_of_mem_drop hu),fun h0=>?_⟩,fun h0=>?_⟩
  · obtain ⟨b',off',ha,hb,hx⟩:=h3 (by omega)
    cases ha
    refine ⟨b,off+j*k,rfl,hb,fun i u hu=>?_⟩
    rw [List.getElem?_drop] at hu
    rw [Nat.add_assoc]
    exact hx _ u hu
  · obtain ⟨b',off',ha,hS⟩:=hs (by omega)
    cases ha
    exact ⟨b,off+j*k,rfl,hS⟩
theorem RBs.fl {w:World} {l:List UInt8} (h:RBs S w v l):Fl S w 1 v l.length (byteVals l):=by
  obtain ⟨A,cap,xs,hv,hc,hl,hr,hs⟩:=h
  refine ⟨A,cap,hv,hc,?_,hs⟩
  have:xs=byteVals l:=by
    apply List.ext_getElem
    · rw [hl.1];simp [byteVals]
    · intro i h1 h2
      have hi:i<l.length:=by have:=hl.1;omega
      have h:=hr i hi
      rw [chunk_one h1] at h
      simp only [RByte,List.cons.injEq,and_true] at h
      rw [h]
      simp [byteVals]
  rw [← this]
  exact hl
theorem Fl.rbs {w:World} {l:List UInt8} (h:Fl S w 1 v n (byteVals l)):RBs S w v l:=by
  obtain ⟨A,cap,hv,hc,hl,hs⟩:=h
  have hn:n=l.length:=by have:=hl.1;simp [byteVals] at this;omega
  subst hn
  refine ⟨A,cap,byteVals l,hv,hc,hl,fun i hi=>?_,hs⟩
  rw [chunk_one (by simpa [byteVals] using hi)]
  simp [RByte,byteVals]
section
variable {P:Program} {ρ:Operand→Value} {W:World} {d:Option Tmp} {t xt yt:TypeId} {p:String} {af:Array Edge} {g:Option (Nat × Bool)} {x y:Operand} {a b:Nat}
theorem rn_quoN (hx:ρ x=.int .i64 (a:Nat)) (hy:ρ y=.int .i64 (b:Nat)) (h:0<b) (hm:a≤9223372036854775807):(execOp ρ ⟨d,.binOp .quo xt x y yt,t,p,af,g⟩).run P W=.ok (.value (.int .i64 ((a / b:Nat):Int))) W:=by
  rw [rn_quo hx hy (by omega) (by omega) (by omega),Int.natCast_ediv]
theorem rn_remN (hx:ρ x=.int .i64 (a:Nat)) (hy:ρ y=.int .i64 (b:Nat)) (h:0<b):(execOp ρ ⟨d,.binOp .rem xt x y yt,t,p,af,g⟩).run P W=.ok (.value (.int .i64 ((a % b:Nat):Int))) W:=by
  rw [rn_rem hx hy (by omega) (by omega),Int.natCast_emod]
theorem rn_addN (hx:ρ x=.int .i64 (a:Nat)) (hy:ρ y=.int .i64 (b:Nat)) (h:a+b≤9223372036854775807):(execOp ρ ⟨d,.binOp .add xt x y yt,t,p,af,g⟩).run P W=.ok (.value (.int .i64 ((a+b:Nat):Int))) W :=
  rn_add hx hy (by omega) (by omega)
theorem rn_mulN (hx:ρ x=.int .i64 (a:Nat)) (hy:ρ y=.int .i64 (b:Nat)) (h:a*b≤9223372036854775807):(execOp ρ ⟨d,.binOp .mul xt x y yt,t,p,af,g⟩).run P W=.ok (.value (.int .i64 ((a*b:Nat):Int))) W :=
  rn_mul hx hy (by rw [← Int.natCast_mul];omega) (by rw [Int.natCast_mul])
end
theorem Fl.cellAt {w:World} {m c b:Nat} (h:Fl S w k (.slice A m c) n xs) (hA:A=some ⟨b,off,none⟩) {j:Nat} {u:Value} (hu:xs[j]?=some u):w.cell? ⟨b,off+j,none⟩=some u:=by
  have h0:0<n:=by
    rcases Nat.eq_zero_or_pos n with h0 | h0
    · have:=h.len
      have:=(List.getElem?_eq_some_iff.1 hu).1
      subst h0
      omega
    · exact h0
  obtain ⟨b',off',hA',_,_,hx⟩:=h.at h0
  rw [hA] at hA'
  cases hA'
  exact hx j u hu
theorem byteVals_at {l:List UInt8} {i:Nat} (h:i<l.length):(byteVals l)[i]?=some (.int .u8 ((l.getD i 0).toNat:Nat)):=by
  simp [byteVals,List.getD_eq_getElem?_getD,List.getElem?_eq_getElem h]
theorem len_part {l:List UInt8} {L i:Nat} (h:l.length=L) (hi:(i+1)*k≤L):((l.drop (i*k)).take k).length=k:=by
  rw [List.length_take,List.length_drop,h]
  rw [Nat.add_mul,Nat.one_mul] at hi
  omega
theorem bytes_part (l:List UInt8) (i k:Nat):(byteVals l).toArray.extract i (i+k)=(byteVals ((l.drop i).take k)).toArray:=by
  simp [byteVals,List.map_take,List.map_drop]
theorem byteVals_app (a b:List UInt8):byteVals a++byteVals b=byteVals (a++b):=by simp [byteVals]
theorem Fl.any {w:World} (h:Fl S w k v n xs):Fl (fun _=>True) w k v n xs:=h.sub fun _ _=>trivial
theorem Fl.take_eq {w:World} {m c:Nat} (h:Fl S w k (.slice A m c) n xs) {j:Nat} (hj:j≤n) (e:xs.take (j*k)=ys):Fl S w k (.slice A j c) j ys:=e ▸ h.take hj
theorem Fl.drop_eq {w:World} {m c:Nat} (h:Fl S w k (.slice A m c) n xs) (hA:A=some ⟨b,off,none⟩) {j:Nat} (hj:j≤n) (e:xs.drop (j*k)=ys):Fl S w k (.slice (some ⟨b,off+j*k,none⟩) (n - j) (c - j)) (n - j) ys:=by
  subst hA
  exact e ▸ h.drop hj
theorem RBss.of_blk {w:World} {vs:List Value} (h:Blk w g t vs) (hn:l.length=n) (hv:vs.length=n) (hn2:n≤9223372036854775807) (h1:∀ u∈vs,u.oneCell'=true) (hS:S g) (hr:∀ i (hi:i<l.length) (hj:i<vs.length),RBs S w vs[i] l[i]):RBss S w (.slice (some ⟨g,0,none⟩) n n) l:=by
  subst hn
  refine ⟨_,_,vs,rfl,⟨Nat.le_refl _,hn2⟩,h.cel (by omega) h1,fun i hi=>?_,fun _=>⟨g,0,rfl,hS⟩⟩
  rw [chunk_one (by omega)]
  exact ⟨_,rfl,hr i hi (by omega)⟩
theorem RBs.one {w:World} {l:List UInt8} (h:RBs S w v l):v.oneCell'=true:=by obtain ⟨A,c,rfl,_⟩:=RSl.form h;rfl
theorem RBss.two {w:World} {n1 n2:Nat} (h:Blk w g t [v1,v2]) (h1:Fl S1 w 1 v1 n1 (byteVals l1)) (h2:Fl S2 w 1 v2 n2 (byteVals l2)):RBss (fun _=>True) w (.slice (some ⟨g,0,none⟩) 2 2) [l1,l2]:=by
  have r1:=h1.any.rbs
  have r2:=h2.any.rbs
  refine RBss.of_blk h rfl rfl (by omega) (by simp [r1.one,r2.one]) trivial (fun i hi hj=>?_)
  match i,hi with
  | 0,_=>exact r1
  | 1,_=>exact r2
theorem RBss.three {w:World} {l3:List UInt8} {n1 n2 n3:Nat} {S3:Nat→Prop} (h:Blk w g t [v1,v2,v3]) (h1:Fl S1 w 1 v1 n1 (byteVals l1)) (h2:Fl S2 w 1 v2 n2 (byteVals l2)) (h3:Fl S3 w 1 v3 n3 (byteVals l3)):RBss (fun _=>True) w (.slice (some ⟨g,0,none⟩) 3 3) [l1,l2,l3]:=by
  have r1:=h1.any.rbs
  have r2:=h2.any.rbs
  have r3:=h3.any.rbs
  refine RBss.of_blk h rfl rfl (by omega) (by simp [r1.one,r2.one,r3.one]) trivial (fun i hi hj=>?_)
  match i,hi with
  | 0,_=>exact r1
  | 1,_=>exact r2
  | 2,_=>exact r3
section
variable {P:Program} {W:World}
theorem build_whole {vs:List Value} {parts:Array (Nat × Value)} (hu:P.underlying t=some (.slice e)) (hi:(P.info? e).map (fun i=>(i.zero,i.size))=some (some z,k)) (hk:0<k) (hp:parts.toList=(vs.zipIdx 0).map fun x=>(x.2,x.1)) (hn:vs.length=n)
    (h1:∀ v∈vs,v.cells.size=k) (hs:n*k≤16777216) (h0:0<n) (hc:(vs.flatMap fun v=>v.cells.toList)=cs):(Instr.buildSlice t n parts).run P W=.ok (.slice (some ⟨W.heap.size,0,none⟩) n n) (W.alloc (.cells cs.toArray e)):=by
  subst hn
  subst hc
  cases hq:P.info? e with
  | none=>simp [hq] at hi
  | some i =>
    simp only [hq,Option.map_some,Option.some.injEq,Prod.mk.injEq] at hi
    obtain ⟨hz,rfl⟩:=hi
    refine run_buildSlice W t e _ parts _ i z hu hq hz (by omega) (Nat.mul_ne_zero (by omega) (by omega)) ?_
    rw [hp]
    exact Go.Great.fill_whole hk vs _ h1 (by simp)
end
theorem build_wholeE {P:Program} {W:World} (E:El P t e z k bytes) {vs:List Value} {parts:Array (Nat × Value)} {cs:List Value} {n:Nat} (hp:parts.toList=(vs.zipIdx 0).map fun x=>(x.2,x.1)) (hn:vs.length=n)
    (h1:∀ v∈vs,v.cells.size=k) (hs:n*k≤16777216) (h0:0<n) (hc:(vs.flatMap fun v=>v.cells.toList)=cs):(Instr.buildSlice t n parts).run P W=.ok (.slice (some ⟨W.heap.size,0,none⟩) n n) (W.alloc (.cells cs.toArray e)):=by
  obtain ⟨i,hi,hz0,hz1,hz2⟩:=info_parts E.hi
  exact build_whole E.ht (z:=z) (k:=k) (by rw [hi];simp [hz0,hz1]) E.hk hp hn h1 hs h0 hc
section
variable {N:Nat} {m:List (Nat × Value)} {a:Act} {P:Program} {ops:Array Oper} {Q:Exit→Act→World→Prop} {i:Nat} {w:World} {o:Oper} {K:Act→World→Prop} {d:Nat}
theorem o_strB {u:TypeDesc} {l:List UInt8} (hF:Sl N m a) (ho:ops[i]?=some o) (hw:Region.wanted o (yielded ops a.tmps)=true) (hd:o.dst=some d) (hN:Nat.blt d N=true) (hop:o.op=.convert src dst x) (hx:a.eval x=strOf l)
    (hs:P.underlying src=some u) (hdd:P.underlying dst=some (.slice e)) (he:P.underlying e=some (.int .u8)) (hl:l.length≤9223372036854775807)
    (h:∀ g c w' a',Sl N ((d,.slice (some ⟨g,0,none⟩) l.length c)::m) a'→w.heap.size=g→w'.heap.size=g+1→l.length≤c→Fl (fun b=>b=g) w' 1 (.slice (some ⟨g,0,none⟩) l.length c) l.length (byteVals l)→Ext w w'→K a' w'):wpOp P ops Q i K a w:=by
  have hsz:(⟨l.toArray⟩:ByteArray).size=l.length:=by simp [ByteArray.size]
  have hrun:=Lib.run_convert_string_bytes (P:=P) w src dst e ⟨l.toArray⟩ hs hdd he
  rw [hsz] at hrun
  have hge:=grownCap_ge w l.length 0 e
  have hle:grownCap w l.length 0 e≤maxLen:=grownCap_le_maxLen w l.length 0 e (by simpa [maxLen] using hl)
  have hext:Ext w (Lib.bytesWorld w e ⟨l.toArray⟩):=by
    refine ⟨rfl,rfl,rfl,?_,fun j hj=>Lib.bytesWorld_at_old w e _ j hj⟩
    rw [Lib.bytesWorld_size];omega
  refine op_run ho hw (v:=.slice (some ⟨w.heap.size,0,none⟩) l.length (grownCap w l.length 0 e)) (w':=Lib.bytesWorld w e ⟨l.toArray⟩) ?_ (h w.heap.size _ _ _ (by rw [hd];exact hF.put hN) rfl (Lib.bytesWorld_size w e _) hge ?_ hext)
  · unfold execOp
    simp only [hop,hx,strOf,Sem.run_bind,hrun,Result.andThen_ok,Sem.run_pure]
  · refine ⟨_,_,rfl,⟨hge,by simpa [maxLen] using hle⟩,⟨by simp [byteVals],byteVals_one l,fun _=>⟨_,0,rfl,by rw [Lib.bytesWorld_size];omega,fun j v hv=>?_⟩⟩,fun _=>⟨_,0,rfl,rfl⟩⟩
    have hj:j<l.length:=by have:=(List.getElem?_eq_some_iff.1 hv).1;simpa [byteVals] using this
    rw [Nat.zero_add,Lib.bytesWorld_cell w e _ j (by rw [hsz];exact hj)]
    rw [byteVals_at hj] at hv
    exact hv
theorem o_zeros {tn:TypeId} (E:El P t e z k bytes) (hF:Sl N m a) (ho:ops[i]?=some o) (hw:Region.wanted o (yielded ops a.tmps)=true) (hd:o.dst=some d) (hN:Nat.blt d N=true) {s x:Operand} {kn k2:IntKind}
    (hop:o.op=.call { callee:=.builtin .append,args:=#[s,x],argTypes:=#[t,tn] }) (htn:P.underlying tn=some (.int k2)) (hs:a.eval s=.slice none 0 0) {n:Nat} (hx:a.eval x=.int kn n) (h0:0<n) (hb:n*bytes≤140737488355328) (h63:n≤9223372036854775807)
    (h:∀ g c xs w' a',Sl N ((d,.slice (some ⟨g,0,none⟩) n c)::m) a'→w.heap.size=g→n≤c→c≤9223372036854775807→w'.ownsRow w.heap.size e k (.slice (some ⟨g,0,none⟩) n c) n xs→Ext w w'→K a' w'):wpOp P ops Q i K a w:=by
  obtain ⟨ii,hi,hz0,hz1,hz2⟩:=info_parts E.hi
  have hrun:=Lib.run_append_nil_zeros (P:=P) w t tn o.type e ii z kn k2 E.ht htn hi hz0 n h0 (by rw [hz1];exact E.hk) (by omega) (by rw [hz2];omega)
  have hge:=grownCap_ge w n 0 e
  have hle:grownCap w n 0 e≤maxLen:=grownCap_le_maxLen w n 0 e (by simpa [maxLen] using h63)
  have hown:(w.drew.alloc (.cells (Builtin.zeroCells z.cells n++Builtin.zeroCells z.cells (grownCap w n 0 e - n)) e)).ownsRow w.heap.size e k (.slice (some ⟨w.heap.size,0,none⟩) n (grownCap w n 0 e)) n ((Builtin.zeroCells z.cells n++Builtin.zeroCells z.cells (grownCap w n 0 e - n)).toList.take (n*k)):=by
    have hg:(w.drew.alloc (.cells (Builtin.zeroCells z.cells n++Builtin.zeroCells z.cells (grownCap w n 0 e - n)) e)).heap[w.heap.size]?=some (.cells (Builtin.zeroCells z.cells n++Builtin.zeroCells z.cells (grownCap w n 0 e - n)).toList.toArray e (0,0)):=by rw [Array.toArray_toList];exact heap_alloc_new w.drew _
    refine own_of_blk hg hge (by simpa [maxLen] using hle) ?_ (Nat.le_refl _)
    simp only [Array.length_toList,Array.size_append,size_zeroCells,E.hz,← Nat.add_mul]
    congr 1
    omega
  refine op_run ho hw ?_ (h w.heap.size _ _ _ _ (by rw [hd];exact hF.put hN) rfl hge (by simpa [maxLen] using hle) hown ((Ext.refl w).drew.alloc _))
  unfold execOp
  simp only [hop,resolve,invoke,builtin,Sem.run_bind,Sem.run_pure,Result.andThen_ok,List.map_toArray,List.map_cons,List.map_nil,hs,hx,hrun]
theorem o_appA (E:El P t e z k bytes) (hF:Sl N m a) (ho:ops[i]?=some o) (hw:Region.wanted o (yielded ops a.tmps)=true) (hd:o.dst=some d) (hN:Nat.blt d N=true) {s x:Operand}
    (hop:o.op=.call { callee:=.builtin .append,args:=#[s,x],argTypes:=#[t,t] }) {B:Option Addr} {n c0:Nat} (hs:a.eval s=.slice B n c0) {A:Option Addr} {n2 c:Nat} (hx:a.eval x=.slice A n2 c)
    {base:Nat} {xs ys zs:List Value} (hown:w.ownsRow base e k (.slice B n c0) n xs) (hr:Cel w k A n2 ys) (hbase:base≤w.heap.size)
    (h63:n+n2≤9223372036854775807) (hbytes:(n+n2)*bytes≤140737488355328) (hz:xs++ys=zs)
    (h:∀ A' c' w' a',Sl N ((d,.slice A' (n+n2) c')::m) a'→w'.ownsRow base e k (.slice A' (n+n2) c') (n+n2) zs→w.grownBy w' (Value.slice B n c0).ownBlock→n+n2≤c'→c'≤9223372036854775807→K a' w'):wpOp P ops Q i K a w:=by
  subst hz
  refine op_app E ho hw hop hs hx hown hr hbase h63 hbytes fun v' w' h1 h2 _=>?_
  obtain ⟨A',c',rfl,h3,h4⟩:=own_any h1
  exact h A' c' w' _ (by rw [hd];exact hF.put hN) h1 h2 h3 h4
end
theorem own_nil (w:World) (base:Nat) (e:TypeId) (k:Nat):w.ownsRow base e k (.slice none 0 0) 0 []:=⟨by simp,.inl ⟨rfl,rfl⟩⟩
theorem own_take {w:World} {c:Nat} (h:w.ownsRow base e k (.slice A n c) n xs) {j:Nat} (hj:j≤n):w.ownsRow base e k (.slice A j c) j (xs.take (j*k)):=by
  have h0:j*k≤n*k:=Nat.mul_le_mul_right _ hj
  refine ⟨by rw [List.length_take,h.1];omega,?_⟩
  rcases h.2 with ⟨h',hn⟩ | ⟨g,cap,cur,h',hb,hg,hnc,hcm,hcs,ht⟩
  · cases h'
    exact .inl ⟨by rw [show j=0 by omega],by omega⟩
  · cases h'
    exact .inr ⟨g,c,cur,rfl,hb,hg,by omega,hcm,hcs,by rw [← ht,List.take_take,Nat.min_eq_left h0]⟩
theorem own_zero {w:World} {c:Nat} (h:w.ownsRow base e k (.slice A n c) n xs):w.ownsRow base e k (.slice A 0 c) 0 []:=by
  have:=own_take h (Nat.zero_le n)
  simpa using this
theorem own_form0 {w:World} {m c:Nat} (h:w.ownsRow base e k (.slice A m c) n xs):m=n∧n≤c∧c≤9223372036854775807:=by
  obtain ⟨A',c',h',h1,h2⟩:=own_any h
  cases h'
  exact ⟨rfl,h1,h2⟩
theorem ext_row {a w:World} (h:Ext a w) (hg:w.grownBy w' v.ownBlock) (ho:w.ownsRow base e k v n xs) (hb:a.heap.size≤base):Ext a w' :=
  h.grown hg fun k hk=>Nat.le_trans hb (ho.lt k hk).1
theorem Ext.of_eq {w:World} (h:w'=w):Ext w w':=h ▸ Ext.refl w
def digVals (l:List (List UInt8)):List Value:=l.flatMap byteVals
theorem digVals_app (a b:List (List UInt8)):digVals a++digVals b=digVals (a++b):=by simp [digVals]
theorem digVals_one (l:List (List UInt8)):∀ u∈digVals l,u.oneCell'=true:=by
  intro u hu
  simp only [digVals,List.mem_flatMap] at hu
  obtain ⟨x,_,hx⟩:=hu
  exact byteVals_one x u hx
def All32 (l:List (List UInt8)):Prop:=∀ x∈l,x.length=32
theorem All32.nil:All32 []:=fun _ h=>by cases h
theorem All32.app {a b:List (List UInt8)} (h:All32 a) (k:All32 b):All32 (a++b):=fun x hx=>by
  rcases List.mem_append.1 hx with hx | hx
  · exact h x hx
  · exact k x hx
theorem All32.sing {x:List UInt8} (h:x.length=32):All32 [x]:=fun y hy=>by simp at hy;rw [hy];exact h
theorem All32.cons {x:List UInt8} (h:x.length=32) (k:All32 l):All32 (x::l):=fun y hy=>by
  rcases List.mem_cons.1 hy with h1 | h1
  · rw [h1];exact h
  · exact k y h1
theorem All32.take (h:All32 l) (n:Nat):All32 (l.take n):=fun x hx=>h x (List.mem_of_mem_take hx)
theorem All32.drop (h:All32 l) (n:Nat):All32 (l.drop n):=fun x hx=>h x (List.mem_of_mem_drop hx)
theorem All32.rev (h:All32 l):All32 l.reverse:=fun x hx=>h x (List.mem_reverse.1 hx)
theorem dig_len (h:All32 l) (i:Nat) (hi:i<l.length):(l.getD i []).length=32:=by
  rw [List.getD_eq_getElem?_getD,List.getElem?_eq_getElem hi,Option.getD_some]
  exact h _ (List.getElem_mem hi)
theorem digVals_len:∀ {l:List (List UInt8)},All32 l→(digVals l).length=l.length*32
  | [],_=>rfl
  | x::l,h=>by
    have ih:=digVals_len (l:=l) fun y hy=>h y (List.mem_cons_of_mem _ hy)
    have hx:=h x List.mem_cons_self
    rw [digVals,List.flatMap_cons,List.length_append,← digVals,ih,byteVals_len hx,List.length_cons]
    omega
theorem digVals_take:∀ {l:List (List UInt8)},All32 l→∀ n,(digVals l).take (n*32)=digVals (l.take n)
  | [],_,n=>by simp [digVals]
  | x::l,h,0=>by simp [digVals]
  | x::l,h,n+1=>by
    have ih:=digVals_take (l:=l) (fun y hy=>h y (List.mem_cons_of_mem _ hy)) n
    have hx:(byteVals x).length=32:=byteVals_len (h x List.mem_cons_self)
    rw [List.take_succ_cons,digVals,digVals,List.flatMap_cons,List.flatMap_cons,← digVals,← digVals,← ih,List.take_append,hx,List.take_of_length_le (by omega),show (n+1)*32 - 32=n*32 from by omega]
theorem digVals_drop:∀ {l:List (List UInt8)},All32 l→∀ n,(digVals l).drop (n*32)=digVals (l.drop n)
  | [],_,n=>by simp [digVals]
  | x::l,h,0=>by simp
  | x::l,h,n+1=>by
    have ih:=digVals_drop (l:=l) (fun y hy=>h y (List.mem_cons_of_mem _ hy)) n
    have hx:(byteVals x).length=32:=byteVals_len (h x List.mem_cons_self)
    rw [List.drop_succ_cons,digVals,List.flatMap_cons,← digVals,← ih,List.drop_append,hx,List.drop_eq_nil_of_le (by omega),List.nil_append,show (n+1)*32 - 32=n*32 from by omega]
theorem digVals_at (h:All32 l) {i:Nat} (hi:i<l.length) {j:Nat} {v:Value} (hv:(byteVals (l.getD i []))[j]?=some v):(digVals l)[i*32+j]?=some v:=by
  have hj:j<32:=by have:=(List.getElem?_eq_some_iff.1 hv).1;rwa [byteVals_len (dig_len h i hi)] at this
  have h1:(digVals l)[i*32+j]?=((digVals l).drop (i*32))[j]?:=by rw [List.getElem?_drop]
  rw [h1,digVals_drop h,List.drop_eq_getElem_cons hi,digVals,List.flatMap_cons]
  have hx:l[i]=l.getD i []:=by rw [List.getD_eq_getElem?_getD,List.getElem?_eq_getElem hi,Option.getD_some]
  rw [hx,List.getElem?_append_left (by rw [byteVals_len (dig_len h i hi)];exact hj)]
  exact hv
theorem Fl.digAt {w:World} {m c:Nat} (h:Fl S w 32 (.slice A m c) n (digVals l)) (hA:A=some ⟨b,off,none⟩) (h32:All32 l) {i:Nat} (hi:i<l.length) (j:Nat) (v:Value) (hv:(byteVals (l.getD i []))[j]?=some v):w.cell? ⟨b,off+i*32+j,none⟩=some v:=by
  rw [Nat.add_assoc]
  exact h.cellAt hA (digVals_at h32 hi hv)
def intVals (l:List Int):List Value:=l.map fun c=>.int .i64 c
def boolVals (l:List Bool):List Value:=l.map fun c=>.bool c
theorem byteVals_take1 (a:List UInt8) (n:Nat):(byteVals a).take (n*1)=byteVals (a.take n):=by simp [byteVals,List.map_take]
theorem byteVals_drop1 (a:List UInt8) (n:Nat):(byteVals a).drop (n*1)=byteVals (a.drop n):=by simp [byteVals,List.map_drop]
theorem intVals_one (l:List Int):∀ u∈intVals l,u.oneCell'=true:=by
  intro u hu
  simp only [intVals,List.mem_map] at hu
  obtain ⟨c,_,rfl⟩:=hu;rfl
theorem intVals_len {l:List Int} (h:l.length=n):(intVals l).length=n:=by simp [intVals,h]
theorem intVals_at {l:List Int} (h:i<l.length):(intVals l)[i]?=some (.int .i64 (l.getD i 0)):=by
  simp [intVals,List.getD_eq_getElem?_getD,List.getElem?_eq_getElem h]
theorem blk_intVals {W:World} {g:Nat} {t:TypeId} {l:List Int} (h:Blk W g t (intVals l)) {j i:Nat} (hj:j=i) (hi:i<l.length):W.cell? ⟨g,j,none⟩=some (.int .i64 (l.getD i 0)):=by
  subst hj
  rw [h.rule.1]
  exact intVals_at hi
theorem boolVals_one (l:List Bool):∀ u∈boolVals l,u.oneCell'=true:=by
  intro u hu
  simp only [boolVals,List.mem_map] at hu
  obtain ⟨c,_,rfl⟩:=hu;rfl
theorem boolVals_len {l:List Bool} (h:l.length=n):(boolVals l).length=n:=by simp [boolVals,h]
theorem boolVals_set {l:List Bool} {x:Bool} (hj:j=i):(boolVals l).set j (.bool x)=boolVals (l.set i x):=by
  subst hj;simp [boolVals,List.map_set]
theorem boolVals_at {l:List Bool} (h:i<l.length):(boolVals l)[i]?=some (.bool (l.getD i false)):=by
  simp [boolVals,List.getD_eq_getElem?_getD,List.getElem?_eq_getElem h]
theorem blk_boolVals {W:World} {g:Nat} {t:TypeId} {l:List Bool} (h:Blk W g t (boolVals l)) {j i:Nat} (hj:j=i) (hi:i<l.length):W.cell? ⟨g,j,none⟩=some (.bool (l.getD i false)):=by
  subst hj
  rw [h.rule.1]
  exact boolVals_at hi
theorem boolVals_app (a b:List Bool):boolVals a++boolVals b=boolVals (a++b):=by simp [boolVals]
theorem Pres.row {a:World} (h:Pres S a w) (hg:w.grownBy w' v.ownBlock) (ho:w.ownsRow base e k v n xs) (hn:∀ b,base≤b→¬ S b):Pres S a w' :=
  h.trans ⟨hg.size,fun b hb hl=>hg.block b hl (fun e=>hn b (ho.lt b e.symm).1 hb)⟩
def Apart (v u:Value):Prop:=∀ g,v.ownBlock=some g→u.ownBlock≠some g
theorem Apart.nil (v:Value) (n c:Nat):Apart v (.slice none n c):=fun _ _ h=>by cases h
theorem Apart.symm (h:Apart v u):Apart u v:=fun g h1 h2=>h g h2 h1
theorem own_grownR (h:w.ownsRow base e k v n xs) (hg:w.grownBy w' u.ownBlock) (ha:Apart v u):w'.ownsRow base e k v n xs :=
  h.kept hg (by
    cases hv:v.ownBlock with
    | none=>exact .inl rfl
    | some g=>exact .inr fun e=>ha g hv e.symm)
theorem own_grownT {t:TypeId} (h:w.ownsRow base e k v n xs) (hb:Blk w b t cs) (hg:w.grownBy w' (some b)) (hte:t≠e):w'.ownsRow base e k v n xs :=
  h.kept hg (by
    cases hv:v.ownBlock with
    | none=>exact .inl rfl
    | some g =>
      obtain ⟨cur,hc⟩:=own_heap h hv
      exact .inr fun e1=>hb.ne_tag hc hte (Option.some.inj e1).symm)
theorem Fl.digblk {g:Nat} {t:TypeId} (h:Blk w g t cs) (h32:All32 l) (hc:cs=digVals l) (hn:l.length=n:=by rfl) (hm:n≤9223372036854775807:=by omega) (hS:S g:=by rfl):Fl S w 32 (.slice (some ⟨g,0,none⟩) n n) n (digVals l):=by
  subst hn
  exact Fl.blk (hc ▸ h) (digVals_len h32) (digVals_one l) ⟨Nat.le_refl _,hm⟩ hS
section
variable {P:Program} {ρ:Operand→Value} {W:World} {d:Option Tmp} {t:TypeId} {p:String} {af:Array Edge} {g:Option (Nat × Bool)}
theorem rn_cap {c:Nat} (hu:P.underlying s=some (.slice e)) (hx:ρ x=.slice A n c):(execOp ρ ⟨d,.call { callee:=.builtin .cap,args:=#[x],argTypes:=#[s] },t,p,af,g⟩).run P W=.ok (.value (.int .i64 c)) W:=by
  simp [execOp,resolve,invoke,builtin,hx,Builtin.cap_,goInt,run_underlying hu]
theorem rn_lenS {l:List UInt8} (hu:P.underlying st=some .string) (hx:ρ x=strOf l):(execOp ρ ⟨d,.call { callee:=.builtin .len,args:=#[x],argTypes:=#[st] },t,p,af,g⟩).run P W=.ok (.value (.int .i64 (l.length:Nat))) W:=by
  have:=rn_len_str (P:=P) (ρ:=ρ) (W:=W) (d:=d) (t:=t) (p:=p) (af:=af) (g:=g) hu hx
  simpa [ByteArray.size] using this
theorem rn_shlN {k:IntKind} {a:Nat} (hx:ρ x=.int .i64 (a:Nat)) (hy:ρ y=.int k (n:Nat)) (h:n<63) (hb:a*2 ^ n≤9223372036854775807):(execOp ρ ⟨d,.binOp .shl xt x y yt,t,p,af,g⟩).run P W=.ok (.value (.int .i64 ((a*2 ^ n:Nat):Int))) W:=by
  refine rn_bin hx hy guard_int ?_
  have hn:min n IntKind.i64.bits=n:=Nat.min_eq_left (by show n≤64;omega)
  have h0:¬ ((n:Int)<0):=by omega
  show Sem.run P (Op.shift .shl .i64 ((a:Nat):Int) k (n:Nat)) W=_
  unfold Op.shift
  rw [if_neg h0]
  show Sem.run P (pure (Value.int .i64 (IntKind.i64.wrap (((a:Nat):Int)*2 ^ (min ((n:Int)).toNat IntKind.i64.bits))))) W=_
  rw [Int.toNat_natCast,hn,Sem.run_pure]
  congr 2
  rw [show ((a:Int)*2 ^ n)=((a*2 ^ n:Nat):Int) by rw [Int.natCast_mul,Int.natCast_pow];rfl]
  exact i64_nat _ (by omega)
theorem rn_indexE {len r:Nat} {kd:IntKind} {n:Int} (hu:P.underlying s=some (.slice e)) (hi:(P.info? e).map (·.size)=some k) (hx:ρ x=.slice (some ⟨b,off,none⟩) len cap) (hy:ρ y=.int kd n) (h0:0≤n) (h1:n<len) (hr:off+n.toNat*k=r) :
    (execOp ρ ⟨d,.indexAddr s x y,t,p,af,g⟩).run P W=.ok (.value (.pointer (some ⟨b,r,none⟩))) W:=hr ▸ rn_index hu hi hx hy h0 h1
theorem rn_indexArrE {L r:Nat} {kd:IntKind} {n:Int} (hu:P.underlying s=some (.array L e)) (hi:(P.info? e).map (·.size)=some k) (hx:ρ x=.pointer (some ⟨b,off,none⟩)) (hy:ρ y=.int kd n) (h0:0≤n) (h1:n<L) (hr:off+n.toNat*k=r) :
    (execOp ρ ⟨d,.indexAddr s x y,t,p,af,g⟩).run P W=.ok (.value (.pointer (some ⟨b,r,none⟩))) W:=by
  subst hr
  cases hq:P.info? e with
  | none=>simp [hq] at hi
  | some i =>
    have hs:i.size=k:=by simpa [hq] using hi
    simp [execOp,Instr.indexAt,Instr.sureAddr,hx,hy,asIntOf,run_underlying hu,sizeOf,typeInfo,hq,hs,h0,h1,addr_add]
theorem rn_sliceLH {z:Operand} {c l h m:Nat} {k:IntKind} (hu:P.underlying s=some (.slice e)) (hi:(P.info? e).map (·.size)=some sz) (hx:ρ x=.slice (some ⟨b,off,none⟩) n c) (hy:ρ y=.int k (l:Int)) (hz:ρ z=.int k2 (h:Int)) (h1:l≤h) (h2:h≤c) (h3:l<c) (h4:h - l=m) :
    (execOp ρ ⟨d,.slice s x (some y) (some z) none,t,p,af,g⟩).run P W=.ok (.value (.slice (some ⟨b,off+l*sz,none⟩) m (c - l))) W:=by
  subst h4
  have hb:∀ y c',l≤y→(Instr.sliceBound (.int k (l:Int)) y c').run P W=.ok l W:=fun y c' hy=>by rw [bound_ok (by omega) (by omega)];simp
  have hb2:∀ y c',h≤y→(Instr.sliceBound (.int k2 (h:Int)) y c').run P W=.ok h W:=fun y c' hy=>by rw [bound_ok (by omega) (by omega)];simp
  have hne:¬ c=l:=by omega
  simp [execOp,Instr.sliceAt,Instr.slice,Instr.sliceBounds,run_underlying hu,hx,hy,hz,hb h _ h1,hb2 c _ h2,size_of hi,hne,addr_add]
theorem rn_subN {a:Nat} (hx:ρ x=.int .i64 (a:Nat)) (hy:ρ y=.int .i64 (b:Nat)) (h:b≤a) (hb:a≤9223372036854775807):(execOp ρ ⟨d,.binOp .sub xt x y yt,t,p,af,g⟩).run P W=.ok (.value (.int .i64 ((a - b:Nat):Int))) W :=
  rn_sub hx hy (by omega) (by omega)
end
theorem ret_then (h:Q .ret a w):Exit.then K Q .ret a w:=h
theorem ret_block (h:Q .ret a w):Exit.inBlock id Q .ret a w:=h
theorem own_blk0 {g:Nat} {t:TypeId} (h:Blk w g t []):w.ownsRow g t k (.slice (some ⟨g,0,none⟩) 0 0) 0 [] :=
  ⟨by simp,.inr ⟨g,0,#[],rfl,Nat.le_refl _,h,Nat.le_refl _,by unfold maxLen;omega,by simp,by simp⟩⟩
theorem Fl.mid_eq {m c:Nat} (h:Fl S w k (.slice A m c) n xs) (hA:A=some ⟨b,off,none⟩) {j m':Nat} (hj:j≤n) (hm:m'≤n - j) (e:(xs.drop (j*k)).take (m'*k)=ys):Fl S w k (.slice (some ⟨b,off+j*k,none⟩) m' (c - j)) m' ys:=by
  subst hA
  exact e ▸ (h.drop hj).take hm
theorem Fl.blen {l:List UInt8} (h:Fl S w 1 v n (byteVals l)):l.length=n:=by
  have:=h.len;simp [byteVals] at this;omega
theorem Fl.dlen (h:Fl S w 32 v n (digVals l)) (h32:All32 l):l.length=n:=by
  have:=h.len;rw [digVals_len h32] at this;omega
theorem nth_of_lt (l:List α) (k:Nat) (h:k<l.length):∃ x,l[k]?=some x∧x∈l:=⟨l[k],List.getElem?_eq_getElem h,List.getElem_mem h⟩
theorem flat_step {x:List UInt8} (hx:l[k]?=some x):(l.take (k+1)).flatten=(l.take k).flatten++x:=by
  rw [List.take_add_one,hx];simp
theorem flat_le {x:List UInt8} (hx:l[k]?=some x):(l.take k).flatten.length+x.length≤l.flatten.length∧(l.take (k+1)).flatten.length=(l.take k).flatten.length+x.length:=by
  have h:=flat_step hx
  have h2:l.flatten=(l.take (k+1)).flatten++(l.drop (k+1)).flatten:=by rw [← List.flatten_append,List.take_append_drop]
  rw [h2,List.length_append,h,List.length_append]
  omega
theorem splice_take {L:List α} {m:Nat} {cs:List α} (h:off+cs.length≤m) (hm:m≤L.length):(splice L off cs).take m=splice (L.take m) off cs:=by
  have h1:(L.take off).length=off:=by rw [List.length_take];omega
  unfold splice
  rw [List.take_append,List.take_of_length_le (l:=L.take off) (by omega),h1,List.take_append,List.take_of_length_le (l:=cs) (by omega),List.take_take,List.drop_take,Nat.min_eq_left (by omega:off≤m)]
  rw [show m - off - cs.length=m - (off+cs.length) by omega]
theorem splice_len {L:List α} {cs:List α} (h:off+cs.length≤L.length):(splice L off cs).length=L.length:=by
  unfold splice
  simp only [List.length_append,List.length_take,List.length_drop]
  omega
section
variable {N:Nat} {m:List (Nat × Value)} {a:Act} {P:Program} {ops:Array Oper} {Q:Exit→Act→World→Prop} {i:Nat} {w:World} {o:Oper} {K:Act→World→Prop}
theorem run_storeVar_at {cur cells:List Value} (hg:Blk w g t cur) (hi:(P.info? ty).map (·.size)=some cells.length) (hl:off+cells.length≤cur.length) (h1:∀ u∈cells,u.oneCell'=true) :
    ∃ w',(storeVar ty ⟨g,off,none⟩ (.agg cells.toArray)).run P w=.ok () w'∧Blk w' g t (splice cur off cells)∧w.grownBy w' (some g):=by
  have hr:=run_storeCells_at (P:=P) g off t cells 0 cur.toArray w hg (by simpa using hl) h1
  refine ⟨_,?_,setRow_heap w g cur.toArray _ t _ hg,⟨rfl,rfl,rfl,by simp,fun k _ hk=>setRow_other w g k _ (fun e=>hk (by rw [e]))⟩⟩
  cases hq:P.info? ty with
  | none=>simp [hq] at hi
  | some ii =>
    have hs:cells.length=ii.size:=by simp [hq] at hi;omega
    simp only [Nat.add_zero] at hr
    simp [storeVar,sizeOf,typeInfo,hq,Value.cells,hs,hr,splice]
theorem o_storeMid (_hF:Sl N m a) (ho:ops[i]?=some o) (hw:Region.wanted o (yielded ops a.tmps)=true) (hd:o.dst=none) (hop:o.op=.store ty x y) {g off:Nat} {t:TypeId} {old cells new:List Value}
    (hx:a.eval x=.pointer (some ⟨g,off,none⟩)) (hy:a.eval y=.agg cells.toArray) (hg:Blk w g t old) (hi:(P.info? ty).map (·.size)=some cells.length) (hl:off+cells.length≤old.length) (h1:∀ u∈cells,u.oneCell'=true) (hn:splice old off cells=new)
    (h:∀ w',Blk w' g t new→w.grownBy w' (some g)→K a w'):wpOp P ops Q i K a w:=by
  subst hn
  obtain ⟨w',hr,h2,h3⟩:=run_storeVar_at (P:=P) hg hi hl h1
  refine op_do (w':=w') ho hw ?_ (by rw [hd];exact h w' h2 h3)
  unfold execOp
  simp only [hop,hx,hy,Instr.storeAt,Instr.sureAddr,Sem.run_bind,Sem.run_pure,Result.andThen_ok,hr]
theorem o_storeRowK (_hF:Sl N m a) (ho:ops[i]?=some o) (hw:Region.wanted o (yielded ops a.tmps)=true) (hd:o.dst=none) (hop:o.op=.store ty x y) {g off:Nat} {base n cap k j:Nat} {e:TypeId} {xs cells zs:List Value}
    (hx:a.eval x=.pointer (some ⟨g,off,none⟩)) (hy:a.eval y=.agg cells.toArray) (hown:w.ownsRow base e k (.slice (some ⟨g,0,none⟩) n cap) n xs) (hi:(P.info? ty).map (·.size)=some cells.length) (ho2:off=j*k) (hj:j<n) (hk:cells.length=k) (h1:∀ u∈cells,u.oneCell'=true) (hz:splice xs (j*k) cells=zs)
    (h:∀ w',w'.ownsRow base e k (.slice (some ⟨g,0,none⟩) n cap) n zs→w.grownBy w' (some g)→K a w'):wpOp P ops Q i K a w:=by
  subst ho2
  subst hz
  have hjn:(j+1)*k≤n*k:=Nat.mul_le_mul_right _ hj
  rw [Nat.add_mul,Nat.one_mul] at hjn
  rcases hown.2 with ⟨h',_⟩ | ⟨g',cap',cur,h',hb,hg,hnc,hcm,hcs,ht⟩
  · cases h'
  · cases h'
    have hnk:n*k≤cap*k:=Nat.mul_le_mul_right _ hnc
    have hB:Blk w g e cur.toList:=by unfold Blk;rw [Array.toArray_toList];exact hg
    obtain ⟨w',hr,h2,h3⟩:=run_storeVar_at (P:=P) (ty:=ty) (off:=j*k) (cells:=cells) hB hi (by simp;omega) h1
    refine op_do (w':=w') ho hw ?_ (by
      rw [hd]
      refine h w' ⟨?_,.inr ⟨g,cap,(splice cur.toList (j*k) cells).toArray,rfl,hb,h2,hnc,hcm,?_,?_⟩⟩ h3
      · rw [splice_len (by rw [hown.1];omega)];exact hown.1
      · rw [List.size_toArray,splice_len (by simp;omega)];simpa using hcs
      · rw [← ht,List.toList_toArray,splice_take (by omega) (by simp;omega)])
    unfold execOp
    simp only [hop,hx,hy,Instr.storeAt,Instr.sureAddr,Sem.run_bind,Sem.run_pure,Result.andThen_ok,hr]
end
theorem digVals_set:∀ {l:List (List UInt8)},All32 l→∀ {i:Nat} {x:List UInt8},i<l.length→x.length=32→splice (digVals l) (i*32) (byteVals x)=digVals (l.set i x)
  | [],_,i,x,h,_=>absurd h (by simp)
  | y::l,h,0,x,_,hx=>by
    have hy:(byteVals y).length=32:=byteVals_len (h y List.mem_cons_self)
    have hx':(byteVals x).length=32:=byteVals_len hx
    rw [List.set_cons_zero,digVals,digVals,List.flatMap_cons,List.flatMap_cons,splice,Nat.zero_mul,List.take_zero,List.nil_append,Nat.zero_add,hx',List.drop_append,hy,List.drop_eq_nil_of_le (by omega),List.nil_append,Nat.sub_self,List.drop_zero]
  | y::l,h,i+1,x,hi,hx=>by
    have ih:=digVals_set (l:=l) (fun z hz=>h z (List.mem_cons_of_mem _ hz)) (i:=i) (x:=x) (by simpa using hi) hx
    have hy:(byteVals y).length=32:=byteVals_len (h y List.mem_cons_self)
    have hx':(byteVals x).length=32:=byteVals_len hx
    rw [List.set_cons_succ,digVals,digVals,List.flatMap_cons,List.flatMap_cons,← digVals,← digVals,← ih,splice,splice,List.take_append,List.drop_append,hy,hx',List.take_of_length_le (by omega),List.drop_eq_nil_of_le (by omega),List.nil_append,List.append_assoc]
    rw [show (i+1)*32 - 32=i*32 by omega,show (i+1)*32+32 - 32=i*32+32 by omega]
theorem All32.set (h:All32 l) {i:Nat} {x:List UInt8} (hx:x.length=32):All32 (l.set i x):=fun y hy=>by
  rcases List.mem_or_eq_of_mem_set hy with h1 | h1
  · exact h y h1
  · rw [h1];exact hx
def RevInv (l lk:List (List UInt8)) (i:Nat):Prop:=lk.length=l.length∧∀ k,k<l.length→lk.getD k []=if k<i∨l.length - i≤k then l.getD (l.length - 1 - k) [] else l.getD k []
theorem RevInv.start (l:List (List UInt8)):RevInv l l 0:=⟨rfl,fun k hk=>by rw [if_neg (by omega)]⟩
theorem getD_set {i:Nat} {x:List UInt8} (hi:i<l.length):(l.set i x).getD k []=if i=k then x else l.getD k []:=by
  rw [List.getD_eq_getElem?_getD,List.getD_eq_getElem?_getD,List.getElem?_set]
  by_cases h:i=k
  · subst h;simp [hi]
  · simp [h]
theorem RevInv.step {i:Nat} (h:RevInv l lk i) (hij:i<j) (hj:i+j+1=l.length):RevInv l ((lk.set i (lk.getD j [])).set j (lk.getD i [])) (i+1):=by
  obtain ⟨h1,h2⟩:=h
  refine ⟨by simp [h1],fun k hk=>?_⟩
  rw [getD_set (by rw [List.length_set];omega),getD_set (by omega)]
  have ha:=h2 i (by omega)
  have hb:=h2 j (by omega)
  have hc:=h2 k hk
  rw [if_neg (by omega)] at ha
  rw [if_neg (by omega)] at hb
  by_cases e1:j=k
  · subst e1
    rw [if_pos rfl,if_pos (by omega),ha]
    congr 1;omega
  · rw [if_neg e1]
    by_cases e2:i=k
    · subst e2
      rw [if_pos rfl,if_pos (by omega),hb]
      congr 1;omega
    · rw [if_neg e2,hc]
      by_cases e3:k<i∨l.length - i≤k
      · rw [if_pos e3,if_pos (by omega)]
      · rw [if_neg e3,if_neg (by omega)]
theorem RevInv.done {i:Nat} (h:RevInv l lk i) (hi:l.length≤2*i+1):lk=l.reverse:=by
  obtain ⟨h1,h2⟩:=h
  apply List.ext_getElem (by simp [h1])
  intro k hk1 hk2
  have hk:k<l.length:=by omega
  have h3:=h2 k hk
  rw [List.getElem_reverse]
  rw [List.getD_eq_getElem?_getD,List.getElem?_eq_getElem hk1,Option.getD_some] at h3
  rw [h3]
  split
  · rw [List.getD_eq_getElem?_getD,List.getElem?_eq_getElem (by omega),Option.getD_some]
  · rw [List.getD_eq_getElem?_getD,List.getElem?_eq_getElem hk,Option.getD_some]
    congr 1;omega
theorem RevInv.all32 {i:Nat} (h:RevInv l lk i) (h32:All32 l):All32 lk:=by
  obtain ⟨h1,h2⟩:=h
  intro x hx
  obtain ⟨k,hk,rfl⟩:=List.getElem_of_mem hx
  have h3:=h2 k (by omega)
  rw [List.getD_eq_getElem?_getD,List.getElem?_eq_getElem hk,Option.getD_some] at h3
  rw [h3]
  split
  · exact dig_len h32 _ (by omega)
  · exact dig_len h32 _ (by omega)
theorem ret4 {N:Nat} {m:List (Nat × Value)} {a:Act} {P:Program} {w:World} {t1 t2 t3 t4:Nat} {v4:Value} (hF:Sl N m a) (hr:fn.results=#[.tmp t1,.tmp t2,.tmp t3,.tmp t4]) (h1:look m t1=some v1) (h2:look m t2=some v2) (h3:look m t3=some v3) (h4:look m t4=some v4) (h:R (.returned (.tuple #[v1,v2,v3,v4])) w):bodyPost P fn R .ret a w:=by
  have e1:=hF.get h1;have e2:=hF.get h2;have e3:=hF.get h3;have e4:=hF.get h4
  simp only [Act.eval,Array.getD_eq_getD_getElem?] at e1 e2 e3 e4
  refine bodyPost_ret ?_ hF.2.1 h
  simp [results,hr,e1,e2,e3,e4]
section
variable {P:Program} {ops:Array Oper} {Q:Exit→Act→World→Prop} {S S2:World→Prop} {F:Nat→Bool} {light:Nat→Bool}
def wpAnyG (P:Program) (ops:Array Oper) (Q:Exit→Act→World→Prop) (S:World→Prop) (F:Nat→Bool) (S2:World→Prop):Nat→Array Bool→Act→World→Prop
  | 0,listed,a,w=>Region.ready .any ops listed=[]∧Q .normal a w
  | fuel+1,listed,a,w =>
    (Region.ready .any ops listed=[]→Q .normal a w) ∧
    ∀ i∈Region.ready .any ops listed,wpOp P ops Q i (fun a' w'=>((F i=false→S w→S w')∧(S2 w→S2 w'))∧wpAnyG P ops Q S F S2 fuel (listed.setIfInBounds i true) a' w') a w
theorem wpAny_of_G:∀ (fuel:Nat) (listed:Array Bool) (a:Act) (w:World),wpAnyG P ops Q S F S2 fuel listed a w→wpAny P .any ops Q fuel listed a w
  | 0,_,_,_,h=>h
  | fuel+1,_,_,_,h=>⟨h.1,fun i hi=>wpOp_mono (fun a' w' h'=>wpAny_of_G fuel _ a' w' h'.2) (h.2 i hi)⟩
theorem wpAnyG_first {i:Nat} {v:Value} (hi:ops[i]?=some oi) (hsel:∀ (j:Nat) (o:Oper) cs b,ops[j]?=some o→o.op≠.select cs b)
    (hQ:∀ c a w,Q (.panic c) (a.put oi.dst v) w→Q (.panic c) a w) (hFi:F i=false) :
    ∀ (fuel:Nat) (listed:Array Bool) (a:Act) (w:World),
      (∀ j oj,ops[j]?=some oj→j≠i→listed.getD j true=false→(∀ e∈oj.after,Region.binds .any e=true→e.on≠i)→oi.apart ops oj=true) →
      (∀ j oj,ops[j]?=some oj→F j=true→∃ e∈oj.after,Region.binds .any e=true∧e.on=i) →
      i∈Region.ready .any ops listed→YieldsIf P ops S oi v a→S w →
      wpAnyG P ops Q S F S2 fuel (listed.setIfInBounds i true) (a.put oi.dst v) w→wpAnyG P ops Q S F S2 (fuel+1) listed a w:=by
  intro fuel
  induction fuel with
  | zero =>
    intro listed a w _ _ hr hy hS H
    refine ⟨fun h=>(by rw [h] at hr;cases hr),fun j hj=>?_⟩
    by_cases hji:j=i
    · subst hji;exact hy.wpOp hi hS ⟨⟨fun _ h=>h,fun h=>h⟩,H⟩
    · have:=ready_mono hj hji
      rw [H.1] at this
      cases this
  | succ fuel ih =>
    intro listed a w hfree hwait hr hy hS H
    refine ⟨fun h=>(by rw [h] at hr;cases hr),fun j hj=>?_⟩
    by_cases hji:j=i
    · subst hji;exact hy.wpOp hi hS ⟨⟨fun _ h=>h,fun h=>h⟩,H⟩
    · have h1:=H.2 j (ready_mono hj hji)
      obtain ⟨hjun,oj,hoj,hall⟩:=mem_ready.1 hj
      have hnot:∀ e∈oj.after,Region.binds .any e=true→e.on≠i:=fun e he hb heq=>by
        have h1:=hall e he hb
        have h0:=(mem_ready.1 hr).1
        rw [heq] at h1
        rcases Nat.lt_or_ge i listed.size with h' | h'
        · simp [h'] at h0 h1;rw [h0] at h1;cases h1
        · simp [Array.getElem?_eq_none h'] at h1
      have hFj:F j=false:=by
        cases hF:F j with
        | false=>rfl
        | true =>
          obtain ⟨e,he,hb,heq⟩:=hwait j oj hoj hF
          exact absurd heq (hnot e he hb)
      have h2:=wpOp_putIf hoj (hfree j oj hoj hji hjun hnot) (fun cs b=>hsel i oi cs b hi) (fun cs b=>hsel j oj cs b hoj) hQ hy h1
      have hfree':∀ k ok,ops[k]?=some ok→k≠i→(listed.setIfInBounds j true).getD k true=false →
          (∀ e∈ok.after,Region.binds .any e=true→e.on≠i)→oi.apart ops ok=true:=fun k ok hk hki hun hno=>by
        refine hfree k ok hk hki ?_ hno
        by_cases hjk:j=k
        · subst hjk;exact hjun
        · rw [getD_set_ne true hjk] at hun;exact hun
      refine wpOp_mono (fun a' w' h3=>⟨h3.2.1,ih (listed.setIfInBounds j true) a' w' hfree' hwait (ready_mono hr (Ne.symm hji)) h3.1 (h3.2.1.1 hFj hS) ?_⟩) h2
      rw [Array.setIfInBounds_comm _ _ hji]
      exact h3.2.2
theorem wpAnyG_first2 {i:Nat} {v:Value} (hi:ops[i]?=some oi) (hsel:∀ (j:Nat) (o:Oper) cs b,ops[j]?=some o→o.op≠.select cs b)
    (hQ:∀ c a w,Q (.panic c) (a.put oi.dst v) w→Q (.panic c) a w) :
    ∀ (fuel:Nat) (listed:Array Bool) (a:Act) (w:World),
      (∀ j oj,ops[j]?=some oj→j≠i→listed.getD j true=false→(∀ e∈oj.after,Region.binds .any e=true→e.on≠i)→oi.apart ops oj=true) →
      i∈Region.ready .any ops listed→YieldsIf P ops S2 oi v a→S2 w →
      wpAnyG P ops Q S F S2 fuel (listed.setIfInBounds i true) (a.put oi.dst v) w→wpAnyG P ops Q S F S2 (fuel+1) listed a w:=by
  intro fuel
  induction fuel with
  | zero =>
    intro listed a w _ hr hy hS H
    refine ⟨fun h=>(by rw [h] at hr;cases hr),fun j hj=>?_⟩
    by_cases hji:j=i
    · subst hji;exact hy.wpOp hi hS ⟨⟨fun _ h=>h,fun h=>h⟩,H⟩
    · have:=ready_mono hj hji
      rw [H.1] at this
      cases this
  | succ fuel ih =>
    intro listed a w hfree hr hy hS H
    refine ⟨fun h=>(by rw [h] at hr;cases hr),fun j hj=>?_⟩
    by_cases hji:j=i
    · subst hji;exact hy.wpOp hi hS ⟨⟨fun _ h=>h,fun h=>h⟩,H⟩
    · have h1:=H.2 j (ready_mono hj hji)
      obtain ⟨hjun,oj,hoj,hall⟩:=mem_ready.1 hj
      have hnot:∀ e∈oj.after,Region.binds .any e=true→e.on≠i:=fun e he hb heq=>by
        have h1:=hall e he hb
        have h0:=(mem_ready.1 hr).1
        rw [heq] at h1
        rcases Nat.lt_or_ge i listed.size with h' | h'
        · simp [h'] at h0 h1;rw [h0] at h1;cases h1
        · simp [Array.getElem?_eq_none h'] at h1
      have h2:=wpOp_putIf hoj (hfree j oj hoj hji hjun hnot) (fun cs b=>hsel i oi cs b hi) (fun cs b=>hsel j oj cs b hoj) hQ hy h1
      have hfree':∀ k ok,ops[k]?=some ok→k≠i→(listed.setIfInBounds j true).getD k true=false →
          (∀ e∈ok.after,Region.binds .any e=true→e.on≠i)→oi.apart ops ok=true:=fun k ok hk hki hun hno=>by
        refine hfree k ok hk hki ?_ hno
        by_cases hjk:j=k
        · subst hjk;exact hjun
        · rw [getD_set_ne true hjk] at hun;exact hun
      refine wpOp_mono (fun a' w' h3=>⟨h3.2.1,ih (listed.setIfInBounds j true) a' w' hfree' (ready_mono hr (Ne.symm hji)) h3.1 (h3.2.1.2 hS) ?_⟩) h2
      rw [Array.setIfInBounds_comm _ _ hji]
      exact h3.2.2
theorem wpAnyG_firstP {i:Nat} {v:Value} (hi:ops[i]?=some oi) (hsel:∀ (j:Nat) (o:Oper) cs b,ops[j]?=some o→o.op≠.select cs b)
    (hQ:∀ c a w,Q (.panic c) (a.put oi.dst v) w→Q (.panic c) a w) :
    ∀ (fuel:Nat) (listed:Array Bool) (a:Act) (w:World),
      (∀ j oj,ops[j]?=some oj→j≠i→listed.getD j true=false→(∀ e∈oj.after,Region.binds .any e=true→e.on≠i)→oi.apart ops oj=true) →
      i∈Region.ready .any ops listed→Yields P ops oi v a →
      wpAnyG P ops Q S F S2 fuel (listed.setIfInBounds i true) (a.put oi.dst v) w→wpAnyG P ops Q S F S2 (fuel+1) listed a w:=by
  intro fuel
  induction fuel with
  | zero =>
    intro listed a w _ hr hy H
    refine ⟨fun h=>(by rw [h] at hr;cases hr),fun j hj=>?_⟩
    by_cases hji:j=i
    · subst hji;exact hy.wpOp hi ⟨⟨fun _ h=>h,fun h=>h⟩,H⟩
    · have:=ready_mono hj hji
      rw [H.1] at this
      cases this
  | succ fuel ih =>
    intro listed a w hfree hr hy H
    refine ⟨fun h=>(by rw [h] at hr;cases hr),fun j hj=>?_⟩
    by_cases hji:j=i
    · subst hji;exact hy.wpOp hi ⟨⟨fun _ h=>h,fun h=>h⟩,H⟩
    · have h1:=H.2 j (ready_mono hj hji)
      obtain ⟨hjun,oj,hoj,hall⟩:=mem_ready.1 hj
      have hnot:∀ e∈oj.after,Region.binds .any e=true→e.on≠i:=fun e he hb heq=>by
        have h1:=hall e he hb
        have h0:=(mem_ready.1 hr).1
        rw [heq] at h1
        rcases Nat.lt_or_ge i listed.size with h' | h'
        · simp [h'] at h0 h1;rw [h0] at h1;cases h1
        · simp [Array.getElem?_eq_none h'] at h1
      have h2:=wpOp_put hoj (hfree j oj hoj hji hjun hnot) (fun cs b=>hsel i oi cs b hi) (fun cs b=>hsel j oj cs b hoj) hQ hy h1
      have hfree':∀ k ok,ops[k]?=some ok→k≠i→(listed.setIfInBounds j true).getD k true=false →
          (∀ e∈ok.after,Region.binds .any e=true→e.on≠i)→oi.apart ops ok=true:=fun k ok hk hki hun hno=>by
        refine hfree k ok hk hki ?_ hno
        by_cases hjk:j=k
        · subst hjk;exact hjun
        · rw [getD_set_ne true hjk] at hun;exact hun
      refine wpOp_mono (fun a' w' h3=>⟨h3.2.1,ih (listed.setIfInBounds j true) a' w' hfree' (ready_mono hr (Ne.symm hji)) h3.1 ?_⟩) h2
      rw [Array.setIfInBounds_comm _ _ hji]
      exact h3.2.2
theorem anyg_start {a:Act} {w:World} (S:World→Prop) (F:Nat→Bool) (S2:World→Prop) (n:Nat) (L:Array Bool) (hm:P.follows .mixedOrders=true) (hn:n=ops.size) (hL:L=Array.replicate ops.size false)
    (h:wpAnyG P ops Q S F S2 n L a w.drew):(Code.region id ops true).wp P Q a w :=
  wp_region_any hm (wpAny_of_G _ _ _ _ (hL ▸ hn ▸ h))
theorem anyg_nil {a:Act} {w:World} (hr:Region.ready .any ops L=[]) (h:Q .normal a w):wpAnyG P ops Q S F S2 0 L a w:=⟨hr,h⟩
theorem anyg_light {i:Nat} {a:Act} {w:World} {o:Oper} {v:Value} (hs:Region.noSelect ops=true) (hb:lightB ops F L i=true) (hL:L.setIfInBounds i true=L') (ho:ops[i]?=some o) (hQ:∀ c a w,Q (.panic c) (a.put o.dst v) w→Q (.panic c) a w) (hw:Region.wanted o (yielded ops a.tmps)=true) (hS:S w)
    (hr:∀ W,S W→(execOp a.eval o).run P W=.ok (.value v) W) (h:wpAnyG P ops Q S F S2 n L' (a.put o.dst v) w):wpAnyG P ops Q S F S2 (n+1) L a w:=by
  subst hL
  simp only [lightB,Bool.and_eq_true,Bool.not_eq_true'] at hb
  obtain ⟨⟨⟨h2,h3⟩,h4⟩,h5⟩:=hb
  exact wpAnyG_first ho (Region.noSelect_spec hs) hQ h2 n L a w (Region.free_spec ho h3) (fun j oj hj hF=>waitsB_spec h5 j oj hj hF) (by simpa using h4) (.inl ⟨hw,hr⟩) hS h
theorem anyg_pureY {i:Nat} {a:Act} {w:World} {o:Oper} {v:Value} (hs:Region.noSelect ops=true) (hb:freeB ops L i=true) (hL:L.setIfInBounds i true=L') (ho:ops[i]?=some o) (hQ:∀ c a w,Q (.panic c) (a.put o.dst v) w→Q (.panic c) a w)
    (hy:Yields P ops o v a) (h:wpAnyG P ops Q S F S2 n L' (a.put o.dst v) w):wpAnyG P ops Q S F S2 (n+1) L a w:=by
  subst hL
  simp only [freeB,Bool.and_eq_true] at hb
  exact wpAnyG_firstP ho (Region.noSelect_spec hs) hQ n L a w (Region.free_spec ho hb.1) (by simpa using hb.2) hy h
theorem anyg_one {i:Nat} {a:Act} {w:World} (hr:Region.ready .any ops L=[i]) (hL:L.setIfInBounds i true=L')
    (h:wpOp P ops Q i (fun a' w'=>((F i=false→S w→S w')∧(S2 w→S2 w'))∧wpAnyG P ops Q S F S2 n L' a' w') a w):wpAnyG P ops Q S F S2 (n+1) L a w:=by
  subst hL
  refine ⟨fun h0=>(by rw [hr] at h0;cases h0),fun j hj=>?_⟩
  rw [hr] at hj
  simp only [List.mem_singleton] at hj
  subst hj
  exact h
def light2B (ops:Array Oper) (listed:Array Bool) (i:Nat):Bool:=Region.free .any ops listed i&&(Region.ready .any ops listed).contains i
theorem anyg_light2 {i:Nat} {a:Act} {w:World} {o:Oper} {v:Value} (hs:Region.noSelect ops=true) (hb:light2B ops L i=true) (hL:L.setIfInBounds i true=L') (ho:ops[i]?=some o) (hQ:∀ c a w,Q (.panic c) (a.put o.dst v) w→Q (.panic c) a w) (hw:Region.wanted o (yielded ops a.tmps)=true) (hS:S2 w)
    (hr:∀ W,S2 W→(execOp a.eval o).run P W=.ok (.value v) W) (h:wpAnyG P ops Q S F S2 n L' (a.put o.dst v) w):wpAnyG P ops Q S F S2 (n+1) L a w:=by
  subst hL
  simp only [light2B,Bool.and_eq_true] at hb
  exact wpAnyG_first2 ho (Region.noSelect_spec hs) hQ n L a w (Region.free_spec ho hb.1) (by simpa using hb.2) (.inl ⟨hw,hr⟩) hS h
variable {N d:Nat} {m:List (Nat × Value)} {a:Act} {w:World} {o:Oper} {v:Value} {i:Nat}
theorem anyg_val (hF:Sl N m a) (hs:Region.noSelect ops=true) (hb:lightB ops F L i=true) (hL:L.setIfInBounds i true=L') (ho:ops[i]?=some o) (hd:o.dst=some d) (hN:Nat.blt d N=true)
    (hQ:∀ c a w v,Q (.panic c) (a.put (some d) v) w→Q (.panic c) a w) (hw:Region.wanted o (yielded ops a.tmps)=true) (hS:S w)
    (hr:∀ W,S W→(execOp a.eval o).run P W=.ok (.value v) W) (h:∀ a',Sl N ((d,v)::m) a'→wpAnyG P ops Q S F S2 n L' a' w):wpAnyG P ops Q S F S2 (n+1) L a w :=
  anyg_light hs hb hL ho (by rw [hd];exact fun c a w=>hQ c a w _) hw hS hr (h _ (by rw [hd];exact hF.put hN))
theorem anyg_val2 (hF:Sl N m a) (hs:Region.noSelect ops=true) (hb:light2B ops L i=true) (hL:L.setIfInBounds i true=L') (ho:ops[i]?=some o) (hd:o.dst=some d) (hN:Nat.blt d N=true)
    (hQ:∀ c a w v,Q (.panic c) (a.put (some d) v) w→Q (.panic c) a w) (hw:Region.wanted o (yielded ops a.tmps)=true) (hS:S2 w)
    (hr:∀ W,S2 W→(execOp a.eval o).run P W=.ok (.value v) W) (h:∀ a',Sl N ((d,v)::m) a'→wpAnyG P ops Q S F S2 n L' a' w):wpAnyG P ops Q S F S2 (n+1) L a w :=
  anyg_light2 hs hb hL ho (by rw [hd];exact fun c a w=>hQ c a w _) hw hS hr (h _ (by rw [hd];exact hF.put hN))
theorem anyg_pure (hF:Sl N m a) (hs:Region.noSelect ops=true) (hb:freeB ops L i=true) (hL:L.setIfInBounds i true=L') (ho:ops[i]?=some o) (hd:o.dst=some d) (hN:Nat.blt d N=true)
    (hQ:∀ c a w v,Q (.panic c) (a.put (some d) v) w→Q (.panic c) a w) (hw:Region.wanted o (yielded ops a.tmps)=true)
    (hr:∀ W,(execOp a.eval o).run P W=.ok (.value v) W) (h:∀ a',Sl N ((d,v)::m) a'→wpAnyG P ops Q S F S2 n L' a' w):wpAnyG P ops Q S F S2 (n+1) L a w :=
  anyg_pureY hs hb hL ho (by rw [hd];exact fun c a w=>hQ c a w _) (.inl ⟨hw,hr⟩) (h _ (by rw [hd];exact hF.put hN))
theorem anyg_pass (hF:Sl N m a) (hs:Region.noSelect ops=true) (hb:freeB ops L i=true) (hL:L.setIfInBounds i true=L') (ho:ops[i]?=some o) (hd:o.dst=some d) (hN:Nat.blt d N=true)
    (hQ:∀ c a w v,Q (.panic c) (a.put (some d) v) w→Q (.panic c) a w) (hw:Region.wanted o (yielded ops a.tmps)=false)
    (h:∀ a',Sl N ((d,undef)::m) a'→wpAnyG P ops Q S F S2 n L' a' w):wpAnyG P ops Q S F S2 (n+1) L a w :=
  anyg_pureY hs hb hL ho (by rw [hd];exact fun c a w=>hQ c a w _) (.inr ⟨hw,rfl⟩) (h _ (by rw [hd];exact hF.put hN))
end
section
variable {P:Program} {ops:Array Oper} {Q:Exit→Act→World→Prop} {S S2:World→Prop} {F:Nat→Bool} {w:World} {o:Oper} {d N n:Nat} {m:List (Nat × Value)} {a:Act} {L L':Array Bool}
theorem qp (i:Nat) (v:Value) (hF:Sl N m a) (ho:ops[i]?=some o) (hw:Region.wanted o (yielded ops a.tmps)=true) (hr:∀ W,(execOp a.eval o).run P W=.ok (.value v) W) (h:∀ a',Sl N ((d,v)::m) a'→wpAnyF P ops Q S F n L' a' w)
    (hd:o.dst=some d:=by rfl) (hL:L.setIfInBounds i true=L':=by rfl) (hs:Region.noSelect ops=true:=by decide +kernel) (hb:freeB ops L i=true:=by decide +kernel) (hN:Nat.blt d N=true:=by rfl)
    (hQ:∀ c a w v,Q (.panic c) (a.put (some d) v) w→Q (.panic c) a w:=by exact fun _ _ _ _ h=>h):wpAnyF P ops Q S F (n+1) L a w:=any_pure hF hs hb hL ho hd hN hQ hw hr h
theorem qs (i:Nat) (v:Value) (hF:Sl N m a) (ho:ops[i]?=some o) (hw:Region.wanted o (yielded ops a.tmps)=true) (hS:S w) (hr:∀ W,S W→(execOp a.eval o).run P W=.ok (.value v) W) (h:∀ a',Sl N ((d,v)::m) a'→wpAnyF P ops Q S F n L' a' w)
    (hd:o.dst=some d:=by rfl) (hL:L.setIfInBounds i true=L':=by rfl) (hs:Region.noSelect ops=true:=by decide +kernel) (hb:lightB ops F L i=true:=by decide +kernel) (hN:Nat.blt d N=true:=by rfl)
    (hQ:∀ c a w v,Q (.panic c) (a.put (some d) v) w→Q (.panic c) a w:=by exact fun _ _ _ _ h=>h):wpAnyF P ops Q S F (n+1) L a w:=any_val hF hs hb hL ho hd hN hQ hw hS hr h
theorem gp (i:Nat) (v:Value) (hF:Sl N m a) (ho:ops[i]?=some o) (hw:Region.wanted o (yielded ops a.tmps)=true) (hr:∀ W,(execOp a.eval o).run P W=.ok (.value v) W) (h:∀ a',Sl N ((d,v)::m) a'→wpAnyG P ops Q S F S2 n L' a' w)
    (hd:o.dst=some d:=by rfl) (hL:L.setIfInBounds i true=L':=by rfl) (hs:Region.noSelect ops=true:=by decide +kernel) (hb:freeB ops L i=true:=by decide +kernel) (hN:Nat.blt d N=true:=by rfl)
    (hQ:∀ c a w v,Q (.panic c) (a.put (some d) v) w→Q (.panic c) a w:=by exact fun _ _ _ _ h=>h):wpAnyG P ops Q S F S2 (n+1) L a w:=anyg_pure hF hs hb hL ho hd hN hQ hw hr h
theorem gs (i:Nat) (v:Value) (hF:Sl N m a) (ho:ops[i]?=some o) (hw:Region.wanted o (yielded ops a.tmps)=true) (hS:S w) (hr:∀ W,S W→(execOp a.eval o).run P W=.ok (.value v) W) (h:∀ a',Sl N ((d,v)::m) a'→wpAnyG P ops Q S F S2 n L' a' w)
    (hd:o.dst=some d:=by rfl) (hL:L.setIfInBounds i true=L':=by rfl) (hs:Region.noSelect ops=true:=by decide +kernel) (hb:lightB ops F L i=true:=by decide +kernel) (hN:Nat.blt d N=true:=by rfl)
    (hQ:∀ c a w v,Q (.panic c) (a.put (some d) v) w→Q (.panic c) a w:=by exact fun _ _ _ _ h=>h):wpAnyG P ops Q S F S2 (n+1) L a w:=anyg_val hF hs hb hL ho hd hN hQ hw hS hr h
theorem gn (i:Nat) (hF:Sl N m a) (ho:ops[i]?=some o) (hw:Region.wanted o (yielded ops a.tmps)=false) (h:∀ a',Sl N ((d,undef)::m) a'→wpAnyG P ops Q S F S2 n L' a' w)
    (hd:o.dst=some d:=by rfl) (hL:L.setIfInBounds i true=L':=by rfl) (hs:Region.noSelect ops=true:=by decide +kernel) (hb:freeB ops L i=true:=by decide +kernel) (hN:Nat.blt d N=true:=by rfl)
    (hQ:∀ c a w v,Q (.panic c) (a.put (some d) v) w→Q (.panic c) a w:=by exact fun _ _ _ _ h=>h):wpAnyG P ops Q S F S2 (n+1) L a w:=anyg_pass hF hs hb hL ho hd hN hQ hw h
variable {j dj:Nat} {b x y:Bool} {oj:Oper}
theorem qg (i:Nat) (v:Value) (hF:Sl N m a) (hy:y=x) (hr:(execOp a.eval o).run P w=.ok (.value v) w) (h:∀ a',Sl N ((d,v)::m) a'→wpList P ops Q rest a' w)
    (hg:o.guard=some (j,b):=by rfl) (hj:ops[j]?=some oj:=by rfl) (hdj:oj.dst=some dj:=by rfl) (hv:look m dj=some (.bool y):=by rfl) (hb:(x==b)=true:=by rfl)
    (ho:ops[i]?=some o:=by rfl) (hd:o.dst=some d:=by rfl) (hN:Nat.blt d N=true:=by rfl):wpList P ops Q (o::rest) a w:=wpl_op ho (o_val hF ho (wanted_guard hg hj hdj hF hv hy hb) hd hN hr h)
theorem Sl.c (h0:Sl N m' a) (hF:Sl N m a) (t:Nat) (h:look m t=some v):Sl N ((t,v)::m') a:=h0.cons (hF.get h)
end
theorem Fl.digPart {m c r:Nat} (h:Fl S w 32 (.slice A m c) n (digVals l)) (hA:A=some ⟨b,off,none⟩) (h32:All32 l) {i:Nat} (hi:i<n) (hr:off+i*32=r):Fl S w 1 (.slice (some ⟨b,r,none⟩) 32 32) 32 (byteVals (l.getD i [])):=by
  subst hr
  have hl:=Fl.dlen h h32
  obtain ⟨b',off',hA',hb,hS,hx⟩:=h.at (by omega)
  rw [hA] at hA'
  cases hA'
  have hlen:=dig_len h32 i (by omega)
  refine ⟨_,_,rfl,⟨Nat.le_refl _,by omega⟩,⟨by rw [byteVals_len hlen],byteVals_one _,fun _=>⟨b,_,rfl,hb,fun j u hu=>?_⟩⟩,fun _=>⟨b,_,rfl,hS⟩⟩
  exact Fl.digAt h hA h32 (by omega) j u hu
theorem own_base (h:w.ownsRow base e k v n xs) (hb:base'≤base):w.ownsRow base' e k v n xs:=by
  refine ⟨h.1,?_⟩
  rcases h.2 with h0 | ⟨g,cap,cur,h1,h2,rest⟩
  · exact .inl h0
  · exact .inr ⟨g,cap,cur,h1,Nat.le_trans hb h2,rest⟩
theorem take_succ_eq [DecidableEq α] {d:α} {a b:List α} (h:a.take k=b.take k) (ha:k<a.length) (hb:k<b.length) (he:a.getD k d=b.getD k d):a.take (k+1)=b.take (k+1):=by
  rw [List.getD_eq_getElem?_getD,List.getD_eq_getElem?_getD,List.getElem?_eq_getElem ha,List.getElem?_eq_getElem hb] at he
  have he':a[k]=b[k]:=he
  rw [List.take_add_one,List.take_add_one,h,List.getElem?_eq_getElem ha,List.getElem?_eq_getElem hb,he']
theorem take_all_eq {a b:List α} (h:a.take k=b.take k) (ha:a.length≤k) (hl:a.length=b.length):a=b:=by
  rwa [List.take_of_length_le ha,List.take_of_length_le (by omega)] at h
theorem ne_of_getD {d:α} {a b:List α} (h:a.getD k d≠b.getD k d):a≠b:=fun e=>h (by rw [e])
theorem ne_of_len {a b:List α} (h:a.length≠b.length):a≠b:=fun e=>h (by rw [e])
theorem freeze_at_old (w:World) (g n j:Nat) (hj:j≠g):(w.freeze ⟨g,n,none⟩ 1).heap[j]?=w.heap[j]?:=by
  simp [World.freeze,Array.getElem?_modify,Ne.symm hj]
theorem freeze_at {w:World} {g:Nat} {cs:Array Value} {t:TypeId} (h:w.heap[g]?=some (.cells cs t (0,0))):∃ z,(w.freeze ⟨g,n,none⟩ 1).heap[g]?=some (.cells cs t z):=by
  refine ⟨(cs.size,cs.size+1) |> fun _=>(n,n+1),?_⟩
  simp [World.freeze,Array.getElem?_modify,h]
section
variable {N:Nat} {m:List (Nat × Value)} {a:Act} {P:Program} {ops:Array Oper} {Q:Exit→Act→World→Prop} {i:Nat} {w:World} {o:Oper} {K:Act→World→Prop} {d:Nat}
theorem o_mark {x:Operand} {l:List UInt8} {g c:Nat} {t:TypeId} (hF:Sl N m a) (ho:ops[i]?=some o) (hw:Region.wanted o (yielded ops a.tmps)=true) (hd:o.dst=some d) (hN:Nat.blt d N=true) (hop:o.op=.convert src src x) (hx:a.eval x=.slice (some ⟨g,0,none⟩) n c)
    (hs:P.underlying src=some (.slice e)) (he:P.underlying e=some (.int .u8)) (hg:Blk w g t (byteVals l)) (hl:l.length=n) (hc:n≤c) (hm:c≤9223372036854775807)
    (h:∀ w' a',Sl N ((d,.slice (some ⟨g,0,none⟩) n c)::m) a'→Fl (fun b=>b=g) w' 1 (.slice (some ⟨g,0,none⟩) n c) n (byteVals l)→w.grownBy w' (some g)→K a' w'):wpOp P ops Q i K a w:=by
  have hsh:w.shape? g=some (t,(byteVals l).toArray.size):=by unfold World.shape?;rw [show w.heap[g]?=_ from hg]
  have hrun:(convert src src (.slice (some ⟨g,0,none⟩) n c)).run P w=.ok (.slice (some ⟨g,0,none⟩) n c) (w.freeze ⟨g,(byteVals l).toArray.size,none⟩ 1):=by
    simp [convert,run_underlying hs,run_underlying he,markStringish,hsh,Result.andThen]
  obtain ⟨z,hz⟩:=freeze_at (n:=(byteVals l).toArray.size) hg
  refine op_run ho hw (v:=.slice (some ⟨g,0,none⟩) n c) (w':=w.freeze ⟨g,(byteVals l).toArray.size,none⟩ 1) ?_ (h _ _ (by rw [hd];exact hF.put hN) ?_ ⟨rfl,rfl,rfl,by simp [World.freeze],fun j _ hj=>freeze_at_old w g _ j (fun e=>hj (by rw [e]))⟩)
  · unfold execOp
    simp only [hop,hx,Sem.run_bind,hrun,Result.andThen_ok,Sem.run_pure]
  · refine ⟨_,_,rfl,⟨hc,hm⟩,⟨by rw [byteVals_len hl];omega,byteVals_one _,fun _=>⟨g,0,rfl,by simp [World.freeze];exact hg.lt,fun j u hu=>?_⟩⟩,fun _=>⟨g,0,rfl,rfl⟩⟩
    rw [Nat.zero_add]
    simp only [World.cell?,hz]
    simpa using hu
end
section
variable {P:Program} {ρ:Operand→Value} {W:World} {d:Option Tmp} {t xt yt:TypeId} {p:String} {af:Array Edge} {g:Option (Nat × Bool)} {x y:Operand}
end
theorem cvi_8 (n:Nat):IntKind.u8.wrap (n:Int)=(((UInt8.ofNat n).toNat:Nat):Int):=by
  rw [wrap8m,UInt8.toNat_ofNat'];omega
theorem made_one (z:Value) (n:Nat):madeCells #[z] (n*1)=(List.replicate n z).toArray:=by
  rw [Nat.mul_one]
  apply Array.ext
  · simp [madeCells]
  · intro i h1 h2
    simp [madeCells,Nat.mod_one]
theorem rn_makeN {P:Program} {ρ:Operand→Value} {W:World} {d:Option Tmp} {t:TypeId} {p:String} {af:Array Edge} {g:Option (Nat × Bool)} (E:El P s e z 1 bytes) (hz:z.cells=#[z]) {x y:Operand} {kx ky:IntKind} {n:Nat} {cs:List Value} (hx:ρ x=.int kx n) (hy:ρ y=.int ky n) (h:n*bytes≤140737488355328) (h2:n≤9223372036854775807) (hc:List.replicate n z=cs) :
    (execOp ρ ⟨d,.makeSlice s x y,t,p,af,g⟩).run P W=.ok (.value (.slice (some ⟨W.heap.size,0,none⟩) n n)) (W.alloc (.cells cs.toArray e)):=by
  obtain ⟨ii,hi,hz0,hz1,hz2⟩:=info_parts E.hi
  have hb:(ii.bytes:Int)*(n:Int)≤281474976710656:=by
    rw [← Int.natCast_mul,hz2,Nat.mul_comm];omega
  have hr:=run_make (P:=P) W s e ii z E.ht hi hz0 kx ky n n (by omega) (Int.le_refl _) hb (by omega)
  refine rn_make hx hy (hr.trans ?_)
  rw [Int.toNat_natCast,hz1,hz,made_one,hc]
theorem unwanted_undef {ops:Array Oper} {o:Oper} {b:Bool} (hg:o.guard=some (j,b)) (hj:ops[j]?=some oj) (hd:oj.dst=some dj) (hF:Sl N m a) (hv:look m dj=some undef):Region.wanted o (yielded ops a.tmps)=false:=by
  have h:=hF.get hv
  simp only [Act.eval,Array.getD_eq_getD_getElem?] at h
  have h2:yielded ops a.tmps j=none:=by
    cases hc:a.tmps[dj]? with
    | none=>simp [yielded,hj,hd,hc]
    | some u =>
      rw [hc] at h
      have h:u=undef:=h
      subst h
      simp [yielded,hj,hd,hc,undef]
  simp [Region.wanted,hg,h2]
section
variable {P:Program} {ops:Array Oper} {Q:Exit→Act→World→Prop} {S S2:World→Prop} {F:Nat→Bool}
theorem any_have {n1:Nat} {a:Act} {w:World} (R:Act→World→Prop) (h1:∀ a W,R a W→wpAnyF P ops Q S F n1 L1 a W) (h2:(∀ a W,R a W→wpAnyF P ops Q S F n1 L1 a W)→wpAnyF P ops Q S F n L a w):wpAnyF P ops Q S F n L a w:=h2 h1
end
theorem own_new {w:World} (h:w.ownsRow base e k v n xs) (hg:w.heap.size=g):some g≠v.ownBlock:=fun e1=>by
  have:=(h.lt g e1.symm).2
  omega
section
variable {N:Nat} {m:List (Nat × Value)} {a:Act} {P:Program} {ops:Array Oper} {Q:Exit→Act→World→Prop} {i:Nat} {w:World} {o:Oper} {K:Act→World→Prop} {d:Nat}
theorem o_appB (E:El P t e z k bytes) (hF:Sl N m a) (ho:ops[i]?=some o) (hw:Region.wanted o (yielded ops a.tmps)=true) (hd:o.dst=some d) (hN:Nat.blt d N=true) {s x:Operand}
    (hop:o.op=.call { callee:=.builtin .append,args:=#[s,x],argTypes:=#[t,t] }) {B:Option Addr} {n c0:Nat} (hs:a.eval s=.slice B n c0) {A:Option Addr} {n2 c:Nat} (hx:a.eval x=.slice A n2 c)
    {base:Nat} {xs ys zs:List Value} (hown:w.ownsRow base e k (.slice B n c0) n xs) (hr:Cel w k A n2 ys) (hbase:base≤w.heap.size)
    (h63:n+n2≤9223372036854775807) (hbytes:(n+n2)*bytes≤140737488355328) (hz:xs++ys=zs)
    (h:∀ A' c' w' a',Sl N ((d,.slice A' (n+n2) c')::m) a'→w'.ownsRow base e k (.slice A' (n+n2) c') (n+n2) zs→w.grownBy w' (Value.slice B n c0).ownBlock→n+n2≤c'→c'≤9223372036854775807 →
      (∀ g,g<w.heap.size→some g≠(Value.slice B n c0).ownBlock→some g≠(Value.slice A' (n+n2) c').ownBlock)→K a' w'):wpOp P ops Q i K a w:=by
  subst hz
  refine op_app E ho hw hop hs hx hown hr hbase h63 hbytes fun v' w' h1 h2 h5=>?_
  obtain ⟨A',c',rfl,h3,h4⟩:=own_any h1
  refine h A' c' w' _ (by rw [hd];exact hF.put hN) h1 h2 h3 h4 fun g hg hne=>?_
  rcases h5 with h5 | h5
  · rw [h5];exact hne
  · rw [h5];exact fun e=>by injection e with e;omega
end
theorem ne_slice {c:Nat} (h:g≠b):some g≠(Value.slice (some ⟨b,0,none⟩) n c).ownBlock:=fun e=>h (by injection e)
section
variable {P:Program} {ρ:Operand→Value} {W:World} {d:Option Tmp} {t xt yt:TypeId} {p:String} {af:Array Edge} {g:Option (Nat × Bool)} {x y:Operand} {a b a' b' r:Bool}
theorem rn_eqB (hu:P.underlying xt=some .bool) (hx:ρ x=.bool a) (hy:ρ y=.bool b) (ha:a=a') (hb:b=b') (hr:(a'==b')=r):(execOp ρ ⟨d,.binOp .eql xt x y yt,t,p,af,g⟩).run P W=.ok (.value (.bool r)) W:=by
  subst ha hb hr
  exact rn_bin hx hy guard_bool (by simp [binOp,run_equal_bool W xt a b hu])
theorem rn_neB (hu:P.underlying xt=some .bool) (hx:ρ x=.bool a) (hy:ρ y=.bool b) (ha:a=a') (hb:b=b') (hr:(a' != b')=r):(execOp ρ ⟨d,.binOp .neq xt x y yt,t,p,af,g⟩).run P W=.ok (.value (.bool r)) W:=by
  subst ha hb hr
  exact rn_bin hx hy guard_bool (by simp [binOp,run_equal_bool W xt a b hu];cases a <;> cases b <;> rfl)
end
section
variable {P:Program} {ops:Array Oper} {Q:Exit→Act→World→Prop} {S S2:World→Prop} {F:Nat→Bool}
end
theorem own_grownB {b:Nat} (h:w.ownsRow base e k v n xs) (hg:w.grownBy w' (some b)) (hne:some b≠v.ownBlock):w'.ownsRow base e k v n xs :=
  h.kept hg (by
    cases hv:v.ownBlock with
    | none=>exact .inl rfl
    | some g=>exact .inr fun e1=>hne (by rw [hv];exact e1.symm))
def RI1 (S:Nat→Prop) (w:World) (cs:List Value) (l:List Int):Prop:=∃ v,cs=[v]∧Fl S w 1 v l.length (intVals l)
theorem RI1.ext {l:List Int} (h:RI1 S w cs l) (he:Ext w w'):RI1 S w' cs l:=by
  obtain ⟨v,hv,h⟩:=h;exact ⟨v,hv,h.ext he⟩
def RIss (S:Nat→Prop) (w:World) (v:Value) (l:List (List Int)):Prop:=RSl S 1 (RI1 S) w v l
theorem RIss.ext {l:List (List Int)} (h:RIss S w v l) (he:Ext w w'):RIss S w' v l:=RSl.ext h he fun _ _ h=>h.ext he
theorem RIss.pres {l:List (List Int)} (h:RIss S w v l) (hp:Pres S w w'):RIss S w' v l:=RSl.keep h hp.1 hp.2 fun _ _ ⟨v,hv,h⟩=>⟨v,hv,h.pres hp⟩
theorem RIss.subB {l:List (List Int)} (h:RIss S w v l) (hs:∀ b,b<w.heap.size→S b→S' b):RIss S' w v l:=RSl.subB h hs fun _ _ ⟨v,hv,h⟩=>⟨v,hv,h.subB hs⟩
theorem RIss.clip {l:List (List Int)} (h:RIss S w v l):RIss (Clip S w) w v l:=h.subB fun _ hb hs=>⟨hs,hb⟩
theorem RIss.nil (w:World):RIss S w (.slice none 0 0) []:=RSl.nil w
theorem RIss.form {l:List (List Int)} (h:RIss S w v l):∃ A cap,v=.slice A l.length cap∧l.length≤cap∧cap≤9223372036854775807:=RSl.form h
theorem RIss.get {l:List (List Int)} (h:RIss S w (.slice A n cap) l) {i:Nat} (hi:i<n) :
    ∃ b off A' c,A=some ⟨b,off,none⟩∧b<w.heap.size∧w.cell? ⟨b,off+i,none⟩=some (.slice A' (l.getD i []).length c)∧Fl S w 1 (.slice A' (l.getD i []).length c) (l.getD i []).length (intVals (l.getD i []))∧(l.getD i []).length≤c∧c≤9223372036854775807:=by
  obtain ⟨hn,hc,h3⟩:=RSl.elem h
  obtain ⟨b,off,ha,hb,hx⟩:=h3 (by omega)
  obtain ⟨cs,hk,hcs,v,rfl,hv⟩:=hx i (by omega)
  have e:l.getD i []=l[i]'(by omega):=by rw [List.getD_eq_getElem?_getD,List.getElem?_eq_getElem (by omega),Option.getD_some]
  rw [← e] at hv
  obtain ⟨A',c,rfl,h5,h6⟩:=hv.form
  refine ⟨b,off,A',c,ha,hb,?_,hv,h5,h6⟩
  have:=hcs 0 _ rfl
  rw [Nat.mul_one,Nat.add_zero] at this
  exact this
theorem RIss.of_fl {vs:List Value} {l:List (List Int)} (h:Fl S w 1 v n vs) (hn:l.length=n) (hr:∀ i,i<n→∃ u,vs[i]?=some u∧Fl S w 1 u (l.getD i []).length (intVals (l.getD i []))):RIss S w v l:=by
  subst hn
  obtain ⟨A,cap,rfl,hc,hl,hs⟩:=h
  refine ⟨A,cap,vs,rfl,hc,hl,fun i hi=>?_,hs⟩
  have hv:i<vs.length:=by rw [hl.1];omega
  rw [chunk_one hv]
  obtain ⟨u,h1,h2⟩:=hr i hi
  rw [List.getElem?_eq_getElem hv] at h1
  injection h1 with h1
  have e:l.getD i []=l[i]:=by rw [List.getD_eq_getElem?_getD,List.getElem?_eq_getElem hi,Option.getD_some]
  rw [e] at h2
  exact ⟨vs[i],rfl,h1 ▸ h2⟩
theorem RIss.own {vs:List Value} {l:List (List Int)} (h:w.ownsRow base e 1 v n vs) (hS:∀ b,base≤b→S b) (hn:l.length=n) (h1:∀ u∈vs,u.oneCell'=true) (hr:∀ i,i<n→∃ u,vs[i]?=some u∧Fl S w 1 u (l.getD i []).length (intVals (l.getD i []))):RIss S w v l :=
  RIss.of_fl (Fl.own h hS h1) hn hr
section
variable {P:Program} {ρ:Operand→Value} {W:World} {d:Option Tmp} {t xt yt:TypeId} {p:String} {af:Array Edge} {g:Option (Nat × Bool)} {x y:Operand}
theorem rn_callvc {xs:Array Operand} {first cap:Array Value} (hf:ρ x=.func (.func f) first cap) (ha:(first++xs.map ρ)++cap=vs) (hc:(callFunc f vs).run P W=.ok (.enter f vs) W) :
    (execOp ρ ⟨d,.call { callee:=.value x,args:=xs,argTypes:=ts },t,p,af,g⟩).run P W=.ok (.enter f vs) W:=by
  simp [execOp,resolve,hf,ha,Deferred.ofValue,invoke,hc]
theorem rn_min2 {k:IntKind} {a b:Int} {u:TypeDesc} (_hu:P.underlying s=some u) (hx:ρ x=.int k a) (hy:ρ y=.int k b):(execOp ρ ⟨d,.call { callee:=.builtin .min,args:=#[x,y],argTypes:=#[s,s] },t,p,af,g⟩).run P W=.ok (.value (.int k (min a b))) W:=by
  simp [execOp,resolve,invoke,builtin,hx,hy,Lib.run_min_ints]
theorem rn_max2 {k:IntKind} {a b:Int} {u:TypeDesc} (_hu:P.underlying s=some u) (hx:ρ x=.int k a) (hy:ρ y=.int k b):(execOp ρ ⟨d,.call { callee:=.builtin .max,args:=#[x,y],argTypes:=#[s,s] },t,p,af,g⟩).run P W=.ok (.value (.int k (max a b))) W:=by
  simp [execOp,resolve,invoke,builtin,hx,hy,Lib.run_max_ints]
end
def Two (w w':World) (p q:Nat):Prop:=w'.os=w.os∧w'.tape=w.tape∧w'.output=w.output∧w.heap.size≤w'.heap.size∧∀ b,b<w.heap.size→b≠p→b≠q→w'.heap[b]?=w.heap[b]?
theorem Two.refl (w:World) (p q:Nat):Two w w p q:=⟨rfl,rfl,rfl,Nat.le_refl _,fun _ _ _ _=>rfl⟩
theorem Two.ext {p:Nat} (h:Two w w1 p q) (k:Ext w1 w2):Two w w2 p q :=
  ⟨k.below.os.trans h.1,k.below.tape.trans h.2.1,k.below.output.trans h.2.2.1,Nat.le_trans h.2.2.2.1 k.size,fun b hb h1 h2=>(k.below.block b (Nat.lt_of_lt_of_le hb h.2.2.2.1)).trans (h.2.2.2.2 b hb h1 h2)⟩
theorem Two.grown {p:Nat} (h:Two w w1 p q) (k:w1.grownBy w2 (some n)) (hn:n=p∨n=q∨w.heap.size≤n):Two w w2 p q :=
  ⟨k.os.trans h.1,k.tape.trans h.2.1,k.output.trans h.2.2.1,Nat.le_trans h.2.2.2.1 k.size,fun b hb h1 h2=>(k.block b (Nat.lt_of_lt_of_le hb h.2.2.2.1) (fun e=>by injection e with e;omega)).trans (h.2.2.2.2 b hb h1 h2)⟩
theorem Two.trans {p:Nat} (h:Two w w1 p q) (k:Two w1 w2 p q):Two w w2 p q :=
  ⟨k.1.trans h.1,k.2.1.trans h.2.1,k.2.2.1.trans h.2.2.1,Nat.le_trans h.2.2.2.1 k.2.2.2.1,fun b hb h1 h2=>(k.2.2.2.2 b (Nat.lt_of_lt_of_le hb h.2.2.2.1) h1 h2).trans (h.2.2.2.2 b hb h1 h2)⟩
theorem Two.size {p:Nat} (h:Two w w' p q):w.heap.size≤w'.heap.size:=h.2.2.2.1
theorem Two.blk {p:Nat} {t:TypeId} (h:Two w w' p q) (hb:Blk w n t cs) (h1:n≠p) (h2:n≠q):Blk w' n t cs:=(h.2.2.2.2 n hb.lt h1 h2).trans hb
theorem Two.pres {p:Nat} (h:Two w w' p q) (h1:¬ S p) (h2:¬ S q):Pres S w w':=⟨h.size,fun b hb hl=>h.2.2.2.2 b hl (fun e=>h1 (e ▸ hb)) (fun e=>h2 (e ▸ hb))⟩
theorem Two.split {p:Nat} (h:Two w w' p q) (hq:q<w.heap.size):∃ w1,w.grownBy w1 (some p)∧w1.grownBy w' (some q):=by
  refine ⟨{ w' with heap:=w'.heap.setIfInBounds q w.heap[q] },⟨h.1,h.2.1,h.2.2.1,by simpa using h.size,fun b hb hne=>?_⟩,⟨rfl,rfl,rfl,by simp,fun b _ hne=>?_⟩⟩
  · by_cases hc:b=q
    · subst hc
      have:=h.size
      simp only [Array.getElem?_setIfInBounds_self_of_lt (show b<w'.heap.size by omega)]
      exact (Array.getElem?_eq_getElem hb).symm
    · have hc':q≠b:=fun e=>hc e.symm
      simp only [Array.getElem?_setIfInBounds_ne hc']
      exact h.2.2.2.2 b hb (fun e=>hne (by rw [e])) hc
  · have hc:q≠b:=fun e=>hne (by rw [e])
    simp only [Array.getElem?_setIfInBounds_ne hc]
section
variable {P:Program} {ρ:Operand→Value} {W:World} {d:Option Tmp} {t:TypeId} {p:String} {af:Array Edge} {g:Option (Nat × Bool)}
end
def RepI (u:Int) (m k:Nat) (cur:List Int):Prop:=cur.length=m∧∀ i,i<k→cur.getD i 0=u
theorem RepI.zero (u:Int) (m:Nat):RepI u m 0 (List.replicate m 0):=⟨by simp,fun i hi=>by omega⟩
theorem RepI.step {u:Int} {m:Nat} {ys:List Int} (h:RepI u m k cur) (hk:k+n≤m) (hl:n≤ys.length) (hy:∀ i,i<n→ys.getD i 0=u):RepI u m (k+n) (splice cur k (ys.take n)):=by
  have hn:(ys.take n).length=n:=by rw [List.length_take];omega
  have hk':(cur.take k).length=k:=by rw [List.length_take,h.1];omega
  refine ⟨by rw [splice_len (by rw [hn,h.1];exact hk)];exact h.1,fun i hi=>?_⟩
  unfold splice
  by_cases hc:i<k
  · have:=h.2 i hc
    rw [List.getD_eq_getElem?_getD] at this ⊢
    rw [List.getElem?_append_left (by omega),List.getElem?_take,if_pos hc]
    exact this
  · have:=hy (i - k) (by omega)
    rw [List.getD_eq_getElem?_getD] at this ⊢
    rw [List.getElem?_append_right (by omega),hk',List.getElem?_append_left (by omega),List.getElem?_take,if_pos (by omega)]
    exact this
theorem RepI.one {u:Int} {m:Nat} (h:RepI u m k cur) (hk:k<m):RepI u m (k+1) (cur.set k u):=by
  refine ⟨by rw [List.length_set];exact h.1,fun i hi=>?_⟩
  by_cases hc:i=k
  · subst hc
    rw [List.getD_eq_getElem?_getD,List.getElem?_set_self (by rw [h.1];exact hk)];rfl
  · have:=h.2 i (by omega)
    rw [List.getD_eq_getElem?_getD] at this ⊢
    rw [List.getElem?_set_ne (fun e=>hc e.symm)]
    exact this
theorem RepI.take {u:Int} {m:Nat} (h:RepI u m k cur) (hn:n≤k) (hk:k≤m):n≤((cur.drop 0).take k).length∧∀ i,i<n→((cur.drop 0).take k).getD i 0=u:=by
  refine ⟨by rw [List.length_take,List.length_drop,h.1];omega,fun i hi=>?_⟩
  have:=h.2 i (by omega)
  rw [List.getD_eq_getElem?_getD] at this ⊢
  rw [List.getElem?_take,if_pos (by omega),List.getElem?_drop,Nat.zero_add]
  exact this
theorem RepI.all {u:Int} {m:Nat} (h:RepI u m m cur):cur=List.replicate m u:=by
  apply List.ext_getElem (by rw [h.1,List.length_replicate])
  intro i h1 h2
  have:=h.2 i (by rw [← h.1];exact h1)
  rw [List.getD_eq_getElem?_getD,List.getElem?_eq_getElem h1,Option.getD_some] at this
  rw [this,List.getElem_replicate]
theorem own_blkN {g:Nat} {t:TypeId} (h:Blk w g t cs) (hl:cs.length=n*k) (hn:n≤9223372036854775807):w.ownsRow g t k (.slice (some ⟨g,0,none⟩) n n) n cs :=
  ⟨hl,.inr ⟨g,n,cs.toArray,rfl,Nat.le_refl _,h,Nat.le_refl _,by unfold maxLen;omega,by simp [hl],by simpa using List.take_of_length_le (by omega)⟩⟩
section
variable {P:Program} {ops:Array Oper} {Q:Exit→Act→World→Prop} {S:World→Prop} {F:Nat→Bool}
theorem wpAnyF_firstT {i:Nat} {v:Value} (Wt:Nat→Bool) (hi:ops[i]?=some oi) (hsel:∀ (j:Nat) (o:Oper) cs b,ops[j]?=some o→o.op≠.select cs b)
    (hQ:∀ c a w,Q (.panic c) (a.put oi.dst v) w→Q (.panic c) a w)
    (hF:∀ j,F j=true→Wt j=true) (hW:∀ j,Wt j=true→j≠i) (hwait:∀ j oj,ops[j]?=some oj→Wt j=true→∃ e∈oj.after,Region.binds .any e=true∧(e.on=i∨Wt e.on=true)) (hFi:F i=false) :
    ∀ (fuel:Nat) (listed:Array Bool) (a:Act) (w:World),
      (∀ j oj,ops[j]?=some oj→j≠i→listed.getD j true=false→(∀ e∈oj.after,Region.binds .any e=true→e.on≠i)→oi.apart ops oj=true) →
      (∀ j,Wt j=true→listed.getD j true=false) →
      i∈Region.ready .any ops listed→YieldsIf P ops S oi v a→S w →
      wpAnyF P ops Q S F fuel (listed.setIfInBounds i true) (a.put oi.dst v) w→wpAnyF P ops Q S F (fuel+1) listed a w:=by
  intro fuel
  induction fuel with
  | zero =>
    intro listed a w _ _ hr hy hS H
    refine ⟨fun h=>(by rw [h] at hr;cases hr),fun j hj=>?_⟩
    by_cases hji:j=i
    · subst hji;exact hy.wpOp hi hS ⟨fun _ h=>h,H⟩
    · have:=ready_mono hj hji
      rw [H.1] at this
      cases this
  | succ fuel ih =>
    intro listed a w hfree hun0 hr hy hS H
    refine ⟨fun h=>(by rw [h] at hr;cases hr),fun j hj=>?_⟩
    by_cases hji:j=i
    · subst hji;exact hy.wpOp hi hS ⟨fun _ h=>h,H⟩
    · have h1:=H.2 j (ready_mono hj hji)
      obtain ⟨hjun,oj,hoj,hall⟩:=mem_ready.1 hj
      have hno:∀ k,listed.getD k true=false→∀ e∈oj.after,Region.binds .any e=true→e.on≠k:=fun k h0 e he hb heq=>by
        have h1:=hall e he hb
        rw [heq] at h1
        rcases Nat.lt_or_ge k listed.size with h' | h'
        · simp [h'] at h0 h1;rw [h0] at h1;cases h1
        · simp [Array.getElem?_eq_none h'] at h1
      have hnot:=hno i (mem_ready.1 hr).1
      have hWj:Wt j=false:=by
        cases hF:Wt j with
        | false=>rfl
        | true =>
          obtain ⟨e,he,hb,heq⟩:=hwait j oj hoj hF
          rcases heq with heq | heq
          · exact absurd heq (hnot e he hb)
          · exact absurd rfl (hno e.on (hun0 _ heq) e he hb)
      have hFj:F j=false:=by
        cases h:F j with
        | false=>rfl
        | true=>rw [hF j h] at hWj;cases hWj
      have h2:=wpOp_putIf hoj (hfree j oj hoj hji hjun hnot) (fun cs b=>hsel i oi cs b hi) (fun cs b=>hsel j oj cs b hoj) hQ hy h1
      have hfree':∀ k ok,ops[k]?=some ok→k≠i→(listed.setIfInBounds j true).getD k true=false →
          (∀ e∈ok.after,Region.binds .any e=true→e.on≠i)→oi.apart ops ok=true:=fun k ok hk hki hun hno=>by
        refine hfree k ok hk hki ?_ hno
        by_cases hjk:j=k
        · subst hjk;exact hjun
        · rw [getD_set_ne true hjk] at hun;exact hun
      refine wpOp_mono (fun a' w' h3=>⟨h3.2.1,ih (listed.setIfInBounds j true) a' w' hfree' (fun k hk=>by rw [getD_set_ne true (fun e=>by rw [e] at hWj;rw [hWj] at hk;cases hk)];exact hun0 k hk) (ready_mono hr (Ne.symm hji)) h3.1 (h3.2.1 hFj hS) ?_⟩) h2
      rw [Array.setIfInBounds_comm _ _ hji]
      exact h3.2.2
def lightT (ops:Array Oper) (F:Nat→Bool) (Wt:List Nat) (L:Array Bool) (i:Nat):Bool :=
  !F i&&Region.free .any ops L i&&(Region.ready .any ops L).contains i&&(List.range ops.size).all (fun j=>!F j||Wt.contains j) &&
    Wt.all fun j=>j != i&&!L.getD j true&&((ops[j]?).map fun o=>o.after.any fun e=>Region.binds .any e&&(e.on==i||Wt.contains e.on)).getD true
theorem any_lightT {i:Nat} {a:Act} {w:World} {o:Oper} {v:Value} (Wt:List Nat) (hFo:∀ j,F j=true→j<ops.size) (hs:Region.noSelect ops=true) (hb:lightT ops F Wt L i=true) (hL:L.setIfInBounds i true=L') (ho:ops[i]?=some o) (hQ:∀ c a w,Q (.panic c) (a.put o.dst v) w→Q (.panic c) a w) (hw:Region.wanted o (yielded ops a.tmps)=true) (hS:S w)
    (hr:∀ W,S W→(execOp a.eval o).run P W=.ok (.value v) W) (h:wpAnyF P ops Q S F n L' (a.put o.dst v) w):wpAnyF P ops Q S F (n+1) L a w:=by
  subst hL
  simp only [lightT,Bool.and_eq_true,Bool.not_eq_true',List.all_eq_true,List.mem_range,Bool.or_eq_true] at hb
  obtain ⟨⟨⟨⟨h2,h3⟩,h4⟩,h5⟩,h6⟩:=hb
  have mem:∀ {j},Wt.contains j=true→j∈Wt:=fun h=>by simpa using h
  refine wpAnyF_firstT (fun j=>Wt.contains j) ho (Region.noSelect_spec hs) hQ (fun j hj=>?_) (fun j hj=>?_) (fun j oj hj hw=>?_) h2 n L a w (Region.free_spec ho h3) (fun j hj=>?_) (by simpa using h4) (.inl ⟨hw,hr⟩) hS h
  · rcases h5 j (hFo j hj) with h | h
    · rw [hj] at h;cases h
    · exact h
  · have:=(h6 j (mem hj)).1.1;simpa using this
  · have:=(h6 j (mem hw)).2
    rw [hj] at this
    simp only [Option.map_some,Option.getD_some] at this
    obtain ⟨e,he,h7⟩:=Array.any_eq_true'.1 this
    simp only [Bool.and_eq_true,Bool.or_eq_true,beq_iff_eq] at h7
    exact ⟨e,he,h7.1,h7.2⟩
  · exact (h6 j (mem hj)).1.2
variable {N:Nat} {m:List (Nat × Value)} {a:Act} {w:World} {i d:Nat} {o:Oper} {v:Value}
theorem anyt_val (Wt:List Nat) (hF:Sl N m a) (hFo:∀ j,F j=true→j<ops.size) (hs:Region.noSelect ops=true) (hb:lightT ops F Wt L i=true) (hL:L.setIfInBounds i true=L') (ho:ops[i]?=some o) (hd:o.dst=some d) (hN:Nat.blt d N=true)
    (hQ:∀ c a w v,Q (.panic c) (a.put (some d) v) w→Q (.panic c) a w) (hw:Region.wanted o (yielded ops a.tmps)=true) (hS:S w)
    (hr:∀ W,S W→(execOp a.eval o).run P W=.ok (.value v) W) (h:∀ a',Sl N ((d,v)::m) a'→wpAnyF P ops Q S F n L' a' w):wpAnyF P ops Q S F (n+1) L a w :=
  any_lightT Wt hFo hs hb hL ho (by rw [hd];exact fun c a w=>hQ c a w _) hw hS hr (h _ (by rw [hd];exact hF.put hN))
end
section
variable {P:Program} {ρ:Operand→Value} {W:World} {d:Option Tmp} {t xt yt:TypeId} {p:String} {af:Array Edge} {g:Option (Nat × Bool)} {x y:Operand}
theorem rn_shrN {k:IntKind} {a m:Nat} (hx:ρ x=.int .i64 (a:Nat)) (hy:ρ y=.int k (n:Nat)) (h:n<64) (hm:a / 2 ^ n=m):(execOp ρ ⟨d,.binOp .shr xt x y yt,t,p,af,g⟩).run P W=.ok (.value (.int .i64 (m:Nat))) W:=by
  subst hm
  refine rn_bin hx hy guard_int ?_
  have hn:min n IntKind.i64.bits=n:=Nat.min_eq_left (by show n≤64;omega)
  have h0:¬ ((n:Int)<0):=by omega
  show Sem.run P (Op.shift .shr .i64 ((a:Nat):Int) k (n:Nat)) W=_
  unfold Op.shift
  rw [if_neg h0]
  show Sem.run P (pure (Value.int .i64 (Int.fdiv ((a:Nat):Int) (2 ^ (min ((n:Int)).toNat IntKind.i64.bits))))) W=_
  rw [Int.toNat_natCast,hn,Sem.run_pure]
  congr 2
  rw [Int.fdiv_eq_ediv_of_nonneg _ (by exact Int.pow_nonneg (by omega))]
  rw [Int.natCast_ediv,Int.natCast_pow]
  rfl
theorem b_shr8 (a:UInt8) (k:IntKind) (n:Nat) (h:n<8):(binOp .shr t (.int .u8 (a.toNat:Nat)) (.int k (n:Nat))).run P W=.ok (.int .u8 ((a >>> UInt8.ofNat n).toNat:Nat)) W:=by
  have hn:min n IntKind.u8.bits=n:=Nat.min_eq_left (by show n≤8;omega)
  have h0:¬ ((n:Int)<0):=by omega
  show Sem.run P (Op.shift .shr .u8 ((a.toNat:Nat):Int) k (n:Nat)) W=_
  unfold Op.shift
  rw [if_neg h0]
  show Sem.run P (pure (Value.int .u8 (Int.fdiv ((a.toNat:Nat):Int) (2 ^ (min ((n:Int)).toNat IntKind.u8.bits))))) W=_
  rw [Int.toNat_natCast,hn,Sem.run_pure]
  congr 2
  rw [UInt8.toNat_shiftRight,UInt8.toNat_ofNat_of_lt' (by show n<256;omega),Nat.mod_eq_of_lt h,Nat.shiftRight_eq_div_pow,Int.fdiv_eq_ediv_of_nonneg _ (by exact Int.pow_nonneg (by omega))]
  rw [Int.natCast_ediv,Int.natCast_pow]
  rfl
theorem rn_shr8 {a:UInt8} {k:IntKind} (hx:ρ x=.int .u8 (a.toNat:Nat)) (hy:ρ y=.int k (n:Nat)) (h:n<8):(execOp ρ ⟨d,.binOp .shr xt x y yt,t,p,af,g⟩).run P W=.ok (.value (.int .u8 ((a >>> UInt8.ofNat n).toNat:Nat))) W:=rn_bin hx hy guard_int (b_shr8 a k n h)
theorem ofInt8 (a:UInt8):BitVec.ofInt IntKind.u8.bits ((a.toNat:Nat):Int)=a.toBitVec:=by
  apply BitVec.eq_of_toNat_eq
  rw [BitVec.toNat_ofInt]
  show (((a.toNat:Nat):Int) % 256).toNat=a.toNat
  have:=UInt8.toNat_lt a
  omega
theorem wrap8n (n:Nat) (h:n<256):IntKind.u8.wrap (n:Int)=n:=by rw [wrap8m];omega
theorem b_and8 (a b:UInt8):(binOp .and t (.int .u8 (a.toNat:Nat)) (.int .u8 (b.toNat:Nat))).run P W=.ok (.int .u8 ((a &&& b).toNat:Nat)) W:=by
  show Sem.run P (pure (Value.int .u8 (IntKind.u8.wrap ((BitVec.ofInt IntKind.u8.bits ((a.toNat:Nat):Int) &&& BitVec.ofInt IntKind.u8.bits ((b.toNat:Nat):Int)).toNat:Nat)))) W=_
  rw [ofInt8,ofInt8,Sem.run_pure,wrap8n _ (BitVec.isLt _)]
  rfl
theorem rn_and8 {a b:UInt8} (hx:ρ x=.int .u8 (a.toNat:Nat)) (hy:ρ y=.int .u8 (b.toNat:Nat)):(execOp ρ ⟨d,.binOp .and xt x y yt,t,p,af,g⟩).run P W=.ok (.value (.int .u8 ((a &&& b).toNat:Nat))) W:=rn_bin hx hy guard_int (b_and8 a b)
theorem rn_makeC (E:El P s e z 1 bytes) (hz:z.cells=#[z]) {kx ky:IntKind} {c:Nat} {cs:List Value} (hx:ρ x=.int kx 0) (hy:ρ y=.int ky c) (h:c*bytes≤140737488355328) (h2:c≤9223372036854775807) (hc:List.replicate c z=cs) :
    (execOp ρ ⟨d,.makeSlice s x y,t,p,af,g⟩).run P W=.ok (.value (.slice (some ⟨W.heap.size,0,none⟩) 0 c)) (W.alloc (.cells cs.toArray e)):=by
  obtain ⟨ii,hi,hz0,hz1,hz2⟩:=info_parts E.hi
  have hb:(ii.bytes:Int)*(c:Int)≤281474976710656:=by
    rw [← Int.natCast_mul,hz2,Nat.mul_comm];omega
  have hr:=run_make (P:=P) W s e ii z E.ht hi hz0 kx ky 0 c (by omega) (by omega) hb (by omega)
  refine rn_make hx hy (hr.trans ?_)
  rw [Int.toNat_natCast,hz1,hz,made_one,hc]
  rfl
theorem argsw_2 {x0 x1:Operand} {v0:Value} {first cap:Array Value} {arg:Value→Value→Array Value} (harg:∀ u v,(first++#[u,v])++cap=arg u v) (h0:ρ x0=v0) (h1:ρ x1=v1):(first++#[x0,x1].map ρ)++cap=arg v0 v1:=by rw [← harg];simp [h0,h1]
end
theorem own_room {g c:Nat} (h:Blk w g e cs) (hl:cs.length=c) (hc:c≤9223372036854775807):w.ownsRow g e 1 (.slice (some ⟨g,0,none⟩) 0 c) 0 [] :=
  ⟨by simp,.inr ⟨g,c,cs.toArray,rfl,Nat.le_refl _,h,Nat.zero_le _,by unfold maxLen;omega,by simp [hl],by simp⟩⟩
theorem Apart.app {u':Value} (h:w.ownsRow base e k v n xs) (ha:Apart v u) (hn:∀ g,g<w.heap.size→some g≠u.ownBlock→some g≠u'.ownBlock):Apart v u':=fun g hg hu=>by
  obtain ⟨cur,hc⟩:=own_heap h hg
  exact hn g (Array.getElem?_eq_some_iff.1 hc).1 (fun e1=>ha g hg e1.symm) hu.symm
theorem Apart.types {e':TypeId} {k' n':Nat} (h:w.ownsRow base e k v n xs) (h':w.ownsRow base' e' k' u n' ys) (hne:e≠e'):Apart v u:=fun g hg hu=>by
  obtain ⟨c1,h1⟩:=own_heap h hg
  obtain ⟨c2,h2⟩:=own_heap h' hu
  rw [h1] at h2
  injection h2 with h2
  injection h2 with _ h2
  exact hne h2
theorem Apart.below (h:w.ownsRow base e k u n xs) (hv:∀ g,v.ownBlock=some g→g<base):Apart v u:=fun g hg hu=>by
  have:=(h.lt g hu).1
  have:=hv g hg
  omega
section
variable {P:Program} {ρ:Operand→Value} {W:World} {d:Option Tmp} {t xt yt:TypeId} {p:String} {af:Array Edge} {g:Option (Nat × Bool)} {x y z:Operand} {v:Value}
theorem cvn_64 (n:Nat) (h:n<18446744073709551616):IntKind.u64.wrap (n:Int)=((n:Nat):Int):=wrap64 n h
theorem rn_shrU {k:IntKind} {a:Nat} (hx:ρ x=.int .u64 (a:Nat)) (hy:ρ y=.int k (n:Nat)) (h:n<64):(execOp ρ ⟨d,.binOp .shr xt x y yt,t,p,af,g⟩).run P W=.ok (.value (.int .u64 ((a / 2 ^ n:Nat):Int))) W:=by
  refine rn_bin hx hy guard_int ?_
  have hn:min n IntKind.u64.bits=n:=Nat.min_eq_left (by show n≤64;omega)
  have h0:¬ ((n:Int)<0):=by omega
  show Sem.run P (Op.shift .shr .u64 ((a:Nat):Int) k (n:Nat)) W=_
  unfold Op.shift
  rw [if_neg h0]
  show Sem.run P (pure (Value.int .u64 (Int.fdiv ((a:Nat):Int) (2 ^ (min ((n:Int)).toNat IntKind.u64.bits))))) W=_
  rw [Int.toNat_natCast,hn,Sem.run_pure]
  congr 2
  rw [Int.fdiv_eq_ediv_of_nonneg _ (by exact Int.pow_nonneg (by omega))]
  rw [Int.natCast_ediv,Int.natCast_pow]
  rfl
theorem addW_ok {k:IntKind} (hx:ρ x=.int .i64 n1) (hy:ρ y=.int .i64 n2):(execOp ρ ⟨d,.binOp .add xt x y yt,t,p,af,g⟩).run P W=.ok (.value (.int .i64 (IntKind.i64.wrap (n1+n2)))) W :=
  rn_bin hx hy guard_int (by simp only [binOp,Op.intArith,ne_eq,not_true_eq_false,if_false,Sem.run_pure])
end
def cutA (A:Option Addr) (c l sz:Nat):Option Addr:=if c=l then A else A.map (·.add (l*sz))
theorem cutA_eq {c l:Nat} (hA:A=some ⟨b,off,none⟩) (h:c≠l):cutA A c l sz=some ⟨b,off+l*sz,none⟩:=by
 rw [cutA,if_neg h,hA,Option.map_some,addr_add]
section
variable {P:Program} {ρ:Operand→Value} {W:World} {d:Option Tmp} {t:TypeId} {p:String} {af:Array Edge} {g:Option (Nat × Bool)}
theorem rn_cutLo {c l:Nat} {k:IntKind} (hu:P.underlying s=some (.slice e)) (hi:(P.info? e).map (·.size)=some sz) (hx:ρ x=.slice A n c) (hy:ρ y=.int k (l:Int)) (h1:l≤n) :
  (execOp ρ ⟨d,.slice s x (some y) none none,t,p,af,g⟩).run P W=.ok (.value (.slice (cutA A c l sz) (n - l) (c - l))) W:=by
 have hb:(Instr.sliceBound (.int k (l:Int)) n .sliceB).run P W=.ok l W:=by rw [bound_ok (by omega) (by omega)];simp
 simp [execOp,Instr.sliceAt,Instr.slice,Instr.sliceBounds,run_underlying hu,hx,hy,hb,size_of hi,cutA]
end
end Go.Proofs.YtihgmaoghbnnaaaGreatDoor
