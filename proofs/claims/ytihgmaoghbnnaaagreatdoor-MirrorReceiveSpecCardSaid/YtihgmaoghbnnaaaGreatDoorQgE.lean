/- Several texts in one: MrC, Open42, OpenZ, Glob3, NrA, MrD, MrE, MrF, MrG, MrH, MrI. -/
import Derived.Test.YtihgmaoghbnnaaaGreatDoorQgA
import Derived.Test.YtihgmaoghbnnaaaGreatDoorQgB
import Derived.Test.YtihgmaoghbnnaaaGreatDoorQgD
import Derived.Test.YtihgmaoghbnnaaaGreatDoorRows
import Derived.LaidMore
import Derived.MakeChecks
import Derived.LaidLaws
import Derived.LaidHandle
import Derived.KernelRfl
import Derived.Test.YtihgmaoghbnnaaaGreatDoorProg
import Derived.WalkSpells
import Derived.Handy
set_option linter.unusedVariables false
set_option linter.unusedSimpArgs false
set_option maxRecDepth 100000
set_option maxHeartbeats 1000000
namespace Go.Proofs.YtihgmaoghbnnaaaGreatDoor
open Go.RowKit
variable {R:Ending→World→Prop} {f:Fo} {fn:Func} {x y z:It} {l:List Cg} {a:List It} {p:List MemPlace} {bb s st:List UInt8} {B cs cs':List Value} {N b0 base c g i j k n o q:Nat} {S S' S1 S2:Nat→Prop} {x0:Operand} {A:Option Addr} {α:Type} {td:TypeDesc} {e tt ty:TypeId} {u v v1 v2:Value} {W W' w w':World}
section
abbrev RelT (α:Type):=(Nat→Prop)→World→List Value→α→Prop
structure Rel {α:Type} (R:RelT α):Prop where
  pres:∀ {S:Nat→Prop} {w w':World} {cs:List Value} {x:α},R S w cs x→Pres S w w'→R S w' cs x
  subB:∀ {S S':Nat→Prop} {w:World} {cs:List Value} {x:α},R S w cs x→(∀ b,b<w.heap.size→S b→S' b)→R S' w cs x
variable {R:RelT α} 
theorem Rel.ext (hR:Rel R) {w w':World} {cs:List Value} {x:α} (h:R S w cs x) (he:Ext w w'):R S w' cs x:=hR.pres h (Pres.of_ext he)
theorem Rel.sub (hR:Rel R) {w:World} {cs:List Value} {x:α} (h:R S w cs x) (hs:∀ b,S b→S' b):R S' w cs x:=hR.subB h fun b _=>hs b
def RLs (R:RelT α) (k:Nat) (S:Nat→Prop) (w:World) (v:Value) (l:List α):Prop:=RSl S k (R S) w v l
theorem RLs.pres (hR:Rel R) {w w':World} {v:Value} {l:List α} (h:RLs R k S w v l) (hp:Pres S w w'):RLs R k S w' v l:=RSl.keep h hp.1 hp.2 fun _ _ h=>hR.pres h hp
theorem RLs.ext (hR:Rel R) {w w':World} {v:Value} {l:List α} (h:RLs R k S w v l) (he:Ext w w'):RLs R k S w' v l:=h.pres hR (Pres.of_ext he)
theorem RLs.subB (hR:Rel R) {w:World} {v:Value} {l:List α} (h:RLs R k S w v l) (hs:∀ b,b<w.heap.size→S b→S' b):RLs R k S' w v l:=RSl.subB h hs fun _ _ h=>hR.subB h hs
theorem RLs.sub (hR:Rel R) {w:World} {v:Value} {l:List α} (h:RLs R k S w v l) (hs:∀ b,S b→S' b):RLs R k S' w v l:=h.subB hR fun b _=>hs b
theorem RLs.clip (hR:Rel R) {w:World} {v:Value} {l:List α} (h:RLs R k S w v l):RLs R k (Clip S w) w v l:=h.subB hR fun _ hb hs=>⟨hs,hb⟩
theorem RLs.ux (hR:Rel R) {w w1 w2:World} {v:Value} {l:List α} (h:RLs R k S w v l) (hx:Ext w1 w2) (q:Pres S w w1:=by exact pX):RLs R k S w2 v l:=(h.pres hR q).ext hR hx
theorem RLs.ug (hR:Rel R) {w w1 w2:World} {v:Value} {l:List α} {m:Nat} (h:RLs R k S w v l) (hg:w1.grownBy w2 (some m)) (q:Pres S w w1:=by exact pX) (hn:¬ S m:=by exact fun h=>by first | (simp only [Clip] at h;omega) | exact h.1 rfl | exact h.2 rfl | exact h.2.1 rfl | exact h.2.2 rfl | exact h.2.2.1 rfl | exact h.2.2.2 rfl | omega):RLs R k S w2 v l:=h.pres hR (q.grownN hg hn)
theorem RLs.nil (w:World):RLs R k S w (.slice none 0 0) []:=RSl.nil w
theorem RLs.form {l:List α} (h:RLs R k S w v l):∃ A c,v=.slice A l.length c∧l.length≤c∧c≤9223372036854775807:=RSl.form h
theorem RLs.at {l:List α} (h:RLs R k S w (.slice A n c) l):n=l.length∧n≤c∧c≤9223372036854775807:=by
  obtain ⟨h1,h2,_⟩:=RSl.cel h;exact ⟨h1,h2⟩
theorem RLs.get {l:List α} (h:RLs R k S w (.slice A n c) l) {i:Nat} (hi:i<n) :
    ∃ b off x cs,A=some ⟨b,off,none⟩∧l[i]?=some x∧cs.length=k∧(∀ j u,cs[j]?=some u→w.cell? ⟨b,off+i*k+j,none⟩=some u)∧R S w cs x:=by
  obtain ⟨hn,_,hx⟩:=RSl.elem h
  obtain ⟨b,off,ha,_,hc⟩:=hx (by omega)
  have hi':i<l.length:=by omega
  obtain ⟨cs,h1,h2,h3⟩:=hc i hi'
  exact ⟨b,off,l[i],cs,ha,List.getElem?_eq_getElem hi',h1,h2,h3⟩
theorem RLs.take {l:List α} (h:RLs R k S w (.slice A n c) l) {m:Nat} (hm:m≤n):RLs R k S w (.slice A m c) (l.take m):=by
  have:=h.at
  exact RSl.take h hm (by omega) (by omega)
theorem RLs.dropAt {b off:Nat} {l:List α} (h:RLs R k S w (.slice A n c) l) (hA:A=some ⟨b,off,none⟩) (hj:j≤n):RLs R k S w (.slice (some ⟨b,off+j*k,none⟩) (n - j) (c - j)) (l.drop j):=by
  subst hA
  obtain ⟨hn,hc,xs,⟨h1,h2,h3⟩,hr⟩:=RSl.cel h
  subst hn
  refine ⟨some ⟨b,off+j*k,none⟩,c - j,xs.drop (j*k),by rw [List.length_drop],by rw [List.length_drop];omega,⟨by rw [List.length_drop,List.length_drop,h1,Nat.sub_mul],fun u hu=>h2 u (List.mem_of_mem_drop hu),fun h0=>?_⟩,fun i hi=>?_,fun h0=>?_⟩
  · rw [List.length_drop] at h0
    obtain ⟨b',off',ha,hb,hx⟩:=h3 (by omega)
    cases ha
    refine ⟨b,off+j*k,rfl,hb,fun i u hu=>?_⟩
    rw [List.getElem?_drop] at hu
    rw [Nat.add_assoc]
    exact hx _ u hu
  · rw [List.length_drop] at hi
    have:=hr (j+i) (by omega)
    rw [List.getElem_drop]
    unfold chunk at this ⊢
    rw [List.drop_drop,← Nat.add_mul]
    exact this
  · rw [List.length_drop] at h0
    obtain ⟨b',off',ha,hS⟩:=RSl.inS h (by omega)
    cases ha
    exact ⟨b,_,rfl,hS⟩
theorem RLs.cut {l:List α} (h:RLs R k S w (.slice A n c) l) (hj:j≤n):RLs R k S w (.slice (cutA A c j k) (n - j) (c - j)) (l.drop j):=by
  have h0:=h.at
  by_cases hn:n=j
  · subst hn
    obtain ⟨C,_⟩:=h0
    have e:l.drop n=[]:=List.drop_eq_nil_of_le (by omega)
    rw [e]
    exact ⟨cutA A c n k,c - n,[],by simp,by simp;omega,Cel.none _ _ _,fun i hi=>absurd hi (by simp),fun hi=>absurd hi (by simp)⟩
  · obtain ⟨b,off,ha,_⟩:=RSl.inS h (by omega)
    rw [cutA_eq ha (by omega)]
    exact h.dropAt ha hj
theorem RLs.one {t:TypeId} {x:α} (h:Blk w g t cs) (hk:cs.length=k) (h1:∀ u∈cs,u.oneCell'=true) (hS:S g) (hx:R S w cs x):RLs R k S w (.slice (some ⟨g,0,none⟩) 1 1) [x]:=by
  refine ⟨some ⟨g,0,none⟩,1,cs,rfl,⟨Nat.le_refl _,by omega⟩,⟨by simp [hk],h1,fun _=>⟨g,0,rfl,h.lt,fun j u hu=>?_⟩⟩,fun i hi=>?_,fun _=>⟨g,0,rfl,hS⟩⟩
  · rw [Nat.zero_add,h.rule.1];exact hu
  · simp only [List.length_singleton] at hi
    obtain rfl:i=0:=by omega
    rw [chunk_self hk];exact hx
def OwnL (R:RelT α) (k:Nat) (e:TypeId) (base:Nat) (w:World) (v:Value) (n:Nat) (xs:List Value) (l:List α):Prop :=
  w.ownsRow base e k v n xs∧n=l.length∧(∀ u∈xs,u.oneCell'=true)∧∀ i (h:i<l.length),R (fun b=>base≤b∧some b≠v.ownBlock) w (chunk k xs i) l[i]
theorem OwnL.nil (w:World) (hb:base≤w.heap.size):OwnL R k e base w (.slice none 0 0) 0 [] [] :=
  ⟨own_nil w base e k,rfl,fun u h=>absurd h (by simp),fun i h=>absurd h (by simp)⟩
theorem OwnL.pres (hR:Rel R) {w w':World} {v:Value} {n:Nat} {xs:List Value} {l:List α} (h:OwnL R k e base w v n xs l) (hp:Pres (fun b=>base≤b) w w'):OwnL R k e base w' v n xs l:=by
  obtain ⟨h1,h2,h3,h4⟩:=h
  refine ⟨?_,h2,h3,fun i hi=>hR.pres (h4 i hi) ⟨hp.1,fun b hb=>hp.2 b hb.1⟩⟩
  refine ⟨h1.1,?_⟩
  rcases h1.2 with h5 | ⟨g,cap,cur,hv,hb,hg,h6⟩
  · exact .inl h5
  · exact .inr ⟨g,cap,cur,hv,hb,(hp.2 g hb (Array.getElem?_eq_some_iff.1 hg).1).trans hg,h6⟩
theorem OwnL.ext (hR:Rel R) {w w':World} {v:Value} {n:Nat} {xs:List Value} {l:List α} (h:OwnL R k e base w v n xs l) (he:Ext w w'):OwnL R k e base w' v n xs l:=h.pres hR (Pres.of_ext he)
theorem OwnL.rls (hR:Rel R) {w:World} {v:Value} {n:Nat} {xs:List Value} {l:List α} (h:OwnL R k e base w v n xs l):RLs R k (fun b=>base≤b) w v l:=by
  obtain ⟨h1,h2,h3,h4⟩:=h
  exact RSl.own h1 (fun b hb=>hb) h2 h3 fun i hi=>hR.sub (h4 i hi) fun b hb=>hb.1
theorem OwnL.snoc (hR:Rel R) {w w':World} {v v':Value} {n:Nat} {xs cs:List Value} {l:List α} {x:α} (h:OwnL R k e base w v n xs l) (hr:w'.ownsRow base e k v' (n+1) (xs++cs)) (hg:w.grownBy w' v.ownBlock) (hn:∀ g,g<w.heap.size→some g≠v.ownBlock→some g≠v'.ownBlock)
    (hk:cs.length=k) (h1:∀ u∈cs,u.oneCell'=true) (hx:R S w cs x) (hS:∀ b,b<w.heap.size→S b→base≤b∧some b≠v.ownBlock):OwnL R k e base w' v' (n+1) (xs++cs) (l++[x]):=by
  obtain ⟨q1,q2,q3,q4⟩:=h
  have mv:∀ {cs:List Value} {x:α},R (fun b=>base≤b∧some b≠v.ownBlock) w cs x→R (fun b=>base≤b∧some b≠v'.ownBlock) w' cs x:=fun {cs x} hq =>
    hR.sub (hR.pres (hR.subB (S':=fun b=>(base≤b∧some b≠v'.ownBlock)∧some b≠v.ownBlock) hq fun b hlt hb=>⟨⟨hb.1,hn b hlt hb.2⟩,hb.2⟩) ⟨hg.size,fun b hb hlt=>hg.block b hlt hb.2⟩) fun b hb=>hb.1
  have hxl:xs.length=n*k:=q1.1
  refine ⟨hr,by simp [q2],fun u hu=>?_,fun i hi=>?_⟩
  · rcases List.mem_append.1 hu with hu | hu
    · exact q3 u hu
    · exact h1 u hu
  · by_cases C:i<l.length
    · rw [List.getElem_append_left C,chunk_append_left hxl (by omega)]
      exact mv (q4 i C)
    · simp only [List.length_append,List.length_singleton] at hi
      obtain rfl:i=l.length:=by omega
      have C:chunk k (xs++cs) l.length=cs:=by rw [chunk_append_right hxl (by omega),q2,Nat.sub_self,chunk_self hk]
      rw [C,List.getElem_concat_length rfl]
      exact mv (hR.subB hx hS)
def RIt (S:Nat→Prop) (w:World) (cs:List Value) (x:It):Prop:=∃ A c,cs=[strOf x.name,.slice A x.data.length c]∧Fl S w 1 (.slice A x.data.length c) x.data.length (byteVals x.data)
def RCg (S:Nat→Prop) (w:World) (cs:List Value) (x:Cg):Prop:=∃ A c,cs=[strOf x.name,.slice A x.data.length c,.bool x.gone]∧Fl S w 1 (.slice A x.data.length c) x.data.length (byteVals x.data)
theorem rIt:Rel RIt:=⟨fun ⟨A,c,h1,h2⟩ hp=>⟨A,c,h1,h2.pres hp⟩,fun ⟨A,c,h1,h2⟩ hs=>⟨A,c,h1,h2.subB hs⟩⟩
theorem rCg:Rel RCg:=⟨fun ⟨A,c,h1,h2⟩ hp=>⟨A,c,h1,h2.pres hp⟩,fun ⟨A,c,h1,h2⟩ hs=>⟨A,c,h1,h2.subB hs⟩⟩
abbrev RIts (S:Nat→Prop) (w:World) (v:Value) (l:List It):Prop:=RLs RIt 2 S w v l
abbrev RCgs (S:Nat→Prop) (w:World) (v:Value) (l:List Cg):Prop:=RLs RCg 3 S w v l
abbrev dg (st:List UInt8) (l:List Value):List Value:=byteVals st++l
abbrev ag (l:List Value):Value:=.agg l.toArray
abbrev vcs (no:Int) (st:List UInt8) (c:Value) (i:Int) (o e p:Value):List Value:=.int .i64 no::dg st [c,.int .i64 i,o,e,p]
abbrev fcs (pub:List UInt8) (many no:Int) (c e:Value):List Value:=dg pub [.int .i64 many,.int .i64 no,c,e]
structure RSg (S:Nat→Prop) (w:World) (o e p:Value) (g:Sg):Prop where
  op:Fl S w 32 o g.op.length (digVals g.op)
  cl:Fl S w 32 e g.cl.length (digVals g.cl)
  path:Fl S w 32 p g.path.length (digVals g.path)
  o32:All32 g.op
  c32:All32 g.cl
  p32:All32 g.path
theorem RSg.pres {o e p:Value} {g:Sg} (h:RSg S w o e p g) (hp:Pres S w w'):RSg S w' o e p g:=⟨h.op.pres hp,h.cl.pres hp,h.path.pres hp,h.o32,h.c32,h.p32⟩
theorem RSg.subB {o e p:Value} {g:Sg} (h:RSg S w o e p g) (hs:∀ b,b<w.heap.size→S b→S' b):RSg S' w o e p g:=⟨h.op.subB hs,h.cl.subB hs,h.path.subB hs,h.o32,h.c32,h.p32⟩
structure RVp (S:Nat→Prop) (w:World) (c o e p:Value) (v:Vr):Prop where
  st:v.state.length=32
  chs:RCgs S w c v.chs
  sg:RSg S w o e p v.sg
theorem RVp.pres {c o e p:Value} {v:Vr} (h:RVp S w c o e p v) (hp:Pres S w w'):RVp S w' c o e p v:=⟨h.st,h.chs.pres rCg hp,h.sg.pres hp⟩
theorem RVp.subB {c o e p:Value} {v:Vr} (h:RVp S w c o e p v) (hs:∀ b,b<w.heap.size→S b→S' b):RVp S' w c o e p v:=⟨h.st,h.chs.subB rCg hs,h.sg.subB hs⟩
def RVr (S:Nat→Prop) (w:World) (cs:List Value) (v:Vr):Prop:=∃ c o e p,cs=vcs v.no v.state c v.sg.index o e p∧RVp S w c o e p v
theorem rVr:Rel RVr:=⟨fun ⟨c,o,e,p,h1,h2⟩ hp=>⟨c,o,e,p,h1,h2.pres hp⟩,fun ⟨c,o,e,p,h1,h2⟩ hs=>⟨c,o,e,p,h1,h2.subB hs⟩⟩
abbrev RVrs (S:Nat→Prop) (w:World) (v:Value) (l:List Vr):Prop:=RLs RVr 38 S w v l
structure RFo (S:Nat→Prop) (w:World) (c e:Value) (f:Fo):Prop where
  pub:f.pub.length=32
  items:RIts S w c f.items
  early:RVrs S w e f.early
theorem RFo.pres {c e:Value} (h:RFo S w c e f) (hp:Pres S w w'):RFo S w' c e f:=⟨h.pub,h.items.pres rIt hp,h.early.pres rVr hp⟩
theorem RFo.subB {c e:Value} (h:RFo S w c e f) (hs:∀ b,b<w.heap.size→S b→S' b):RFo S' w c e f:=⟨h.pub,h.items.subB rIt hs,h.early.subB rVr hs⟩
theorem sgNil_at (w:World):RSg S w (.slice none 0 0) (.slice none 0 0) (.slice none 0 0) sgNil:=⟨Fl.nil w,Fl.nil w,Fl.nil w,All32.nil,All32.nil,All32.nil⟩
theorem vrNil_at (w:World):RVp S w (.slice none 0 0) (.slice none 0 0) (.slice none 0 0) (.slice none 0 0) vrNil:=⟨rfl,RLs.nil w,sgNil_at w⟩
theorem foNil_at (w:World):RFo S w (.slice none 0 0) (.slice none 0 0) foNil:=⟨rfl,RLs.nil w,RLs.nil w⟩
end
section
open Go.RowKit Go.ChangeShapes Go.WideShapes Go.ChangeAt Go.Deep Go.Joins
set_option maxRecDepth 100000
section
variable {H:Type} {enc:TypeId × Value→H} {W:World}
theorem open_str1 {c:Value} {y:DataW H × List MemPlace} (h:DataW.trod enc Tryz.prog W 0 (fun _=>true) true n 9 [c]=some y):∃ s:List UInt8,c=strOf s:=by
  obtain ⟨s,hs,_,_⟩:=DataW.trod_string uu9 h
  injection hs with hs
  subst hs
  exact ⟨s.data.toList,by simp [strOf]⟩
theorem oneC_bytes (l:List UInt8):OneC (byteVals l):=byteVals_one l
theorem open_it (n:Nat) (cs':List Value) (y:DataW H × List MemPlace) (h:DataW.trod enc Tryz.prog W 0 (fun _=>true) true n 61 cs'=some y) (hr:Reach Tryz.prog 61 y.1) :
    ∃ x:It,RIt (Old W) W cs' x∧True∧OneC cs':=by
  obtain ⟨xs,m,_,hx,hlen,hl,hg⟩:=DataW.trod_struct uu61 h
  have hC:Tryz.prog.cellsOf 61=2:=by kernel_rfl
  rw [hC] at hlen
  match cs',hlen with
  | [c0,c1],_ =>
    match xs,hl with
    | [y0,y1],_ =>
      have C:DataW.trod enc Tryz.prog W 0 (fun _=>true) true m 9 [c0]=some y0:=hg 0 _ rfl
      have D:DataW.trod enc Tryz.prog W 0 (fun _=>true) true m 22 [c1]=some y1:=hg 1 _ rfl
      obtain ⟨s,rfl⟩:=open_str1 C
      have hy:y.1=DataW.agg [y0.1,y1.1]:=congrArg Prod.fst hx
      rw [hy] at hr
      obtain ⟨A,c,l,rfl,h1,_⟩:=open_bytes1 D (hr.field (j:=1) uu61 rfl rfl)
      refine ⟨⟨s,l⟩,⟨A,c,rfl,h1⟩,trivial,fun u hu=>?_⟩
      simp at hu
      rcases hu with rfl | rfl <;> rfl
theorem open_items {y:DataW H × List MemPlace} (h:DataW.trod enc Tryz.prog W 0 (fun _=>true) true n 26 [v]=some y) (hr:Reach Tryz.prog 26 y.1) :
    ∃ A c l,v=.slice A (List.length (α:=It) l) c∧RLs RIt 2 (Old W) W (.slice A l.length c) l:=by
  obtain ⟨u,l,hu,h1,_,_,_⟩:=open_rsl (k:=2) (R:=RIt (Old W)) (B:=fun _=>True) uu26 (by kernel_rfl) (by omega) h hr open_it
  injection hu with hu
  subst hu
  have h2:RLs RIt 2 (Old W) W v l:=h1
  obtain ⟨A,c,rfl,_,_⟩:=h2.form
  exact ⟨A,c,l,rfl,h2⟩
theorem open_cg (n:Nat) (cs':List Value) (y:DataW H × List MemPlace) (h:DataW.trod enc Tryz.prog W 0 (fun _=>true) true n 66 cs'=some y) (hr:Reach Tryz.prog 66 y.1) :
    ∃ x:Cg,RCg (Old W) W cs' x∧True∧OneC cs':=by
  obtain ⟨xs,m,_,hx,hlen,hl,hg⟩:=DataW.trod_struct uu66 h
  have hC:Tryz.prog.cellsOf 66=3:=by kernel_rfl
  rw [hC] at hlen
  match cs',hlen with
  | [c0,c1,c2],_ =>
    match xs,hl with
    | [y0,y1],_ =>
      have C:DataW.trod enc Tryz.prog W 0 (fun _=>true) true m 61 [c0,c1]=some y0:=by
        have e:Tryz.prog.cellsOf 61=2:=by kernel_rfl
        have q:DataW.trod enc Tryz.prog W 0 (fun _=>true) true m 61 (List.take (Tryz.prog.cellsOf 61) (List.drop 0 [c0,c1,c2]))=some y0:=hg 0 _ rfl
        rw [e] at q
        exact q
      have D:DataW.trod enc Tryz.prog W 0 (fun _=>true) true m 4 [c2]=some y1:=hg 1 _ rfl
      have hy:y.1=DataW.agg [y0.1,y1.1]:=congrArg Prod.fst hx
      rw [hy] at hr
      obtain ⟨x,⟨A,c,he,h1⟩,_,_⟩:=open_it m _ y0 C (hr.field (j:=0) uu66 rfl rfl)
      obtain ⟨b,hb,_⟩:=DataW.trod_bool uu4 D
      injection hb with hb
      simp only [List.cons.injEq,and_true] at he
      obtain ⟨rfl,rfl⟩:=he
      subst hb
      refine ⟨⟨x.name,x.data,b⟩,⟨A,c,rfl,h1⟩,trivial,fun u hu=>?_⟩
      simp at hu
      rcases hu with rfl | rfl | rfl <;> rfl
theorem open_changes {y:DataW H × List MemPlace} (h:DataW.trod enc Tryz.prog W 0 (fun _=>true) true n 27 [v]=some y) (hr:Reach Tryz.prog 27 y.1) :
    ∃ A c l,v=.slice A (List.length (α:=Cg) l) c∧RLs RCg 3 (Old W) W (.slice A l.length c) l:=by
  obtain ⟨u,l,hu,h1,_,_,_⟩:=open_rsl (k:=3) (R:=RCg (Old W)) (B:=fun _=>True) uu27 (by kernel_rfl) (by omega) h hr open_cg
  injection hu with hu
  subst hu
  have h2:RLs RCg 3 (Old W) W v l:=h1
  obtain ⟨A,c,rfl,_,_⟩:=h2.form
  exact ⟨A,c,l,rfl,h2⟩
theorem open_sg1 {y:DataW H × List MemPlace} (h:DataW.trod enc Tryz.prog W 0 (fun _=>true) true n 32 cs'=some y) (hr:Reach Tryz.prog 32 y.1) :
    ∃ (g:Sg) (O:Option Addr) (oc:Nat) (E:Option Addr) (ec:Nat) (P:Option Addr) (pc:Nat),cs'=[.int .i64 g.index,.slice O g.op.length oc,.slice E g.cl.length ec,.slice P g.path.length pc]∧RSg (Old W) W (.slice O g.op.length oc) (.slice E g.cl.length ec) (.slice P g.path.length pc) g:=by
  obtain ⟨xs,m,_,hx,hlen,hl,hg⟩:=DataW.trod_struct uu32 h
  have hC:Tryz.prog.cellsOf 32=4:=by kernel_rfl
  rw [hC] at hlen
  match cs',hlen with
  | [c0,c1,c2,c3],_ =>
    match xs,hl with
    | [y0,y1,y2,y3],_ =>
      have M:DataW.trod enc Tryz.prog W 0 (fun _=>true) true m 3 [c0]=some y0:=hg 0 _ rfl
      have U:DataW.trod enc Tryz.prog W 0 (fun _=>true) true m 30 [c1]=some y1:=hg 1 _ rfl
      have V:DataW.trod enc Tryz.prog W 0 (fun _=>true) true m 30 [c2]=some y2:=hg 2 _ rfl
      have Y:DataW.trod enc Tryz.prog W 0 (fun _=>true) true m 30 [c3]=some y3:=hg 3 _ rfl
      obtain ⟨Z,D,_,_⟩:=DataW.trod_int uu3 M
      injection D with D
      subst D
      have hy:y.1=DataW.agg [y0.1,y1.1,y2.1,y3.1]:=congrArg Prod.fst hx
      rw [hy] at hr
      obtain ⟨O,oc,op,rfl,h1,G⟩:=open_digs U (hr.field (j:=1) uu32 rfl rfl)
      obtain ⟨C,ec,cl,rfl,h2,I⟩:=open_digs V (hr.field (j:=2) uu32 rfl rfl)
      obtain ⟨P,pc,pa,rfl,h3,J⟩:=open_digs Y (hr.field (j:=3) uu32 rfl rfl)
      exact ⟨⟨Z,op,cl,pa⟩,O,oc,C,ec,P,pc,rfl,h1,h2,h3,G,I,J⟩
theorem cs38 {l:List Value} (h:l.length=38):∃ c0 s c1 r,l=c0::(s++c1::r)∧s=(l.drop 1).take 32∧[c0]=(l.drop 0).take 1∧[c1]=(l.drop 33).take 1∧r=(l.drop 34).take 4:=by
  match l,h with
  | a::l,h =>
    have h1:l.length=37:=by simpa using h
    have h2:l=l.take 32++l.drop 32:=(List.take_append_drop 32 l).symm
    have h3:(l.drop 32).length=5:=by rw [List.length_drop,h1]
    match hd:l.drop 32,h3 with
    | [b,r0,r1,r2,r3],_ =>
      refine ⟨a,l.take 32,b,[r0,r1,r2,r3],?_,by simp,by simp,?_,?_⟩
      · exact congrArg (a::·) (h2.trans (congrArg (l.take 32++·) hd))
      · rfl
      · show _=(l.drop 33).take 4
        rw [show l.drop 33=(l.drop 32).drop 1 by rw [List.drop_drop],hd];rfl
theorem open_vr1 {y:DataW H × List MemPlace} (h:DataW.trod enc Tryz.prog W 0 (fun _=>true) true n 34 cs'=some y) (hr:Reach Tryz.prog 34 y.1) :
    ∃ (x:Vr) (C:Option Addr) (cc:Nat) (O:Option Addr) (oc:Nat) (E:Option Addr) (ec:Nat) (P:Option Addr) (pc:Nat),cs'=vcs x.no x.state (.slice C x.chs.length cc) x.sg.index (.slice O x.sg.op.length oc) (.slice E x.sg.cl.length ec) (.slice P x.sg.path.length pc)
      ∧ RVp (Old W) W (.slice C x.chs.length cc) (.slice O x.sg.op.length oc) (.slice E x.sg.cl.length ec) (.slice P x.sg.path.length pc) x:=by
  obtain ⟨xs,m,_,hx,hlen,hl,hg⟩:=DataW.trod_struct uu34 h
  have hC:Tryz.prog.cellsOf 34=38:=by kernel_rfl
  rw [hC] at hlen
  obtain ⟨G,s,I,r,he,hs,h0,h1,D⟩:=cs38 hlen
  match xs,hl with
  | [y0,y1,y2,y3],_ =>
    have J:DataW.trod enc Tryz.prog W 0 (fun _=>true) true m 3 [G]=some y0:=by rw [h0];exact hg 0 _ rfl
    have G:DataW.trod enc Tryz.prog W 0 (fun _=>true) true m 29 s=some y1:=by
      have e:Tryz.prog.cellsOf 29=32:=by kernel_rfl
      have q:DataW.trod enc Tryz.prog W 0 (fun _=>true) true m 29 (List.take (Tryz.prog.cellsOf 29) (List.drop 1 cs'))=some y1:=hg 1 _ rfl
      rw [e] at q
      rw [hs];exact q
    have M:DataW.trod enc Tryz.prog W 0 (fun _=>true) true m 27 [I]=some y2:=by rw [h1];exact hg 2 _ rfl
    have I:DataW.trod enc Tryz.prog W 0 (fun _=>true) true m 32 r=some y3:=by
      have e:Tryz.prog.cellsOf 32=4:=by kernel_rfl
      have q:DataW.trod enc Tryz.prog W 0 (fun _=>true) true m 32 (List.take (Tryz.prog.cellsOf 32) (List.drop 34 cs'))=some y3:=hg 3 _ rfl
      rw [e] at q
      rw [D];exact q
    clear hs h0 h1 D hg
    have hy:y.1=DataW.agg [y0.1,y1.1,y2.1,y3.1]:=congrArg Prod.fst hx
    rw [hy] at hr
    obtain ⟨U,D,_,_⟩:=DataW.trod_int uu3 J
    injection D with D
    obtain ⟨st,hst,hst2⟩:=trod_bytes uu29 uu5 (by kernel_rfl) (by kernel_rfl) G
    obtain ⟨C,cc,ch,hch,h2⟩:=open_changes M (hr.field (j:=2) uu34 rfl rfl)
    obtain ⟨sg,O,oc,E,ec,P,pc,hsg,h3⟩:=open_sg1 I (hr.field (j:=3) uu34 rfl rfl)
    exact ⟨⟨U,st,ch,sg⟩,C,cc,O,oc,E,ec,P,pc,by rw [he,D,hst2,hch,hsg],hst,h2,h3⟩
theorem open_vr (n:Nat) (cs':List Value) (y:DataW H × List MemPlace) (h:DataW.trod enc Tryz.prog W 0 (fun _=>true) true n 34 cs'=some y) (hr:Reach Tryz.prog 34 y.1) :
    ∃ x:Vr,RVr (Old W) W cs' x∧True∧OneC cs':=by
  obtain ⟨x,C,cc,O,oc,E,ec,P,pc,rfl,h1⟩:=open_vr1 h hr
  refine ⟨x,⟨_,_,_,_,rfl,h1⟩,trivial,fun u hu=>?_⟩
  simp only [vcs,dg,List.mem_cons,List.mem_append,List.not_mem_nil,or_false] at hu
  rcases hu with rfl | hu | rfl | rfl | rfl | rfl | rfl
  · rfl
  · exact oneC_bytes _ u hu
  all_goals rfl
theorem open_varg {dd:DataW H} (hv:Value.okWide Tryz.prog W .any b0 34 v) (h:DataW.Trod enc Tryz.prog W 0 (fun _=>true) true 34 v dd p) (hr:Reach Tryz.prog 34 dd) :
    ∃ (x:Vr) (C:Option Addr) (cc:Nat) (O:Option Addr) (oc:Nat) (E:Option Addr) (ec:Nat) (P:Option Addr) (pc:Nat),v=ag (vcs x.no x.state (.slice C x.chs.length cc) x.sg.index (.slice O x.sg.op.length oc) (.slice E x.sg.cl.length ec) (.slice P x.sg.path.length pc))
      ∧ RVp (Old W) W (.slice C x.chs.length cc) (.slice O x.sg.op.length oc) (.slice E x.sg.cl.length ec) (.slice P x.sg.path.length pc) x:=by
  obtain ⟨cs,rfl,_⟩:=okWide_struct uu34 hv
  obtain ⟨fuel,hf⟩:=h
  obtain ⟨x,C,cc,O,oc,E,ec,P,pc,he,h1⟩:=open_vr1 hf hr
  refine ⟨x,C,cc,O,oc,E,ec,P,pc,?_,h1⟩
  have:cs.toList=vcs x.no x.state (.slice C x.chs.length cc) x.sg.index (.slice O x.sg.op.length oc) (.slice E x.sg.cl.length ec) (.slice P x.sg.path.length pc):=he
  unfold ag
  rw [← this]
end
end
section
open Go.RowKit Go.ChangeShapes Go.WideShapes Go.ChangeAt Go.Deep Go.Joins
set_option maxRecDepth 100000
section
variable {H:Type} {enc:TypeId × Value→H} {W:World}
theorem open_versions {y:DataW H × List MemPlace} (h:DataW.trod enc Tryz.prog W 0 (fun _=>true) true n 25 [v]=some y) (hr:Reach Tryz.prog 25 y.1) :
    ∃ A c l,v=.slice A (List.length (α:=Vr) l) c∧RLs RVr 38 (Old W) W (.slice A l.length c) l:=by
  obtain ⟨u,l,hu,h1,_,_,_⟩:=open_rsl (k:=38) (R:=RVr (Old W)) (B:=fun _=>True) uu25 (by kernel_rfl) (by omega) h hr open_vr
  injection hu with hu
  subst hu
  have h2:RLs RVr 38 (Old W) W v l:=h1
  obtain ⟨A,c,rfl,_,_⟩:=h2.form
  exact ⟨A,c,l,rfl,h2⟩
theorem cs36 {l:List Value} (h:l.length=36):∃ s c1 c2 c3 c4,l=s++[c1,c2,c3,c4]∧s=(l.drop 0).take 32∧[c1]=(l.drop 32).take 1∧[c2]=(l.drop 33).take 1∧[c3]=(l.drop 34).take 1∧[c4]=(l.drop 35).take 1:=by
  have h2:l=l.take 32++l.drop 32:=(List.take_append_drop 32 l).symm
  have h3:(l.drop 32).length=4:=by rw [List.length_drop,h]
  match hd:l.drop 32,h3 with
  | [r0,r1,r2,r3],_ =>
    refine ⟨l.take 32,r0,r1,r2,r3,h2.trans (congrArg (l.take 32++·) hd),by simp,rfl,?_,?_,?_⟩
    · rw [show l.drop 33=(l.drop 32).drop 1 by rw [List.drop_drop],hd];rfl
    · rw [show l.drop 34=(l.drop 32).drop 2 by rw [List.drop_drop],hd];rfl
    · rw [show l.drop 35=(l.drop 32).drop 3 by rw [List.drop_drop],hd];rfl
theorem open_fo1 {y:DataW H × List MemPlace} (h:DataW.trod enc Tryz.prog W 0 (fun _=>true) true n 48 cs'=some y) (hr:Reach Tryz.prog 48 y.1) :
    ∃ (f:Fo) (A:Option Addr) (a:Nat) (B:Option Addr) (b:Nat),cs'=fcs f.pub f.many f.no (.slice A f.items.length a) (.slice B f.early.length b)∧RFo (Old W) W (.slice A f.items.length a) (.slice B f.early.length b) f:=by
  obtain ⟨xs,m,_,hx,hlen,hl,hg⟩:=DataW.trod_struct uu48 h
  have hC:Tryz.prog.cellsOf 48=36:=by kernel_rfl
  rw [hC] at hlen
  obtain ⟨s,C,D,G,I,he,hs,h1,h2,h3,h4⟩:=cs36 hlen
  match xs,hl with
  | [y0,y1,y2,y3,y4],_ =>
    have J:DataW.trod enc Tryz.prog W 0 (fun _=>true) true m 29 s=some y0:=by
      have e:Tryz.prog.cellsOf 29=32:=by kernel_rfl
      have q:DataW.trod enc Tryz.prog W 0 (fun _=>true) true m 29 (List.take (Tryz.prog.cellsOf 29) (List.drop 0 cs'))=some y0:=hg 0 _ rfl
      rw [e] at q
      rw [hs];exact q
    have M:DataW.trod enc Tryz.prog W 0 (fun _=>true) true m 3 [C]=some y1:=by rw [h1];exact hg 1 _ rfl
    have O:DataW.trod enc Tryz.prog W 0 (fun _=>true) true m 3 [D]=some y2:=by rw [h2];exact hg 2 _ rfl
    have U:DataW.trod enc Tryz.prog W 0 (fun _=>true) true m 26 [G]=some y3:=by rw [h3];exact hg 3 _ rfl
    have G:DataW.trod enc Tryz.prog W 0 (fun _=>true) true m 25 [I]=some y4:=by rw [h4];exact hg 4 _ rfl
    clear hs h1 h2 h3 h4 hg
    have hy:y.1=DataW.agg [y0.1,y1.1,y2.1,y3.1,y4.1]:=congrArg Prod.fst hx
    rw [hy] at hr
    obtain ⟨st,hst,hst2⟩:=trod_bytes uu29 uu5 (by kernel_rfl) (by kernel_rfl) J
    obtain ⟨I,C,_,_⟩:=DataW.trod_int uu3 M
    injection C with C
    obtain ⟨J,D,_,_⟩:=DataW.trod_int uu3 O
    injection D with D
    obtain ⟨A,a,it,hit,h5⟩:=open_items U (hr.field (j:=3) uu48 rfl rfl)
    obtain ⟨B,b,ea,hea,h6⟩:=open_versions G (hr.field (j:=4) uu48 rfl rfl)
    exact ⟨⟨st,I,J,it,ea⟩,A,a,B,b,by rw [he,C,D,hst2,hit,hea],hst,h5,h6⟩
theorem open_farg {dd:DataW H} (hv:Value.okWide Tryz.prog W .any b0 48 v) (h:DataW.Trod enc Tryz.prog W 0 (fun _=>true) true 48 v dd p) (hr:Reach Tryz.prog 48 dd) :
    ∃ (f:Fo) (A:Option Addr) (a:Nat) (B:Option Addr) (b:Nat),v=ag (fcs f.pub f.many f.no (.slice A f.items.length a) (.slice B f.early.length b))∧RFo (Old W) W (.slice A f.items.length a) (.slice B f.early.length b) f:=by
  obtain ⟨cs,rfl,_⟩:=okWide_struct uu48 hv
  obtain ⟨fuel,hf⟩:=h
  obtain ⟨f,A,a,B,b,he,h1⟩:=open_fo1 hf hr
  refine ⟨f,A,a,B,b,?_,h1⟩
  have:cs.toList=fcs f.pub f.many f.no (.slice A f.items.length a) (.slice B f.early.length b):=he
  unfold ag
  rw [← this]
end
end
section
open Go.RowKit Go.ChangeShapes Go.WideShapes
def laid3 : List (String × DataW Unit) := [("stopwatch/digest.start", Rows.laid_stopwatch_digest_start), ("stopwatch/digest.permutations", Rows.laid_stopwatch_digest_permutations)]
theorem cells_of (h:∀ j,W.cell? ⟨g,j,none⟩=cs[j]?) (hlt:0<cs.length) (h1:∀ u∈cs,u.oneCell'=true):Cel W 1 (some ⟨g,0,none⟩) cs.length cs:=by
  refine ⟨by omega,h1,fun _=>⟨g,0,rfl,?_,fun j u hu=>by rw [Nat.zero_add,h j];exact hu⟩⟩
  have h0:=h 0
  rw [List.getElem?_eq_getElem hlt] at h0
  exact World.block_lt_of_cell? W ⟨g,0,none⟩ h0
theorem glob_of_laid (h:laidMetH Tryz.prog laid3 W):Glob W:=by
  rw [MakeChecks.laidMetH_plain _ _ _ (by kernel_rfl)] at h
  obtain ⟨ps,⟨C,t0,G,f0,p0,q0,J,ht0,U,D,⟨C,t1,I,f1,p1,q1,M,ht1,V,O,_,_⟩,_⟩,_,_⟩:=h
  obtain rfl := Option.some.inj ((show Tryz.prog.globalNamed "stopwatch/digest.start" = some 0 by kernel_rfl).symm.trans J)
  obtain rfl := Option.some.inj ((show Tryz.prog.globalNamed "stopwatch/digest.permutations" = some 1 by kernel_rfl).symm.trans M)
  obtain rfl:=Option.some.inj ((show (Tryz.prog.globals[0]?).map (·.type)=some 144 by kernel_rfl).symm.trans ht0)
  obtain rfl:=Option.some.inj ((show (Tryz.prog.globals[1]?).map (·.type)=some 157 by kernel_rfl).symm.trans ht1)
  have C:G.toList=u32Vals iv:=(trod_nums (k:=.u32) (n:=8) (l:=iv.map fun c=>(c.toNat:Int)) uu144 uu143 (by kernel_rfl) (by kernel_rfl) D).trans rfl
  have D:I.toList=byteVals permB:=(trod_rows (k:=.u8) (n:=10) (m:=16) (l:=perms.map fun r=>r.map fun (c:Nat)=>(c:Int)) uu157 uu156 uu5 (by kernel_rfl) (by kernel_rfl) (by kernel_rfl) O).trans (by kernel_rfl)
  constructor
  · have h0:=cells_of (W:=W) (g:=0) (cs:=G.toList) (fun j=>by rw [World.var?_cell J U j];simp) (by rw [C];decide) (by rw [C];exact u32Vals_one _)
    rw [C] at h0
    exact h0
  · have h1:=cells_of (W:=W) (g:=1) (cs:=I.toList) (fun j=>by rw [World.var?_cell M V j];simp) (by rw [D,byteVals_len permB_len];decide) (by rw [D];exact byteVals_one _)
    rw [D,byteVals_len permB_len] at h1
    exact h1
theorem door_met (os:Os) (args:Array Value):laidMetH Tryz.prog laid3 ((World.doorLaid Tryz.prog 400 os).forCall (fun _ _=>0) ⟨#[],args,[]⟩).memory :=
  laidMetH_of_parts (laidMet_of_run' 8 (by kernel_rfl) (by kernel_rfl)) (by kernel_rfl)
theorem own3:ownKnob Tryz.prog.godebug=none:=by kernel_rfl
end
def asIt (c:Cg):It:=⟨c.name,c.data⟩
def hasB (a:List It) (s:List UInt8):Bool:=a.any fun x=>decide (x.name=s)
def metB (l:List Cg) (s:List UInt8):Bool:=l.any fun c=>decide (c.name=s)
def keepL (a:List It) (l:List Cg):List It:=a.filter fun x=>!metB l x.name
def withN (o:List It) (s:List UInt8):Nat:=(o.takeWhile fun y=>ltS y.name s).length
def withL (o:List It) (x:It):List It:=o.take (withN o x.name)++[x]++o.drop (withN o x.name)
def putL (o:List It) (l:List Cg):List It:=l.foldl (fun o c=>if c.gone then o else withL o (asIt c)) o
def badC (a:List It) (c:Cg):Bool:=(c.gone&&!hasB a c.name)||(!c.gone&&decide (asIt c∈a))
theorem hasB_no (h:∀ z∈a,z.name≠s):hasB a s=false:=by
 rw [hasB,List.any_eq_false]
 intro x hx
 simpa using h x hx
theorem badC_skip {c:Cg} (h:x.name≠c.name):badC (x::a) c=badC a c:=by
 have h1:asIt c≠x:=fun e=>h (by rw [← e];rfl)
 have h2:decide (x.name=c.name)=false:=decide_eq_false h
 have h3:decide (asIt c∈x::a)=decide (asIt c∈a):=decide_eq_decide.2 (by rw [List.mem_cons];exact ⟨fun q=>q.resolve_left h1,.inr⟩)
 rw [badC,badC,h3,hasB,List.any_cons,h2,Bool.false_or];rfl
theorem badC_none {c:Cg} (h:∀ z∈a,z.name≠c.name):badC a c=c.gone:=by
 rw [badC,hasB_no h,decide_eq_false (fun q:asIt c∈a=>h _ q rfl)];simp
theorem app_mem (h:x∈appL a l):x∈a∨∃ c∈l,x=asIt c:=by
 obtain ⟨p,hp,hq⟩:=List.mem_flatMap.1 h
 obtain ⟨h1,h2,-⟩:=mrg_mem a l p hp
 split at hq
 ·rcases p with ⟨_ | y,_ | z⟩ <;> simp only [astep] at hq
  ·exact absurd hq (by simp)
  ·split at hq
   ·exact absurd hq (by simp)
   ·exact .inr ⟨z,h2 z rfl,List.mem_singleton.1 hq⟩
  ·exact .inl (by rw [List.mem_singleton.1 hq];exact h1 y rfl)
  ·split at hq
   ·exact absurd hq (by simp)
   ·exact .inr ⟨z,h2 z rfl,List.mem_singleton.1 hq⟩
 ·exact absurd hq (by simp)
theorem app_above (ha:∀ x∈a,ltS s x.name=true) (hl:∀ c∈l,ltS s c.name=true):∀ x∈appL a l,ltS s x.name=true:=fun x hx=>by
 rcases app_mem hx with h | ⟨c,hc,rfl⟩
 ·exact ha x h
 ·exact hl c hc
theorem one_srt {q:Bool} {c:Cg} {l:List It} (h:∀ x∈l,ltS c.name x.name=true) (hl:Srt (itNames l)):Srt (itNames ((if q=true then [] else [(⟨c.name,c.data⟩:It)])++l)):=by
 cases q
 ·exact it_srt.2 ⟨h,hl⟩
 ·exact hl
theorem app_srt:∀ (n:Nat) (a:List It) (l:List Cg),a.length+l.length≤n→Srt (itNames a)→Srt (cgNames l)→Srt (itNames (appL a l))
 | 0,a,l,hn,_,_=>by
  obtain rfl:a=[]:=List.eq_nil_of_length_eq_zero (by omega)
  obtain rfl:l=[]:=List.eq_nil_of_length_eq_zero (by omega)
  rw [app_cons.1];exact List.Pairwise.nil
 | n+1,a,l,hn,ha,hl=>by
  rw [app_cons.1]
  split
  ·exact List.Pairwise.nil
  ·rename_i x a'
   obtain ⟨h1,h2⟩:=it_srt.1 ha
   exact it_srt.2 ⟨app_above h1 (fun _ h=>absurd h (by simp)),app_srt n a' [] (by simp at hn ⊢;omega) h2 hl⟩
  ·rename_i y l'
   obtain ⟨h1,h2⟩:=cg_srt.1 hl
   exact one_srt (app_above (fun _ h=>absurd h (by simp)) h1) (app_srt n [] l' (by simp at hn ⊢;omega) ha h2)
  ·rename_i x a' y l'
   obtain ⟨h1,h2⟩:=it_srt.1 ha
   obtain ⟨h3,h4⟩:=cg_srt.1 hl
   simp only [List.length_cons] at hn
   split
   ·rename_i h
    refine it_srt.2 ⟨app_above h1 (fun z hz=>?_),app_srt n a' (y::l') (by simp;omega) h2 hl⟩
    rcases List.mem_cons.1 hz with rfl | hz
    ·exact h
    ·exact lt_trans h (h3 z hz)
   ·split
    ·rename_i h
     refine one_srt (app_above (fun z hz=>?_) h3) (app_srt n (x::a') l' (by simp;omega) ha h4)
     rcases List.mem_cons.1 hz with rfl | hz
     ·exact h
     ·exact lt_trans h (h1 z hz)
    ·rename_i k1 k2
     have e:x.name=y.name:=lt_conn (by simpa using k1) (by simpa using k2)
     exact one_srt (app_above (fun z hz=>by rw [← e];exact h1 z hz) h3) (app_srt n a' l' (by omega) h2 h4)
theorem mem_app:∀ (n:Nat) (a:List It) (l:List Cg),a.length+l.length≤n→Srt (itNames a)→Srt (cgNames l)→appOk a l=true→∀ z,z∈appL a l↔(z∈a∧∀ c∈l,c.name≠z.name)∨∃ c∈l,c.gone=false∧z=asIt c
 | 0,a,l,hn,_,_,_,z=>by
  obtain rfl:a=[]:=List.eq_nil_of_length_eq_zero (by omega)
  obtain rfl:l=[]:=List.eq_nil_of_length_eq_zero (by omega)
  rw [app_cons.1];simp
 | n+1,a,l,hn,ha,hl,hk,z=>by
  rw [app_cons.2] at hk
  rw [app_cons.1]
  split
  ·simp
  ·rename_i x a'
   obtain ⟨h1,h2⟩:=it_srt.1 ha
   have ih:=mem_app n a' [] (by simp at hn ⊢;omega) h2 hl hk z
   rw [List.mem_cons,ih];simp
  ·rename_i y l'
   obtain ⟨h1,h2⟩:=cg_srt.1 hl
   simp only [Bool.and_eq_true,Bool.not_eq_true'] at hk
   have ih:=mem_app n [] l' (by simp at hn ⊢;omega) ha h2 hk.2 z
   rw [List.mem_append,ih,hk.1]
   simp [asIt,hk.1]
  ·rename_i x a' y l'
   obtain ⟨h1,h2⟩:=it_srt.1 ha
   obtain ⟨h3,h4⟩:=cg_srt.1 hl
   simp only [List.length_cons] at hn
   replace hk:(if ltS x.name y.name=true then appOk a' (y::l') else if ltS y.name x.name=true then !y.gone&&appOk (x::a') l' else (y.gone||!decide (x.data=y.data))&&appOk a' l')=true:=hk
   split
   ·rename_i h
    rw [if_pos h] at hk
    have ih:=mem_app n a' (y::l') (by simp;omega) h2 hl hk z
    have hx:∀ c∈y::l',c.name≠x.name:=fun c hc e=>by
     rcases List.mem_cons.1 hc with rfl | hc
     ·exact lt_ne h e.symm
     ·exact lt_ne (lt_trans h (h3 c hc)) e.symm
    rw [List.mem_cons,ih]
    constructor
    ·rintro (rfl | ⟨q1,q2⟩ | q)
     ·exact .inl ⟨List.mem_cons_self ..,hx⟩
     ·exact .inl ⟨List.mem_cons_of_mem _ q1,q2⟩
     ·exact .inr q
    ·rintro (⟨q1,q2⟩ | q)
     ·rcases List.mem_cons.1 q1 with rfl | q1
      ·exact .inl rfl
      ·exact .inr (.inl ⟨q1,q2⟩)
     ·exact .inr (.inr q)
   ·rename_i k0
    rw [if_neg k0] at hk
    split
    ·rename_i h
     rw [if_pos h] at hk
     simp only [Bool.and_eq_true,Bool.not_eq_true'] at hk
     have ih:=mem_app n (x::a') l' (by simp;omega) ha h4 hk.2 z
     have hy:∀ w∈x::a',y.name≠w.name:=fun w hw=>by
      rcases List.mem_cons.1 hw with rfl | hw
      ·exact lt_ne h
      ·exact lt_ne (lt_trans h (h1 w hw))
     rw [List.mem_append,ih,hk.1]
     constructor
     ·rintro (q | ⟨q1,q2⟩ | ⟨c,hc,q⟩)
      ·exact .inr ⟨y,List.mem_cons_self ..,hk.1,List.mem_singleton.1 q⟩
      ·refine .inl ⟨q1,fun c hc=>?_⟩
       rcases List.mem_cons.1 hc with rfl | hc
       ·exact hy z q1
       ·exact q2 c hc
      ·exact .inr ⟨c,List.mem_cons_of_mem _ hc,q⟩
     ·rintro (⟨q1,q2⟩ | ⟨c,hc,q⟩)
      ·exact .inr (.inl ⟨q1,fun c hc=>q2 c (List.mem_cons_of_mem _ hc)⟩)
      ·rcases List.mem_cons.1 hc with rfl | hc
       ·exact .inl (List.mem_singleton.2 q.2)
       ·exact .inr (.inr ⟨c,hc,q⟩)
    ·rename_i k1
     rw [if_neg k1] at hk
     simp only [Bool.and_eq_true] at hk
     have e:x.name=y.name:=lt_conn (by simpa using k0) (by simpa using k1)
     have ih:=mem_app n a' l' (by omega) h2 h4 hk.2 z
     have hg:(y.gone||decide (x.data=y.data))=y.gone:=by
      have:=hk.1
      cases hgo:y.gone
      ·rw [hgo] at this;simpa using this
      ·rfl
     rw [List.mem_append,ih,hg]
     constructor
     ·rintro (q | ⟨q1,q2⟩ | ⟨c,hc,q⟩)
      ·cases hgo:y.gone
       ·rw [hgo] at q;exact .inr ⟨y,List.mem_cons_self ..,hgo,List.mem_singleton.1 q⟩
       ·rw [hgo] at q;exact absurd q (by simp)
      ·refine .inl ⟨List.mem_cons_of_mem _ q1,fun c hc=>?_⟩
       rcases List.mem_cons.1 hc with rfl | hc
       ·rw [← e];exact lt_ne (h1 z q1)
       ·exact q2 c hc
      ·exact .inr ⟨c,List.mem_cons_of_mem _ hc,q⟩
     ·rintro (⟨q1,q2⟩ | ⟨c,hc,q⟩)
      ·rcases List.mem_cons.1 q1 with rfl | q1
       ·exact absurd e.symm (q2 y (List.mem_cons_self ..))
       ·exact .inr (.inl ⟨q1,fun c hc=>q2 c (List.mem_cons_of_mem _ hc)⟩)
      ·rcases List.mem_cons.1 hc with rfl | hc
       ·rw [q.1];exact .inl (List.mem_singleton.2 q.2)
       ·exact .inr (.inr ⟨c,hc,q⟩)
theorem ok_app:∀ (n:Nat) (a:List It) (l:List Cg),a.length+l.length≤n→Srt (itNames a)→Srt (cgNames l)→(appOk a l=true↔∀ c∈l,badC a c=false)
 | 0,a,l,hn,_,_=>by
  obtain rfl:a=[]:=List.eq_nil_of_length_eq_zero (by omega)
  obtain rfl:l=[]:=List.eq_nil_of_length_eq_zero (by omega)
  rw [app_cons.2];simp
 | n+1,a,l,hn,ha,hl=>by
  rw [app_cons.2]
  split
  ·simp
  ·rename_i x a'
   rw [ok_app n a' [] (by simp at hn ⊢;omega) (it_srt.1 ha).2 hl];simp
  ·rename_i y l'
   obtain ⟨h1,h2⟩:=cg_srt.1 hl
   rw [Bool.and_eq_true,ok_app n [] l' (by simp at hn ⊢;omega) ha h2,List.forall_mem_cons,badC_none (fun _ h=>absurd h (by simp)),Bool.not_eq_true']
  ·rename_i x a' y l'
   obtain ⟨h1,h2⟩:=it_srt.1 ha
   obtain ⟨h3,h4⟩:=cg_srt.1 hl
   simp only [List.length_cons] at hn
   split
   ·rename_i h
    rw [ok_app n a' (y::l') (by simp;omega) h2 hl]
    have hx:∀ c∈y::l',x.name≠c.name:=fun c hc=>by
     rcases List.mem_cons.1 hc with rfl | hc
     ·exact lt_ne h
     ·exact lt_ne (lt_trans h (h3 c hc))
    exact ⟨fun q c hc=>by rw [badC_skip (hx c hc)];exact q c hc,fun q c hc=>by rw [← badC_skip (hx c hc)];exact q c hc⟩
   ·split
    ·rename_i h
     rw [Bool.and_eq_true,ok_app n (x::a') l' (by simp;omega) ha h4,List.forall_mem_cons,badC_none (fun w hw=>?_),Bool.not_eq_true']
     rcases List.mem_cons.1 hw with rfl | hw
     ·exact fun e=>lt_ne h e.symm
     ·exact fun e=>lt_ne (lt_trans h (h1 w hw)) e.symm
    ·rename_i k0 k1
     have e:x.name=y.name:=lt_conn (by simpa using k0) (by simpa using k1)
     have hy:badC (x::a') y=!(y.gone||!decide (x.data=y.data)):=by
      have h5:hasB (x::a') y.name=true:=by simp [hasB,e]
      have h6:decide (asIt y∈x::a')=decide (x.data=y.data):=decide_eq_decide.2 (by
       rw [List.mem_cons]
       constructor
       ·rintro (q | q)
        ·exact (congrArg It.data q).symm
        ·exact absurd e (lt_ne (h1 _ q))
       ·intro q
        exact .inl (by cases x;cases y;simp_all [asIt]))
      rw [badC,h5,h6];cases y.gone <;> simp
     rw [Bool.and_eq_true,ok_app n a' l' (by omega) h2 h4,List.forall_mem_cons,hy]
     have hx:∀ c∈l',x.name≠c.name:=fun c hc=>by rw [e];exact lt_ne (h3 c hc)
     constructor
     ·rintro ⟨q1,q2⟩
      exact ⟨by rw [q1];rfl,fun c hc=>by rw [badC_skip (hx c hc)];exact q2 c hc⟩
     ·rintro ⟨q1,q2⟩
      exact ⟨by simpa only [Bool.not_eq_false'] using q1,fun c hc=>by rw [← badC_skip (hx c hc)];exact q2 c hc⟩
theorem withL_cons {o:List It}:withL (z::o) x=if ltS z.name x.name=true then z::withL o x else x::z::o:=by
 unfold withL withN
 rw [List.takeWhile_cons]
 split
 ·rfl
 ·rfl
theorem mem_with:∀ o:List It,y∈withL o x↔y=x∨y∈o
 | []=>by simp [withL,withN]
 | z::o=>by
  rw [withL_cons]
  split
  ·rw [List.mem_cons,mem_with o,List.mem_cons]
   exact ⟨fun h=>by rcases h with h | h | h <;> simp [h],fun h=>by rcases h with h | h | h <;> simp [h]⟩
  ·rw [List.mem_cons]
theorem with_srt:∀ o:List It,Srt (itNames o)→(∀ z∈o,z.name≠x.name)→Srt (itNames (withL o x))
 | [],_,_=>by simp [withL,withN,itNames,Srt]
 | z::o,ho,hn=>by
  obtain ⟨h1,h2⟩:=it_srt.1 ho
  rw [withL_cons]
  split
  ·rename_i h
   refine it_srt.2 ⟨fun b hb=>?_,with_srt o h2 fun y hy=>hn y (List.mem_cons_of_mem _ hy)⟩
   rcases (mem_with o).1 hb with rfl | hb
   ·exact h
   ·exact h1 b hb
  ·rename_i h
   have hx:ltS x.name z.name=true:=by
    cases hq:ltS x.name z.name
    ·exact absurd (lt_conn (by simpa using h) hq) (hn z (List.mem_cons_self ..))
    ·rfl
   refine it_srt.2 ⟨fun b hb=>?_,ho⟩
   rcases List.mem_cons.1 hb with rfl | hb
   ·exact hx
   ·exact lt_trans hx (h1 b hb)
theorem put_spec:∀ (l:List Cg) (o:List It),Srt (itNames o)→Srt (cgNames l)→(∀ c∈l,∀ z∈o,z.name≠c.name)→Srt (itNames (putL o l))∧∀ y,y∈putL o l↔y∈o∨∃ c∈l,c.gone=false∧y=asIt c
 | [],o,ho,_,_=>⟨ho,fun y=>by simp [putL]⟩
 | c::l,o,ho,hl,hn=>by
  obtain ⟨h1,h2⟩:=cg_srt.1 hl
  have e:putL o (c::l)=putL (if c.gone=true then o else withL o (asIt c)) l:=rfl
  rw [e]
  cases hg:c.gone
  ·rw [if_neg (by simp)]
   obtain ⟨q1,q2⟩:=put_spec l (withL o (asIt c)) (with_srt o ho (hn c (List.mem_cons_self ..))) h2 fun d hd z hz=>by
    rcases (mem_with o).1 hz with rfl | hz
    ·exact lt_ne (h1 d hd)
    ·exact hn d (List.mem_cons_of_mem _ hd) z hz
   refine ⟨q1,fun y=>?_⟩
   rw [q2,mem_with]
   constructor
   ·rintro ((rfl | h) | ⟨d,hd,h⟩)
    ·exact .inr ⟨c,List.mem_cons_self ..,hg,rfl⟩
    ·exact .inl h
    ·exact .inr ⟨d,List.mem_cons_of_mem _ hd,h⟩
   ·rintro (h | ⟨d,hd,h⟩)
    ·exact .inl (.inr h)
    ·rcases List.mem_cons.1 hd with rfl | hd
     ·exact .inl (.inl h.2)
     ·exact .inr ⟨d,hd,h⟩
  ·rw [if_pos rfl]
   obtain ⟨q1,q2⟩:=put_spec l o ho h2 fun d hd=>hn d (List.mem_cons_of_mem _ hd)
   refine ⟨q1,fun y=>?_⟩
   rw [q2]
   constructor
   ·rintro (h | ⟨d,hd,h⟩)
    ·exact .inl h
    ·exact .inr ⟨d,List.mem_cons_of_mem _ hd,h⟩
   ·rintro (h | ⟨d,hd,h⟩)
    ·exact .inl h
    ·rcases List.mem_cons.1 hd with rfl | hd
     ·rw [hg] at h;cases h.1
     ·exact .inr ⟨d,hd,h⟩
theorem srt_ext:∀ a b:List It,Srt (itNames a)→Srt (itNames b)→(∀ x,x∈a↔x∈b)→a=b
 | [],[],_,_,_=>rfl
 | [],y::b,_,_,h=>absurd ((h y).2 (List.mem_cons_self ..)) (by simp)
 | x::a,[],_,_,h=>absurd ((h x).1 (List.mem_cons_self ..)) (by simp)
 | x::a,y::b,ha,hb,h=>by
  obtain ⟨h1,h2⟩:=it_srt.1 ha
  obtain ⟨h3,h4⟩:=it_srt.1 hb
  have e:x=y:=by
   rcases List.mem_cons.1 ((h x).1 (List.mem_cons_self ..)) with q | q
   ·exact q
   ·rcases List.mem_cons.1 ((h y).2 (List.mem_cons_self ..)) with r | r
    ·exact r.symm
    ·have q1:=h3 x q;have C:=h1 y r
     rw [lt_asym q1] at C;cases C
  subst e
  refine congrArg _ (srt_ext a b h2 h4 fun z=>?_)
  have hz:=h z
  rw [List.mem_cons,List.mem_cons] at hz
  constructor
  ·intro q;exact (hz.1 (.inr q)).resolve_left fun e=>lt_ne (h1 z q) (by rw [e])
  ·intro q;exact (hz.2 (.inr q)).resolve_left fun e=>lt_ne (h3 z q) (by rw [e])
theorem keep_mem:z∈keepL a l↔z∈a∧∀ c∈l,c.name≠z.name:=by
 rw [keepL,List.mem_filter]
 refine and_congr_right fun _=>?_
 rw [Bool.not_eq_true',metB,List.any_eq_false]
 exact ⟨fun h c hc=>by simpa using h c hc,fun h c hc=>by simpa using h c hc⟩
theorem put_app (ha:Srt (itNames a)) (hl:Srt (cgNames l)) (hk:appOk a l=true):putL (keepL a l) l=appL a l:=by
 obtain ⟨h1,h2⟩:=put_spec l (keepL a l) (List.Pairwise.sublist ((List.filter_sublist (l:=a)).map _) ha) hl fun c hc z hz e=>(keep_mem.1 hz).2 c hc e.symm
 refine srt_ext _ _ h1 (app_srt _ a l (Nat.le_refl _) ha hl) fun z=>?_
 rw [h2,mem_app _ a l (Nat.le_refl _) ha hl hk,keep_mem]
def findI (a:List It) (s:List UInt8):Int:=if hasB a s=true then ((a.takeWhile fun y=>!decide (y.name=s)).length:Nat) else -1
theorem find_no (h:∀ j,j<a.length→∀ x,a[j]?=some x→x.name≠s):findI a s=-1:=by
 refine if_neg ?_
 rw [hasB_no fun z hz=>?_]
 ·simp
 ·obtain ⟨j,hj,rfl⟩:=List.getElem_of_mem hz
  exact h j hj _ (List.getElem?_eq_getElem hj)
theorem tw_len {p:α→Bool} {x:α}:∀ {a:List α} {k:Nat},a[k]?=some x→p x=false→(∀ j,j<k→∀ y,a[j]?=some y→p y=true)→(a.takeWhile p).length=k
 | [],k,h,_,_=>by simp at h
 | y::a,0,h,hp,_=>by
  simp only [List.getElem?_cons_zero,Option.some.injEq] at h
  subst h
  rw [List.takeWhile_cons,hp];rfl
 | y::a,k+1,h,hp,hj=>by
  rw [List.takeWhile_cons,hj 0 (by omega) y rfl]
  simp only [if_true,List.length_cons]
  rw [tw_len (a:=a) (k:=k) (by simpa using h) hp fun j hlt z hz=>hj (j+1) (by omega) z (by simpa using hz)]
theorem tw_all {p:α→Bool}:∀ {a:List α},(∀ j,j<a.length→∀ y,a[j]?=some y→p y=true)→(a.takeWhile p).length=a.length
 | [],_=>rfl
 | y::a,h=>by
  rw [List.takeWhile_cons,h 0 (by simp) y rfl]
  simp only [if_true,List.length_cons]
  rw [tw_all fun j hj z hz=>h (j+1) (by simpa using hj) z (by simpa using hz)]
theorem find_yes (hx:a[k]?=some x) (hn:x.name=s) (h:∀ j,j<k→∀ y,a[j]?=some y→y.name≠s):findI a s=(k:Int):=by
 rw [findI,if_pos (show hasB a s=true from List.any_eq_true.2 ⟨x,List.mem_of_getElem? hx,by simpa using hn⟩),tw_len hx (by simpa using hn) fun j hj y hy=>by simpa using h j hj y hy]
theorem find_some:∀ {a:List It} {s:List UInt8},0≤findI a s→∃ k x,findI a s=((k:Nat):Int)∧k<a.length∧a[k]?=some x∧x.name=s:=by
 intro a s h
 cases hq:hasB a s
 ·rw [findI,hq,if_neg (by simp)] at h
  omega
 ·suffices hk:∃ (k:Nat) (x:It),a[k]?=some x∧x.name=s∧∀ j,j<k→∀ y,a[j]?=some y→y.name≠s by
   obtain ⟨k,x,h1,h2,h3⟩:=hk
   exact ⟨k,x,find_yes h1 h2 h3,(List.getElem?_eq_some_iff.1 h1).1,h1,h2⟩
  clear h
  induction a with
  | nil=>cases hq
  | cons x a ih =>
   by_cases e:x.name=s
   ·exact ⟨0,x,rfl,e,fun j hj=>absurd hj (by omega)⟩
   ·rw [hasB,List.any_cons,decide_eq_false e,Bool.false_or] at hq
    obtain ⟨k,z,h1,h2,h3⟩:=ih hq
    refine ⟨k+1,z,by simpa using h1,h2,fun j hj y hy=>?_⟩
    cases j with
    | zero=>simp only [List.getElem?_cons_zero,Option.some.injEq] at hy;rw [← hy];exact e
    | succ j=>exact h3 j (by omega) y (by simpa using hy)
theorem find_neg:findI a s<0↔hasB a s=false:=by
 unfold findI
 cases hasB a s
 ·simp
 ·simp
theorem has_one (ha:Srt (itNames a)) (hy:a[k]?=some y) (hn:y.name=x.name):decide (y.data=x.data)=decide (x∈a):=by
 refine decide_eq_decide.2 ⟨fun h=>?_,fun h=>?_⟩
 ·have e:y=x:=by cases x;cases y;simp_all
  rw [← e];exact List.mem_of_getElem? hy
 ·obtain ⟨i,hi,hx⟩:=List.getElem_of_mem h
  obtain ⟨hk,hy'⟩:=List.getElem?_eq_some_iff.1 hy
  have hl:(itNames a).length=a.length:=by simp [itNames]
  have hp:=List.pairwise_iff_getElem.1 ha
  rcases Nat.lt_trichotomy i k with q | q | q
  ·have:=hp i k (by omega) (by omega) q
   simp only [itNames,List.getElem_map,hx,hy'] at this
   exact absurd hn.symm (lt_ne this)
  ·subst q;rw [← hy',hx]
  ·have:=hp k i (by omega) (by omega) q
   simp only [itNames,List.getElem_map,hx,hy'] at this
   exact absurd hn (lt_ne this)
theorem has_none (h:hasB a x.name=false):decide (x∈a)=false:=decide_eq_false fun q=>by
 rw [hasB,List.any_eq_false] at h
 exact h x q (by simp)
theorem at_app {A:List Value} (h:A.length=n):(A++B)[n+k]?=B[k]?:=by
  rw [List.getElem?_append_right (by omega)];congr 1;omega
theorem set_app {A:List Value} (h:A.length=n):(A++B).set (n+k) u=A++B.set k u:=by
  rw [List.set_append_right _ _ (by omega)];congr 2;omega
theorem one_nil:∀ u∈([]:List Value),u.oneCell'=true:=fun _ h=>absurd h (by simp)
theorem one_cons {l:List Value} (h:u.oneCell'=true) (k:∀ v∈l,v.oneCell'=true):∀ v∈u::l,v.oneCell'=true:=fun v hv=>by
  rcases List.mem_cons.1 hv with rfl | hv
  · exact h
  · exact k v hv
theorem one_app {A:List Value} (h:∀ v∈A,v.oneCell'=true) (k:∀ v∈B,v.oneCell'=true):∀ v∈A++B,v.oneCell'=true:=fun v hv=>by
  rcases List.mem_append.1 hv with hv | hv
  · exact h v hv
  · exact k v hv
theorem len_dig (h:st.length=32):(byteVals st++B).length=32+B.length:=by rw [List.length_append,byteVals_len h]
theorem Blk.part {w:World} {g:Nat} {t:TypeId} (h:Blk w g t cs) {A M B:List Value} {o:Nat} (e:cs=A++(M++B)) (ho:A.length=o):∀ j v,M[j]?=some v→w.cell? ⟨g,o+j,none⟩=some v:=by
  intro j v hv
  subst ho
  rw [h.rule.1,e,at_app rfl,List.getElem?_append_left (List.getElem?_eq_some_iff.1 hv).1]
  exact hv
theorem cells_part {w:World} {b p:Nat} (h:∀ j u,cs[j]?=some u→w.cell? ⟨b,p+j,none⟩=some u) {A M B:List Value} {o:Nat} (e:cs=A++(M++B)) (ho:A.length=o):∀ j v,M[j]?=some v→w.cell? ⟨b,p+o+j,none⟩=some v:=by
  intro j v hv
  subst ho
  rw [Nat.add_assoc]
  refine h _ _ ?_
  rw [e,at_app rfl,List.getElem?_append_left (List.getElem?_eq_some_iff.1 hv).1]
  exact hv
theorem list32 {l:List UInt8} (h:l.length=32):∃ a0 a1 a2 a3 a4 a5 a6 a7 a8 a9 b0 b1 b2 b3 b4 b5 b6 b7 b8 b9 c0 c1 c2 c3 c4 c5 c6 c7 c8 c9 d0 d1,l=[a0,a1,a2,a3,a4,a5,a6,a7,a8,a9,b0,b1,b2,b3,b4,b5,b6,b7,b8,b9,c0,c1,c2,c3,c4,c5,c6,c7,c8,c9,d0,d1]:=by
  refine ⟨l[0],l[1],l[2],l[3],l[4],l[5],l[6],l[7],l[8],l[9],l[10],l[11],l[12],l[13],l[14],l[15],l[16],l[17],l[18],l[19],l[20],l[21],l[22],l[23],l[24],l[25],l[26],l[27],l[28],l[29],l[30],l[31],?_⟩
  refine List.ext_getElem (by simp [h]) fun i hi _=>?_
  have:i=0∨i=1∨i=2∨i=3∨i=4∨i=5∨i=6∨i=7∨i=8∨i=9∨i=10∨i=11∨i=12∨i=13∨i=14∨i=15∨i=16∨i=17∨i=18∨i=19∨i=20∨i=21∨i=22∨i=23∨i=24∨i=25∨i=26∨i=27∨i=28∨i=29∨i=30∨i=31:=by omega
  rcases this with rfl | rfl | rfl | rfl | rfl | rfl | rfl | rfl | rfl | rfl | rfl | rfl | rfl | rfl | rfl | rfl | rfl | rfl | rfl | rfl | rfl | rfl | rfl | rfl | rfl | rfl | rfl | rfl | rfl | rfl | rfl | rfl <;> rfl
theorem build_fo {w:World} {pub:List UInt8} {many:Int} (h:pub.length=32):(Instr.build 48 #[(0,.agg (byteVals pub).toArray),(1,.int .i64 many)]).run Tryz.prog w=.ok (ag (dg pub [.int .i64 many,.int .i64 0,.slice none 0 0,.slice none 0 0])) w:=by
  obtain ⟨C,C,C,C,C,C,C,C,C,C,C,C,C,C,C,C,C,C,C,C,C,C,C,C,C,C,C,C,C,C,C,C,rfl⟩:=list32 h
  kernel_rfl
theorem build_vr {w:World} {no:Int} (h:st.length=32):(Instr.build 34 #[(0,.int .i64 no),(1,.agg (byteVals st).toArray),(2,.slice A n c)]).run Tryz.prog w=.ok (ag (.int .i64 no::dg st [.slice A n c,.int .i64 0,.slice none 0 0,.slice none 0 0,.slice none 0 0])) w:=by
  obtain ⟨C,C,C,C,C,C,C,C,C,C,C,C,C,C,C,C,C,C,C,C,C,C,C,C,C,C,C,C,C,C,C,C,rfl⟩:=list32 h
  kernel_rfl
theorem args0_1 {ρ:Operand→Value} {v0:Value} (h0:ρ x0=v0):#[]++#[x0].map ρ=#[v0]:=by simp [h0]
theorem args0_2 {ρ:Operand→Value} {x1:Operand} {v0:Value} (h0:ρ x0=v0) (h1:ρ x1=v1):#[]++#[x0,x1].map ρ=#[v0,v1]:=by simp [h0,h1]
theorem all_succ {p:Nat→Prop} (h:∀ j,j<k→p j) (hk:p k):∀ j,j<k+1→p j:=fun j hj=>by
  by_cases e:j<k
  · exact h j e
  · obtain rfl:j=k:=by omega
    exact hk
theorem fl_none {S:Nat→Prop} {w:World} {m:Nat} {l:List UInt8} (h:Fl S w 1 (.slice A n c) m (byteVals l)) (hA:A.isNone=true):n=0∧l=[]:=by
  obtain ⟨h1,_,h2⟩:=h.cel
  have hb:=h.blen
  have h0:m=0:=by
    rcases Nat.eq_zero_or_pos m with e | e
    · exact e
    · obtain ⟨b,o,ha,_⟩:=h2.2.2 e
      rw [ha] at hA;cases hA
  exact ⟨by omega,List.eq_nil_of_length_eq_zero (by omega)⟩
theorem RLs.norm {R:RelT α} {S:Nat→Prop} {w:World} {l:List α} (h:RLs R k S w (.slice A n c) l):RLs R k S w (.slice A l.length c) l:=by
  obtain ⟨e,_⟩:=h.at
  rw [← e];exact h
theorem head_at {l:List α} {x:α} (h:l[0]?=some x):l.head?=some x:=by rw [List.head?_eq_getElem?];exact h
theorem head_no {l:List α} (h:l.length=0):l.head?=none:=by rw [List.eq_nil_of_length_eq_zero h];rfl
def FarX (S:Nat→Prop) (w w':World):Prop:=Pres S w w'∧w'.os=w.os∧w'.tape=w.tape∧w'.output=w.output
section
variable {S S':Nat→Prop} {a b w w':World}
theorem FarX.refl (w:World):FarX S w w:=⟨Pres.refl w,rfl,rfl,rfl⟩
theorem FarX.trans (h:FarX S a b) (k:FarX S b w):FarX S a w:=⟨h.1.trans k.1,k.2.1.trans h.2.1,k.2.2.1.trans h.2.2.1,k.2.2.2.trans h.2.2.2⟩
theorem FarX.of_ext (h:Ext a w):FarX S a w:=⟨Pres.of_ext h,h.os,h.tape,h.output⟩
theorem FarX.ext (h:FarX S a w) (k:Ext w w'):FarX S a w':=h.trans (FarX.of_ext k)
theorem FarX.of_pres {r:Option Nat} (h:FarX S a w) (hg:w.grownBy w' r) (hp:Pres S w w'):FarX S a w':=h.trans ⟨hp,hg.os,hg.tape,hg.output⟩
theorem FarX.grownN (h:FarX S a w) (hg:w.grownBy w' (some n)) (hn:¬ S n):FarX S a w':=h.of_pres hg ((Pres.refl w).grownN hg hn)
theorem FarX.gn (h:FarX S a w) (hg:w.grownBy w' (some n)) (hn:¬ S n:=by first | omega | (intro h;simp at h;omega)):FarX S a w':=h.grownN hg hn
theorem FarX.gc (h:FarX S a w) (hg:w.grownBy w' (some n)) (hn:¬ S n:=by exact fun h=>by first | (simp only [Clip] at h;omega) | exact h.1 rfl | exact h.2 rfl | exact h.2.1 rfl | exact h.2.2 rfl | exact h.2.2.1 rfl | exact h.2.2.2 rfl | omega):FarX S a w':=h.grownN hg hn
theorem FarX.row {xs:List Value} (h:FarX S a w) (hg:w.grownBy w' v.ownBlock) (ho:w.ownsRow base e k v n xs) (hn:∀ b,base≤b→¬ S b):FarX S a w':=h.of_pres hg ((Pres.refl w).row hg ho hn)
theorem FarX.sub (h:FarX S' a w) (hs:∀ b,S b→S' b):FarX S a w:=⟨⟨h.1.1,fun b hb hl=>h.1.2 b (hs b hb) hl⟩,h.2⟩
theorem FarX.toExt (h:FarX S a w) (hs:∀ b,b<a.heap.size→S b):Ext a w:=⟨h.2.1,h.2.2.1,h.2.2.2,h.1.1,fun b hb=>h.1.2 b (hs b hb) hb⟩
end
theorem dstep_x {x y:List It} {a:It} (hx:x[0]?=some a) (hy:y.length=0):dstep (x.head?,y.head?)=[⟨a.name,[],true⟩]:=by rw [head_at hx,head_no hy];rfl
theorem dstep_y {x y:List It} {b:It} (hy:y[0]?=some b) (hx:x.length=0):dstep (x.head?,y.head?)=[⟨b.name,b.data,false⟩]:=by rw [head_at hy,head_no hx];rfl
theorem dstep_ne {x y:List It} {a b:It} (hx:x[0]?=some a) (hy:y[0]?=some b) (h:¬ a.data=b.data):dstep (x.head?,y.head?)=[⟨b.name,b.data,false⟩]:=by rw [head_at hy,head_at hx];exact if_neg h
theorem dstep_eq {x y:List It} {a b:It} (hx:x[0]?=some a) (hy:y[0]?=some b) (h:a.data=b.data):dstep (x.head?,y.head?)=[]:=by rw [head_at hy,head_at hx];exact if_pos h
def astepX (p:Option It × Option Cg):List It:=if aok p then astep p else []
theorem astep_x {x:List It} {y:List Cg} {a:It} (hx:x[0]?=some a) (hy:y.length=0):astepX (x.head?,y.head?)=[a]∧aok (x.head?,y.head?)=true:=by rw [head_at hx,head_no hy];exact ⟨rfl,rfl⟩
theorem astep_gone {x:List It} {y:List Cg} {b:Cg} (hy:y[0]?=some b) (h:b.gone=true):astepX (x.head?,y.head?)=[]∧aok (x.head?,y.head?)=decide ((0:Int)<(x.length:Int)):=by
  rw [head_at hy]
  cases x with
  | nil=>simp [astepX,aok,h]
  | cons a x=>simp [astepX,aok,astep,h] <;> omega
theorem astep_same {x:List It} {y:List Cg} {a:It} {b:Cg} (hx:x[0]?=some a) (hy:y[0]?=some b) (hg:b.gone=false) (h:a.data=b.data):astepX (x.head?,y.head?)=[]∧aok (x.head?,y.head?)=false:=by
  rw [head_at hy,head_at hx];simp [astepX,aok,hg,h]
theorem astep_ne {x:List It} {y:List Cg} {a:It} {b:Cg} (hx:x[0]?=some a) (hy:y[0]?=some b) (hg:b.gone=false) (h:¬ a.data=b.data):astepX (x.head?,y.head?)=[⟨b.name,b.data⟩]∧aok (x.head?,y.head?)=true:=by
  rw [head_at hy,head_at hx];simp [astepX,aok,astep,hg,h]
theorem astep_y {x:List It} {y:List Cg} {b:Cg} (hy:y[0]?=some b) (hg:b.gone=false) (hx:x.length=0):astepX (x.head?,y.head?)=[⟨b.name,b.data⟩]∧aok (x.head?,y.head?)=true:=by
  rw [head_at hy,head_no hx];simp [astepX,aok,astep,hg]
theorem blk_normal {id:Nat} {Q:Exit→Act→World→Prop} {a:Act} {w:World} (h:Q .normal a w):Exit.inBlock id Q .normal a w:=h
theorem Fl.digB {w:World} {g:Nat} {t:TypeId} {A:List Value} (h:Blk w g t cs) (e:cs=A++(byteVals st++B)) (ho:A.length=o) (hst:st.length=32):Fl (fun b=>b=g) w 1 (.slice (some ⟨g,o,none⟩) 32 32) 32 (byteVals st) :=
  ⟨some ⟨g,o,none⟩,32,rfl,⟨Nat.le_refl _,by omega⟩,⟨by rw [byteVals_len hst],byteVals_one _,fun _=>⟨g,o,rfl,h.lt,Blk.part h e ho⟩⟩,fun _=>⟨g,o,rfl,rfl⟩⟩
theorem num_step {e:Nat} (hk:k<8) (hl:bb.length=8) (h:∀ j,j<k→bb.getD j 0=(numL n 8).getD j 0) (he:e=8*(7 - k)):∀ j,j<k+1→(bb.set k (UInt8.ofNat (n / 2 ^ e))).getD j 0=(numL n 8).getD j 0:=by
  intro j hj
  by_cases ej:j=k
  · subst ej
    subst he
    have h1:=numL_getD n 8 (7 - j) (by omega)
    rw [show 8 - 1 - (7 - j)=j by omega] at h1
    rw [h1,List.getD_eq_getElem?_getD,List.getElem?_set_self (by omega),Option.getD_some,Nat.pow_mul]
  · rw [List.getD_eq_getElem?_getD,List.getElem?_set_ne (by omega),← List.getD_eq_getElem?_getD]
    exact h j (by omega)
theorem num_all (hl:bb.length=8) (h:∀ j,j<8→bb.getD j 0=(numL n 8).getD j 0):bb=numL n 8:=by
  refine List.ext_getElem (by rw [hl,numL_len]) fun i h1 h2=>?_
  have:=h i (by omega)
  rw [List.getD_eq_getElem?_getD,List.getD_eq_getElem?_getD,List.getElem?_eq_getElem h1,List.getElem?_eq_getElem h2] at this
  exact this
theorem cgleaf_step {l:List Cg} {x:Cg} {b:UInt8} (hx:l[k]?=some x) (hb:b=bitB x.gone):(l.take k).map cgLeaf++[tagged [99,104,97,110,103,101] ([b,UInt8.ofNat x.name.length]++x.name++x.data)]=(l.take (k+1)).map cgLeaf:=by
  subst hb
  rw [List.take_add_one,hx,List.map_append];rfl
theorem cgleaves_32 (l:List Cg):All32 (l.map cgLeaf):=fun x hx=>by
  obtain ⟨y,_,rfl⟩:=List.mem_map.1 hx
  exact cgLeaf_len y
theorem valid_name {l:List Cg} {x:Cg} (h:validC l) (hx:l[i]?=some x):1≤x.name.length∧x.name.length≤64:=named_ok h.2.1 _ (List.mem_map.2 ⟨x,List.mem_of_getElem? hx,rfl⟩)
theorem splice_mid {old A M cells new:List Value} (e:old=A++(M++B)) (ho:A.length=o) (hm:M.length=cells.length) (e2:A++(cells++B)=new):splice old o cells=new:=by
  subst e
  subst e2
  subst ho
  unfold splice
  rw [List.take_left,List.drop_append,List.drop_of_length_le (by omega),List.nil_append,Nat.add_sub_cancel_left,← hm,List.drop_left]
theorem first_all {g:Vr→Int} {l:List Vr} (h:∀ j,j<k→∀ x,l[j]?=some x→g x=0) (hk:l.length≤k):firstE g l=0:=by
  induction l generalizing k with
  | nil=>rfl
  | cons x l ih =>
    simp only [List.length_cons] at hk
    have h0:g x=0:=h 0 (by omega) x rfl
    rw [firstE,if_neg (fun q=>q h0)]
    exact ih (k:=k - 1) (fun j hj y hy=>h (j+1) (by omega) y (by simpa using hy)) (by omega)
theorem first_at {g:Vr→Int} {l:List Vr} {x:Vr} (h:∀ j,j<k→∀ x,l[j]?=some x→g x=0) (hx:l[k]?=some x) (hg:g x≠0):firstE g l=g x:=by
  induction l generalizing k with
  | nil=>simp at hx
  | cons y l ih =>
    cases k with
    | zero=>simp at hx;subst hx;rw [firstE,if_pos hg]
    | succ k =>
      have h0:g y=0:=h 0 (by omega) y rfl
      rw [firstE,if_neg (fun q=>q h0)]
      exact ih (k:=k) (fun j hj z hz=>h (j+1) (by omega) z (by simpa using hz)) (by simpa using hx)
def lastN (n:Int) (l:List Vr) (i:Nat):Int:=if i=0 then n else (l.getD (i - 1) default).no
theorem lastN_succ {n:Int} {l:List Vr} {x:Vr} (h:l[i]?=some x):x.no=lastN n l (i+1):=by simp [lastN,List.getD_eq_getElem?_getD,h]
theorem asc_no {n:Int} {l:List Vr} {x:Vr} (hx:l[k]?=some x) (h:x.no≤lastN n l k):¬ asc n l:=fun q=>by
  have hk:k<l.length:=(List.getElem?_eq_some_iff.1 hx).1
  have h1:lastN n l k<(l.getD k default).no:=q k hk
  rw [List.getD_eq_getElem?_getD,hx,Option.getD_some] at h1
  omega
theorem asc_step {n:Int} {l:List Vr} {x:Vr} (hx:l[k]?=some x) (h:¬ x.no≤lastN n l k):lastN n l k<(l.getD k default).no:=by
  rw [List.getD_eq_getElem?_getD,hx,Option.getD_some];omega
theorem asc_of {n:Int} {l:List Vr} (h:∀ j,j<k→lastN n l j<(l.getD j default).no) (hk:l.length≤k):asc n l:=fun i hi=>h i (by omega)
theorem le_mid {a b x y:Nat} (h:a=x) (k:b=y) (e:o+y≤x):o+b≤a:=by omega
theorem dec_ne0 {x:Int} (h:decide ((x:Int)≠(0:Int))=false):x=0:=Decidable.not_not.1 (of_decide_eq_false h)
theorem zero32_len:zero32.length=32:=rfl
abbrev vz:List Value:=(.int .i64 0)::dg zero32 [(.slice none 0 0),(.int .i64 0),(.slice none 0 0),(.slice none 0 0),(.slice none 0 0)]
abbrev fz:List Value:=dg zero32 [(.int .i64 0),(.int .i64 0),(.slice none 0 0),(.slice none 0 0)]
section
variable {ρ:Operand→Value} {W:World} {d:Option Tmp} {t:TypeId} {p:String} {af:Array Edge} {g:Option (Nat × Bool)} {x y:Operand} {xt yt:TypeId} {l m:List UInt8}
theorem lt_str (w:World) (a b:List UInt8):(binOp .lss 9 (strOf a) (strOf b)).run Tryz.prog w=.ok (.bool (ltS a b)) w:=by
  show Sem.run Tryz.prog (Op.stringOp .lss ⟨a.toArray⟩ ⟨b.toArray⟩) w=_
  simp [Op.stringOp,go_sem]
theorem ge_str (w:World) (a b:List UInt8):(binOp .geq 9 (strOf a) (strOf b)).run Tryz.prog w=.ok (.bool (!ltS a b)) w:=by
  show Sem.run Tryz.prog (Op.stringOp .geq ⟨a.toArray⟩ ⟨b.toArray⟩) w=_
  simp [Op.stringOp,go_sem]
theorem gt_str (w:World) (a b:List UInt8):(binOp .gtr 9 (strOf a) (strOf b)).run Tryz.prog w=.ok (.bool (ltS b a)) w:=by
  have h:(binOp .gtr 9 (.string ⟨a.toArray⟩) (.string ⟨b.toArray⟩)).run Tryz.prog w=.ok (.bool (!(Op.bytesLess a b||a==b))) w:=by
    show Sem.run Tryz.prog (Op.stringOp .gtr ⟨a.toArray⟩ ⟨b.toArray⟩) w=_
    simp [Op.stringOp,go_sem]
  unfold strOf
  rw [h]
  congr 2
  cases h1:ltS a b
  · have h1':Op.bytesLess a b=false:=h1
    rw [h1',Bool.false_or]
    by_cases h2:a=b
    · subst h2;rw [lt_irr];simp
    · cases h3:ltS b a
      · exact absurd (lt_conn h1 h3) h2
      · simp [h2]
  · have h1':Op.bytesLess a b=true:=h1
    rw [h1',lt_asym h1];rfl
theorem rn_lss_s (hx:ρ x=strOf l) (hy:ρ y=strOf m) (hu:xt=9):(execOp ρ ⟨d,.binOp .lss xt x y yt,t,p,af,g⟩).run Tryz.prog W=.ok (.value (.bool (ltS l m))) W:=by
  subst hu;exact rn_bin hx hy guard_str (lt_str W l m)
theorem rn_geq_s (hx:ρ x=strOf l) (hy:ρ y=strOf m) (hu:xt=9):(execOp ρ ⟨d,.binOp .geq xt x y yt,t,p,af,g⟩).run Tryz.prog W=.ok (.value (.bool (!ltS l m))) W:=by
  subst hu;exact rn_bin hx hy guard_str (ge_str W l m)
theorem rn_gtr_s (hx:ρ x=strOf l) (hy:ρ y=strOf m) (hu:xt=9):(execOp ρ ⟨d,.binOp .gtr xt x y yt,t,p,af,g⟩).run Tryz.prog W=.ok (.value (.bool (ltS m l))) W:=by
  subst hu;exact rn_bin hx hy guard_str (gt_str W l m)
end
theorem retCC1 {m:List (Nat × Value)} {a:Act} {P:Program} {w:World} {t s u b g:Nat} {ty2 tt2:TypeId} {cs2:List Value} {td2:TypeDesc} (hF:Sl N m a) (hr:fn.results=#[.cell t ty,.cell s ty2,.tmp u]) (hv:look m t=some (vq b 0)) (hw:look m s=some (vq g 0)) (hu:look m u=some v2)
    (hB:Blk w b tt cs) (hty:P.underlying ty=some td) (hd:aggTy td=true) (hi:(P.info? ty).map (·.size)=some cs.length)
    (hB2:Blk w g tt2 cs2) (hty2:P.underlying ty2=some td2) (hd2:aggTy td2=true) (hi2:(P.info? ty2).map (·.size)=some cs2.length) (h:R (.returned (.tuple #[.agg cs.toArray,.agg cs2.toArray,v2])) w):bodyPost P fn R .ret a w:=by
  have h1:=hF.get hv
  have h2:=hF.get hu
  have h3:=hF.get hw
  simp only [Act.eval] at h1 h2 h3
  refine bodyPost_ret ?_ hF.2.1 h
  have C:=run_loadVar_row (P:=P) w b tt ty cs.toArray (0,0) td hB hty (by cases td <;> simp_all [aggTy]) (by simpa using hi)
  have D:=run_loadVar_row (P:=P) w g tt2 ty2 cs2.toArray (0,0) td2 hB2 hty2 (by cases td2 <;> simp_all [aggTy]) (by simpa using hi2)
  rw [Array.getD_eq_getD_getElem?] at h1 h2 h3
  simp [results,hr,h1,h2,h3,asAddr,C,D]
theorem retS1 {m:List (Nat × Value)} {a:Act} {P:Program} {w:World} {t u b:Nat} (hF:Sl N m a) (hr:fn.results=#[.cell t ty,.tmp u]) (hv:look m t=some (vq b 0)) (hu:look m u=some v2)
    (hB:Blk w b tt [v1]) (hty:P.underlying ty=some td) (hd:aggTy td=false) (h:R (.returned (.tuple #[v1,v2])) w):bodyPost P fn R .ret a w:=by
  have h1:=hF.get hv
  have h2:=hF.get hu
  simp only [Act.eval] at h1 h2
  refine bodyPost_ret ?_ hF.2.1 h
  have C:(isAgg ty).run P w=.ok false w:=by cases td <;> simp_all [isAgg,run_underlying hty,aggTy]
  have D:(loadVar ty ⟨b,0,none⟩).run P w=.ok v1 w:=by
    have hc:w.cell? ⟨b,0,none⟩=some v1:=by rw [hB.rule.1];rfl
    simp [loadVar,go_sem,C,hc]
  rw [Array.getD_eq_getD_getElem?] at h1 h2
  simp [results,hr,h1,h2,asAddr,D]
section
variable {P:Program} {ρ:Operand→Value} {W:World} {d:Option Tmp} {t:TypeId} {p:String} {af:Array Edge} {g:Option (Nat × Bool)} {x y:Operand}
theorem rn_eqnil {xt yt:TypeId} (hu:P.underlying xt=some (.slice e)) (hx:ρ x=.slice A n c) (hy:ρ y=.slice none 0 0):(execOp ρ ⟨d,.binOp .eql xt x y yt,t,p,af,g⟩).run P W=.ok (.value (.bool A.isNone)) W :=
  rn_bin hx hy (by unfold eqGuard;simp <;> rfl) (Lib.run_eql_slice_nil W _ _ A n c 0 0 hu)
end
theorem getIt {l:List It} (h:l[i]?=some x):(itNames l).getD i []=x.name:=by simp [itNames,List.getD_eq_getElem?_getD,h]
theorem getCg {x:Cg} (h:l[i]?=some x):(cgNames l).getD i []=x.name:=by simp [cgNames,List.getD_eq_getElem?_getD,h]
theorem name_yes {l:List (List UInt8)} (h:l.getD i []=s) (ho:okN s) (hp:0<i→ltS (l.getD (i - 1) []) (l.getD i [])=true):nameAt l i:=⟨by rw [h];exact ho,hp⟩
theorem named_no {l:List (List UInt8)} (hk:k<l.length) (h:¬ nameAt l k):¬ named l:=fun q=>h (q k hk)
theorem itemName_any (n:List UInt8) (d:Value) (w:World) :
  Calls Tryz.prog 56 #[.agg #[strOf n,d]] w (fun e w'=>e=.returned (strOf n)∧Ext w w'):=by
 exact calls_enter Tryz.func56 rfl rfl rfl fun _ C=>wr fun D I=>C.xb rfl fun G C _ C D D D J=>C.xv (strOf ([])) fun _ C=>wn I<|wr fun I I=>C.xv (vp G)<|Xw (strOf n) (fun F=>rl F rfl (D.rule.1 0))<|Xa rfl fun _ C=>wn I<|wp_ret<|ret1 C rfl rfl<|⟨rfl,eX⟩
theorem changeName_b (n:List UInt8) (d:Value) (g:Bool) (w:World) :
  Calls Tryz.prog 111 #[.agg #[strOf n,d,.bool g]] w (fun e w'=>e=.returned (strOf n)∧Ext w w'):=by
 exact calls_enter Tryz.func111 rfl rfl rfl fun _ C=>wr fun D I=>C.xb rfl fun C D _ D G G G J=>D.xv (strOf ([])) fun _ D=>wn I<|wr fun I I=>D.xv (vp C)<|Xv (vp C)<|Xw (strOf n) (fun F=>rl F rfl (G.rule.1 0))<|Xa rfl fun _ C=>wn I<|wp_ret<|ret1 C rfl rfl<|⟨rfl,eX⟩
theorem changeName_any (n:List UInt8) (d:Value) {g:Bool} (v:Value) (w:World) (hv:v=.bool g:=by rfl):Calls Tryz.prog 111 #[.agg #[strOf n,d,v]] w (fun e w'=>e=.returned (strOf n)∧Ext w w'):=by
 subst hv
 exact changeName_b n d g w
theorem namedIt_any (A:Option Addr) (c:Nat) (l:List It) (w:World) (h:RLs RIt 2 S w (vl A l.length c) l) :
  Calls Tryz.prog 93 #[.slice A l.length c,.func (.func 56) #[] #[]] w (fun e w'=>e=.returned (.bool (decide (named (itNames l))))∧Ext w w'):=by
 have hc:RLs RIt 2 (Clip S w) w (vl A l.length c) l:=RLs.clip rIt h
 obtain ⟨-,hck,hcm⟩:=RLs.at h
 refine calls_enter Tryz.func93 rfl rfl rfl fun _ hF=>wr fun K1 ag=>hF.xv (.bool false) fun _ F3=>wn ag<|wp_seq_k fun K4 aD=>wr fun K5 al=>F3.xm rfl<|Xv (vi l.length)<|Xv (vi 0) fun _ ag=>wn al<|wp_block<|wp_loop (fun a' W=>∃ (k:Nat),Sl 43 [(0,(vl A l.length c)),(1,(.func (.func 56) #[] #[])),(4,(.bool false)),(8,(vl A l.length c)),(9,(vi l.length)),(10,(vi k))] a'∧k≤l.length∧(∀ j,j<k→nameAt (itNames l) j)∧Ext w W∧w.heap.size≤W.heap.size) (fun a' _=>l.length - (intOf (a'.eval (.tmp 10))).toNat) ⟨0,ag.j,(by omega),(fun j hj=>absurd hj (by omega)),(Ext.refl w),(Nat.le_refl _)⟩ ?_
 rintro ag ag ⟨k,ag,al,ae,al,aA⟩
 have ak:=ag
 have aA:=al.size
 refine wr fun aA aA=>ag.xv (vd ((k:Int)<(l.length:Int))) fun _ V=>wn aA<|wp_seq_k fun ag ag=>?_
 by_cases aA:(k:Int)<(l.length:Int)
 ·refine V.ct<|wp_skip<|ag _ _<|wp_seq_k fun ag aj=>wp_block<|wr fun ag aC=>V.xm rfl fun _ av=>?_
  have ag:=RLs.ext rIt hc al
  obtain ⟨ax,aL,C,al,az,M,al,aF,aJ⟩:=RLs.get ag (by omega:k<l.length)
  obtain ⟨I,J,rfl,aH⟩:=aJ
  have ag:=(Fl.cel aH).2.1
  refine av.xw (vq ax (aL+k*2)) (fun F=>rn_indexE uu26 inf61 ((F.get rfl).trans (by rw [az])) (F.get rfl) (zl _) (il (by omega:k<l.length)) (by omega))<|Xw (.agg #[(strOf C.name),(vl I C.data.length J)]) (fun F=>rn_loadN (cs:=[(strOf C.name),(vl I C.data.length J)]) (F.get rfl) uu61 rfl inf61 aF) fun _ ag=>ag.xz [(strOf ([])),v0] 61 fun ai ag _ ag al al al av=>ag.xa rfl fun _ ag=>ag.xs rfl al (fun al O al=>have av:=al.size;wn aC<|wr fun al al=>ag.xm rfl<|Xw (.agg #[(strOf C.name),(vl I C.data.length J)]) (fun F=>rb F rfl O) fun _ ag=>ag.xE (c:=itemName_any C.name (vl I C.data.length J) _) (k:=fun ag ag ag _ ag=>ag.xw (vi C.name.length) (fun F=>rn_lenS uu9 (F.get rfl))<|Xa rfl fun _ ag=>wn al<|have al:=ag.k [0,1,4,8,9,10,11,6,5,7];wp_seq_k fun ag Z=>sX (fun D W=>Ext D W∧Blk W ai 61 [(strOf C.name),(vl I C.data.length J)]) (fun i=>false) 23 fun D U ag=>al.ym 0 rfl<|Yv 1 (vd ((C.name.length:Int)<(1:Int))) rfl<|Ym 2 rfl fun _ ag=>?_))
  by_cases al:(C.name.length:Int)<(1:Int)
  ·refine ag.yu 3 rfl<|Yu 4 rfl<|Yv 5 (.bool true) rfl<|Ym 6 rfl<|Yu 7 rfl<|Yu 8 rfl<|Yu 9 rfl<|Yn 10 rfl<|Yn 11 rfl<|Yn 12 rfl<|Yn 13 rfl<|Yn 14 rfl<|Yn 15 rfl<|Yn 17 rfl<|Yn 18 rfl fun _ C=>ao 16 rfl<|o_skip C rfl (unwanted_undef rfl rfl rfl C rfl) rfl rfl fun C C=>?_
   have G:=O.ux U
   refine ⟨fun _ _=>⟨(Ext.refl D),G⟩,?_⟩
   refine ao 19 rfl<|o_skip C rfl (unwanted_undef rfl rfl rfl C rfl) rfl rfl fun C C=>?_
   refine ⟨fun _ _=>⟨(Ext.refl D),G⟩,?_⟩
   exact C.yn 20 rfl<|Yu 21 rfl<|Yv 22 (.bool true) rfl fun _ D=>nK Z<|have C:=D.k [0,1,4,8,9,10,11,6,5,7,41];C.ct<|wr fun D D=>C.xv (.bool false) fun _ C=>wn D<|wp_ret<|ret_block<|ret_then<|ret_then<|ret_block<|ret_then<|ret1 C rfl rfl<|⟨ret_bool (decide_eq_false (named_no (k:=k) (by simp [itNames];omega) (fun hq=>by have h1:=hq.1;rw [getIt M,okN] at h1;omega))).symm,eX⟩
  refine ag.yg 3 (vi C.name.length) rfl<|Yg 4 (vd ((64:Int)<(C.name.length:Int))) rfl<|Yv 5 (vd ((64:Int)<(C.name.length:Int))) rfl<|Ym 6 rfl<|fun _ ag=>?_
  by_cases al:(64:Int)<(C.name.length:Int)
  ·refine ag.yu 7 rfl<|Yu 8 rfl<|Yu 9 rfl<|Yn 10 rfl<|Yn 11 rfl<|Yn 12 rfl<|Yn 13 rfl<|Yn 14 rfl<|Yn 15 rfl<|Yn 17 rfl<|Yn 18 rfl fun _ C=>ao 16 rfl<|o_skip C rfl (unwanted_undef rfl rfl rfl C rfl) rfl rfl fun C C=>?_
   have G:=O.ux U
   refine ⟨fun _ _=>⟨(Ext.refl D),G⟩,?_⟩
   refine ao 19 rfl<|o_skip C rfl (unwanted_undef rfl rfl rfl C rfl) rfl rfl fun C C=>?_
   refine ⟨fun _ _=>⟨(Ext.refl D),G⟩,?_⟩
   exact C.yn 20 rfl<|Yu 21 rfl<|Yv 22 (.bool true) rfl fun _ D=>nK Z<|have C:=D.k [0,1,4,8,9,10,11,6,5,7,41];C.ct<|wr fun D D=>C.xv (.bool false) fun _ C=>wn D<|wp_ret<|ret_block<|ret_then<|ret_then<|ret_block<|ret_then<|ret1 C rfl rfl<|⟨ret_bool (decide_eq_false (named_no (k:=k) (by simp [itNames];omega) (fun hq=>by have h1:=hq.1;rw [getIt M,okN] at h1;omega))).symm,eX⟩
  refine ag.yg 7 (vi k) rfl<|Yg 8 (vd ((0:Int)<(k:Int))) rfl<|Yg 9 (vd ((0:Int)<(k:Int))) rfl<|fun _ ah=>?_
  by_cases am:(0:Int)<(k:Int)
  ·refine ah.yg 10 (.func (.func 56) #[] #[]) rfl<|Yg 11 (vl A l.length c) rfl<|Yg 12 (vi k) rfl<|Ygw 13 (vi (k - 1:Nat)) rfl (fun F W=>rn_subN (a:=k) (b:=1) (F.get rfl) rfl (by omega) (by omega))<|fun _ ar=>?_
   have ag:=RLs.ux rIt hc U
   obtain ⟨aw,aK,G,al,ay,aq,al,aE,aI⟩:=RLs.get ag (by omega:(k - 1)<l.length)
   obtain ⟨aa,ab,rfl,aG⟩:=aI
   have ag:=(Fl.cel aG).2.1
   refine ar.ygw 14 (.pointer (some ⟨aw,aK+(k - 1)*2,none⟩)) rfl (fun F W=>rn_indexE uu26 inf61 ((F.get rfl).trans (by rw [ay])) (F.get rfl) (by omega:(0:Int)≤(k - 1:Nat)) (by omega:((k - 1:Nat):Int)<(l.length:Int)) (by omega)) fun _ ar=>have ag:=O.ux U;have al:Ext D D∧Blk D ai 61 [(strOf C.name),(vl I C.data.length J)]:=⟨(Ext.refl D),ag⟩;ar.ysg 15 (.agg #[(strOf G.name),(vl aa G.data.length ab)]) rfl al (fun F W hW=>rn_loadN (cs:=[(strOf G.name),(vl aa G.data.length ab)]) (F.get rfl) uu61 rfl inf61 (fun j u hu=>Ext.keep ((Ext.refl D).trans hW.1) (aE j u hu)))<|Yg 17 (.func (.func 56) #[] #[]) rfl<|Ysg 18 (.agg #[(strOf C.name),(vl I C.data.length J)]) rfl al (fun F W hW=>rb F rfl hW.2) fun _ ai=>ao 16 rfl<|ai.gE (c:=itemName_any G.name (vl aa G.data.length ab) _) (k:=fun aa ai aa _ ab=>?_)
   have aa:=ag.ext ai
   refine ⟨fun _ _=>⟨eX,aa⟩,?_⟩
   refine ao 19 rfl<|ab.gE (c:=itemName_any C.name (vl I C.data.length J) _) (k:=fun I ab I _ I=>?_)
   have J:=aa.ext ab
   refine ⟨fun _ _=>⟨eX,J⟩,?_⟩
   refine I.ygw 20 (.bool (!ltS G.name C.name)) rfl (fun F W=>rn_geq_s (F.get rfl) (F.get rfl) rfl)<|Yg 21 (.bool (!ltS G.name C.name)) rfl<|Yv 22 (.bool (!ltS G.name C.name)) rfl fun _ I=>nK Z ?_
   have Y:=I.k [0,1,4,8,9,10,11,6,5,7,41]
   rcases Bool.eq_false_or_eq_true (ltS G.name C.name) with ac | ac
   ·refine Y.cf<|wp_skip<|aj _ _<|wp_region_lit<|Y.xv (vi (k+1:Nat))<|Xm rfl fun _ C=>wpList_nil ?_
    refine ⟨⟨(k+1),C.j,(by omega),(all_succ ae (name_yes (getIt M) ⟨by omega,by omega⟩ (fun _=>by rw [getIt (show l[k - 1]?=_ from (congrArg (fun z=>l[z]?) (by omega:k - 1=(k - 1))).trans aq),getIt M];exact ac))),eX,(by omega)⟩,?_⟩
    rw [C.get (t:=10) rfl,ak.get (t:=10) rfl];simp [intOf] <;> omega
   exact Y.ct<|wr fun C aB=>Y.xv (.bool false) fun _ au=>wn aB<|wp_ret<|ret_block<|ret_then<|ret_then<|ret_block<|ret_then<|ret1 au rfl rfl<|⟨ret_bool (decide_eq_false (named_no (k:=k) (by simp [itNames];omega) (fun hq=>by have h1:=hq.2 (by omega);rw [getIt (show l[k - 1]?=_ from (congrArg (fun z=>l[z]?) (by omega:k - 1=(k - 1))).trans aq),getIt M,ac] at h1;cases h1))).symm,eX⟩
  refine ah.yu 10 rfl<|Yu 11 rfl<|Yu 12 rfl<|Yu 13 rfl<|Yu 14 rfl<|Yu 15 rfl<|Yu 17 rfl<|Yu 18 rfl fun _ C=>ao 16 rfl<|o_skip C rfl (unwanted_guard rfl rfl rfl C rfl (decide_eq_false am) rfl) rfl rfl fun C C=>?_
  have G:=O.ux U
  refine ⟨fun _ _=>⟨(Ext.refl D),G⟩,?_⟩
  refine ao 19 rfl<|o_skip C rfl (unwanted_guard rfl rfl rfl C rfl (decide_eq_false am) rfl) rfl rfl fun C C=>?_
  refine ⟨fun _ _=>⟨(Ext.refl D),G⟩,?_⟩
  refine C.yu 20 rfl<|Yg 21 (.bool false) rfl<|Yv 22 (.bool false) rfl fun _ D=>nK Z<|have C:=D.k [0,1,4,8,9,10,11,6,5,7,41];C.cf<|wp_skip<|aj _ _<|wp_region_lit<|C.xv (vi (k+1:Nat))<|Xm rfl fun _ C=>wpList_nil ?_
  refine ⟨⟨(k+1),C.j,(by omega),(all_succ ae (name_yes (getIt M) ⟨by omega,by omega⟩ (fun h0=>absurd h0 (by omega)))),eX,(by omega)⟩,?_⟩
  rw [C.get (t:=10) rfl,ak.get (t:=10) rfl];simp [intOf] <;> omega
 exact V.cf<|wp_exit<|exit_then<|exit_then<|exit_here<|aD _ _<|wr fun C D=>V.xv (.bool true) fun _ C=>wn D<|wp_ret<|ret1 C rfl rfl<|⟨ret_bool (decide_eq_true (fun j hj=>ae j (by simp [itNames] at hj;omega))).symm,eX⟩
theorem namedIt_at (l:List It) (w:World) (h:RLs RIt 2 S w v l) :
  Calls Tryz.prog 93 #[v,.func (.func 56) #[] #[]] w (fun e w'=>e=.returned (.bool (decide (named (itNames l))))∧Ext w w'):=by
 obtain ⟨A,c,rfl,_⟩:=h.form
 exact namedIt_any A c l w h
theorem namedCg_any (A:Option Addr) (c:Nat) (l:List Cg) (w:World) (h:RLs RCg 3 S w (vl A l.length c) l) :
  Calls Tryz.prog 110 #[.slice A l.length c,.func (.func 111) #[] #[]] w (fun e w'=>e=.returned (.bool (decide (named (cgNames l))))∧Ext w w'):=by
 have hc:RLs RCg 3 (Clip S w) w (vl A l.length c) l:=RLs.clip rCg h
 obtain ⟨-,hck,hcm⟩:=RLs.at h
 refine calls_enter Tryz.func110 rfl rfl rfl fun _ hF=>wr fun K1 ag=>hF.xv (.bool false) fun _ F3=>wn ag<|wp_seq_k fun K4 aD=>wr fun K5 al=>F3.xm rfl<|Xv (vi l.length)<|Xv (vi 0) fun _ ag=>wn al<|wp_block<|wp_loop (fun a' W=>∃ (k:Nat),Sl 43 [(0,(vl A l.length c)),(1,(.func (.func 111) #[] #[])),(4,(.bool false)),(8,(vl A l.length c)),(9,(vi l.length)),(10,(vi k))] a'∧k≤l.length∧(∀ j,j<k→nameAt (cgNames l) j)∧Ext w W∧w.heap.size≤W.heap.size) (fun a' _=>l.length - (intOf (a'.eval (.tmp 10))).toNat) ⟨0,ag.j,(by omega),(fun j hj=>absurd hj (by omega)),(Ext.refl w),(Nat.le_refl _)⟩ ?_
 rintro ag ag ⟨k,ag,al,ae,al,aA⟩
 have ak:=ag
 have aA:=al.size
 refine wr fun aA aA=>ag.xv (vd ((k:Int)<(l.length:Int))) fun _ V=>wn aA<|wp_seq_k fun ag ag=>?_
 by_cases aA:(k:Int)<(l.length:Int)
 ·refine V.ct<|wp_skip<|ag _ _<|wp_seq_k fun ag aj=>wp_block<|wr fun ag aC=>V.xm rfl fun _ av=>?_
  have ag:=RLs.ext rCg hc al
  obtain ⟨ax,aL,C,al,az,M,al,aF,aJ⟩:=RLs.get ag (by omega:k<l.length)
  obtain ⟨I,J,rfl,aH⟩:=aJ
  have ag:=(Fl.cel aH).2.1
  refine av.xw (vq ax (aL+k*3)) (fun F=>rn_indexE uu27 inf66 ((F.get rfl).trans (by rw [az])) (F.get rfl) (zl _) (il (by omega:k<l.length)) (by omega))<|Xw (.agg #[(strOf C.name),(vl I C.data.length J),(.bool C.gone)]) (fun F=>rn_loadN (cs:=[(strOf C.name),(vl I C.data.length J),(.bool C.gone)]) (F.get rfl) uu66 rfl inf66 aF) fun _ ag=>ag.xz [(strOf ([])),v0,(.bool false)] 66 fun ai ag _ ag al al al av=>ag.xa rfl fun _ ag=>ag.xs rfl al (fun al O al=>have av:=al.size;wn aC<|wr fun al al=>ag.xm rfl<|Xw (.agg #[(strOf C.name),(vl I C.data.length J),(.bool C.gone)]) (fun F=>rb F rfl O) fun _ ag=>ag.xE (c:=changeName_any C.name (vl I C.data.length J) (.bool C.gone) _) (k:=fun ag ag ag _ ag=>ag.xw (vi C.name.length) (fun F=>rn_lenS uu9 (F.get rfl))<|Xa rfl fun _ ag=>wn al<|have al:=ag.k [0,1,4,8,9,10,11,6,5,7];wp_seq_k fun ag Z=>sX (fun D W=>Ext D W∧Blk W ai 66 [(strOf C.name),(vl I C.data.length J),(.bool C.gone)]) (fun i=>false) 23 fun D U ag=>al.ym 0 rfl<|Yv 1 (vd ((C.name.length:Int)<(1:Int))) rfl<|Ym 2 rfl fun _ ag=>?_))
  by_cases al:(C.name.length:Int)<(1:Int)
  ·refine ag.yu 3 rfl<|Yu 4 rfl<|Yv 5 (.bool true) rfl<|Ym 6 rfl<|Yu 7 rfl<|Yu 8 rfl<|Yu 9 rfl<|Yn 10 rfl<|Yn 11 rfl<|Yn 12 rfl<|Yn 13 rfl<|Yn 14 rfl<|Yn 15 rfl<|Yn 17 rfl<|Yn 18 rfl fun _ C=>ao 16 rfl<|o_skip C rfl (unwanted_undef rfl rfl rfl C rfl) rfl rfl fun C C=>?_
   have G:=O.ux U
   refine ⟨fun _ _=>⟨(Ext.refl D),G⟩,?_⟩
   refine ao 19 rfl<|o_skip C rfl (unwanted_undef rfl rfl rfl C rfl) rfl rfl fun C C=>?_
   refine ⟨fun _ _=>⟨(Ext.refl D),G⟩,?_⟩
   exact C.yn 20 rfl<|Yu 21 rfl<|Yv 22 (.bool true) rfl fun _ D=>nK Z<|have C:=D.k [0,1,4,8,9,10,11,6,5,7,41];C.ct<|wr fun D D=>C.xv (.bool false) fun _ C=>wn D<|wp_ret<|ret_block<|ret_then<|ret_then<|ret_block<|ret_then<|ret1 C rfl rfl<|⟨ret_bool (decide_eq_false (named_no (k:=k) (by simp [cgNames];omega) (fun hq=>by have h1:=hq.1;rw [getCg M,okN] at h1;omega))).symm,eX⟩
  refine ag.yg 3 (vi C.name.length) rfl<|Yg 4 (vd ((64:Int)<(C.name.length:Int))) rfl<|Yv 5 (vd ((64:Int)<(C.name.length:Int))) rfl<|Ym 6 rfl<|fun _ ag=>?_
  by_cases al:(64:Int)<(C.name.length:Int)
  ·refine ag.yu 7 rfl<|Yu 8 rfl<|Yu 9 rfl<|Yn 10 rfl<|Yn 11 rfl<|Yn 12 rfl<|Yn 13 rfl<|Yn 14 rfl<|Yn 15 rfl<|Yn 17 rfl<|Yn 18 rfl fun _ C=>ao 16 rfl<|o_skip C rfl (unwanted_undef rfl rfl rfl C rfl) rfl rfl fun C C=>?_
   have G:=O.ux U
   refine ⟨fun _ _=>⟨(Ext.refl D),G⟩,?_⟩
   refine ao 19 rfl<|o_skip C rfl (unwanted_undef rfl rfl rfl C rfl) rfl rfl fun C C=>?_
   refine ⟨fun _ _=>⟨(Ext.refl D),G⟩,?_⟩
   exact C.yn 20 rfl<|Yu 21 rfl<|Yv 22 (.bool true) rfl fun _ D=>nK Z<|have C:=D.k [0,1,4,8,9,10,11,6,5,7,41];C.ct<|wr fun D D=>C.xv (.bool false) fun _ C=>wn D<|wp_ret<|ret_block<|ret_then<|ret_then<|ret_block<|ret_then<|ret1 C rfl rfl<|⟨ret_bool (decide_eq_false (named_no (k:=k) (by simp [cgNames];omega) (fun hq=>by have h1:=hq.1;rw [getCg M,okN] at h1;omega))).symm,eX⟩
  refine ag.yg 7 (vi k) rfl<|Yg 8 (vd ((0:Int)<(k:Int))) rfl<|Yg 9 (vd ((0:Int)<(k:Int))) rfl<|fun _ ah=>?_
  by_cases am:(0:Int)<(k:Int)
  ·refine ah.yg 10 (.func (.func 111) #[] #[]) rfl<|Yg 11 (vl A l.length c) rfl<|Yg 12 (vi k) rfl<|Ygw 13 (vi (k - 1:Nat)) rfl (fun F W=>rn_subN (a:=k) (b:=1) (F.get rfl) rfl (by omega) (by omega))<|fun _ ar=>?_
   have ag:=RLs.ux rCg hc U
   obtain ⟨aw,aK,G,al,ay,aq,al,aE,aI⟩:=RLs.get ag (by omega:(k - 1)<l.length)
   obtain ⟨aa,ab,rfl,aG⟩:=aI
   have ag:=(Fl.cel aG).2.1
   refine ar.ygw 14 (.pointer (some ⟨aw,aK+(k - 1)*3,none⟩)) rfl (fun F W=>rn_indexE uu27 inf66 ((F.get rfl).trans (by rw [ay])) (F.get rfl) (by omega:(0:Int)≤(k - 1:Nat)) (by omega:((k - 1:Nat):Int)<(l.length:Int)) (by omega)) fun _ ar=>have ag:=O.ux U;have al:Ext D D∧Blk D ai 66 [(strOf C.name),(vl I C.data.length J),(.bool C.gone)]:=⟨(Ext.refl D),ag⟩;ar.ysg 15 (.agg #[(strOf G.name),(vl aa G.data.length ab),(.bool G.gone)]) rfl al (fun F W hW=>rn_loadN (cs:=[(strOf G.name),(vl aa G.data.length ab),(.bool G.gone)]) (F.get rfl) uu66 rfl inf66 (fun j u hu=>Ext.keep ((Ext.refl D).trans hW.1) (aE j u hu)))<|Yg 17 (.func (.func 111) #[] #[]) rfl<|Ysg 18 (.agg #[(strOf C.name),(vl I C.data.length J),(.bool C.gone)]) rfl al (fun F W hW=>rb F rfl hW.2) fun _ ai=>ao 16 rfl<|ai.gE (c:=changeName_any G.name (vl aa G.data.length ab) (.bool G.gone) _) (k:=fun aa ai aa _ ab=>?_)
   have aa:=ag.ext ai
   refine ⟨fun _ _=>⟨eX,aa⟩,?_⟩
   refine ao 19 rfl<|ab.gE (c:=changeName_any C.name (vl I C.data.length J) (.bool C.gone) _) (k:=fun I ab I _ I=>?_)
   have J:=aa.ext ab
   refine ⟨fun _ _=>⟨eX,J⟩,?_⟩
   refine I.ygw 20 (.bool (!ltS G.name C.name)) rfl (fun F W=>rn_geq_s (F.get rfl) (F.get rfl) rfl)<|Yg 21 (.bool (!ltS G.name C.name)) rfl<|Yv 22 (.bool (!ltS G.name C.name)) rfl fun _ I=>nK Z ?_
   have Y:=I.k [0,1,4,8,9,10,11,6,5,7,41]
   rcases Bool.eq_false_or_eq_true (ltS G.name C.name) with ac | ac
   ·refine Y.cf<|wp_skip<|aj _ _<|wp_region_lit<|Y.xv (vi (k+1:Nat))<|Xm rfl fun _ C=>wpList_nil ?_
    refine ⟨⟨(k+1),C.j,(by omega),(all_succ ae (name_yes (getCg M) ⟨by omega,by omega⟩ (fun _=>by rw [getCg (show l[k - 1]?=_ from (congrArg (fun z=>l[z]?) (by omega:k - 1=(k - 1))).trans aq),getCg M];exact ac))),eX,(by omega)⟩,?_⟩
    rw [C.get (t:=10) rfl,ak.get (t:=10) rfl];simp [intOf] <;> omega
   exact Y.ct<|wr fun C aB=>Y.xv (.bool false) fun _ au=>wn aB<|wp_ret<|ret_block<|ret_then<|ret_then<|ret_block<|ret_then<|ret1 au rfl rfl<|⟨ret_bool (decide_eq_false (named_no (k:=k) (by simp [cgNames];omega) (fun hq=>by have h1:=hq.2 (by omega);rw [getCg (show l[k - 1]?=_ from (congrArg (fun z=>l[z]?) (by omega:k - 1=(k - 1))).trans aq),getCg M,ac] at h1;cases h1))).symm,eX⟩
  refine ah.yu 10 rfl<|Yu 11 rfl<|Yu 12 rfl<|Yu 13 rfl<|Yu 14 rfl<|Yu 15 rfl<|Yu 17 rfl<|Yu 18 rfl fun _ C=>ao 16 rfl<|o_skip C rfl (unwanted_guard rfl rfl rfl C rfl (decide_eq_false am) rfl) rfl rfl fun C C=>?_
  have G:=O.ux U
  refine ⟨fun _ _=>⟨(Ext.refl D),G⟩,?_⟩
  refine ao 19 rfl<|o_skip C rfl (unwanted_guard rfl rfl rfl C rfl (decide_eq_false am) rfl) rfl rfl fun C C=>?_
  refine ⟨fun _ _=>⟨(Ext.refl D),G⟩,?_⟩
  refine C.yu 20 rfl<|Yg 21 (.bool false) rfl<|Yv 22 (.bool false) rfl fun _ D=>nK Z<|have C:=D.k [0,1,4,8,9,10,11,6,5,7,41];C.cf<|wp_skip<|aj _ _<|wp_region_lit<|C.xv (vi (k+1:Nat))<|Xm rfl fun _ C=>wpList_nil ?_
  refine ⟨⟨(k+1),C.j,(by omega),(all_succ ae (name_yes (getCg M) ⟨by omega,by omega⟩ (fun h0=>absurd h0 (by omega)))),eX,(by omega)⟩,?_⟩
  rw [C.get (t:=10) rfl,ak.get (t:=10) rfl];simp [intOf] <;> omega
 exact V.cf<|wp_exit<|exit_then<|exit_then<|exit_here<|aD _ _<|wr fun C D=>V.xv (.bool true) fun _ C=>wn D<|wp_ret<|ret1 C rfl rfl<|⟨ret_bool (decide_eq_true (fun j hj=>ae j (by simp [cgNames] at hj;omega))).symm,eX⟩
theorem namedCg_at (l:List Cg) (w:World) (h:RLs RCg 3 S w v l) :
  Calls Tryz.prog 110 #[v,.func (.func 111) #[] #[]] w (fun e w'=>e=.returned (.bool (decide (named (cgNames l))))∧Ext w w'):=by
 obtain ⟨A,c,rfl,_⟩:=h.form
 exact namedCg_any A c l w h
theorem pcheck_any (A:Option Addr) (c:Nat) (l:List It) (w:World) (h:RLs RIt 2 S w (vl A l.length c) l) :
  Calls Tryz.prog 49 #[.slice A l.length c] w (fun e w'=>e=.returned (vi (checkE l))∧Ext w w'):=by
 have hc:RLs RIt 2 (Clip S w) w (vl A l.length c) l:=RLs.clip rIt h
 obtain ⟨-,hck,hcm⟩:=RLs.at h
 refine calls_enter Tryz.func49 rfl rfl rfl fun _ C=>wr fun D D=>C.xv (vi 0) fun _ C=>wn D<|wp_seq_k fun D D=>wr fun G G=>C.xm rfl<|Xv (vi l.length)<|Xv (vd ((65536:Int)<(l.length:Int))) fun _ C=>wn G ?_
 by_cases G:(65536:Int)<(l.length:Int)
 ·exact C.ct<|wr fun D D=>C.xv (vi 2) fun _ C=>wn D<|wp_ret<|ret_then<|ret1 C rfl rfl<|⟨ret_int (show checkE l=2 from if_pos (by omega)).symm,(Ext.refl w)⟩
 refine C.cf<|wp_skip<|D _ _<|wp_seq_k fun D G=>wr fun D I=>C.xm rfl fun _ C=>C.xe (namedIt_at (v:=(vl A l.length c)) l _ hc) fun C C C _ C=>C.xw (.bool (!(decide (named (itNames l))))) (fun F=>rn_not' (F.get rfl) rfl) fun _ D=>wn I ?_
 have C:=D.k [0,2,5,8]
 by_cases D:named (itNames l)
 ·exact C.cf<|wp_skip<|G _ _<|wr fun G G=>C.xv (vi 0) fun _ C=>wn G<|wp_ret<|ret1 C rfl rfl<|⟨ret_int (show checkE l=0 from (if_neg (by omega)).trans (if_pos D)).symm,eX⟩
 exact C.ct<|wr fun G G=>C.xv (vi 400) fun _ C=>wn G<|wp_ret<|ret_then<|ret1 C rfl rfl<|⟨ret_int (show checkE l=400 from (if_neg (by omega)).trans (if_neg D)).symm,eX⟩
theorem pcheck_at (l:List It) (w:World) (h:RLs RIt 2 S w v l) :
  Calls Tryz.prog 49 #[v] w (fun e w'=>e=.returned (vi (checkE l))∧Ext w w'):=by
 obtain ⟨A,c,rfl,_⟩:=h.form
 exact pcheck_any A c l w h
theorem nofull {x:Cg} (hx:l[k]?=some x) (h:(x.gone&&decide (0<(x.data.length:Int)))=false):∀ y,l[k]?=some y→¬ fullC y:=fun y hy hq=>by
 rw [hx] at hy;injection hy with hy;subst hy
 rw [hq.1,decide_eq_true (show 0<(x.data.length:Int) by have:=hq.2;omega)] at h;cases h
theorem isfull {x:Cg} (h:(x.gone&&decide (0<(x.data.length:Int)))=true):fullC x:=by
 rw [Bool.and_eq_true] at h
 exact ⟨h.1,by have:=of_decide_eq_true h.2;omega⟩
theorem all_mem {p:Cg→Prop} (h:∀ j,j<k→∀ x,l[j]?=some x→p x) (hk:l.length≤k):∀ c∈l,p c:=fun c hc=>by
 obtain ⟨i,hi,rfl⟩:=List.getElem_of_mem hc
 exact h i (by omega) _ (List.getElem?_eq_getElem hi)
theorem contains_eq {r:Int} (h:0≤r↔¬ ∀ c∈l,¬ fullC c):decide ((0:Int)≤(r:Int))=(!decide (∀ c∈l,¬ fullC c)):=by
 by_cases q:∀ c∈l,¬ fullC c
 ·rw [decide_eq_true q,decide_eq_false (fun e=>h.1 e q)];rfl
 ·rw [decide_eq_false q,decide_eq_true (h.2 q)];rfl
theorem check_named {l:List It} (h:checkE l=0):l.length≤65536∧named (itNames l):=by
 unfold checkE at h
 split at h
 ·cases h
 ·split at h
  ·rename_i h1 h2;exact ⟨by omega,h2⟩
  ·cases h
theorem nm_ok {l:List It} (h:checkE l=0) (hx:l[i]?=some x):1≤x.name.length∧x.name.length≤64:=named_ok (check_named h).2 _ (List.mem_map.2 ⟨x,List.mem_of_getElem? hx,rfl⟩)
theorem leaves_step {l:List It} (hx:l[k]?=some x):(l.take k).map itLeaf++[itLeaf x]=(l.take (k+1)).map itLeaf:=by rw [List.take_add_one,hx,List.map_append];rfl
theorem leaves_32 (l:List It):All32 (l.map itLeaf):=fun x hx=>by
 obtain ⟨y,_,rfl⟩:=List.mem_map.1 hx
 exact itLeaf_len y
theorem bclone_any (A:Option Addr) (c:Nat) (l:List UInt8) (w:World) (hf:Fl S w 1 (vl A l.length c) l.length (byteVals l)) (hl:l.length≤140737488355328) :
  Calls Tryz.prog 59 #[.slice A l.length c] w (fun e w'=>∃ A c,e=.returned (vl A l.length c)∧Fl (fun b=>w.heap.size≤b) w' 1 (vl A l.length c) l.length (byteVals l)∧Ext w w'):=by
 have hc:Fl (Clip S w) w 1 (vl A l.length c) l.length (byteVals l):=hf.clip
 have hcc:=(Fl.cel hc).2.1
 refine calls_enter Tryz.func59 rfl rfl rfl fun _ D=>wr fun G G=>D.xv v0 fun _ D=>wn G<|wp_seq_k fun G J=>wr fun G G=>D.xm rfl<|Xw (.bool A.isNone) (fun F=>rn_eqnil uu22 (F.get rfl) rfl) fun _ C=>wn G ?_
 rcases Bool.eq_false_or_eq_true A.isNone with D | D
 ·refine C.ct<|wr fun G I=>C.xv v0 fun _ G=>wn I<|wp_ret<|ret_then<|ret1 G rfl rfl ?_
  obtain ⟨h1,h2⟩:=fl_none hf D
  subst h2;exact ⟨none,0,rfl,Fl.nil _,(Ext.refl w)⟩
 refine C.cf<|wp_skip<|J _ _<|wr fun D J=>C.xn (fun g=>(vl (some ⟨g,0,none⟩) 0 0)) [] 5 (fun F=>rn_buildSlice (parts0 ) (by kernel_rfl)) fun I O _ C D D D M=>C.xm rfl fun _ C=>have G:=(hc.ext M);have M:=(own_blk0 (k:=1) D);wpl_op (i:=2) rfl<|o_appB (zs:=byteVals l) El22 C rfl rfl rfl rfl rfl (C.get rfl) (C.get rfl) M (Fl.cel G).2.2 (by omega) (by omega) (by omega) (List.nil_append _) fun C C M C D G C U U U=>have U:=C.size;have U:O.grownBy M (some I):=C;D.xa rfl fun _ C=>wn J<|have D:=C.k [0,2,4];wp_ret<|ret1 D rfl rfl ?_
 have hrow:=Fl.own (S:=fun b=>w.heap.size≤b) G (fun b hb=>by omega) (byteVals_one _)
 have hzz:0+l.length=l.length:=Nat.zero_add _
 rw [hzz] at hrow ⊢
 exact ⟨_,_,rfl,hrow,eX⟩
theorem bclone_at (l:List UInt8) (w:World) (hf:Fl S w 1 v n (byteVals l)) (hl:n≤140737488355328) :
  Calls Tryz.prog 59 #[v] w (fun e w'=>∃ A c,e=.returned (vl A n c)∧Fl (fun b=>w.heap.size≤b) w' 1 (vl A n c) n (byteVals l)∧Ext w w'):=by
 have hm:=hf.blen
 subst hm
 obtain ⟨A,c,rfl,_⟩:=hf.form
 exact bclone_any A c l w hf hl
theorem isNaNs_any (a:List UInt8) (w:World) :
  Calls Tryz.prog 119 #[strOf a] w (fun e w'=>e=.returned (.bool false)∧Ext w w'):=by
 exact calls_enter Tryz.func119 rfl rfl rfl fun _ C=>wr fun D D=>C.xv (.bool false) fun _ C=>wn D<|wr fun D D=>C.xm rfl<|Xm rfl<|Xw (.bool (!decide (a=a))) (fun F=>rn_nes (F.get rfl) (F.get rfl) rfl)<|Xa rfl fun _ C=>wn D<|wp_ret<|ret1 C rfl rfl<|⟨ret_bool (by simp),(Ext.refl w)⟩
theorem isNaNi_any (a:Int) (w:World) :
  Calls Tryz.prog 86 #[.int .i64 a] w (fun e w'=>e=.returned (.bool false)∧Ext w w'):=by
 exact calls_enter Tryz.func86 rfl rfl rfl fun _ C=>wr fun D D=>C.xv (.bool false) fun _ C=>wn D<|wr fun D D=>C.xm rfl<|Xm rfl<|Xv (vd ((a:Int)≠(a:Int)))<|Xa rfl fun _ C=>wn D<|wp_ret<|ret1 C rfl rfl<|⟨ret_bool (by simp),(Ext.refl w)⟩
theorem cmps_lt (a b:List UInt8) (w:World) (h:ltS a b=true) :
  Calls Tryz.prog 97 #[strOf a,strOf b] w (fun e w'=>e=.returned (vi (-1))∧Ext w w'):=by
 exact calls_enter Tryz.func97 rfl rfl rfl fun _ C=>wr fun D D=>C.xv (vi 0) fun _ C=>wn D<|wr fun D D=>C.xm rfl fun _ C=>C.xe (isNaNs_any a _) fun C C C _ C=>C.xa rfl fun _ C=>wn D<|wr fun D D=>C.xm rfl fun _ C=>C.xe (isNaNs_any b _) fun C C C _ C=>C.xa rfl fun _ C=>wn D<|have D:=C.k [0,1,4,5,6];wp_seq_k fun C G=>wr fun C I=>D.xm rfl fun _ C=>wn I<|C.cf<|wp_skip<|G _ _<|wp_seq_k fun D D=>wr fun G G=>C.xm rfl fun _ C=>wn G<|C.cf<|wp_skip<|D _ _<|wp_seq_k fun D D=>wr fun D D=>C.xm rfl<|Xm rfl<|Xw (.bool (ltS a b)) (fun F=>rn_lss_s (F.get rfl) (F.get rfl) rfl) fun _ C=>wn D<|C.ct<|wr fun D D=>C.xv (vi (-1)) fun _ C=>wn D<|wp_ret<|ret_then<|ret1 C rfl rfl<|⟨rfl,eX⟩
theorem cmps_gt (a b:List UInt8) (w:World) (h1:ltS a b=false) (h:ltS b a=true) :
  Calls Tryz.prog 97 #[strOf a,strOf b] w (fun e w'=>e=.returned (vi 1)∧Ext w w'):=by
 exact calls_enter Tryz.func97 rfl rfl rfl fun _ C=>wr fun D D=>C.xv (vi 0) fun _ C=>wn D<|wr fun D D=>C.xm rfl fun _ C=>C.xe (isNaNs_any a _) fun C C C _ C=>C.xa rfl fun _ C=>wn D<|wr fun D D=>C.xm rfl fun _ C=>C.xe (isNaNs_any b _) fun C C C _ C=>C.xa rfl fun _ C=>wn D<|have D:=C.k [0,1,4,5,6];wp_seq_k fun C G=>wr fun C I=>D.xm rfl fun _ C=>wn I<|C.cf<|wp_skip<|G _ _<|wp_seq_k fun D D=>wr fun G G=>C.xm rfl fun _ C=>wn G<|C.cf<|wp_skip<|D _ _<|wp_seq_k fun D D=>wr fun G G=>C.xm rfl<|Xm rfl<|Xw (.bool (ltS a b)) (fun F=>rn_lss_s (F.get rfl) (F.get rfl) rfl) fun _ C=>wn G<|C.cf<|wp_skip<|D _ _<|wp_seq_k fun D D=>wr fun D G=>C.xm rfl<|Xm rfl<|Xw (.bool (ltS b a)) (fun F=>rn_gtr_s (F.get rfl) (F.get rfl) rfl) fun _ D=>wn G<|have C:=D.k [0,1,4,5,6,11,13,16,19];C.ct<|wr fun D D=>C.xv (vi 1) fun _ C=>wn D<|wp_ret<|ret_then<|ret1 C rfl rfl<|⟨rfl,eX⟩
theorem cmps_eq (a b:List UInt8) (w:World) (h1:ltS a b=false) (h:ltS b a=false) :
  Calls Tryz.prog 97 #[strOf a,strOf b] w (fun e w'=>e=.returned (vi 0)∧Ext w w'):=by
 exact calls_enter Tryz.func97 rfl rfl rfl fun _ C=>wr fun D D=>C.xv (vi 0) fun _ C=>wn D<|wr fun D D=>C.xm rfl fun _ C=>C.xe (isNaNs_any a _) fun C C C _ C=>C.xa rfl fun _ C=>wn D<|wr fun D D=>C.xm rfl fun _ C=>C.xe (isNaNs_any b _) fun C C C _ C=>C.xa rfl fun _ C=>wn D<|have D:=C.k [0,1,4,5,6];wp_seq_k fun C G=>wr fun C I=>D.xm rfl fun _ C=>wn I<|C.cf<|wp_skip<|G _ _<|wp_seq_k fun D D=>wr fun G G=>C.xm rfl fun _ C=>wn G<|C.cf<|wp_skip<|D _ _<|wp_seq_k fun D D=>wr fun G G=>C.xm rfl<|Xm rfl<|Xw (.bool (ltS a b)) (fun F=>rn_lss_s (F.get rfl) (F.get rfl) rfl) fun _ C=>wn G<|C.cf<|wp_skip<|D _ _<|wp_seq_k fun D G=>wr fun D I=>C.xm rfl<|Xm rfl<|Xw (.bool (ltS b a)) (fun F=>rn_gtr_s (F.get rfl) (F.get rfl) rfl) fun _ D=>wn I<|have C:=D.k [0,1,4,5,6,11,13,16,19];C.cf<|wp_skip<|G _ _<|wr fun D D=>C.xv (vi 0) fun _ C=>wn D<|wp_ret<|ret1 C rfl rfl<|⟨rfl,eX⟩
def cmpI (a b:Int):Int:=if a<b then -1 else if b<a then 1 else 0
theorem cmpi_any (a b:Int) (w:World) :
  Calls Tryz.prog 43 #[.int .i64 a,.int .i64 b] w (fun e w'=>e=.returned (vi (cmpI a b))∧Ext w w'):=by
 refine calls_enter Tryz.func43 rfl rfl rfl fun _ C=>wr fun D D=>C.xv (vi 0) fun _ C=>wn D<|wr fun D D=>C.xm rfl fun _ C=>C.xe (isNaNi_any a _) fun C C C _ C=>C.xa rfl fun _ C=>wn D<|wr fun D D=>C.xm rfl fun _ C=>C.xe (isNaNi_any b _) fun C C C _ C=>C.xa rfl fun _ C=>wn D<|have D:=C.k [0,1,4,5,6];wp_seq_k fun C G=>wr fun C I=>D.xm rfl fun _ C=>wn I<|C.cf<|wp_skip<|G _ _<|wp_seq_k fun D D=>wr fun G G=>C.xm rfl fun _ C=>wn G<|C.cf<|wp_skip<|D _ _<|wp_seq_k fun D D=>wr fun G G=>C.xm rfl<|Xm rfl<|Xv (vd ((a:Int)<(b:Int))) fun _ C=>wn G ?_
 by_cases G:(a:Int)<(b:Int)
 ·exact C.ct<|wr fun D D=>C.xv (vi (-1)) fun _ C=>wn D<|wp_ret<|ret_then<|ret1 C rfl rfl<|⟨ret_int (show -1=cmpI a b by unfold cmpI;split <;> (try split) <;> omega),eX⟩
 refine C.cf<|wp_skip<|D _ _<|wp_seq_k fun D G=>wr fun D I=>C.xm rfl<|Xm rfl<|Xv (vd ((b:Int)<(a:Int))) fun _ D=>wn I ?_
 have C:=D.k [0,1,4,5,6,11,13,16,19]
 by_cases D:(b:Int)<(a:Int)
 ·exact C.ct<|wr fun D D=>C.xv (vi 1) fun _ C=>wn D<|wp_ret<|ret_then<|ret1 C rfl rfl<|⟨ret_int (show 1=cmpI a b by unfold cmpI;split <;> (try split) <;> omega),eX⟩
 exact C.cf<|wp_skip<|G _ _<|wr fun D D=>C.xv (vi 0) fun _ C=>wn D<|wp_ret<|ret1 C rfl rfl<|⟨ret_int (show 0=cmpI a b by unfold cmpI;split <;> (try split) <;> omega),eX⟩
theorem full_any (a:List UInt8) (A:Option Addr) (n c:Nat) (g:Bool) (w:World) :
  Calls Tryz.prog 109 #[.agg #[strOf a,.slice A n c,.bool g]] w (fun e w'=>e=.returned (.bool (g&&decide (0<(n:Int))))∧Ext w w'):=by
 refine calls_enter Tryz.func109 rfl rfl rfl fun _ C=>wr fun D I=>C.xb rfl fun C D _ D G G G J=>D.xv (.bool false) fun _ D=>wn I<|wr fun I I=>D.xv (vq C 2)<|Xw (.bool g) (fun F=>rl F rfl (G.rule.1 2))<|Xm rfl fun _ D=>?_
 rcases Bool.eq_false_or_eq_true g with J | J
 ·exact D.xg (vp C)<|Xg (vq C 1)<|Xgw (vl A n c) (fun F=>rl F rfl (G.rule.1 1))<|Xg (vi n)<|Xg (vd ((0:Int)<(n:Int)))<|Xv (vd ((0:Int)<(n:Int)))<|Xa rfl fun _ C=>wn I<|have D:=C.k [0,1,2];wp_ret<|ret1 D rfl rfl<|⟨ret_bool (show (decide ((0:Int)<(n:Int)))=(g&&decide (0<(n:Int))) by simp_all),eX⟩
 exact D.xu<|Xu<|Xu<|Xu<|Xu<|Xv (.bool false)<|Xa rfl fun _ C=>wn I<|have D:=C.k [0,1,2];wp_ret<|ret1 D rfl rfl<|⟨ret_bool (show false=(g&&decide (0<(n:Int))) by simp_all),eX⟩
theorem index_any (A:Option Addr) (c:Nat) (l:List Cg) (w:World) (h:RLs RCg 3 S w (vl A l.length c) l) :
  Calls Tryz.prog 123 #[.slice A l.length c,.func (.func 109) #[] #[]] w (fun e w'=>∃ r,e=.returned (vi r)∧(0≤r↔¬ ∀ c∈l,¬ fullC c)∧Ext w w'):=by
 have hc:RLs RCg 3 (Clip S w) w (vl A l.length c) l:=RLs.clip rCg h
 obtain ⟨-,hck,hcm⟩:=RLs.at h
 refine calls_enter Tryz.func123 rfl rfl rfl fun _ J=>wr fun U U=>J.xv (vi 0) fun _ J=>wn U<|wp_seq_k fun U ae=>wr fun U U=>J.xm rfl<|Xv (vi l.length)<|Xv (vi 0) fun _ J=>wn U<|wp_block<|wp_loop (fun a' W=>∃ (k:Nat),Sl 19 [(0,(vl A l.length c)),(1,(.func (.func 109) #[] #[])),(4,(vi 0)),(7,(vi l.length)),(8,(vi k))] a'∧k≤l.length∧(∀ j,j<k→∀ x,l[j]?=some x→¬ fullC x)∧Ext w W∧w.heap.size≤W.heap.size) (fun a' _=>l.length - (intOf (a'.eval (.tmp 8))).toNat) ⟨0,J.j,(by omega),(fun j hj=>absurd hj (by omega)),(Ext.refl w),(Nat.le_refl _)⟩ ?_
 rintro J J ⟨k,J,U,O,U,aa⟩
 have ag:=J
 have aa:=U.size
 refine wr fun aa aa=>J.xv (vd ((k:Int)<(l.length:Int))) fun _ D=>wn aa<|wp_seq_k fun J J=>?_
 by_cases aa:(k:Int)<(l.length:Int)
 ·refine D.ct<|wp_skip<|J _ _<|wp_seq_k fun J ab=>wp_block<|wr fun J aa=>D.xm rfl<|Xa rfl fun _ J=>wn aa<|wr fun aa ac=>J.xm rfl<|Xm rfl<|Xm rfl fun _ V=>?_
  have J:=RLs.ext rCg hc U
  obtain ⟨Y,ak,C,U,Z,M,U,ah,aj⟩:=RLs.get J (by omega:k<l.length)
  obtain ⟨G,I,rfl,ai⟩:=aj
  have D:=(Fl.cel ai).2.1
  refine V.xw (vq Y (ak+k*3)) (fun F=>rn_indexE uu27 inf66 ((F.get rfl).trans (by rw [Z])) (F.get rfl) (zl _) (il (by omega:k<l.length)) (by omega))<|Xw (.agg #[(strOf C.name),(vl G C.data.length I),(.bool C.gone)]) (fun F=>rn_loadN (cs:=[(strOf C.name),(vl G C.data.length I),(.bool C.gone)]) (F.get rfl) uu66 rfl inf66 ah) fun _ D=>D.xE (c:=full_any C.name G C.data.length I C.gone _) (k:=fun D D D _ G=>wn ac ?_)
  have D:=G.k [0,1,4,7,8,9,5,16]
  rcases Bool.eq_false_or_eq_true (C.gone&&decide (0<(C.data.length:Int))) with G | G
  ·exact D.ct<|wr fun I I=>D.xm rfl<|Xa rfl fun _ D=>wn I<|wp_ret<|ret_block<|ret_then<|ret_then<|ret_block<|ret_then<|ret1 D rfl rfl<|⟨_,rfl,⟨fun _ hq=>hq C (List.mem_of_getElem? M) (isfull G),fun _=>by omega⟩,eX⟩
  refine D.cf<|wp_skip<|ab _ _<|wp_region_lit<|D.xv (vi (k+1:Nat))<|Xm rfl fun _ C=>wpList_nil ?_
  refine ⟨⟨(k+1),C.j,(by omega),(all_succ O (nofull M G)),eX,(by omega)⟩,?_⟩
  rw [C.get (t:=8) rfl,ag.get (t:=8) rfl];simp [intOf] <;> omega
 exact D.cf<|wp_exit<|exit_then<|exit_then<|exit_here<|ae _ _<|wr fun C G=>D.xv (vi (-1)) fun _ C=>wn G<|wp_ret<|ret1 C rfl rfl<|⟨_,rfl,⟨fun hq=>absurd hq (by omega),fun hq=>absurd (all_mem O (by omega)) hq⟩,eX⟩
theorem index_at (l:List Cg) (w:World) (h:RLs RCg 3 S w v l) :
  Calls Tryz.prog 123 #[v,.func (.func 109) #[] #[]] w (fun e w'=>∃ r,e=.returned (vi r)∧(0≤r↔¬ ∀ c∈l,¬ fullC c)∧Ext w w'):=by
 obtain ⟨A,c,rfl,_⟩:=h.form
 exact index_any A c l w h
theorem contains_any (A:Option Addr) (c:Nat) (l:List Cg) (w:World) (h:RLs RCg 3 S w (vl A l.length c) l) :
  Calls Tryz.prog 112 #[.slice A l.length c,.func (.func 109) #[] #[]] w (fun e w'=>e=.returned (.bool (!decide (∀ c∈l,¬ fullC c)))∧Ext w w'):=by
 have hc:RLs RCg 3 (Clip S w) w (vl A l.length c) l:=RLs.clip rCg h
 obtain ⟨-,hck,hcm⟩:=RLs.at h
 refine calls_enter Tryz.func112 rfl rfl rfl fun _ C=>wr fun D D=>C.xv (.bool false) fun _ C=>wn D<|wr fun D G=>C.xm rfl<|Xm rfl fun _ C=>C.xc (index_at (v:=(vl A l.length c)) l _ hc) ?_
 rintro _ C ⟨M,rfl,I,J⟩
 refine ⟨_,rfl,?_⟩;intro C C;have D:=J.size
 exact C.xv (vd ((0:Int)≤(M:Int)))<|Xa rfl fun _ C=>wn G<|have D:=C.k [0,1,4];wp_ret<|ret1 D rfl rfl<|⟨ret_bool (contains_eq I),eX⟩
theorem contains_at (l:List Cg) (w:World) (h:RLs RCg 3 S w v l) :
  Calls Tryz.prog 112 #[v,.func (.func 109) #[] #[]] w (fun e w'=>e=.returned (.bool (!decide (∀ c∈l,¬ fullC c)))∧Ext w w'):=by
 obtain ⟨A,c,rfl,_⟩:=h.form
 exact contains_any A c l w h
theorem state_any (A:Option Addr) (c:Nat) (l:List It) (w:World) (h:RLs RIt 2 S w (vl A l.length c) l) (hs:∀ x∈l,x.data.length≤4294967296) (hl:l.length≤4294967296) (hG:Glob w) :
  Calls Tryz.prog 28 #[.slice A l.length c] w (fun e w'=>e=.returned (.tuple #[.agg (byteVals (stateD l)).toArray,.int .i64 (checkE l)])∧Ext w w'):=by
 have hc:RLs RIt 2 (Clip S w) w (vl A l.length c) l:=RLs.clip rIt h
 obtain ⟨-,hck,hcm⟩:=RLs.at h
 refine calls_enter Tryz.func28 rfl rfl rfl fun _ J=>wr fun Z ai=>J.xz (byteVals (List.replicate 32 0)) 29 fun G J _ J Z Z Z aG=>J.xv (vi 0) fun _ J=>wn ai<|wp_seq_k fun ai aj=>wr fun ai ay=>J.xm rfl fun _ J=>have ai:=(RLs.ext rIt hc aG);J.xe (pcheck_at (v:=(vl A l.length c)) l _ ai) fun D ai J _ J=>J.xa rfl fun _ J=>wn ay<|wr fun ay ay=>J.xm rfl<|Xv (vd (((checkE l):Int)≠(0:Int))) fun _ J=>wn ay ?_
 by_cases U:((checkE l):Int)≠(0:Int)
 ·refine J.ct<|wr fun C I=>have D:=(Z.ext ai);J.xw (.agg (byteVals (List.replicate 32 0)).toArray) (fun F=>rb F rfl D (hk:=byteVals_len (show List.length (List.replicate 32 0)=_ from List.length_replicate)))<|Xm rfl fun _ C=>?_
  refine C.xs rfl D (fun D G D=>?_) (hk:=byteVals_len (show List.length (List.replicate 32 0)=_ from List.length_replicate));have J:=D.size
  refine C.xa rfl fun _ C=>wn I<|have D:=C.k [0,2,3,4,11];wp_ret<|ret_then ?_
  exact retC1 D rfl rfl rfl G uu29 rfl (sk inf29 (byteVals_len (show List.length (List.replicate 32 0)=_ from List.length_replicate)))<|⟨by rw [show stateD l=List.replicate 32 0 from if_neg U],eX⟩
 refine J.cf<|wp_skip<|aj _ _<|wr fun aj aj=>J.xv v0 fun _ J=>wn aj<|wp_seq_k fun aj az=>wr fun aj aj=>J.xm rfl<|Xv (vi l.length)<|Xv (vi 0) fun _ J=>wn aj<|wp_block<|have aj:=(Z.ext ai);wp_loop (fun a' W=>∃ (k:Nat) (Ap:Option Addr) (np:Nat) (cp:Nat) (ls:List (List UInt8)),Sl 39 [(0,(vl A l.length c)),(2,(vp G)),(3,(vi 0)),(4,(vi (checkE l))),(11,(vd (((checkE l):Int)≠(0:Int)))),(5,(vl Ap np cp)),(14,(vl A l.length c)),(15,(vi l.length)),(16,(vi k))] a'∧(k≤l.length∧np=k)∧ls=(l.take k).map itLeaf∧Ext w W∧Blk W G 29 (byteVals (List.replicate 32 0))∧W.ownsRow D.heap.size 29 32 (vl Ap np cp) np (digVals ls)∧D.heap.size≤W.heap.size∧D.heap.size≤W.heap.size) (fun a' _=>l.length - (intOf (a'.eval (.tmp 16))).toNat) ⟨0,none,0,0,[],J.j,⟨by omega,by omega⟩,rfl,eX,aj,(own_nil D D.heap.size 29 32),(by omega),(Nat.le_refl _)⟩ ?_
 rintro J aI ⟨k,Ap,np,cp,ls,J,Z,ac,Z,Y,ah,ai,ai⟩
 have aC:=J
 have ai:=Z.size
 have ai:=Y.lt
 have ai:=own_form0 ah
 have aE:All32 ls:=by rw [ac];exact leaves_32 _
 refine wr fun ai ai=>J.xv (vd ((k:Int)<(l.length:Int))) fun _ M=>wn ai<|wp_seq_k fun J J=>?_
 by_cases ai:(k:Int)<(l.length:Int)
 ·refine M.ct<|wp_skip<|J _ _<|wp_seq_k fun J aA=>wp_block<|wr fun J aB=>?_
  have J:=RLs.ext rIt hc Z
  obtain ⟨av,aH,C,Z,aw,ab,Z,aD,aF⟩:=RLs.get J (by omega:k<l.length)
  obtain ⟨I,O,rfl,al⟩:=aF
  have J:=(Fl.cel al).2.1
  obtain ⟨J,J⟩:=nm_ok (Decidable.not_not.1 U) ab;have J:=hs C (List.mem_of_getElem? ab)
  refine M.xw (vq av (aH+k*2)) (fun F=>rn_indexE uu26 inf61 ((F.get rfl).trans (by rw [aw])) (F.get rfl) (zl _) (il (by omega:k<l.length)) (by omega))<|Xw (.agg #[(strOf C.name),(vl I C.data.length O)]) (fun F=>rn_loadN (cs:=[(strOf C.name),(vl I C.data.length O)]) (F.get rfl) uu61 rfl inf61 aD) fun _ J=>J.xz [(strOf ([])),v0] 61 fun Z J _ J ai ai ak aq=>J.xs rfl ak (fun ai ai aa=>have aj:=aa.size;wn aB<|wp_region_lit<|J.xm rfl<|Xv (vp Z)<|Xw (strOf C.name) (fun F=>rl F rfl (ai.rule.1 0))<|Xw (vi C.name.length) (fun F=>rn_lenS uu9 (F.get rfl))<|Xw (.int .u8 ((UInt8.ofNat C.name.length).toNat:Nat)) (fun F=>rn_convW uu3 uu5 (F.get rfl) (cvi_8 C.name.length)) fun _ J=>J.xn (fun g=>(vl (some ⟨g,0,none⟩) 1 1)) [(.int .u8 ((UInt8.ofNat C.name.length).toNat:Nat))] 5 (fun F=>rn_buildSlice (parts1 (F.get rfl)) (by kernel_rfl)) fun J aj _ aj av av aw ae=>aj.xv (vp Z) fun _ av=>have aj:=(ai.ext ae);av.xw (strOf C.name) (fun F=>rl F rfl (aj.rule.1 0)) fun _ ai=>wpl_op (i:=8) rfl<|o_strB (l:=C.name) ai rfl rfl rfl rfl rfl (ai.get rfl) uu9 uu22 uu5 (by omega) fun ay av ai ai ai aB aB aB aB ag=>ai.xv (vq Z 1) fun _ Z=>have ai:=(aj.ext ag);Z.xw (vl I C.data.length O) (fun F=>rl F rfl (ai.rule.1 1)) fun _ Z=>Z.xn (fun g=>(vl (some ⟨g,0,none⟩) 3 3)) [(vl (some ⟨J,0,none⟩) 1 1),(vl (some ⟨ay,0,none⟩) C.name.length av),(vl I C.data.length O)] 22 (fun F=>rn_buildSlice (parts3 (F.get rfl) (F.get rfl) (F.get rfl)) (by kernel_rfl)) fun I I _ ai I I aj V=>?_)
  have I:=aw.ux V
  have O:=aB.ext V
  have Z:=al.pres ((((((Pres.refl aI).ext aq).gc aa).ext ae).ext ag).ext V)
  have hn161:=Fl.blen (Fl.blk (S:=fun b=>b=J) (k:=1) (n:=1) (c:=1) (cs:=byteVals [(UInt8.ofNat C.name.length)]) I rfl (byteVals_one _) (by omega) rfl)
  have hn162:=Fl.blen O
  have hn163:=Fl.blen Z
  have hn164:([[(UInt8.ofNat C.name.length)],C.name,C.data]).flatten.length=1+C.name.length+C.data.length:=by simp only [List.flatten_cons,List.flatten_nil,List.length_append,List.length_nil];omega
  refine ai.xC (c:=concat_at [[(UInt8.ofNat C.name.length)],C.name,C.data] _ (RBss.three aj (Fl.blk (S:=fun b=>b=J) (k:=1) (n:=1) (c:=1) (cs:=byteVals [(UInt8.ofNat C.name.length)]) I rfl (byteVals_one _) (by omega) rfl) O Z) hn164 (by omega)) (k:=?_)
  rintro _ I ⟨au,ax,rfl,am,ar⟩
  rw [show ([[(UInt8.ofNat C.name.length)],C.name,C.data]).flatten=([(UInt8.ofNat C.name.length)])++C.name++C.data from by simp] at am
  refine ⟨_,rfl,?_⟩;intro I I;have J:=ar.size
  refine I.xE (c:=tagged_at ([105,116,101,109]) (v:=(vl au (1+C.name.length+C.data.length) ax)) (n:=(1+C.name.length+C.data.length)) (([(UInt8.ofNat C.name.length)])++C.name++C.data) _ am (hG.ext eX) (by simp <;> omega) (by omega)) (k:=fun I J I _ I=>have O:=(own_ext (own_ext (own_ext (own_ext (own_ext (own_grownT (own_ext ah aq) ak aa (by decide)) ae) ag) V) ar) J);have U:=O;I.xn (fun g=>(vl (some ⟨g,0,none⟩) 1 1)) (byteVals ((tagged ([105,116,101,109]) (([(UInt8.ofNat C.name.length)])++C.name++C.data)))) 29 (fun F=>rn_buildSlice (parts1 (F.get rfl)) (build_wholeE (vs:=[(.agg (byteVals (tagged ([105,116,101,109]) (([(UInt8.ofNat C.name.length)])++C.name++C.data))).toArray)]) El30 rfl rfl (fun v hv=>by rw [List.mem_singleton.1 hv];exact (byteVals_len (tagged_len _ _))) (by decide) (by decide) (by simp [Value.cells,byteVals]))) fun I J _ J M M M V=>have aa:=own_new (g:=I) U (by omega);have Z:=(own_ext O V);have U:=Z;have O:=Y.ux V;have V:some G≠(Value.slice Ap np cp).ownBlock:=(own_ne Z (by omega:G<D.heap.size));have D:=O.lt;have ae:some I≠(Value.slice Ap np cp).ownBlock:=aa;have D:=M.lt;wpl_op (i:=15) rfl<|o_appB (zs:=digVals (ls++([tagged ([105,116,101,109]) (([(UInt8.ofNat C.name.length)])++C.name++C.data)]))) El30 J rfl rfl rfl rfl rfl (J.get rfl) (J.get rfl) U (Fl.cel (Fl.digblk (S:=fun b=>b=I) M (All32.sing (tagged_len _ _)) (by simp [digVals,byteVals]))).2.2 (by omega) (by omega) (by omega) (digVals_app _ _) fun M Z D D Y aa D J J J=>have ag:=D.size;have ag:=J G (by omega) V;have G:=J I (by omega) ae;Y.xa rfl fun _ G=>wn aA<|have I:=G.k [0,2,3,4,11,5,14,15,16,17,7];wp_region_lit<|I.xv (vi (k+1:Nat))<|Xm rfl fun _ G=>wpList_nil ?_)
  have I:=O.grown D V
  refine ⟨⟨(k+1),M,np+1,Z,ls++([tagged ([105,116,101,109]) (([(UInt8.ofNat C.name.length)])++C.name++C.data)]),G.j,⟨by omega,by omega⟩,(by rw [ac];exact leaves_step ab),(ext_row eX D U (by omega)),I,aa,(by omega),(by omega)⟩,?_⟩
  rw [G.get (t:=16) rfl,aC.get (t:=16) rfl];simp [intOf] <;> omega
 refine M.cf<|wp_exit<|exit_then<|exit_then<|exit_here<|az _ _<|wr fun C G=>M.xm rfl fun _ C=>have I:=(Fl.own (S:=fun b=>D.heap.size≤b) ah (fun b hb=>hb) (digVals_one _));C.xe (tree_at ls _ (n:=np) (v:=(vl Ap np cp)) aE I (hG.ext eX)) fun C I C _ C=>?_
 have D:=Y.ext I
 refine C.xs rfl D (fun D D I=>?_) (hk:=byteVals_len (treeD_len _));have J:=I.size
 refine C.xv (vi 0) fun _ C=>wn G<|wp_ret ?_
 refine retC1 C rfl rfl rfl D uu29 rfl (sk inf29 (byteVals_len (treeD_len _))) ?_
 have hk:k=l.length:=by omega
 have hl:=ac
 rw [hk,List.take_length] at hl
 exact ⟨by rw [show stateD l=treeD ls from (if_pos (Decidable.not_not.1 U)).trans (by rw [hl]),(Decidable.not_not.1 U)],eX⟩
theorem state_at (l:List It) (w:World) (h:RLs RIt 2 S w v l) (hs:∀ x∈l,x.data.length≤4294967296) (hl:l.length≤4294967296) (hG:Glob w) :
  Calls Tryz.prog 28 #[v] w (fun e w'=>e=.returned (.tuple #[.agg (byteVals (stateD l)).toArray,.int .i64 (checkE l)])∧Ext w w'):=by
 obtain ⟨A,c,rfl,_⟩:=h.form
 exact state_any A c l w h hs hl hG
theorem sub_drop {l l0:List α} (h:∀ z∈l,z∈l0) (i:Nat):∀ z∈l.drop i,z∈l0:=fun z hz=>h z (List.mem_of_mem_drop hz)
theorem sub_take {l l0:List α} (h:∀ z∈l,z∈l0) (i:Nat):∀ z∈l.take i,z∈l0:=fun z hz=>h z (List.mem_of_mem_take hz)
theorem mergeIt_any (A:Option Addr) (c:Nat) (a0:List It) (B:Option Addr) (d:Nat) (b0:List It) (f:FuncId) (first cap:Array Value) (hen:∀ (vs:Array Value) (W:World),(callFunc f vs).run Tryz.prog W=.ok (.enter f vs) W) (arg:Value→Value→Array Value) (harg:∀ u v,(first++#[u,v])++cap=arg u v)
  (J:List (Option It × Option It)→World→Prop) (hJ:∀ ps W W',J ps W→Ext W W'→J ps W') (N:Nat)
  (hp:∀ (ps:List (Option It × Option It)) (u v:Value) (x:List It) (y:List It) (W:World),J ps W→RLs RIt 2 S W u x→RLs RIt 2 S W v y→x.length≤1→y.length≤1→¬ (x=[]∧y=[])→(∀ z∈y,z∈b0)→(∀ z∈x,z∈a0)→ps.length<N→Calls Tryz.prog f (arg u v) W (fun e W'=>e=.returned (.tuple #[])∧J (ps++[(x.head?,y.head?)]) W'∧FarX S W W'))
  (w:World) (h1:RLs RIt 2 S w (vl A a0.length c) a0) (h2:RLs RIt 2 S w (vl B b0.length d) b0) (hN:(mrg It.name It.name a0 b0).length≤N) (hj:J [] w) :
  Calls Tryz.prog 55 #[.slice A a0.length c,.slice B b0.length d,.func (.func 56) #[] #[],.func (.func 56) #[] #[],.func (.func f) first cap] w (fun e w'=>e=.returned (.tuple #[])∧J (mrg It.name It.name a0 b0) w'∧FarX S w w'):=by
 obtain ⟨-,aD,aD⟩:=RLs.at h1;obtain ⟨-,aD,aD⟩:=RLs.at h2
 refine calls_enter Tryz.func55 rfl rfl rfl fun _ hF=>wp_block<|wp_loop (fun a' W=>∃ (D:List It) (C:List It) (U:Option Addr) (O:Nat) (B1:Option Addr) (M:Nat) (ps:List (Option It × Option It)),Sl 68 [(0,(vl U D.length O)),(1,(vl B1 C.length M)),(2,(.func (.func 56) #[] #[])),(3,(.func (.func 56) #[] #[])),(4,(.func (.func f) first cap))] a'∧ps++mrg It.name It.name D C=mrg It.name It.name a0 b0∧((∀ z∈D,z∈a0))∧((∀ z∈C,z∈b0))∧True∧RLs RIt 2 S W (vl U D.length O) D∧RLs RIt 2 S W (vl B1 C.length M) C∧J ps W∧FarX S w W) (fun a' _=>sliceLen (a'.eval (.tmp 0))+sliceLen (a'.eval (.tmp 1))) ⟨a0,b0,A,c,B,d,[],(((((hF.nil.cons (q_get hF (t:=4) rfl rfl)).cons (q_get hF (t:=3) rfl rfl)).cons (q_get hF (t:=2) rfl rfl)).cons (q_get hF (t:=1) rfl (by first | rfl | (simp only [List.length_drop])))).cons (q_get hF (t:=0) rfl (by first | rfl | (simp only [List.length_drop])))),(List.nil_append _),(fun _ h=>h),(fun _ h=>h),trivial,h1,h2,hj,(FarX.refl w)⟩ ?_
 rintro D w2 ⟨D,C,U,O,B1,M,ps,F3,aq,ay,az,aD,Y,Z,aw,ax⟩
 have au:=F3
 obtain ⟨-,aD,aD⟩:=RLs.at Y
 obtain ⟨-,aD,aD⟩:=RLs.at Z
 refine wp_meet (fun a' W=>Sl 68 [(0,(vl U D.length O)),(1,(vl B1 C.length M)),(2,(.func (.func 56) #[] #[])),(3,(.func (.func 56) #[] #[])),(4,(.func (.func f) first cap))] a'∧Ext w2 W∧(0<D.length∨0<C.length)) ?_ ?_
 ·refine wr fun G I=>F3.xm rfl<|Xv (vi D.length)<|Xv (vd ((0:Int)<(D.length:Int)))<|Xm rfl fun _ G=>?_
  by_cases V:(0:Int)<(D.length:Int)
  ·exact G.xu<|Xu<|Xu<|Xv (.bool true) fun _ D=>wn I<|have C:=D.k [0,1,2,3,4,20];C.ct<|wp_skip<|⟨C.j,(Ext.refl w2),(by omega)⟩
  refine G.xg (vl B1 C.length M)<|Xg (vi C.length)<|Xg (vd ((0:Int)<(C.length:Int)))<|Xv (vd ((0:Int)<(C.length:Int))) fun _ V=>wn I ?_
  have G:=V.k [0,1,2,3,4,20]
  by_cases I:(0:Int)<(C.length:Int)
  ·exact G.ct<|wp_skip<|⟨G.j,(Ext.refl w2),(by omega)⟩
  refine G.cf<|wp_exit<|exit_then<|exit_then<|exit_here<|ret0 G rfl ?_
  have he:=aq;rw [mrg_nil (a:=D) (b:=C) (by omega) (by omega),List.append_nil] at he;subst he
  exact ⟨rfl,hJ _ _ _ aw (Ext.refl w2),FarX.ext ax (Ext.refl w2)⟩
 ·rintro aD ar ⟨aD,ah,hne1⟩
  have aI:=ah.size
  refine wp_block<|wr fun aI aI=>aD.xv (vi 0) fun _ aD=>wn aI ?_
  refine wp_meet (fun a' W=>∃ (nn:Int) (ii:Nat) (kk:Nat),Sl 68 [(0,(vl U D.length O)),(1,(vl B1 C.length M)),(2,(.func (.func 56) #[] #[])),(3,(.func (.func 56) #[] #[])),(4,(.func (.func f) first cap)),(10,(vi nn))] a'∧Ext ar W∧(nn=-1∧ii=1∧kk=0∨nn=1∧ii=0∧kk=1∨nn=0∧ii=1∧kk=1)∧(ii≤D.length∧kk≤C.length)∧mrg It.name It.name D C=((D.take ii).head?,(C.take kk).head?)::mrg It.name It.name (D.drop ii) (C.drop kk)) ?_ ?_
  ·refine wp_block<|wr fun aI aI=>aD.xm rfl<|Xv (vi C.length)<|Xv (vd ((C.length:Int)=(0:Int)))<|Xa rfl fun _ ai=>wn aI ?_
   by_cases aD:(C.length:Int)=(0:Int)
   ·refine ai.ct<|wp_region_lit<|ai.xv (vi (-1)) fun _ G=>wpList_nil ?_
    have I:=RLs.ext rIt Y ah
    obtain ⟨ac,ac,ac,ac,ac,aa,ac,ac,ab⟩:=RLs.get I (by omega:0<D.length)
    obtain ⟨I,I,rfl,V⟩:=ab
    have I:=(Fl.cel V).2.1
    exact ⟨(-1),1,0,G.j,(Ext.refl ar),(by omega),(by omega),(mrg_l0 (na:=It.name) (nb:=It.name) (a:=D) (b:=C) aa (by omega))⟩
   refine ai.cf<|wr fun aD aD=>ai.xm rfl<|Xv (vi D.length)<|Xv (vd ((D.length:Int)=(0:Int)))<|Xa rfl fun _ ai=>wn aD ?_
   have ab:=ai.k [0,1,2,3,4,10,32,36]
   by_cases ai:(D.length:Int)=(0:Int)
   ·refine ab.ct<|wp_region_lit<|ab.xv (vi 1) fun _ G=>wpList_nil ?_
    have I:=RLs.ext rIt Z ah
    obtain ⟨ae,ae,ae,ae,ae,aa,ae,ae,ac⟩:=RLs.get I (by omega:0<C.length)
    obtain ⟨I,I,rfl,V⟩:=ac
    have I:=(Fl.cel V).2.1
    exact ⟨(1),0,1,G.j,(Ext.refl ar),(by omega),(by omega),(mrg_0r (na:=It.name) (nb:=It.name) (a:=D) (b:=C) aa (by omega))⟩
   refine ab.cf ?_
   have ai:=RLs.ext rIt Y ah
   obtain ⟨ar,ar,G,ar,ar,ac,ar,ar,aR⟩:=RLs.get ai (by omega:0<D.length)
   obtain ⟨ai,ai,rfl,aL⟩:=aR
   have ai:=(Fl.cel aL).2.1
   have ai:=RLs.ext rIt Z ah
   obtain ⟨ah,ah,I,ah,ah,ae,ah,ah,aS⟩:=RLs.get ai (by omega:0<C.length)
   obtain ⟨ah,ah,rfl,aM⟩:=aS
   have ah:=(Fl.cel aM).2.1
   rcases Bool.eq_false_or_eq_true (ltS G.name I.name) with V | V
   ·refine sX (fun aa W=>Ext aa W) (fun i=>false) 12 fun aa av ah=>ab.ym 0 rfl<|Ym 1 rfl fun _ aA=>?_
    have ah:=RLs.ux rIt Y av
    obtain ⟨aC,aU,aW,ai,aF,aO,ai,aH,aQ⟩:=RLs.get ah (by omega:0<D.length)
    obtain rfl:G=aW:=Option.some.inj (ac.symm.trans aO)
    obtain ⟨ag,ak,rfl,aK⟩:=aQ
    have ah:=(Fl.cel aK).2.1
    refine aA.yw 2 (vq aC (aU+0*2)) rfl (fun F W=>rn_indexE uu26 inf61 ((F.get rfl).trans (by rw [aF])) rfl (by omega:(0:Int)≤0) (by omega:(0:Int)<(D.length:Int)) (by omega)) fun _ ah=>have am:Ex aa aa:=Ext.refl aa;ah.ys 3 (.agg #[(strOf G.name),(vl ag G.data.length ak)]) rfl am (fun F W hW=>rn_loadN (cs:=[(strOf G.name),(vl ag G.data.length ak)]) (F.get rfl) uu61 rfl inf61 (fun j u hu=>Ext.keep ((Ext.refl aa).trans hW) (aH j u hu)))<|Ym 5 rfl<|Ym 6 rfl fun _ aB=>?_
    have ah:=RLs.ux rIt Z av
    obtain ⟨aE,aV,aX,ai,aG,aP,ai,aJ,aT⟩:=RLs.get ah (by omega:0<C.length)
    obtain rfl:I=aX:=Option.some.inj (ae.symm.trans aP)
    obtain ⟨aj,al,rfl,aN⟩:=aT
    have M:=(Fl.cel aN).2.1
    refine aB.yw 7 (vq aE (aV+0*2)) rfl (fun F W=>rn_indexE uu26 inf61 ((F.get rfl).trans (by rw [aG])) rfl (by omega:(0:Int)≤0) (by omega:(0:Int)<(C.length:Int)) (by omega))<|Ys 8 (.agg #[(strOf I.name),(vl aj I.data.length al)]) rfl am (fun F W hW=>rn_loadN (cs:=[(strOf I.name),(vl aj I.data.length al)]) (F.get rfl) uu61 rfl inf61 (fun j u hu=>Ext.keep ((Ext.refl aa).trans hW) (aJ j u hu))) fun _ M=>ao 4 rfl<|M.oE (c:=itemName_any G.name (vl ag G.data.length ak) _) (k:=fun M M M _ M=>?_)
    refine ⟨fun _ _=>eX,?_⟩
    refine ao 9 rfl<|M.oE (c:=itemName_any I.name (vl aj I.data.length al) _) (k:=fun M M M _ M=>?_)
    refine ⟨fun _ _=>eX,?_⟩
    refine ao 10 rfl<|M.oe (cmps_lt G.name I.name _ V) fun G G G _ G=>?_
    refine ⟨fun _ _=>eX,?_⟩
    exact G.yv 11 (vi (-1)) rfl fun _ G=>nN<|⟨(-1),1,0,G.j,eX,(by omega),(by omega),(mrg_lt (na:=It.name) (nb:=It.name) (a:=D) (b:=C) ac ae V)⟩
   rcases Bool.eq_false_or_eq_true (ltS I.name G.name) with ag | ag
   ·refine sX (fun aa W=>Ext aa W) (fun i=>false) 12 fun aa aA ah=>ab.ym 0 rfl<|Ym 1 rfl fun _ aB=>?_
    have ah:=RLs.ux rIt Y aA
    obtain ⟨aE,aV,aX,ai,aG,aP,ai,aJ,aT⟩:=RLs.get ah (by omega:0<D.length)
    obtain rfl:G=aX:=Option.some.inj (ac.symm.trans aP)
    obtain ⟨aj,al,rfl,aN⟩:=aT
    have ah:=(Fl.cel aN).2.1
    refine aB.yw 2 (vq aE (aV+0*2)) rfl (fun F W=>rn_indexE uu26 inf61 ((F.get rfl).trans (by rw [aG])) rfl (by omega:(0:Int)≤0) (by omega:(0:Int)<(D.length:Int)) (by omega)) fun _ ah=>have av:Ex aa aa:=Ext.refl aa;ah.ys 3 (.agg #[(strOf G.name),(vl aj G.data.length al)]) rfl av (fun F W hW=>rn_loadN (cs:=[(strOf G.name),(vl aj G.data.length al)]) (F.get rfl) uu61 rfl inf61 (fun j u hu=>Ext.keep ((Ext.refl aa).trans hW) (aJ j u hu)))<|Ym 5 rfl<|Ym 6 rfl fun _ aC=>?_
    have ah:=RLs.ux rIt Z aA
    obtain ⟨aF,aW,aY,ai,aH,aQ,ai,aK,aU⟩:=RLs.get ah (by omega:0<C.length)
    obtain rfl:I=aY:=Option.some.inj (ae.symm.trans aQ)
    obtain ⟨ak,am,rfl,aO⟩:=aU
    have M:=(Fl.cel aO).2.1
    refine aC.yw 7 (vq aF (aW+0*2)) rfl (fun F W=>rn_indexE uu26 inf61 ((F.get rfl).trans (by rw [aH])) rfl (by omega:(0:Int)≤0) (by omega:(0:Int)<(C.length:Int)) (by omega))<|Ys 8 (.agg #[(strOf I.name),(vl ak I.data.length am)]) rfl av (fun F W hW=>rn_loadN (cs:=[(strOf I.name),(vl ak I.data.length am)]) (F.get rfl) uu61 rfl inf61 (fun j u hu=>Ext.keep ((Ext.refl aa).trans hW) (aK j u hu))) fun _ M=>ao 4 rfl<|M.oE (c:=itemName_any G.name (vl aj G.data.length al) _) (k:=fun M M M _ M=>?_)
    refine ⟨fun _ _=>eX,?_⟩
    refine ao 9 rfl<|M.oE (c:=itemName_any I.name (vl ak I.data.length am) _) (k:=fun M M M _ M=>?_)
    refine ⟨fun _ _=>eX,?_⟩
    refine ao 10 rfl<|M.oe (cmps_gt G.name I.name _ V ag) fun G G G _ G=>?_
    refine ⟨fun _ _=>eX,?_⟩
    exact G.yv 11 (vi 1) rfl fun _ G=>nN<|⟨(1),0,1,G.j,eX,(by omega),(by omega),(mrg_gt (na:=It.name) (nb:=It.name) (a:=D) (b:=C) ac ae V ag)⟩
   refine sX (fun aa W=>Ext aa W) (fun i=>false) 12 fun aa aA ah=>ab.ym 0 rfl<|Ym 1 rfl fun _ aB=>?_
   have ab:=RLs.ux rIt Y aA
   obtain ⟨aE,aV,aX,ah,aG,aP,ah,aJ,aT⟩:=RLs.get ab (by omega:0<D.length)
   obtain rfl:G=aX:=Option.some.inj (ac.symm.trans aP)
   obtain ⟨aj,al,rfl,aN⟩:=aT
   have ab:=(Fl.cel aN).2.1
   refine aB.yw 2 (vq aE (aV+0*2)) rfl (fun F W=>rn_indexE uu26 inf61 ((F.get rfl).trans (by rw [aG])) rfl (by omega:(0:Int)≤0) (by omega:(0:Int)<(D.length:Int)) (by omega)) fun _ ab=>have av:Ex aa aa:=Ext.refl aa;ab.ys 3 (.agg #[(strOf G.name),(vl aj G.data.length al)]) rfl av (fun F W hW=>rn_loadN (cs:=[(strOf G.name),(vl aj G.data.length al)]) (F.get rfl) uu61 rfl inf61 (fun j u hu=>Ext.keep ((Ext.refl aa).trans hW) (aJ j u hu)))<|Ym 5 rfl<|Ym 6 rfl fun _ aC=>?_
   have ab:=RLs.ux rIt Z aA
   obtain ⟨aF,aW,aY,ah,aH,aQ,ah,aK,aU⟩:=RLs.get ab (by omega:0<C.length)
   obtain rfl:I=aY:=Option.some.inj (ae.symm.trans aQ)
   obtain ⟨ak,am,rfl,aO⟩:=aU
   have M:=(Fl.cel aO).2.1
   refine aC.yw 7 (vq aF (aW+0*2)) rfl (fun F W=>rn_indexE uu26 inf61 ((F.get rfl).trans (by rw [aH])) rfl (by omega:(0:Int)≤0) (by omega:(0:Int)<(C.length:Int)) (by omega))<|Ys 8 (.agg #[(strOf I.name),(vl ak I.data.length am)]) rfl av (fun F W hW=>rn_loadN (cs:=[(strOf I.name),(vl ak I.data.length am)]) (F.get rfl) uu61 rfl inf61 (fun j u hu=>Ext.keep ((Ext.refl aa).trans hW) (aK j u hu))) fun _ M=>ao 4 rfl<|M.oE (c:=itemName_any G.name (vl aj G.data.length al) _) (k:=fun M M M _ M=>?_)
   refine ⟨fun _ _=>eX,?_⟩
   refine ao 9 rfl<|M.oE (c:=itemName_any I.name (vl ak I.data.length am) _) (k:=fun M M M _ M=>?_)
   refine ⟨fun _ _=>eX,?_⟩
   refine ao 10 rfl<|M.oe (cmps_eq G.name I.name _ V ag) fun G G G _ G=>?_
   refine ⟨fun _ _=>eX,?_⟩
   exact G.yv 11 (vi 0) rfl fun _ G=>nN<|⟨(0),1,1,G.j,eX,(by omega),(by omega),(mrg_eq (na:=It.name) (nb:=It.name) (a:=D) (b:=C) ac ae V ag)⟩
  ·rintro G G ⟨nn,ii,kk,G,I,hnn,hik,hlem⟩
   have aa:=I.size
   refine wr fun I I=>G.xm rfl<|Xv (vi D.length)<|Xm rfl<|Xv (vi (1 - (ii:Nat):Int))<|Xv (vi ii)<|Xv (vi ii)<|Xv (vi ii)<|Xm rfl<|Xv (vi C.length)<|Xm rfl<|Xv (vi ((kk:Nat) - 1:Int))<|Xv (vi kk)<|Xv (vi kk)<|Xv (vi kk)<|Xa rfl<|Xa rfl fun _ G=>wn I<|have aa:=G.k [0,1,2,3,4,10,11,12];wp_seq_k fun G ac=>sX (fun G W=>True) (fun i=>false) 8 fun G I G=>aa.ym 0 rfl<|Ym 1 rfl<|Ym 2 rfl<|Yw 3 (vl U ii O) rfl (fun F W=>rn_sliceHi uu26 inf61 (F.get rfl) (F.get rfl) (zl _) (ie (by omega:ii≤O)))<|Ym 4 rfl<|Ym 5 rfl<|Yw 6 (vl B1 kk M) rfl (fun F W=>rn_sliceHi uu26 inf61 (F.get rfl) (F.get rfl) (zl _) (ie (by omega:kk≤M))) fun _ G=>ao 7 rfl<|have aa:=(RLs.ux rIt Y I);have Y:=(RLs.ux rIt Z I);have ab:=hlem;have Z:=hJ _ _ _ aw (.trans eX I);have ae:=(FarX.ext ax (.trans eX I));have I:=(RLs.take aa (by omega:ii≤D.length));have ag:=(RLs.take Y (by omega:kk≤C.length));have ai:=RLs.norm aa;have aj:=RLs.norm Y;o_call G rfl rfl rfl rfl (rn_callvc (G.get rfl) (argsw_2 harg (G.get rfl) (G.get rfl)) (hen _ _)) (hp ps _ _ (D.take ii) (C.take kk) _ Z I ag (by rw [List.length_take];omega) (by rw [List.length_take];omega) (fun q=>by have q1:=congrArg List.length q.1;have q2:=congrArg List.length q.2;simp only [List.length_take,List.length_nil] at q1 q2;omega) (sub_take az _) (sub_take ay _) (mrg_room aq ab hN)) ?_
   rintro _ G ⟨rfl,ak,V⟩
   refine ⟨_,rfl,?_⟩;intro G G
   have Z:=FarX.trans ae V
   have Y:=RLs.pres rIt ai V.1
   have aa:=RLs.pres rIt aj V.1
   refine ⟨fun _ _=>trivial,?_⟩
   refine nK ac<|have V:=G.k [0,1,2,3,4,10,11,12];sX (fun G W=>Ext G W) (fun i=>false) 8 fun G I G=>V.ym 0 rfl<|Ym 1 rfl<|Yw 2 (vl (cutA U O ii 2) (D.length - ii) (O - ii)) rfl (fun F W=>rn_cutLo (l:=ii) uu26 inf61 (F.get rfl) (F.get rfl) (by omega))<|Ym 3 rfl<|Ym 4 rfl<|Yw 5 (vl (cutA B1 M kk 2) (C.length - kk) (M - kk)) rfl (fun F W=>rn_cutLo (l:=kk) uu26 inf61 (F.get rfl) (F.get rfl) (by omega))<|Yv 6 (vl (cutA U O ii 2) (D.length - ii) (O - ii)) rfl<|Yv 7 (vl (cutA B1 M kk 2) (C.length - kk) (M - kk)) rfl fun _ G=>nN ?_
   have V:=RLs.ext rIt Y I
   have Y:=RLs.ext rIt aa I
   refine ⟨⟨(D.drop ii),(C.drop kk),(cutA U O ii 2),O - ii,(cutA B1 M kk 2),M - kk,(ps++[((D.take ii).head?,(C.take kk).head?)]),G.j,(by rw [List.append_assoc];exact (congrArg (fun z=>ps++z) ab.symm).trans aq),(sub_drop ay _),(sub_drop az _),trivial,(RLs.norm (RLs.cut V (by omega:ii≤D.length))),(RLs.norm (RLs.cut Y (by omega:kk≤C.length))),(hJ _ _ _ ak eX),(FarX.ext Z eX)⟩,?_⟩
   rw [G.get (t:=0) rfl,G.get (t:=1) rfl,au.get (t:=0) rfl,au.get (t:=1) rfl];simp only [sliceLen];omega
theorem mergeCg_any (A:Option Addr) (c:Nat) (a0:List It) (B:Option Addr) (d:Nat) (b0:List Cg) (f:FuncId) (first cap:Array Value) (hen:∀ (vs:Array Value) (W:World),(callFunc f vs).run Tryz.prog W=.ok (.enter f vs) W) (arg:Value→Value→Array Value) (harg:∀ u v,(first++#[u,v])++cap=arg u v)
  (J:List (Option It × Option Cg)→World→Prop) (hJ:∀ ps W W',J ps W→Ext W W'→J ps W') (N:Nat)
  (hp:∀ (ps:List (Option It × Option Cg)) (u v:Value) (x:List It) (y:List Cg) (W:World),J ps W→RLs RIt 2 S W u x→RLs RCg 3 S W v y→x.length≤1→y.length≤1→¬ (x=[]∧y=[])→(∀ z∈y,z∈b0)→(∀ z∈x,z∈a0)→ps.length<N→Calls Tryz.prog f (arg u v) W (fun e W'=>e=.returned (.tuple #[])∧J (ps++[(x.head?,y.head?)]) W'∧FarX S W W'))
  (w:World) (h1:RLs RIt 2 S w (vl A a0.length c) a0) (h2:RLs RCg 3 S w (vl B b0.length d) b0) (hN:(mrg It.name Cg.name a0 b0).length≤N) (hj:J [] w) :
  Calls Tryz.prog 113 #[.slice A a0.length c,.slice B b0.length d,.func (.func 56) #[] #[],.func (.func 111) #[] #[],.func (.func f) first cap] w (fun e w'=>e=.returned (.tuple #[])∧J (mrg It.name Cg.name a0 b0) w'∧FarX S w w'):=by
 obtain ⟨-,aD,aD⟩:=RLs.at h1;obtain ⟨-,aD,aD⟩:=RLs.at h2
 refine calls_enter Tryz.func113 rfl rfl rfl fun _ hF=>wp_block<|wp_loop (fun a' W=>∃ (D:List It) (C:List Cg) (U:Option Addr) (O:Nat) (B1:Option Addr) (M:Nat) (ps:List (Option It × Option Cg)),Sl 68 [(0,(vl U D.length O)),(1,(vl B1 C.length M)),(2,(.func (.func 56) #[] #[])),(3,(.func (.func 111) #[] #[])),(4,(.func (.func f) first cap))] a'∧ps++mrg It.name Cg.name D C=mrg It.name Cg.name a0 b0∧((∀ z∈D,z∈a0))∧((∀ z∈C,z∈b0))∧True∧RLs RIt 2 S W (vl U D.length O) D∧RLs RCg 3 S W (vl B1 C.length M) C∧J ps W∧FarX S w W) (fun a' _=>sliceLen (a'.eval (.tmp 0))+sliceLen (a'.eval (.tmp 1))) ⟨a0,b0,A,c,B,d,[],(((((hF.nil.cons (q_get hF (t:=4) rfl rfl)).cons (q_get hF (t:=3) rfl rfl)).cons (q_get hF (t:=2) rfl rfl)).cons (q_get hF (t:=1) rfl (by first | rfl | (simp only [List.length_drop])))).cons (q_get hF (t:=0) rfl (by first | rfl | (simp only [List.length_drop])))),(List.nil_append _),(fun _ h=>h),(fun _ h=>h),trivial,h1,h2,hj,(FarX.refl w)⟩ ?_
 rintro D w2 ⟨D,C,U,O,B1,M,ps,F3,aq,ay,az,aD,Y,Z,aw,ax⟩
 have au:=F3
 obtain ⟨-,aD,aD⟩:=RLs.at Y
 obtain ⟨-,aD,aD⟩:=RLs.at Z
 refine wp_meet (fun a' W=>Sl 68 [(0,(vl U D.length O)),(1,(vl B1 C.length M)),(2,(.func (.func 56) #[] #[])),(3,(.func (.func 111) #[] #[])),(4,(.func (.func f) first cap))] a'∧Ext w2 W∧(0<D.length∨0<C.length)) ?_ ?_
 ·refine wr fun G I=>F3.xm rfl<|Xv (vi D.length)<|Xv (vd ((0:Int)<(D.length:Int)))<|Xm rfl fun _ G=>?_
  by_cases V:(0:Int)<(D.length:Int)
  ·exact G.xu<|Xu<|Xu<|Xv (.bool true) fun _ D=>wn I<|have C:=D.k [0,1,2,3,4,20];C.ct<|wp_skip<|⟨C.j,(Ext.refl w2),(by omega)⟩
  refine G.xg (vl B1 C.length M)<|Xg (vi C.length)<|Xg (vd ((0:Int)<(C.length:Int)))<|Xv (vd ((0:Int)<(C.length:Int))) fun _ V=>wn I ?_
  have G:=V.k [0,1,2,3,4,20]
  by_cases I:(0:Int)<(C.length:Int)
  ·exact G.ct<|wp_skip<|⟨G.j,(Ext.refl w2),(by omega)⟩
  refine G.cf<|wp_exit<|exit_then<|exit_then<|exit_here<|ret0 G rfl ?_
  have he:=aq;rw [mrg_nil (a:=D) (b:=C) (by omega) (by omega),List.append_nil] at he;subst he
  exact ⟨rfl,hJ _ _ _ aw (Ext.refl w2),FarX.ext ax (Ext.refl w2)⟩
 ·rintro aD ar ⟨aD,ah,hne1⟩
  have aI:=ah.size
  refine wp_block<|wr fun aI aI=>aD.xv (vi 0) fun _ aD=>wn aI ?_
  refine wp_meet (fun a' W=>∃ (nn:Int) (ii:Nat) (kk:Nat),Sl 68 [(0,(vl U D.length O)),(1,(vl B1 C.length M)),(2,(.func (.func 56) #[] #[])),(3,(.func (.func 111) #[] #[])),(4,(.func (.func f) first cap)),(10,(vi nn))] a'∧Ext ar W∧(nn=-1∧ii=1∧kk=0∨nn=1∧ii=0∧kk=1∨nn=0∧ii=1∧kk=1)∧(ii≤D.length∧kk≤C.length)∧mrg It.name Cg.name D C=((D.take ii).head?,(C.take kk).head?)::mrg It.name Cg.name (D.drop ii) (C.drop kk)) ?_ ?_
  ·refine wp_block<|wr fun aI aI=>aD.xm rfl<|Xv (vi C.length)<|Xv (vd ((C.length:Int)=(0:Int)))<|Xa rfl fun _ ai=>wn aI ?_
   by_cases aD:(C.length:Int)=(0:Int)
   ·refine ai.ct<|wp_region_lit<|ai.xv (vi (-1)) fun _ G=>wpList_nil ?_
    have I:=RLs.ext rIt Y ah
    obtain ⟨ac,ac,ac,ac,ac,aa,ac,ac,ab⟩:=RLs.get I (by omega:0<D.length)
    obtain ⟨I,I,rfl,V⟩:=ab
    have I:=(Fl.cel V).2.1
    exact ⟨(-1),1,0,G.j,(Ext.refl ar),(by omega),(by omega),(mrg_l0 (na:=It.name) (nb:=Cg.name) (a:=D) (b:=C) aa (by omega))⟩
   refine ai.cf<|wr fun aD aD=>ai.xm rfl<|Xv (vi D.length)<|Xv (vd ((D.length:Int)=(0:Int)))<|Xa rfl fun _ ai=>wn aD ?_
   have ab:=ai.k [0,1,2,3,4,10,32,36]
   by_cases ai:(D.length:Int)=(0:Int)
   ·refine ab.ct<|wp_region_lit<|ab.xv (vi 1) fun _ G=>wpList_nil ?_
    have I:=RLs.ext rCg Z ah
    obtain ⟨ae,ae,ae,ae,ae,aa,ae,ae,ac⟩:=RLs.get I (by omega:0<C.length)
    obtain ⟨I,I,rfl,V⟩:=ac
    have I:=(Fl.cel V).2.1
    exact ⟨(1),0,1,G.j,(Ext.refl ar),(by omega),(by omega),(mrg_0r (na:=It.name) (nb:=Cg.name) (a:=D) (b:=C) aa (by omega))⟩
   refine ab.cf ?_
   have ai:=RLs.ext rIt Y ah
   obtain ⟨ar,ar,I,ar,ar,ac,ar,ar,aR⟩:=RLs.get ai (by omega:0<D.length)
   obtain ⟨ai,ai,rfl,aL⟩:=aR
   have ai:=(Fl.cel aL).2.1
   have ai:=RLs.ext rCg Z ah
   obtain ⟨ah,ah,G,ah,ah,ae,ah,ah,aS⟩:=RLs.get ai (by omega:0<C.length)
   obtain ⟨ah,ah,rfl,aM⟩:=aS
   have ah:=(Fl.cel aM).2.1
   rcases Bool.eq_false_or_eq_true (ltS I.name G.name) with V | V
   ·refine sX (fun aa W=>Ext aa W) (fun i=>false) 12 fun aa av ah=>ab.ym 0 rfl<|Ym 1 rfl fun _ aA=>?_
    have ah:=RLs.ux rIt Y av
    obtain ⟨aC,aU,aW,ai,aF,aO,ai,aH,aQ⟩:=RLs.get ah (by omega:0<D.length)
    obtain rfl:I=aW:=Option.some.inj (ac.symm.trans aO)
    obtain ⟨ag,ak,rfl,aK⟩:=aQ
    have ah:=(Fl.cel aK).2.1
    refine aA.yw 2 (vq aC (aU+0*2)) rfl (fun F W=>rn_indexE uu26 inf61 ((F.get rfl).trans (by rw [aF])) rfl (by omega:(0:Int)≤0) (by omega:(0:Int)<(D.length:Int)) (by omega)) fun _ ah=>have am:Ex aa aa:=Ext.refl aa;ah.ys 3 (.agg #[(strOf I.name),(vl ag I.data.length ak)]) rfl am (fun F W hW=>rn_loadN (cs:=[(strOf I.name),(vl ag I.data.length ak)]) (F.get rfl) uu61 rfl inf61 (fun j u hu=>Ext.keep ((Ext.refl aa).trans hW) (aH j u hu)))<|Ym 5 rfl<|Ym 6 rfl fun _ aB=>?_
    have ah:=RLs.ux rCg Z av
    obtain ⟨aE,aV,aX,ai,aG,aP,ai,aJ,aT⟩:=RLs.get ah (by omega:0<C.length)
    obtain rfl:G=aX:=Option.some.inj (ae.symm.trans aP)
    obtain ⟨aj,al,rfl,aN⟩:=aT
    have M:=(Fl.cel aN).2.1
    refine aB.yw 7 (vq aE (aV+0*3)) rfl (fun F W=>rn_indexE uu27 inf66 ((F.get rfl).trans (by rw [aG])) rfl (by omega:(0:Int)≤0) (by omega:(0:Int)<(C.length:Int)) (by omega))<|Ys 8 (.agg #[(strOf G.name),(vl aj G.data.length al),(.bool G.gone)]) rfl am (fun F W hW=>rn_loadN (cs:=[(strOf G.name),(vl aj G.data.length al),(.bool G.gone)]) (F.get rfl) uu66 rfl inf66 (fun j u hu=>Ext.keep ((Ext.refl aa).trans hW) (aJ j u hu))) fun _ M=>ao 4 rfl<|M.oE (c:=itemName_any I.name (vl ag I.data.length ak) _) (k:=fun M M M _ M=>?_)
    refine ⟨fun _ _=>eX,?_⟩
    refine ao 9 rfl<|M.oE (c:=changeName_any G.name (vl aj G.data.length al) (.bool G.gone) _) (k:=fun M M M _ M=>?_)
    refine ⟨fun _ _=>eX,?_⟩
    refine ao 10 rfl<|M.oe (cmps_lt I.name G.name _ V) fun G G G _ G=>?_
    refine ⟨fun _ _=>eX,?_⟩
    exact G.yv 11 (vi (-1)) rfl fun _ G=>nN<|⟨(-1),1,0,G.j,eX,(by omega),(by omega),(mrg_lt (na:=It.name) (nb:=Cg.name) (a:=D) (b:=C) ac ae V)⟩
   rcases Bool.eq_false_or_eq_true (ltS G.name I.name) with ag | ag
   ·refine sX (fun aa W=>Ext aa W) (fun i=>false) 12 fun aa aA ah=>ab.ym 0 rfl<|Ym 1 rfl fun _ aB=>?_
    have ah:=RLs.ux rIt Y aA
    obtain ⟨aE,aV,aX,ai,aG,aP,ai,aJ,aT⟩:=RLs.get ah (by omega:0<D.length)
    obtain rfl:I=aX:=Option.some.inj (ac.symm.trans aP)
    obtain ⟨aj,al,rfl,aN⟩:=aT
    have ah:=(Fl.cel aN).2.1
    refine aB.yw 2 (vq aE (aV+0*2)) rfl (fun F W=>rn_indexE uu26 inf61 ((F.get rfl).trans (by rw [aG])) rfl (by omega:(0:Int)≤0) (by omega:(0:Int)<(D.length:Int)) (by omega)) fun _ ah=>have av:Ex aa aa:=Ext.refl aa;ah.ys 3 (.agg #[(strOf I.name),(vl aj I.data.length al)]) rfl av (fun F W hW=>rn_loadN (cs:=[(strOf I.name),(vl aj I.data.length al)]) (F.get rfl) uu61 rfl inf61 (fun j u hu=>Ext.keep ((Ext.refl aa).trans hW) (aJ j u hu)))<|Ym 5 rfl<|Ym 6 rfl fun _ aC=>?_
    have ah:=RLs.ux rCg Z aA
    obtain ⟨aF,aW,aY,ai,aH,aQ,ai,aK,aU⟩:=RLs.get ah (by omega:0<C.length)
    obtain rfl:G=aY:=Option.some.inj (ae.symm.trans aQ)
    obtain ⟨ak,am,rfl,aO⟩:=aU
    have M:=(Fl.cel aO).2.1
    refine aC.yw 7 (vq aF (aW+0*3)) rfl (fun F W=>rn_indexE uu27 inf66 ((F.get rfl).trans (by rw [aH])) rfl (by omega:(0:Int)≤0) (by omega:(0:Int)<(C.length:Int)) (by omega))<|Ys 8 (.agg #[(strOf G.name),(vl ak G.data.length am),(.bool G.gone)]) rfl av (fun F W hW=>rn_loadN (cs:=[(strOf G.name),(vl ak G.data.length am),(.bool G.gone)]) (F.get rfl) uu66 rfl inf66 (fun j u hu=>Ext.keep ((Ext.refl aa).trans hW) (aK j u hu))) fun _ M=>ao 4 rfl<|M.oE (c:=itemName_any I.name (vl aj I.data.length al) _) (k:=fun M M M _ M=>?_)
    refine ⟨fun _ _=>eX,?_⟩
    refine ao 9 rfl<|M.oE (c:=changeName_any G.name (vl ak G.data.length am) (.bool G.gone) _) (k:=fun M M M _ M=>?_)
    refine ⟨fun _ _=>eX,?_⟩
    refine ao 10 rfl<|M.oe (cmps_gt I.name G.name _ V ag) fun G G G _ G=>?_
    refine ⟨fun _ _=>eX,?_⟩
    exact G.yv 11 (vi 1) rfl fun _ G=>nN<|⟨(1),0,1,G.j,eX,(by omega),(by omega),(mrg_gt (na:=It.name) (nb:=Cg.name) (a:=D) (b:=C) ac ae V ag)⟩
   refine sX (fun aa W=>Ext aa W) (fun i=>false) 12 fun aa aA ah=>ab.ym 0 rfl<|Ym 1 rfl fun _ aB=>?_
   have ab:=RLs.ux rIt Y aA
   obtain ⟨aE,aV,aX,ah,aG,aP,ah,aJ,aT⟩:=RLs.get ab (by omega:0<D.length)
   obtain rfl:I=aX:=Option.some.inj (ac.symm.trans aP)
   obtain ⟨aj,al,rfl,aN⟩:=aT
   have ab:=(Fl.cel aN).2.1
   refine aB.yw 2 (vq aE (aV+0*2)) rfl (fun F W=>rn_indexE uu26 inf61 ((F.get rfl).trans (by rw [aG])) rfl (by omega:(0:Int)≤0) (by omega:(0:Int)<(D.length:Int)) (by omega)) fun _ ab=>have av:Ex aa aa:=Ext.refl aa;ab.ys 3 (.agg #[(strOf I.name),(vl aj I.data.length al)]) rfl av (fun F W hW=>rn_loadN (cs:=[(strOf I.name),(vl aj I.data.length al)]) (F.get rfl) uu61 rfl inf61 (fun j u hu=>Ext.keep ((Ext.refl aa).trans hW) (aJ j u hu)))<|Ym 5 rfl<|Ym 6 rfl fun _ aC=>?_
   have ab:=RLs.ux rCg Z aA
   obtain ⟨aF,aW,aY,ah,aH,aQ,ah,aK,aU⟩:=RLs.get ab (by omega:0<C.length)
   obtain rfl:G=aY:=Option.some.inj (ae.symm.trans aQ)
   obtain ⟨ak,am,rfl,aO⟩:=aU
   have M:=(Fl.cel aO).2.1
   refine aC.yw 7 (vq aF (aW+0*3)) rfl (fun F W=>rn_indexE uu27 inf66 ((F.get rfl).trans (by rw [aH])) rfl (by omega:(0:Int)≤0) (by omega:(0:Int)<(C.length:Int)) (by omega))<|Ys 8 (.agg #[(strOf G.name),(vl ak G.data.length am),(.bool G.gone)]) rfl av (fun F W hW=>rn_loadN (cs:=[(strOf G.name),(vl ak G.data.length am),(.bool G.gone)]) (F.get rfl) uu66 rfl inf66 (fun j u hu=>Ext.keep ((Ext.refl aa).trans hW) (aK j u hu))) fun _ M=>ao 4 rfl<|M.oE (c:=itemName_any I.name (vl aj I.data.length al) _) (k:=fun M M M _ M=>?_)
   refine ⟨fun _ _=>eX,?_⟩
   refine ao 9 rfl<|M.oE (c:=changeName_any G.name (vl ak G.data.length am) (.bool G.gone) _) (k:=fun M M M _ M=>?_)
   refine ⟨fun _ _=>eX,?_⟩
   refine ao 10 rfl<|M.oe (cmps_eq I.name G.name _ V ag) fun G G G _ G=>?_
   refine ⟨fun _ _=>eX,?_⟩
   exact G.yv 11 (vi 0) rfl fun _ G=>nN<|⟨(0),1,1,G.j,eX,(by omega),(by omega),(mrg_eq (na:=It.name) (nb:=Cg.name) (a:=D) (b:=C) ac ae V ag)⟩
  ·rintro G G ⟨nn,ii,kk,G,I,hnn,hik,hlem⟩
   have aa:=I.size
   refine wr fun I I=>G.xm rfl<|Xv (vi D.length)<|Xm rfl<|Xv (vi (1 - (ii:Nat):Int))<|Xv (vi ii)<|Xv (vi ii)<|Xv (vi ii)<|Xm rfl<|Xv (vi C.length)<|Xm rfl<|Xv (vi ((kk:Nat) - 1:Int))<|Xv (vi kk)<|Xv (vi kk)<|Xv (vi kk)<|Xa rfl<|Xa rfl fun _ G=>wn I<|have aa:=G.k [0,1,2,3,4,10,11,12];wp_seq_k fun G ac=>sX (fun G W=>True) (fun i=>false) 8 fun G I G=>aa.ym 0 rfl<|Ym 1 rfl<|Ym 2 rfl<|Yw 3 (vl U ii O) rfl (fun F W=>rn_sliceHi uu26 inf61 (F.get rfl) (F.get rfl) (zl _) (ie (by omega:ii≤O)))<|Ym 4 rfl<|Ym 5 rfl<|Yw 6 (vl B1 kk M) rfl (fun F W=>rn_sliceHi uu27 inf66 (F.get rfl) (F.get rfl) (zl _) (ie (by omega:kk≤M))) fun _ G=>ao 7 rfl<|have aa:=(RLs.ux rIt Y I);have Y:=(RLs.ux rCg Z I);have ab:=hlem;have Z:=hJ _ _ _ aw (.trans eX I);have ae:=(FarX.ext ax (.trans eX I));have I:=(RLs.take aa (by omega:ii≤D.length));have ag:=(RLs.take Y (by omega:kk≤C.length));have ai:=RLs.norm aa;have aj:=RLs.norm Y;o_call G rfl rfl rfl rfl (rn_callvc (G.get rfl) (argsw_2 harg (G.get rfl) (G.get rfl)) (hen _ _)) (hp ps _ _ (D.take ii) (C.take kk) _ Z I ag (by rw [List.length_take];omega) (by rw [List.length_take];omega) (fun q=>by have q1:=congrArg List.length q.1;have q2:=congrArg List.length q.2;simp only [List.length_take,List.length_nil] at q1 q2;omega) (sub_take az _) (sub_take ay _) (mrg_room aq ab hN)) ?_
   rintro _ G ⟨rfl,ak,V⟩
   refine ⟨_,rfl,?_⟩;intro G G
   have Z:=FarX.trans ae V
   have Y:=RLs.pres rIt ai V.1
   have aa:=RLs.pres rCg aj V.1
   refine ⟨fun _ _=>trivial,?_⟩
   refine nK ac<|have V:=G.k [0,1,2,3,4,10,11,12];sX (fun G W=>Ext G W) (fun i=>false) 8 fun G I G=>V.ym 0 rfl<|Ym 1 rfl<|Yw 2 (vl (cutA U O ii 2) (D.length - ii) (O - ii)) rfl (fun F W=>rn_cutLo (l:=ii) uu26 inf61 (F.get rfl) (F.get rfl) (by omega))<|Ym 3 rfl<|Ym 4 rfl<|Yw 5 (vl (cutA B1 M kk 3) (C.length - kk) (M - kk)) rfl (fun F W=>rn_cutLo (l:=kk) uu27 inf66 (F.get rfl) (F.get rfl) (by omega))<|Yv 6 (vl (cutA U O ii 2) (D.length - ii) (O - ii)) rfl<|Yv 7 (vl (cutA B1 M kk 3) (C.length - kk) (M - kk)) rfl fun _ G=>nN ?_
   have V:=RLs.ext rIt Y I
   have Y:=RLs.ext rCg aa I
   refine ⟨⟨(D.drop ii),(C.drop kk),(cutA U O ii 2),O - ii,(cutA B1 M kk 3),M - kk,(ps++[((D.take ii).head?,(C.take kk).head?)]),G.j,(by rw [List.append_assoc];exact (congrArg (fun z=>ps++z) ab.symm).trans aq),(sub_drop ay _),(sub_drop az _),trivial,(RLs.norm (RLs.cut V (by omega:ii≤D.length))),(RLs.norm (RLs.cut Y (by omega:kk≤C.length))),(hJ _ _ _ ak eX),(FarX.ext Z eX)⟩,?_⟩
   rw [G.get (t:=0) rfl,G.get (t:=1) rfl,au.get (t:=0) rfl,au.get (t:=1) rfl];simp only [sliceLen];omega
theorem El26:El Tryz.prog 26 61 (.agg #[(strOf ([])),v0]) 2 40:=⟨uu26,by kernel_rfl,rfl,by decide⟩
theorem El27:El Tryz.prog 27 66 (.agg #[(strOf ([])),v0,(.bool false)]) 3 48:=⟨uu27,by kernel_rfl,rfl,by decide⟩
theorem beq_any (A B:Option Addr) (c e:Nat) (a b:List UInt8) (w:World) (ha:Fl S w 1 (vl A a.length c) a.length (byteVals a)) (hb:Fl S w 1 (vl B b.length e) b.length (byteVals b)) :
  Calls Tryz.prog 58 #[.slice A a.length c,.slice B b.length e] w (fun e w'=>e=.returned (.bool (decide (a=b)))∧Ext w w'):=by
 have hca:Fl (Clip S w) w 1 (vl A a.length c) a.length (byteVals a):=ha.clip
 have hcac:=(Fl.cel hca).2.1
 have hcb:Fl (Clip S w) w 1 (vl B b.length e) b.length (byteVals b):=hb.clip
 have hcbc:=(Fl.cel hcb).2.1
 exact calls_enter Tryz.func58 rfl rfl rfl fun _ C=>wr fun D D=>C.xv (.bool false) fun _ C=>wn D<|wr fun D D=>C.xm rfl<|Xw (strOf a) (fun F=>rn_str (F.get rfl) (Fl.rbs hca) uu22 uu5 uu9)<|Xm rfl<|Xw (strOf b) (fun F=>rn_str (F.get rfl) (Fl.rbs hcb) uu22 uu5 uu9)<|Xw (vd (a=b)) (fun F=>rn_eqs (F.get rfl) (F.get rfl) rfl)<|Xa rfl fun _ C=>wn D<|have D:=C.k [0,1,4];wp_ret<|ret1 D rfl rfl<|⟨rfl,(Ext.refl w)⟩
theorem beq_at {m:Nat} (a b:List UInt8) (w:World) (ha:Fl S w 1 v n (byteVals a)) (hb:Fl S' w 1 u m (byteVals b)) :
  Calls Tryz.prog 58 #[v,u] w (fun e w'=>e=.returned (.bool (decide (a=b)))∧Ext w w'):=by
 have h1:=ha.blen
 have h2:=hb.blen
 subst h1 h2
 obtain ⟨A,c,rfl,_⟩:=ha.form
 obtain ⟨B,e,rfl,_⟩:=hb.form
 exact beq_any (S:=fun _=>True) A B c e a b w (ha.sub fun _ _=>trivial) (hb.sub fun _ _=>trivial)
theorem diff1_any (p base:Nat) (A0:Option Addr) (n0 c0:Nat) (xs:List Value) (acc:List Cg) (A:Option Addr) (c:Nat) (x:List It) (B:Option Addr) (d:Nat) (y:List It) (w:World) (hp:Blk w p 27 [.slice A0 n0 c0]) (hO:OwnL RCg 3 66 base w (vl A0 n0 c0) n0 xs acc) (hpb:p<base) (hbs:base≤w.heap.size) (hn:n0≤1000000) (hx:RLs RIt 2 S w (vl A x.length c) x) (hy:RLs RIt 2 S w (vl B y.length d) y) (hne:0<x.length∨0<y.length) (hdx:∀ z∈x,z.data.length≤4294967296) (hdy:∀ z∈y,z.data.length≤4294967296) :
  Calls Tryz.prog 57 #[.slice A x.length c,.slice B y.length d,.pointer (some ⟨p,0,none⟩)] w (fun e w'=>e=.returned (.tuple #[])∧(∃ A n c xs,Blk w' p 27 [.slice A n c]∧OwnL RCg 3 66 base w' (vl A n c) n xs (acc++dstep (x.head?,y.head?)))∧FarX (fun b=>b<base∧b≠p) w w'):=by
 obtain ⟨-,hxc,hxd⟩:=RLs.at hx;obtain ⟨-,hyc,hyd⟩:=RLs.at hy;have hpl:=hp.lt
 refine calls_enter Tryz.func57 rfl rfl rfl fun _ hF=>wp_block<|wr fun K1 aR=>hF.xm rfl<|Xv (vi y.length)<|Xv (vd ((y.length:Int)=(0:Int)))<|Xa rfl fun _ Y=>wn aR ?_
 by_cases aR:(y.length:Int)=(0:Int)
 ·refine Y.ct<|sX (fun D W=>Ext D W∧Blk W p 27 [(vl A0 n0 c0)]) (fun i=>i==8||i==9) 10 fun D J ah=>have O:=(hp.ext J);have V:Ext D D∧Blk D p 27 [(vl A0 n0 c0)]:=⟨(Ext.refl D),O⟩;Y.ys 0 (vl A0 n0 c0) rfl V (fun F W hW=>rl F rfl (hW.2.rule.1 0))<|Ym 1 rfl fun _ ab=>?_
  have ah:=RLs.ux rIt hx J
  obtain ⟨U,aa,C,am,ai,Z,am,aj,al⟩:=RLs.get ah (by omega:0<x.length)
  obtain ⟨ah,ah,rfl,ak⟩:=al
  have ah:=(Fl.cel ak).2.1
  have ah:=hdx C (List.mem_of_getElem? Z)
  refine ab.yw 2 (vq U (aa+0*2)) rfl (fun F W=>rn_indexE uu26 inf61 ((F.get rfl).trans (by rw [ai])) rfl (by omega:(0:Int)≤0) (by omega:(0:Int)<(x.length:Int)) (by omega))<|Yv 3 (vq U (aa+0*2)) rfl fun _ G=>anyt_val (i:=4) (v:=(strOf C.name)) [5,6,7,8,9] G (fun j hj=>by simp at hj;first | (subst hj;decide) | (rcases hj with rfl | rfl <;> decide)) (by decide +kernel) (by decide +kernel) rfl rfl rfl rfl (fun _ _ _ _ h=>h) rfl V (fun W hW=>(rl G rfl ((fun j u hu=>Ext.keep ((Ext.refl D).trans hW.1) (aj j u hu)) 0 _ rfl))) fun ah ac=>ac.yw 5 (.agg #[(strOf C.name),v0]) rfl (fun F W=>rn_build (parts1 (F.get rfl)) (by kernel_rfl))<|Yw 6 (.agg #[(strOf C.name),v0,(.bool true)]) rfl (fun F W=>rn_build (parts2 (F.get rfl) rfl) (by kernel_rfl)) fun _ ae=>ao 7 rfl<|ae.on (fun g=>(vl (some ⟨g,0,none⟩) 1 1)) [(strOf C.name),v0,(.bool true)] 66 rfl (fun F=>rn_buildSlice (parts1 (F.get rfl)) (by kernel_rfl)) fun ah ah _ I ah ah ag M=>?_
  have U:=O.ext M
  refine ⟨fun _ _=>⟨eX,U⟩,?_⟩
  refine ao 8 rfl<|have G:=OwnL.pres rCg hO (((Pres.refl w).ext J).ext M);o_appB (zs:=xs++[(strOf C.name),v0,(.bool true)]) El27 I rfl rfl rfl rfl rfl (I.get rfl) (I.get rfl) G.1 (Fl.cel (Fl.blk (S:=fun _=>True) (k:=3) (n:=1) (c:=1) (cs:=[(strOf C.name),v0,(.bool true)]) ag rfl (one_cons rfl (one_cons rfl (one_cons rfl one_nil))) ⟨Nat.le_refl _,by omega⟩ trivial)).2.2 (by omega) (by omega) (by omega) rfl fun O V ac D D ab I Y Y aa=>?_;have Y:=I.size
  have Y:=OwnL.snoc (x:=(⟨C.name,[],true⟩:Cg)) rCg G ab I aa rfl (one_cons rfl (one_cons rfl (one_cons rfl one_nil))) ⟨_,_,rfl,(Fl.nil _)⟩ (fun b _ (h:False)=>h.elim)
  refine ⟨fun h=>absurd h (by decide),?_⟩
  refine ao 9 rfl<|have C:=(grown_blk G.1 I U (by decide));o_store1 (new:=[(vl O (n0+1) V)]) D rfl rfl rfl rfl (D.get rfl) (D.get rfl) C inf27 (by simp) rfl rfl fun C O C=>?_;have U:=C.size
  refine ⟨fun h=>absurd h (by decide),?_⟩
  exact nN<|blk_normal<|ret0 D rfl<|have D:=OwnL.pres rCg Y ((Pres.refl ac).gn C);⟨rfl,⟨_,_,_,_,O,by rw [dstep_x (y:=y) Z (by omega)];exact D⟩,(((((FarX.refl w).ext J).ext M).row I G.1 (fun b hb h=>by have h6:=h.1;omega)).gc C)⟩
 refine Y.cf<|wp_seq_k fun aR az=>sX (fun J W=>Ext J W) (fun i=>false) 16 fun J I aR=>Y.ym 0 rfl<|Yv 1 (vi x.length) rfl<|Yv 2 (vd ((x.length:Int)=(0:Int))) rfl<|Ym 3 rfl fun _ am=>?_
 by_cases aR:(x.length:Int)=(0:Int)
 ·refine am.yu 4 rfl<|Yu 5 rfl<|Yu 6 rfl<|Yu 7 rfl<|Yu 8 rfl<|Yu 9 rfl<|Yu 10 rfl<|Yu 11 rfl fun _ Y=>ao 12 rfl<|o_skip Y rfl (unwanted_guard rfl rfl rfl Y rfl (decide_eq_true aR) rfl) rfl rfl fun Y Y=>?_
  refine ⟨fun _ _=>(Ext.refl J),?_⟩
  refine Y.yu 13 rfl<|Yv 14 (.bool true) rfl<|Yv 15 (.bool true) rfl fun _ au=>nK az<|have Y:=au.k [0,1,2,5,18];Y.ct<|sX (fun D W=>Ext D W∧Blk W p 27 [(vl A0 n0 c0)]) (fun i=>i==13||i==14) 15 fun D U au=>have ag:=hp.ux U;have aa:Ext D D∧Blk D p 27 [(vl A0 n0 c0)]:=⟨(Ext.refl D),ag⟩;Y.ys 0 (vl A0 n0 c0) rfl aa (fun F W hW=>rl F rfl (hW.2.rule.1 0))<|Ym 1 rfl fun _ av=>?_
  have Y:=RLs.ux rIt hy U
  obtain ⟨O,Z,C,au,ai,aq,au,aj,ay⟩:=RLs.get Y (by omega:0<y.length)
  obtain ⟨ab,ah,rfl,ak⟩:=ay
  have Y:=(Fl.cel ak).2.1
  have Y:=hdy C (List.mem_of_getElem? aq)
  refine av.yw 2 (vq O (Z+0*2)) rfl (fun F W=>rn_indexE uu26 inf61 ((F.get rfl).trans (by rw [ai])) rfl (by omega:(0:Int)≤0) (by omega:(0:Int)<(y.length:Int)) (by omega))<|Yv 3 (vq O (Z+0*2)) rfl fun _ ac=>anyt_val (i:=4) (v:=(strOf C.name)) [10,11,12,13,14] ac (fun j hj=>by simp at hj;first | (subst hj;decide) | (rcases hj with rfl | rfl <;> decide)) (by decide +kernel) (by decide +kernel) rfl rfl rfl rfl (fun _ _ _ _ h=>h) rfl aa (fun W hW=>(rl ac rfl ((fun j u hu=>Ext.keep ((Ext.refl D).trans hW.1) (aj j u hu)) 0 _ rfl))) fun Y aw=>aw.ym 5 rfl<|Yw 6 (vq O (Z+0*2)) rfl (fun F W=>rn_indexE uu26 inf61 ((F.get rfl).trans (by rw [ai])) rfl (by omega:(0:Int)≤0) (by omega:(0:Int)<(y.length:Int)) (by omega))<|Yv 7 (vq O (Z+0*2+1)) rfl fun _ ae=>anyt_val (i:=8) (v:=(vl ab C.data.length ah)) [9,10,11,12,13,14] ae (fun j hj=>by simp at hj;first | (subst hj;decide) | (rcases hj with rfl | rfl <;> decide)) (by decide +kernel) (by decide +kernel) rfl rfl rfl rfl (fun _ _ _ _ h=>h) rfl aa (fun W hW=>(rl ae rfl ((fun j u hu=>Ext.keep ((Ext.refl D).trans hW.1) (aj j u hu)) 1 _ rfl))) fun Y ax=>ao 9 rfl<|ax.oC (c:=bclone_at (v:=(vl ab C.data.length ah)) (n:=C.data.length) C.data _ ak (by omega)) (k:= ?_)
  rintro _ ar ⟨G,M,rfl,al,V⟩
  have J:=(Fl.cel al).2.1
  refine ⟨_,rfl,?_⟩;intro J O;have J:=V.size
  have ab:Fl (Clip (fun b=>D.heap.size≤b) ar) ar 1 (vl G C.data.length M) C.data.length (byteVals C.data):=al.clip
  have J:=ag.ext V
  refine ⟨fun _ _=>⟨eX,J⟩,?_⟩
  refine O.yw 10 (.agg #[(strOf C.name),(vl G C.data.length M)]) rfl (fun F W=>rn_build (parts2 (F.get rfl) (F.get rfl)) (by kernel_rfl))<|Yw 11 (.agg #[(strOf C.name),(vl G C.data.length M),(.bool false)]) rfl (fun F W=>rn_build (parts1 (F.get rfl)) (by kernel_rfl)) fun _ D=>ao 12 rfl<|D.on (fun g=>(vl (some ⟨g,0,none⟩) 1 1)) [(strOf C.name),(vl G C.data.length M),(.bool false)] 66 rfl (fun F=>rn_buildSlice (parts1 (F.get rfl)) (by kernel_rfl)) fun D D _ D O O Z O=>?_
  have Y:=J.ext O
  refine ⟨fun _ _=>⟨eX,Y⟩,?_⟩
  refine ao 13 rfl<|have J:=OwnL.pres rCg hO (((((Pres.refl w).ext I).ext U).ext V).ext O);have aa:=(ab.ext O);o_appB (zs:=xs++[(strOf C.name),(vl G C.data.length M),(.bool false)]) El27 D rfl rfl rfl rfl rfl (D.get rfl) (D.get rfl) J.1 (Fl.cel (Fl.blk (S:=fun _=>True) (k:=3) (n:=1) (c:=1) (cs:=[(strOf C.name),(vl G C.data.length M),(.bool false)]) Z rfl (one_cons rfl (one_cons rfl (one_cons rfl one_nil))) ⟨Nat.le_refl _,by omega⟩ trivial)).2.2 (by omega) (by omega) (by omega) rfl fun M Z ag D D ae G ab ab ac=>?_;have ab:=G.size
  have ab:=OwnL.snoc (x:=(⟨C.name,C.data,false⟩:Cg)) rCg J ae G ac rfl (one_cons rfl (one_cons rfl (one_cons rfl one_nil))) ⟨_,_,rfl,aa⟩ (fun b _ hb=>⟨by simp only [Clip] at hb;omega,fun C=>by have h5:=own_blk_lt hO.1 b C;simp only [Clip] at hb;omega⟩)
  refine ⟨fun h=>absurd h (by decide),?_⟩
  refine ao 14 rfl<|have C:=(grown_blk J.1 G Y (by decide));o_store1 (new:=[(vl M (n0+1) Z)]) D rfl rfl rfl rfl (D.get rfl) (D.get rfl) C inf27 (by simp) rfl rfl fun C M C=>?_;have Y:=C.size
  refine ⟨fun h=>absurd h (by decide),?_⟩
  exact nN<|blk_normal<|ret0 D rfl<|have D:=OwnL.pres rCg ab ((Pres.refl ag).gn C);⟨rfl,⟨_,_,_,_,M,by rw [dstep_y (x:=x) aq (by omega)];exact D⟩,(((((((FarX.refl w).ext I).ext U).ext V).ext O).row G J.1 (fun b hb h=>by have h6:=h.1;omega)).gc C)⟩
 refine am.yg 4 (vl A x.length c) rfl<|fun _ aK=>?_
 have Y:=RLs.ux rIt hx I
 obtain ⟨aq,aH,G,am,aP,ag,am,aS,aV⟩:=RLs.get Y (by omega:0<x.length)
 obtain ⟨ah,av,rfl,aD⟩:=aV
 have Y:=(Fl.cel aD).2.1
 have Y:=hdx G (List.mem_of_getElem? ag)
 refine aK.ygw 5 (vq aq (aH+0*2)) rfl (fun F W=>rn_indexE uu26 inf61 ((F.get rfl).trans (by rw [aP])) rfl (by omega:(0:Int)≤0) (by omega:(0:Int)<(x.length:Int)) (by omega))<|Yg 6 (vq aq (aH+0*2+1)) rfl fun _ Y=>have aA:Ex J J:=Ext.refl J;Y.ysg 7 (vl ah G.data.length av) rfl aA (fun F W hW=>rl F rfl ((fun j u hu=>Ext.keep ((Ext.refl J).trans hW) (aS j u hu)) 1 _ rfl))<|Yg 8 (vl B y.length d) rfl fun _ aL=>?_
 have Y:=RLs.ext rIt hy I
 obtain ⟨ar,aI,C,am,aQ,U,am,aT,aW⟩:=RLs.get Y (by omega:0<y.length)
 obtain ⟨ai,aw,rfl,aE⟩:=aW
 have Y:=(Fl.cel aE).2.1
 have Y:=hdy C (List.mem_of_getElem? U)
 refine aL.ygw 9 (vq ar (aI+0*2)) rfl (fun F W=>rn_indexE uu26 inf61 ((F.get rfl).trans (by rw [aQ])) rfl (by omega:(0:Int)≤0) (by omega:(0:Int)<(y.length:Int)) (by omega))<|Yg 10 (vq ar (aI+0*2+1)) rfl<|Ysg 11 (vl ai C.data.length aw) rfl aA (fun F W hW=>rl F rfl ((fun j u hu=>Ext.keep ((Ext.refl J).trans hW) (aT j u hu)) 1 _ rfl)) fun _ J=>ao 12 rfl<|J.gE (c:=beq_at (v:=(vl ah G.data.length av)) (u:=(vl ai C.data.length aw)) (n:=G.data.length) (m:=C.data.length) G.data C.data _ aD aE) (k:=fun J V J _ J=>?_)
 refine ⟨fun _ _=>eX,?_⟩
 refine J.ygw 13 (.bool (!(decide (G.data=C.data)))) rfl (fun F W=>rn_not' (F.get rfl) rfl)<|Yv 14 (.bool (!(decide (G.data=C.data)))) rfl<|Yv 15 (.bool (!(decide (G.data=C.data)))) rfl fun _ Y=>nK az ?_
 have J:=Y.k [0,1,2,5,18]
 by_cases aB:G.data=C.data
 ·exact J.cf<|wp_skip<|blk_normal<|ret0 J rfl<|have D:=OwnL.pres rCg hO (((Pres.refl w).ext I).ext V);have C:=hp.ux V;⟨rfl,⟨_,_,_,_,C,by rw [dstep_eq ag U aB,List.append_nil];exact D⟩,(((FarX.refl w).ext I).ext V)⟩
 refine J.ct<|sX (fun D W=>Ext D W∧Blk W p 27 [(vl A0 n0 c0)]) (fun i=>i==13||i==14) 15 fun D aa G=>have au:=hp.ux aa;have ae:Ext D D∧Blk D p 27 [(vl A0 n0 c0)]:=⟨(Ext.refl D),au⟩;J.ys 0 (vl A0 n0 c0) rfl ae (fun F W hW=>rl F rfl (hW.2.rule.1 0))<|Ym 1 rfl fun _ aM=>?_
 have G:=RLs.ux rIt hy aa
 obtain ⟨Z,ac,aY,J,ay,aU,J,aC,aX⟩:=RLs.get G (by omega:0<y.length)
 obtain rfl:C=aY:=Option.some.inj (U.symm.trans aU)
 obtain ⟨aj,ax,rfl,aF⟩:=aX
 have G:=(Fl.cel aF).2.1
 have G:=hdy C (List.mem_of_getElem? U)
 refine aM.yw 2 (vq Z (ac+0*2)) rfl (fun F W=>rn_indexE uu26 inf61 ((F.get rfl).trans (by rw [ay])) rfl (by omega:(0:Int)≤0) (by omega:(0:Int)<(y.length:Int)) (by omega))<|Yv 3 (vq Z (ac+0*2)) rfl fun _ ak=>anyt_val (i:=4) (v:=(strOf C.name)) [10,11,12,13,14] ak (fun j hj=>by simp at hj;first | (subst hj;decide) | (rcases hj with rfl | rfl <;> decide)) (by decide +kernel) (by decide +kernel) rfl rfl rfl rfl (fun _ _ _ _ h=>h) rfl ae (fun W hW=>(rl ak rfl ((fun j u hu=>Ext.keep ((Ext.refl D).trans hW.1) (aC j u hu)) 0 _ rfl))) fun G aN=>aN.ym 5 rfl<|Yw 6 (vq Z (ac+0*2)) rfl (fun F W=>rn_indexE uu26 inf61 ((F.get rfl).trans (by rw [ay])) rfl (by omega:(0:Int)≤0) (by omega:(0:Int)<(y.length:Int)) (by omega))<|Yv 7 (vq Z (ac+0*2+1)) rfl fun _ al=>anyt_val (i:=8) (v:=(vl aj C.data.length ax)) [9,10,11,12,13,14] al (fun j hj=>by simp at hj;first | (subst hj;decide) | (rcases hj with rfl | rfl <;> decide)) (by decide +kernel) (by decide +kernel) rfl rfl rfl rfl (fun _ _ _ _ h=>h) rfl ae (fun W hW=>(rl al rfl ((fun j u hu=>Ext.keep ((Ext.refl D).trans hW.1) (aC j u hu)) 1 _ rfl))) fun G aO=>ao 9 rfl<|aO.oC (c:=bclone_at (v:=(vl aj C.data.length ax)) (n:=C.data.length) C.data _ aF (by omega)) (k:= ?_)
 rintro _ aJ ⟨M,O,rfl,aG,ab⟩
 have G:=(Fl.cel aG).2.1
 refine ⟨_,rfl,?_⟩;intro G J;have G:=ab.size
 have ae:Fl (Clip (fun b=>D.heap.size≤b) aJ) aJ 1 (vl M C.data.length O) C.data.length (byteVals C.data):=aG.clip
 have G:=au.ext ab
 refine ⟨fun _ _=>⟨eX,G⟩,?_⟩
 refine J.yw 10 (.agg #[(strOf C.name),(vl M C.data.length O)]) rfl (fun F W=>rn_build (parts2 (F.get rfl) (F.get rfl)) (by kernel_rfl))<|Yw 11 (.agg #[(strOf C.name),(vl M C.data.length O),(.bool false)]) rfl (fun F W=>rn_build (parts1 (F.get rfl)) (by kernel_rfl)) fun _ D=>ao 12 rfl<|D.on (fun g=>(vl (some ⟨g,0,none⟩) 1 1)) [(strOf C.name),(vl M C.data.length O),(.bool false)] 66 rfl (fun F=>rn_buildSlice (parts1 (F.get rfl)) (by kernel_rfl)) fun D D _ D J J J Y=>?_
 have Z:=G.ext Y
 refine ⟨fun _ _=>⟨eX,Z⟩,?_⟩
 refine ao 13 rfl<|have G:=OwnL.pres rCg hO ((((((Pres.refl w).ext I).ext V).ext aa).ext ab).ext Y);have ac:=(ae.ext Y);o_appB (zs:=xs++[(strOf C.name),(vl M C.data.length O),(.bool false)]) El27 D rfl rfl rfl rfl rfl (D.get rfl) (D.get rfl) G.1 (Fl.cel (Fl.blk (S:=fun _=>True) (k:=3) (n:=1) (c:=1) (cs:=[(strOf C.name),(vl M C.data.length O),(.bool false)]) J rfl (one_cons rfl (one_cons rfl (one_cons rfl one_nil))) ⟨Nat.le_refl _,by omega⟩ trivial)).2.2 (by omega) (by omega) (by omega) rfl fun M O aj D D ai J ae ae ah=>?_;have ae:=J.size
 have ae:=OwnL.snoc (x:=(⟨C.name,C.data,false⟩:Cg)) rCg G ai J ah rfl (one_cons rfl (one_cons rfl (one_cons rfl one_nil))) ⟨_,_,rfl,ac⟩ (fun b _ hb=>⟨by simp only [Clip] at hb;omega,fun C=>by have h5:=own_blk_lt hO.1 b C;simp only [Clip] at hb;omega⟩)
 refine ⟨fun h=>absurd h (by decide),?_⟩
 refine ao 14 rfl<|have C:=(grown_blk G.1 J Z (by decide));o_store1 (new:=[(vl M (n0+1) O)]) D rfl rfl rfl rfl (D.get rfl) (D.get rfl) C inf27 (by simp) rfl rfl fun C M C=>?_;have O:=C.size
 refine ⟨fun h=>absurd h (by decide),?_⟩
 exact nN<|blk_normal<|ret0 D rfl<|have D:=OwnL.pres rCg ae ((Pres.refl aj).gn C);⟨rfl,⟨_,_,_,_,M,by rw [dstep_ne ag U aB];exact D⟩,((((((((FarX.refl w).ext I).ext V).ext aa).ext ab).ext Y).row J G.1 (fun b hb h=>by have h6:=h.1;omega)).gc C)⟩
theorem apply2_any (q:Nat) (fn:Bool) (p base:Nat) (A0:Option Addr) (n0 c0:Nat) (xs:List Value) (acc:List It) (A:Option Addr) (c:Nat) (x:List It) (B:Option Addr) (d:Nat) (y:List Cg) (w:World) (hp:Blk w p 26 [.slice A0 n0 c0]) (hq:Blk w q 4 [.bool fn]) (hqb:q<base) (hpq:p≠q) (hO:OwnL RIt 2 61 base w (vl A0 n0 c0) n0 xs acc) (hpb:p<base) (hbs:base≤w.heap.size) (hn:n0≤1000000) (hx:RLs RIt 2 S w (vl A x.length c) x) (hy:RLs RCg 3 S w (vl B y.length d) y) (hne:0<x.length∨0<y.length) (hdx:∀ z∈x,z.data.length≤4294967296) (hdy:∀ z∈y,z.data.length≤4294967296) :
  Calls Tryz.prog 114 #[.slice A x.length c,.slice B y.length d,.pointer (some ⟨p,0,none⟩),.pointer (some ⟨q,0,none⟩)] w (fun e w'=>e=.returned (.tuple #[])∧(∃ A n c xs,Blk w' p 26 [.slice A n c]∧Blk w' q 4 [.bool (fn&&aok (x.head?,y.head?))]∧OwnL RIt 2 61 base w' (vl A n c) n xs (acc++astepX (x.head?,y.head?)))∧FarX (fun b=>b<base∧b≠p∧b≠q) w w'):=by
 obtain ⟨-,hxc,hxd⟩:=RLs.at hx;obtain ⟨-,hyc,hyd⟩:=RLs.at hy;have hpl:=hp.lt
 have hql:=hq.lt
 refine calls_enter Tryz.func114 rfl rfl rfl fun _ hF=>wp_block<|wr fun K1 aV=>hF.xm rfl<|Xv (vi y.length)<|Xv (.bool (decide ((y.length:Int)=(0:Int))))<|Xa rfl fun _ F9=>wn aV ?_
 by_cases aV:(y.length:Int)=(0:Int)
 ·refine F9.ct<|sX (fun D W=>Ext D W∧Blk W p 26 [(vl A0 n0 c0)]) (fun i=>i==12||i==13) 14 fun D J ar=>have ab:=(hp.ext J);have V:Ext D D∧Blk D p 26 [(vl A0 n0 c0)]:=⟨(Ext.refl D),ab⟩;F9.ys 0 (vl A0 n0 c0) rfl V (fun F W hW=>rl F rfl (hW.2.rule.1 0))<|Ym 1 rfl fun _ al=>?_
  have ar:=RLs.ux rIt hx J
  obtain ⟨O,U,C,av,ae,aj,av,ag,au⟩:=RLs.get ar (by omega:0<x.length)
  obtain ⟨Y,ac,rfl,ah⟩:=au
  have ar:=(Fl.cel ah).2.1
  have ar:=hdx C (List.mem_of_getElem? aj)
  refine al.yw 2 (vq O (U+0*2)) rfl (fun F W=>rn_indexE uu26 inf61 ((F.get rfl).trans (by rw [ae])) rfl (by omega:(0:Int)≤0) (by omega:(0:Int)<(x.length:Int)) (by omega))<|Yv 3 (vq O (U+0*2)) rfl fun _ Z=>anyt_val (i:=4) (v:=(strOf C.name)) [10,11,12,13] Z (fun j hj=>by simp at hj;first | (subst hj;decide) | (rcases hj with rfl | rfl <;> decide)) (by decide +kernel) (by decide +kernel) rfl rfl rfl rfl (fun _ _ _ _ h=>h) rfl V (fun W hW=>(rl Z rfl ((fun j u hu=>Ext.keep ((Ext.refl D).trans hW.1) (ag j u hu)) 0 _ rfl))) fun ar am=>am.ym 5 rfl<|Yw 6 (vq O (U+0*2)) rfl (fun F W=>rn_indexE uu26 inf61 ((F.get rfl).trans (by rw [ae])) rfl (by omega:(0:Int)≤0) (by omega:(0:Int)<(x.length:Int)) (by omega))<|Yv 7 (vq O (U+0*2+1)) rfl fun _ aa=>anyt_val (i:=8) (v:=(vl Y C.data.length ac)) [9,10,11,12,13] aa (fun j hj=>by simp at hj;first | (subst hj;decide) | (rcases hj with rfl | rfl <;> decide)) (by decide +kernel) (by decide +kernel) rfl rfl rfl rfl (fun _ _ _ _ h=>h) rfl V (fun W hW=>(rl aa rfl ((fun j u hu=>Ext.keep ((Ext.refl D).trans hW.1) (ag j u hu)) 1 _ rfl))) fun ar aq=>ao 9 rfl<|aq.oC (c:=bclone_at (v:=(vl Y C.data.length ac)) (n:=C.data.length) C.data _ ah (by omega)) (k:= ?_)
  rintro _ ak ⟨G,I,rfl,ai,M⟩
  have O:=(Fl.cel ai).2.1
  refine ⟨_,rfl,?_⟩;intro O O;have U:=M.size
  have aa:Fl (Clip (fun b=>D.heap.size≤b) ak) ak 1 (vl G C.data.length I) C.data.length (byteVals C.data):=ai.clip
  have D:=ab.ext M
  refine ⟨fun _ _=>⟨eX,D⟩,?_⟩
  refine O.yw 10 (.agg #[(strOf C.name),(vl G C.data.length I)]) rfl (fun F W=>rn_build (parts2 (F.get rfl) (F.get rfl)) (by kernel_rfl)) fun _ O=>ao 11 rfl<|O.on (fun g=>(vl (some ⟨g,0,none⟩) 1 1)) [(strOf C.name),(vl G C.data.length I)] 61 rfl (fun F=>rn_buildSlice (parts1 (F.get rfl)) (by kernel_rfl)) fun O O _ U O O Y O=>?_
  have V:=D.ext O
  refine ⟨fun _ _=>⟨eX,V⟩,?_⟩
  refine ao 12 rfl<|have D:=OwnL.pres rIt hO ((((Pres.refl w).ext J).ext M).ext O);have Z:=(aa.ext O);o_appB (zs:=xs++[(strOf C.name),(vl G C.data.length I)]) El26 U rfl rfl rfl rfl rfl (U.get rfl) (U.get rfl) D.1 (Fl.cel (Fl.blk (S:=fun _=>True) (k:=2) (n:=1) (c:=1) (cs:=[(strOf C.name),(vl G C.data.length I)]) Y rfl (one_cons rfl (one_cons rfl one_nil)) ⟨Nat.le_refl _,by omega⟩ trivial)).2.2 (by omega) (by omega) (by omega) rfl fun U Y ae G I ac G aa aa ab=>?_;have aa:=G.size
  have aa:=OwnL.snoc (x:=(⟨C.name,C.data⟩:It)) rIt D ac G ab rfl (one_cons rfl (one_cons rfl one_nil)) ⟨_,_,rfl,Z⟩ (fun b _ hb=>⟨by simp only [Clip] at hb;omega,fun C=>by have h5:=own_blk_lt hO.1 b C;simp only [Clip] at hb;omega⟩)
  refine ⟨fun h=>absurd h (by decide),?_⟩
  refine ao 13 rfl<|have C:=(grown_blk D.1 G V (by decide));o_store1 (new:=[(vl U (n0+1) Y)]) I rfl rfl rfl rfl (I.get rfl) (I.get rfl) C inf26 (by simp) rfl rfl fun C U C=>?_;have V:=C.size
  refine ⟨fun h=>absurd h (by decide),?_⟩
  refine nN<|blk_normal<|ret0 I rfl ?_
  have V:=OwnL.pres rIt aa ((Pres.refl ae).gn C)
  have I:=(grown_blk D.1 G (((hq.ext J).ext M).ext O) (by decide)).gn C
  obtain ⟨he1,he2⟩:=astep_x (y:=y) aj (by omega)
  have hfin:fn=(fn&&aok (x.head?,y.head?)):=by rw [he2];simp
  rw [hfin] at I
  exact ⟨rfl,⟨_,_,_,_,U,I,by rw [he1];exact V⟩,((((((FarX.refl w).ext J).ext M).ext O).row G D.1 (fun b hb h=>by have h6:=h.1;omega)).gc C)⟩
 refine F9.cf<|wr fun aV aW=>F9.xm rfl fun _ aR=>?_
 obtain ⟨ag,aK,C,aV,aS,D,aV,aX,a4⟩:=RLs.get hy (by omega:0<y.length)
 obtain ⟨aV,aV,rfl,a1⟩:=a4
 have aV:=(Fl.cel a1).2.1
 have aV:=hdy C (List.mem_of_getElem? D)
 refine aR.xw (vq ag (aK+0*3)) (fun F=>rn_indexE uu27 inf66 ((F.get rfl).trans (by rw [aS])) rfl (by omega:(0:Int)≤0) (by omega:(0:Int)<(y.length:Int)) (by omega))<|Xv (vq ag (aK+0*3+2))<|Xw (.bool C.gone) (fun F=>rl F rfl (aX 2 _ rfl))<|Xa rfl fun _ aK=>wn aW ?_
 have ag:=aK.k [0,1,2,3,21,38]
 rcases Bool.eq_false_or_eq_true C.gone with V | V
 ·refine ag.ct<|wp_region_lit<|ag.xw (.bool fn) (fun F=>rl F rfl (hq.rule.1 0))<|Xm rfl fun _ C=>?_
  rcases Bool.eq_false_or_eq_true fn with I | I
  ·refine C.xg (vl A x.length c)<|Xg (vi x.length)<|Xg (.bool (decide ((0:Int)<(x.length:Int))))<|Xv (.bool (decide ((0:Int)<(x.length:Int)))) fun _ C=>wpl_op (i:=6) rfl<|o_store1 (new:=[(.bool (decide ((0:Int)<(x.length:Int))))]) C rfl rfl rfl rfl (C.get rfl) (C.get rfl) hq inf4 (by simp) rfl rfl fun G J G=>have M:=G.size;wpList_nil<|blk_normal<|ret0 C rfl ?_
   have M:=OwnL.pres rIt hO ((Pres.refl w).gn G)
   have C:=hp.gn G
   obtain ⟨he1,he2⟩:=astep_gone (x:=x) D V
   have hfin:decide ((0:Int)<(x.length:Int))=(fn&&aok (x.head?,y.head?)):=by rw [he2,I];simp
   rw [hfin] at J
   exact ⟨rfl,⟨_,_,_,_,C,J,by rw [he1,List.append_nil];exact M⟩,((FarX.refl w).gc G)⟩
  refine C.xu<|Xu<|Xu<|Xv (.bool false) fun _ C=>wpl_op (i:=6) rfl<|o_store1 (new:=[(.bool false)]) C rfl rfl rfl rfl (C.get rfl) (C.get rfl) hq inf4 (by simp) rfl rfl fun G J G=>have M:=G.size;wpList_nil<|blk_normal<|ret0 C rfl ?_
  have M:=OwnL.pres rIt hO ((Pres.refl w).gn G)
  have C:=hp.gn G
  obtain ⟨he1,he2⟩:=astep_gone (x:=x) D V
  have hfin:false=(fn&&aok (x.head?,y.head?)):=by rw [he2,I];simp
  rw [hfin] at J
  exact ⟨rfl,⟨_,_,_,_,C,J,by rw [he1,List.append_nil];exact M⟩,((FarX.refl w).gc G)⟩
 refine ag.cf<|wp_seq_k fun aK aB=>sX (fun J W=>Ext J W) (fun i=>false) 16 fun J G aK=>ag.ym 0 rfl<|Yv 1 (vi x.length) rfl<|Yv 2 (.bool (decide ((0:Int)<(x.length:Int)))) rfl<|Ym 3 rfl fun _ aq=>?_
 by_cases aY:(0:Int)<(x.length:Int)
 ·refine aq.yg 4 (vl A x.length c) rfl<|fun _ aM=>?_
  have ag:=RLs.ux rIt hx G
  obtain ⟨av,aJ,M,aK,aT,ai,aK,aZ,a5⟩:=RLs.get ag (by omega:0<x.length)
  obtain ⟨ak,ax,rfl,aF⟩:=a5
  have ag:=(Fl.cel aF).2.1
  have ag:=hdx M (List.mem_of_getElem? ai)
  refine aM.ygw 5 (vq av (aJ+0*2)) rfl (fun F W=>rn_indexE uu26 inf61 ((F.get rfl).trans (by rw [aT])) rfl (by omega:(0:Int)≤0) (by omega:(0:Int)<(x.length:Int)) (by omega))<|Yg 6 (vq av (aJ+0*2+1)) rfl fun _ ag=>have aC:Ex J J:=Ext.refl J;ag.ysg 7 (vl ak M.data.length ax) rfl aC (fun F W hW=>rl F rfl ((fun j u hu=>Ext.keep ((Ext.refl J).trans hW) (aZ j u hu)) 1 _ rfl))<|Yg 8 (vl B y.length d) rfl fun _ aN=>?_
  have ag:=RLs.ext rCg hy G
  obtain ⟨O,aj,a8,av,aU,a2,av,a0,a6⟩:=RLs.get ag (by omega:0<y.length)
  obtain rfl:C=a8:=Option.some.inj (D.symm.trans a2)
  obtain ⟨al,ay,rfl,aG⟩:=a6
  have ag:=(Fl.cel aG).2.1
  have ag:=hdy C (List.mem_of_getElem? D)
  refine aN.ygw 9 (vq O (aj+0*3)) rfl (fun F W=>rn_indexE uu27 inf66 ((F.get rfl).trans (by rw [aU])) rfl (by omega:(0:Int)≤0) (by omega:(0:Int)<(y.length:Int)) (by omega))<|Yg 10 (vq O (aj+0*3)) rfl<|Yg 11 (vq O (aj+0*3+1)) rfl<|Ysg 12 (vl al C.data.length ay) rfl aC (fun F W hW=>rl F rfl ((fun j u hu=>Ext.keep ((Ext.refl J).trans hW) (a0 j u hu)) 1 _ rfl)) fun _ O=>ao 13 rfl<|O.gE (c:=beq_at (v:=(vl ak M.data.length ax)) (u:=(vl al C.data.length ay)) (n:=M.data.length) (m:=C.data.length) M.data C.data _ aF aG) (k:=fun O Y O _ O=>?_)
  refine ⟨fun _ _=>eX,?_⟩
  refine O.yv 14 (.bool (decide (M.data=C.data))) rfl<|Yv 15 (.bool (decide (M.data=C.data))) rfl fun _ ag=>nK aB ?_
  have O:=ag.k [0,1,2,3,21,38,49]
  by_cases aD:M.data=C.data
  ·refine O.ct<|wp_region_lit<|have C:=hq.ux Y;wpl_op (i:=0) rfl<|o_store1 (new:=[(.bool false)]) O rfl rfl rfl rfl (O.get rfl) rfl C inf4 (by simp) rfl rfl fun C I C=>have J:=C.size;wpList_nil<|blk_normal<|ret0 O rfl ?_
   have M:=OwnL.pres rIt hO ((((Pres.refl w).ext G).ext Y).gn C)
   have J:=hp.ug C
   obtain ⟨he1,he2⟩:=astep_same ai D V aD
   have hfin:false=(fn&&aok (x.head?,y.head?)):=by rw [he2];simp
   rw [hfin] at I
   exact ⟨rfl,⟨_,_,_,_,J,I,by rw [he1,List.append_nil];exact M⟩,((((FarX.refl w).ext G).ext Y).gc C)⟩
  refine O.cf<|sX (fun I W=>Ext I W∧Blk W p 26 [(vl A0 n0 c0)]) (fun i=>i==14||i==15) 16 fun I ac M=>have aw:=hp.ux ac;have ah:Ext I I∧Blk I p 26 [(vl A0 n0 c0)]:=⟨(Ext.refl I),aw⟩;O.ys 0 (vl A0 n0 c0) rfl ah (fun F W hW=>rl F rfl (hW.2.rule.1 0))<|Ym 1 rfl fun _ aO=>?_
  have M:=RLs.ux rCg hy ac
  obtain ⟨U,Z,a9,O,aA,a3,O,aE,a7⟩:=RLs.get M (by omega:0<y.length)
  obtain rfl:C=a9:=Option.some.inj (D.symm.trans a3)
  obtain ⟨am,az,rfl,aH⟩:=a7
  have M:=(Fl.cel aH).2.1
  have M:=hdy C (List.mem_of_getElem? D)
  refine aO.yw 2 (vq U (Z+0*3)) rfl (fun F W=>rn_indexE uu27 inf66 ((F.get rfl).trans (by rw [aA])) rfl (by omega:(0:Int)≤0) (by omega:(0:Int)<(y.length:Int)) (by omega))<|Yv 3 (vq U (Z+0*3)) rfl<|Yv 4 (vq U (Z+0*3)) rfl fun _ ar=>anyt_val (i:=5) (v:=(strOf C.name)) [12,13,14,15] ar (fun j hj=>by simp at hj;first | (subst hj;decide) | (rcases hj with rfl | rfl <;> decide)) (by decide +kernel) (by decide +kernel) rfl rfl rfl rfl (fun _ _ _ _ h=>h) rfl ah (fun W hW=>(rl ar rfl ((fun j u hu=>Ext.keep ((Ext.refl I).trans hW.1) (aE j u hu)) 0 _ rfl))) fun M aP=>aP.ym 6 rfl<|Yw 7 (vq U (Z+0*3)) rfl (fun F W=>rn_indexE uu27 inf66 ((F.get rfl).trans (by rw [aA])) rfl (by omega:(0:Int)≤0) (by omega:(0:Int)<(y.length:Int)) (by omega))<|Yv 8 (vq U (Z+0*3)) rfl<|Yv 9 (vq U (Z+0*3+1)) rfl fun _ au=>anyt_val (i:=10) (v:=(vl am C.data.length az)) [11,12,13,14,15] au (fun j hj=>by simp at hj;first | (subst hj;decide) | (rcases hj with rfl | rfl <;> decide)) (by decide +kernel) (by decide +kernel) rfl rfl rfl rfl (fun _ _ _ _ h=>h) rfl ah (fun W hW=>(rl au rfl ((fun j u hu=>Ext.keep ((Ext.refl I).trans hW.1) (aE j u hu)) 1 _ rfl))) fun M aQ=>ao 11 rfl<|aQ.oC (c:=bclone_at (v:=(vl am C.data.length az)) (n:=C.data.length) C.data _ aH (by omega)) (k:= ?_)
  rintro _ aL ⟨aa,ab,rfl,aI,ae⟩
  have J:=(Fl.cel aI).2.1
  refine ⟨_,rfl,?_⟩;intro J J;have M:=ae.size
  have Z:Fl (Clip (fun b=>I.heap.size≤b) aL) aL 1 (vl aa C.data.length ab) C.data.length (byteVals C.data):=aI.clip
  have I:=aw.ext ae
  refine ⟨fun _ _=>⟨eX,I⟩,?_⟩
  refine J.yw 12 (.agg #[(strOf C.name),(vl aa C.data.length ab)]) rfl (fun F W=>rn_build (parts2 (F.get rfl) (F.get rfl)) (by kernel_rfl)) fun _ J=>ao 13 rfl<|J.on (fun g=>(vl (some ⟨g,0,none⟩) 1 1)) [(strOf C.name),(vl aa C.data.length ab)] 61 rfl (fun F=>rn_buildSlice (parts1 (F.get rfl)) (by kernel_rfl)) fun J J _ J M M O M=>?_
  have U:=I.ext M
  refine ⟨fun _ _=>⟨eX,U⟩,?_⟩
  refine ao 14 rfl<|have I:=OwnL.pres rIt hO ((((((Pres.refl w).ext G).ext Y).ext ac).ext ae).ext M);have ag:=(Z.ext M);o_appB (zs:=xs++[(strOf C.name),(vl aa C.data.length ab)]) El26 J rfl rfl rfl rfl rfl (J.get rfl) (J.get rfl) I.1 (Fl.cel (Fl.blk (S:=fun _=>True) (k:=2) (n:=1) (c:=1) (cs:=[(strOf C.name),(vl aa C.data.length ab)]) O rfl (one_cons rfl (one_cons rfl one_nil)) ⟨Nat.le_refl _,by omega⟩ trivial)).2.2 (by omega) (by omega) (by omega) rfl fun Z aa ak J O aj J ab ab ah=>?_;have ab:=J.size
  have ab:=OwnL.snoc (x:=(⟨C.name,C.data⟩:It)) rIt I aj J ah rfl (one_cons rfl (one_cons rfl one_nil)) ⟨_,_,rfl,ag⟩ (fun b _ hb=>⟨by simp only [Clip] at hb;omega,fun C=>by have h5:=own_blk_lt hO.1 b C;simp only [Clip] at hb;omega⟩)
  refine ⟨fun h=>absurd h (by decide),?_⟩
  refine ao 15 rfl<|have C:=(grown_blk I.1 J U (by decide));o_store1 (new:=[(vl Z (n0+1) aa)]) O rfl rfl rfl rfl (O.get rfl) (O.get rfl) C inf26 (by simp) rfl rfl fun C U C=>?_;have Z:=C.size
  refine ⟨fun h=>absurd h (by decide),?_⟩
  refine nN<|blk_normal<|ret0 O rfl ?_
  have Z:=OwnL.pres rIt ab ((Pres.refl ak).gn C)
  have O:=(grown_blk I.1 J (((((hq.ext G).ext Y).ext ac).ext ae).ext M) (by decide)).gn C
  obtain ⟨he1,he2⟩:=astep_ne ai D V aD
  have hfin:fn=(fn&&aok (x.head?,y.head?)):=by rw [he2];simp
  rw [hfin] at O
  exact ⟨rfl,⟨_,_,_,_,U,O,by rw [he1];exact Z⟩,((((((((FarX.refl w).ext G).ext Y).ext ac).ext ae).ext M).row J I.1 (fun b hb h=>by have h6:=h.1;omega)).gc C)⟩
 refine aq.yu 4 rfl<|Yu 5 rfl<|Yu 6 rfl<|Yu 7 rfl<|Yu 8 rfl<|Yu 9 rfl<|Yu 10 rfl<|Yu 11 rfl<|Yu 12 rfl fun _ ae=>ao 13 rfl<|o_skip ae rfl (unwanted_guard rfl rfl rfl ae rfl (decide_eq_false aY) rfl) rfl rfl fun ae ae=>?_
 refine ⟨fun _ _=>(Ext.refl J),?_⟩
 refine ae.yv 14 (.bool false) rfl<|Yv 15 (.bool false) rfl fun _ ae=>nK aB<|have J:=ae.k [0,1,2,3,21,38,49];J.cf<|sX (fun I W=>Ext I W∧Blk W p 26 [(vl A0 n0 c0)]) (fun i=>i==14||i==15) 16 fun I Z ae=>have aj:=hp.ux Z;have ab:Ext I I∧Blk I p 26 [(vl A0 n0 c0)]:=⟨(Ext.refl I),aj⟩;J.ys 0 (vl A0 n0 c0) rfl ab (fun F W hW=>rl F rfl (hW.2.rule.1 0))<|Ym 1 rfl fun _ aw=>?_
 have J:=RLs.ux rCg hy Z
 obtain ⟨M,O,aC,ae,al,az,ae,am,aA⟩:=RLs.get J (by omega:0<y.length)
 obtain rfl:C=aC:=Option.some.inj (D.symm.trans az)
 obtain ⟨ac,ak,rfl,ar⟩:=aA
 have J:=(Fl.cel ar).2.1
 have J:=hdy C (List.mem_of_getElem? D)
 refine aw.yw 2 (vq M (O+0*3)) rfl (fun F W=>rn_indexE uu27 inf66 ((F.get rfl).trans (by rw [al])) rfl (by omega:(0:Int)≤0) (by omega:(0:Int)<(y.length:Int)) (by omega))<|Yv 3 (vq M (O+0*3)) rfl<|Yv 4 (vq M (O+0*3)) rfl fun _ ah=>anyt_val (i:=5) (v:=(strOf C.name)) [12,13,14,15] ah (fun j hj=>by simp at hj;first | (subst hj;decide) | (rcases hj with rfl | rfl <;> decide)) (by decide +kernel) (by decide +kernel) rfl rfl rfl rfl (fun _ _ _ _ h=>h) rfl ab (fun W hW=>(rl ah rfl ((fun j u hu=>Ext.keep ((Ext.refl I).trans hW.1) (am j u hu)) 0 _ rfl))) fun J ax=>ax.ym 6 rfl<|Yw 7 (vq M (O+0*3)) rfl (fun F W=>rn_indexE uu27 inf66 ((F.get rfl).trans (by rw [al])) rfl (by omega:(0:Int)≤0) (by omega:(0:Int)<(y.length:Int)) (by omega))<|Yv 8 (vq M (O+0*3)) rfl<|Yv 9 (vq M (O+0*3+1)) rfl fun _ ai=>anyt_val (i:=10) (v:=(vl ac C.data.length ak)) [11,12,13,14,15] ai (fun j hj=>by simp at hj;first | (subst hj;decide) | (rcases hj with rfl | rfl <;> decide)) (by decide +kernel) (by decide +kernel) rfl rfl rfl rfl (fun _ _ _ _ h=>h) rfl ab (fun W hW=>(rl ai rfl ((fun j u hu=>Ext.keep ((Ext.refl I).trans hW.1) (am j u hu)) 1 _ rfl))) fun J ay=>ao 11 rfl<|ay.oC (c:=bclone_at (v:=(vl ac C.data.length ak)) (n:=C.data.length) C.data _ ar (by omega)) (k:= ?_)
 rintro _ av ⟨U,Y,rfl,au,aa⟩
 have J:=(Fl.cel au).2.1
 refine ⟨_,rfl,?_⟩;intro J J;have M:=aa.size
 have ae:Fl (Clip (fun b=>I.heap.size≤b) av) av 1 (vl U C.data.length Y) C.data.length (byteVals C.data):=au.clip
 have I:=aj.ext aa
 refine ⟨fun _ _=>⟨eX,I⟩,?_⟩
 refine J.yw 12 (.agg #[(strOf C.name),(vl U C.data.length Y)]) rfl (fun F W=>rn_build (parts2 (F.get rfl) (F.get rfl)) (by kernel_rfl)) fun _ J=>ao 13 rfl<|J.on (fun g=>(vl (some ⟨g,0,none⟩) 1 1)) [(strOf C.name),(vl U C.data.length Y)] 61 rfl (fun F=>rn_buildSlice (parts1 (F.get rfl)) (by kernel_rfl)) fun J J _ J M M O M=>?_
 have ab:=I.ext M
 refine ⟨fun _ _=>⟨eX,ab⟩,?_⟩
 refine ao 14 rfl<|have I:=OwnL.pres rIt hO (((((Pres.refl w).ext G).ext Z).ext aa).ext M);have ac:=(ae.ext M);o_appB (zs:=xs++[(strOf C.name),(vl U C.data.length Y)]) El26 J rfl rfl rfl rfl rfl (J.get rfl) (J.get rfl) I.1 (Fl.cel (Fl.blk (S:=fun _=>True) (k:=2) (n:=1) (c:=1) (cs:=[(strOf C.name),(vl U C.data.length Y)]) O rfl (one_cons rfl (one_cons rfl one_nil)) ⟨Nat.le_refl _,by omega⟩ trivial)).2.2 (by omega) (by omega) (by omega) rfl fun U Y ai J O ah J ae ae ag=>?_;have ae:=J.size
 have ae:=OwnL.snoc (x:=(⟨C.name,C.data⟩:It)) rIt I ah J ag rfl (one_cons rfl (one_cons rfl one_nil)) ⟨_,_,rfl,ac⟩ (fun b _ hb=>⟨by simp only [Clip] at hb;omega,fun C=>by have h5:=own_blk_lt hO.1 b C;simp only [Clip] at hb;omega⟩)
 refine ⟨fun h=>absurd h (by decide),?_⟩
 refine ao 15 rfl<|have C:=(grown_blk I.1 J ab (by decide));o_store1 (new:=[(vl U (n0+1) Y)]) O rfl rfl rfl rfl (O.get rfl) (O.get rfl) C inf26 (by simp) rfl rfl fun C U C=>?_;have Y:=C.size
 refine ⟨fun h=>absurd h (by decide),?_⟩
 refine nN<|blk_normal<|ret0 O rfl ?_
 have Y:=OwnL.pres rIt ae ((Pres.refl ai).gn C)
 have O:=(grown_blk I.1 J ((((hq.ext G).ext Z).ext aa).ext M) (by decide)).gn C
 obtain ⟨he1,he2⟩:=astep_y (x:=x) D V (by omega)
 have hfin:fn=(fn&&aok (x.head?,y.head?)):=by rw [he2];simp
 rw [hfin] at O
 exact ⟨rfl,⟨_,_,_,_,U,O,by rw [he1];exact Y⟩,(((((((FarX.refl w).ext G).ext Z).ext aa).ext M).row J I.1 (fun b hb h=>by have h6:=h.1;omega)).gc C)⟩
def JD (p base:Nat) (ps:List (Option It × Option It)) (W:World):Prop:=∃ A n c xs,Blk W p 27 [.slice A n c]∧OwnL RCg 3 66 base W (vl A n c) n xs (ps.flatMap dstep)∧p<base∧base≤W.heap.size
theorem JD.ext {p:Nat} {ps:List (Option It × Option It)} (h:JD p base ps W) (k:Ext W W'):JD p base ps W':=by
 obtain ⟨A,n,c,xs,h1,h2,h3,h4⟩:=h
 exact ⟨A,n,c,xs,h1.ext k,h2.ext rCg k,h3,Nat.le_trans h4 k.size⟩
theorem ne_or {β:Type} {x:List α} {y:List β} (h:¬ (x=[]∧y=[])):0<x.length∨0<y.length:=by
 rcases Nat.eq_zero_or_pos x.length with h1 | h1
 ·rcases Nat.eq_zero_or_pos y.length with h2 | h2
  ·exact absurd ⟨List.eq_nil_of_length_eq_zero h1,List.eq_nil_of_length_eq_zero h2⟩ h
  ·exact .inr h2
 ·exact .inl h1
theorem jd_step {p:Nat} (hN:N≤1000000) {a0 b0:List It} (ha:∀ z∈a0,z.data.length≤4294967296) (hb:∀ z∈b0,z.data.length≤4294967296) (ps:List (Option It × Option It)) (u v:Value) (x y:List It) (W:World) (hJ:JD p base ps W) (hx:RLs RIt 2 (fun b=>b<p) W u x) (hy:RLs RIt 2 (fun b=>b<p) W v y) (_:x.length≤1) (_:y.length≤1) (hne:¬ (x=[]∧y=[])) (hyb:∀ z∈y,z∈b0) (hxa:∀ z∈x,z∈a0) (hl:ps.length<N) :
  Calls Tryz.prog 57 #[u,v,.pointer (some ⟨p,0,none⟩)] W (fun e W'=>e=.returned (.tuple #[])∧JD p base (ps++[(x.head?,y.head?)]) W'∧FarX (fun b=>b<p) W W'):=by
 obtain ⟨D,I,G,xs,h1,hO,hpb,hbs⟩:=hJ
 obtain ⟨A,c,rfl,_⟩:=hx.form
 obtain ⟨B,d,rfl,_⟩:=hy.form
 have hn:=hO.2.1
 have hf:=flat_len dstep_len ps
 refine (diff1_any p base D I G xs _ A c x B d y W h1 hO hpb hbs (by omega) hx hy (ne_or hne) (fun z hz=>ha z (hxa z hz)) (fun z hz=>hb z (hyb z hz))).mono ?_
 rintro e W' ⟨rfl,⟨A',n',c',xs',h2,h3⟩,C⟩
 refine ⟨rfl,⟨A',n',c',xs',h2,?_,hpb,Nat.le_trans hbs C.1.1⟩,C.sub fun b hb=>⟨Nat.lt_trans hb hpb,by omega⟩⟩
 rw [List.flatMap_append,List.flatMap_cons,List.flatMap_nil,List.append_nil]
 exact h3
def diffE (a b:List It):Int:=if checkE a≠0 then checkE a else checkE b
def diffV (a b:List It):List Cg:=if diffE a b=0 then diffL a b else []
def JA (p q base:Nat) (ps:List (Option It × Option Cg)) (W:World):Prop:=∃ A n c xs,Blk W p 26 [.slice A n c]∧Blk W q 4 [.bool (ps.all aok)]∧OwnL RIt 2 61 base W (vl A n c) n xs (ps.flatMap astepX)∧(p<base∧q<base∧p<q)∧base≤W.heap.size
theorem JA.ext {p:Nat} {ps:List (Option It × Option Cg)} (h:JA p q base ps W) (k:Ext W W'):JA p q base ps W':=by
 obtain ⟨A,n,c,xs,h1,h0,h2,h3,h4⟩:=h
 exact ⟨A,n,c,xs,h1.ext k,h0.ext k,h2.ext rIt k,h3,Nat.le_trans h4 k.size⟩
theorem ja_step {p:Nat} (hN:N≤1000000) {a0:List It} {b0:List Cg} (ha:∀ z∈a0,z.data.length≤4294967296) (hb:∀ z∈b0,z.data.length≤4294967296) (ps:List (Option It × Option Cg)) (u v:Value) (x:List It) (y:List Cg) (W:World) (hJ:JA p q base ps W) (hx:RLs RIt 2 (fun b=>b<p) W u x) (hy:RLs RCg 3 (fun b=>b<p) W v y) (_:x.length≤1) (_:y.length≤1) (hne:¬ (x=[]∧y=[])) (hyb:∀ z∈y,z∈b0) (hxa:∀ z∈x,z∈a0) (hl:ps.length<N) :
  Calls Tryz.prog 114 #[u,v,.pointer (some ⟨p,0,none⟩),.pointer (some ⟨q,0,none⟩)] W (fun e W'=>e=.returned (.tuple #[])∧JA p q base (ps++[(x.head?,y.head?)]) W'∧FarX (fun b=>b<p) W W'):=by
 obtain ⟨D,I,G,xs,h1,h0,hO,⟨hpb,hqb,hpq⟩,hbs⟩:=hJ
 obtain ⟨A,c,rfl,_⟩:=hx.form
 obtain ⟨B,d,rfl,_⟩:=hy.form
 have hn:=hO.2.1
 have hf:=flat_len (f:=astepX) astep_len ps
 refine (apply2_any q (ps.all aok) p base D I G xs _ A c x B d y W h1 h0 hqb (by omega) hO hpb hbs (by omega) hx hy (ne_or hne) (fun z hz=>ha z (hxa z hz)) (fun z hz=>hb z (hyb z hz))).mono ?_
 rintro e W' ⟨rfl,⟨A',n',c',xs',h2,h4,h3⟩,C⟩
 refine ⟨rfl,⟨A',n',c',xs',h2,?_,?_,⟨hpb,hqb,hpq⟩,Nat.le_trans hbs C.1.1⟩,C.sub fun b hb=>⟨Nat.lt_trans hb hpb,by omega,by omega⟩⟩
 ·rw [List.all_append,List.all_cons,List.all_nil,Bool.and_true];exact h4
 ·rw [List.flatMap_append,List.flatMap_cons,List.flatMap_nil,List.append_nil];exact h3
theorem check_len {l:List It} (h:checkE l=0):l.length≤65536:=(check_named h).1
theorem diff_any (A:Option Addr) (c:Nat) (a:List It) (B:Option Addr) (d:Nat) (b:List It) (w:World) (h1:RLs RIt 2 S w (vl A a.length c) a) (h2:RLs RIt 2 S w (vl B b.length d) b) (hsa:∀ z∈a,z.data.length≤4294967296) (hsb:∀ z∈b,z.data.length≤4294967296) :
  Calls Tryz.prog 26 #[.slice A a.length c,.slice B b.length d] w (fun e w'=>∃ A c,e=.returned (.tuple #[.slice A (diffV a b).length c,.int .i64 (diffE a b)])∧RLs RCg 3 (fun z=>w.heap.size≤z) w' (vl A (diffV a b).length c) (diffV a b)∧Ext w w'):=by
 have h1c:RLs RIt 2 (Clip S w) w (vl A a.length c) a:=RLs.clip rIt h1
 obtain ⟨-,h1ck,h1cm⟩:=RLs.at h1
 have h2c:RLs RIt 2 (Clip S w) w (vl B b.length d) b:=RLs.clip rIt h2
 obtain ⟨-,h2ck,h2cm⟩:=RLs.at h2
 refine calls_enter Tryz.func26 rfl rfl rfl fun _ C=>wr fun I M=>C.xz [v0] 27 fun C I _ I V V V ac=>I.xv (vi 0) fun _ I=>wn M<|wp_seq_k fun M ae=>wr fun M ai=>I.xm rfl fun _ I=>have M:=(RLs.ext rIt h1c ac);I.xe (pcheck_at (v:=(vl A a.length c)) a _ M) fun I aa I _ I=>I.xa rfl fun _ I=>wn ai<|wr fun M M=>I.xm rfl<|Xv (vd (((checkE a):Int)≠(0:Int))) fun _ I=>wn M ?_
 by_cases G:((checkE a):Int)≠(0:Int)
 ·exact I.ct<|wr fun C J=>I.xm rfl fun _ C=>have D:=(V.ext aa);wpl_op (i:=1) rfl<|o_store1 (new:=[v0]) C rfl rfl rfl rfl (C.get rfl) rfl D inf27 (by simp) rfl rfl fun D I D=>have M:=D.size;C.xa rfl fun _ C=>wn J<|have D:=C.k [0,1,4,5,6,11];wp_ret<|ret_then<|retS1 D rfl rfl rfl I uu27 rfl<|have hE:diffE a b=(checkE a):=if_pos G;have hv:diffV a b=[]:=if_neg (by rw [hE];exact G);⟨none,0,by rw [hv,hE];rfl,by rw [hv];exact RLs.nil _,eX⟩
 refine I.cf<|wp_skip<|ae _ _<|wp_seq_k fun M ai=>wr fun M ae=>I.xm rfl fun _ I=>have M:=(RLs.ux rIt h2c aa);I.xe (pcheck_at (v:=(vl B b.length d)) b _ M) fun J I M _ M=>M.xa rfl fun _ M=>wn ae<|have ae:=M.k [0,1,4,5,6,11,7];wr fun M aj=>ae.xm rfl<|Xv (vd (((checkE b):Int)≠(0:Int))) fun _ M=>wn aj ?_
 by_cases Z:((checkE b):Int)≠(0:Int)
 ·exact M.ct<|wr fun C J=>M.xm rfl fun _ C=>have D:=V.ux I;wpl_op (i:=1) rfl<|o_store1 (new:=[v0]) C rfl rfl rfl rfl (C.get rfl) rfl D inf27 (by simp) rfl rfl fun D D I=>have M:=I.size;C.xa rfl fun _ C=>wn J<|wp_ret<|ret_then<|retS1 C rfl rfl rfl D uu27 rfl<|have hE:diffE a b=(checkE b):=if_neg (fun q=>q (Decidable.not_not.1 G));have hv:diffV a b=[]:=if_neg (by rw [hE];exact Z);⟨none,0,by rw [hv,hE];rfl,by rw [hv];exact RLs.nil _,eX⟩
 refine M.cf<|wp_skip<|ai _ _<|wr fun ae ak=>M.xm rfl<|Xm rfl<|Xw (.func (.func 57) #[] #[(vp C)]) (fun F=>rn_makeFunc (args0 ) (args1 (F.get rfl))) fun _ M=>have hla:=check_len (Decidable.not_not.1 G);have hlb:=check_len (Decidable.not_not.1 Z);have ae:=(RLs.ux rIt h1c I);have ai:=(RLs.ux rIt h2c I);have ha79:RLs RIt 2 (fun b=>b<C) J (vl A a.length c) a:=RLs.sub rIt ae (fun b h=>by have h7:=h.2;omega);have hb80:RLs RIt 2 (fun b=>b<C) J (vl B b.length d) b:=RLs.sub rIt ai (fun b h=>by have h7:=h.2;omega);have ae:=V.ux I;have al:=((((Ext.refl w).trans ac).trans aa).trans I);wpl_op (i:=3) rfl<|o_call M rfl rfl rfl rfl (rn_call (args5 (M.get rfl) (M.get rfl) rfl rfl (M.get rfl)) rfl (by kernel_rfl)) (mergeIt_any A c a B d b (57) #[] #[(vp C)] (fun _ _=>by kernel_rfl) (fun u v=>#[u,v,(vp C)]) (fun u v=>by simp) (JD C J.heap.size) (fun _ _ _ h k=>h.ext k) (a.length+b.length) (jd_step (by omega) hsa hsb) J ha79 hb80 (mrg_len _ _) ⟨none,0,0,[],ae,OwnL.nil _ (Nat.le_refl _),by omega,Nat.le_refl _⟩) ?_
 rintro _ ab ⟨rfl,⟨U,C,Y,am,D,O,C,C⟩,ag⟩
 refine ⟨_,rfl,?_⟩;intro C ah
 have hX94:Ext w ab:=FarX.toExt ((FarX.of_ext al).trans ag) (fun b hb=>by omega)
 have C:=hX94.size;have C:=D.lt
 obtain rfl:=O.2.1
 have O:OwnL RCg 3 66 J.heap.size ab (vl U (diffL a b).length Y) (diffL a b).length am (diffL a b):=O
 have D:=D
 exact wn ak<|have C:=ah.k [0,1,4,5,6,11,7,16];wr fun I J=>C.xw (vl U ((diffL a b).length) Y) (fun F=>rl F rfl (D.rule.1 0)) fun _ C=>wpl_op (i:=1) rfl<|o_store1 (new:=[(vl U ((diffL a b).length) Y)]) C rfl rfl rfl rfl (C.get rfl) (C.get rfl) D inf27 (by simp) rfl rfl fun D I D=>have M:=D.size;C.xv (vi 0) fun _ C=>wn J<|wp_ret<|retS1 C rfl rfl rfl I uu27 rfl<|have hE:diffE a b=0:=(if_neg (fun q=>q (Decidable.not_not.1 G))).trans (Decidable.not_not.1 Z);have hv:diffV a b=diffL a b:=if_pos hE;have C:=OwnL.pres rCg O ((Pres.refl ab).gn D);⟨_,_,by rw [hv,hE],by rw [hv];exact RLs.sub rCg (OwnL.rls rCg C) (fun b hb=>by omega),(((Ext.refl w).trans hX94).gn D)⟩
theorem diff_at (a b:List It) (w:World) (h1:RLs RIt 2 S1 w u a) (h2:RLs RIt 2 S2 w v b) (hsa:∀ z∈a,z.data.length≤4294967296) (hsb:∀ z∈b,z.data.length≤4294967296) :
  Calls Tryz.prog 26 #[u,v] w (fun e w'=>∃ A c,e=.returned (.tuple #[.slice A (diffV a b).length c,.int .i64 (diffE a b)])∧RLs RCg 3 (fun z=>w.heap.size≤z) w' (vl A (diffV a b).length c) (diffV a b)∧Ext w w'):=by
 obtain ⟨A,c,rfl,_⟩:=h1.form
 obtain ⟨B,d,rfl,_⟩:=h2.form
 exact diff_any (S:=fun _=>True) A c a B d b w (h1.sub rIt fun _ _=>trivial) (h2.sub rIt fun _ _=>trivial) hsa hsb
theorem validC_of (h1:decide ((65536:Int)<(l.length:Int))=false) (h2:decide (named (cgNames l))=true) (h3:decide (∀ c∈l,¬ fullC c)=true):validC l:=⟨by have:=of_decide_eq_false h1;omega,of_decide_eq_true h2,of_decide_eq_true h3⟩
theorem validC_no1 (h:decide ((65536:Int)<(l.length:Int))=true):¬ validC l:=fun q=>by have:=of_decide_eq_true h;have:=q.1;omega
theorem validC_no2 (h:decide (named (cgNames l))=false):¬ validC l:=fun q=>of_decide_eq_false h q.2.1
theorem validC_no3 (h:decide (∀ c∈l,¬ fullC c)=false):¬ validC l:=fun q=>of_decide_eq_false h q.2.2
theorem apply_any (A:Option Addr) (c:Nat) (a:List It) (B:Option Addr) (d:Nat) (l:List Cg) (w:World) (h1:RLs RIt 2 S w (vl A a.length c) a) (h2:RLs RCg 3 S w (vl B l.length d) l) (hsa:∀ z∈a,z.data.length≤4294967296) (hsb:∀ z∈l,z.data.length≤4294967296) :
  Calls Tryz.prog 90 #[.slice A a.length c,.slice B l.length d] w (fun e w'=>∃ A c,e=.returned (.tuple #[.slice A (applyV a l).length c,.int .i64 (applyE a l)])∧RLs RIt 2 (fun z=>w.heap.size≤z) w' (vl A (applyV a l).length c) (applyV a l)∧Ext w w'):=by
 have h1c:RLs RIt 2 (Clip S w) w (vl A a.length c) a:=RLs.clip rIt h1
 obtain ⟨-,h1ck,h1cm⟩:=RLs.at h1
 have h2c:RLs RCg 3 (Clip S w) w (vl B l.length d) l:=RLs.clip rCg h2
 obtain ⟨-,h2ck,h2cm⟩:=RLs.at h2
 refine calls_enter Tryz.func90 rfl rfl rfl fun _ I=>wr fun V aa=>I.xz [v0] 26 fun I V _ V z6 z7 J aq=>V.xv (vi 0) fun _ V=>wn aa<|wp_seq_k fun aa ae=>wr fun aa av=>V.xm rfl fun _ V=>have aa:=(RLs.ext rIt h1c aq);V.xe (pcheck_at (v:=(vl A a.length c)) a _ aa) fun V ah V _ V=>V.xa rfl fun _ V=>wn av<|wr fun aa aa=>V.xm rfl<|Xv (vd (((checkE a):Int)≠(0:Int))) fun _ V=>wn aa ?_
 by_cases D:((checkE a):Int)≠(0:Int)
 ·exact V.ct<|wr fun C M=>V.xm rfl fun _ C=>have G:=(J.ext ah);wpl_op (i:=1) rfl<|o_store1 (new:=[v0]) C rfl rfl rfl rfl (C.get rfl) rfl G inf26 (by simp) rfl rfl fun G I G=>have J:=G.size;C.xa rfl fun _ C=>wn M<|have G:=C.k [0,1,4,5,6,12];wp_ret<|ret_then<|retS1 G rfl rfl rfl I uu26 rfl<|have hE:applyE a l=(checkE a):=if_pos D;have C:applyV a l=[]:=if_neg (by rw [hE];exact D);⟨none,0,by rw [C,hE];rfl,by rw [C];exact RLs.nil _,eX⟩
 refine V.cf<|wp_skip<|ae _ _<|wr fun aa aa=>V.xv (.func (.func 109) #[] #[]) fun _ V=>wn aa<|wp_seq_k fun aa ae=>wr fun aa ai=>V.xm rfl<|Xv (vi l.length)<|Xv (vd ((65536:Int)<(l.length:Int)))<|Xm rfl fun _ V=>?_
 by_cases O:(65536:Int)<(l.length:Int)
 ·exact V.xu<|Xu<|Xu<|Xv (.bool true)<|Xm rfl<|Xu<|Xu<|Xu<|Xv (.bool true) fun _ G=>wn ai<|have C:=G.k [0,1,4,5,6,12,7,26];C.ct<|wr fun G I=>have G:=(J.ext ah);wpl_op (i:=0) rfl<|o_store1 (new:=[v0]) C rfl rfl rfl rfl (C.get rfl) rfl G inf26 (by simp) rfl rfl fun G G J=>have M:=J.size;C.xv (vi 400) fun _ C=>wn I<|wp_ret<|ret_then<|retS1 C rfl rfl rfl G uu26 rfl<|have hE:applyE a l=400:=(if_neg (fun q=>q (Decidable.not_not.1 D))).trans (if_pos (validC_no1 (decide_eq_true O)));have C:applyV a l=[]:=if_neg (by rw [hE];decide);⟨none,0,by rw [C,hE];rfl,by rw [C];exact RLs.nil _,eX⟩
 refine V.xg (vl B l.length d) fun _ V=>have aa:=(RLs.ux rCg h2c ah);wpl_op (i:=5) rfl (V.gE (c:=namedCg_at (v:=(vl B l.length d)) l _ aa) (k:=fun V aj V _ V=>V.xgw (.bool (!(decide (named (cgNames l))))) (fun F=>rn_not' (F.get rfl) rfl)<|Xv (.bool (!(decide (named (cgNames l)))))<|Xm rfl fun _ al=>?_))
 by_cases U:named (cgNames l)
 ·refine al.xg (vl B l.length d)<|Xg (.func (.func 109) #[] #[]) fun _ V=>have aa:=(RLs.ux rCg h2c aj);wpl_op (i:=11) rfl (V.gE (c:=contains_at (v:=(vl B l.length d)) l _ aa) (k:=fun V am V _ V=>V.xv (.bool (!decide (∀ c∈l,¬ fullC c))) fun _ V=>wn ai ?_))
  have G:=V.k [0,1,4,5,6,12,7,26]
  by_cases M:∀ c∈l,¬ fullC c
  ·refine G.cf<|wp_skip<|ae _ _<|wr fun V aw=>G.xz [(.bool false)] 4 fun ae V _ aa V V V az=>wpl_op (i:=1) rfl<|o_store1 (new:=[(.bool true)]) aa rfl rfl rfl rfl (aa.get rfl) rfl V inf4 (by simp) rfl rfl fun Y av V=>have ax:=V.size;wn aw<|wr fun aw ay=>aa.xm rfl<|Xm rfl<|Xw (.func (.func 114) #[] #[(vp I),(vp ae)]) (fun F=>rn_makeFunc (args0 ) (args2 (F.get rfl) (F.get rfl))) fun _ aa=>have hla:=check_len (Decidable.not_not.1 D);have hv:=validC_of (decide_eq_false O) (decide_eq_true U) (decide_eq_true M);have hlb:=hv.1;have aw:=(RLs.ug rIt h1c V);have ax:=(RLs.ug rCg h2c V);have ha133:RLs RIt 2 (fun b=>b<I) Y (vl A a.length c) a:=RLs.sub rIt aw (fun b h=>by have h7:=h.2;omega);have hb134:RLs RCg 3 (fun b=>b<I) Y (vl B l.length d) l:=RLs.sub rCg ax (fun b h=>by have h7:=h.2;omega);have aw:=J.ug V;have aA:=(((((((Ext.refl w).trans aq).trans ah).trans aj).trans am).trans az).gn V);wpl_op (i:=3) rfl<|o_call aa rfl rfl rfl rfl (rn_call (args5 (aa.get rfl) (aa.get rfl) rfl rfl (aa.get rfl)) rfl (by kernel_rfl)) (mergeCg_any A c a B d l (114) #[] #[(vp I),(vp ae)] (fun _ _=>by kernel_rfl) (fun u v=>#[u,v,(vp I),(vp ae)]) (fun u v=>by simp) (JA I ae Y.heap.size) (fun _ _ _ h k=>h.ext k) (a.length+l.length) (ja_step (by omega) hsa hsb) Y ha133 hb134 (mrg_len _ _) ⟨none,0,0,[],aw,av,OwnL.nil _ (Nat.le_refl _),⟨by omega,by omega,by omega⟩,Nat.le_refl _⟩) ?_
   rintro _ ak ⟨rfl,⟨Z,I,ac,aB,C,ab,ag,I,I⟩,ar⟩
   refine ⟨_,rfl,?_⟩;intro I au
   have hX148:Ext w ak:=FarX.toExt ((FarX.of_ext aA).trans ar) (fun b hb=>by omega)
   have I:=hX148.size;have I:=C.lt
   have I:=ab.lt
   obtain rfl:=ag.2.1
   have ag:OwnL RIt 2 61 Y.heap.size ak (vl Z (appL a l).length ac) (appL a l).length aB (appL a l):=ag
   have C:=C
   have ab:=ab
   refine wn ay<|have G:=au.k [0,1,4,5,6,12,7,26,8];wp_seq_k fun I J=>wr fun I I=>G.xw (.bool (appOk a l)) (fun F=>rl F rfl (ab.rule.1 0))<|Xw (.bool (!(appOk a l))) (fun F=>rn_not' (F.get rfl) rfl) fun _ G=>wn I ?_
   rcases Bool.eq_false_or_eq_true (appOk a l) with I | I
   ·refine G.cf<|wp_skip<|J _ _<|wp_seq_k fun J J=>wr fun V V=>G.xw (vl Z ((appL a l).length) ac) (fun F=>rl F rfl (C.rule.1 0))<|Xv (vi ((appL a l).length:Nat))<|Xv (vd ((65536:Int)<(((appL a l).length:Nat):Int))) fun _ G=>wn V ?_
    by_cases V:(65536:Int)<(((appL a l).length:Nat):Int)
    ·exact G.ct<|wr fun J Y=>wpl_op (i:=0) rfl<|o_store1 (new:=[v0]) G rfl rfl rfl rfl (G.get rfl) rfl C inf26 (by simp) rfl rfl fun C V J=>have C:=J.size;G.xv (vi 2) fun _ C=>wn Y<|wp_ret<|ret_then<|retS1 C rfl rfl rfl V uu26 rfl<|have hE:applyE a l=2:=(if_neg (fun q=>q (Decidable.not_not.1 D))).trans ((if_neg (fun q=>q (validC_of (decide_eq_false O) (decide_eq_true U) (decide_eq_true M)))).trans ((if_neg (by rw [I];decide)).trans (if_pos (by omega))));have C:applyV a l=[]:=if_neg (by rw [hE];decide);⟨none,0,by rw [C,hE];rfl,by rw [C];exact RLs.nil _,(((Ext.refl w).trans hX148).gn J)⟩
    exact G.cf<|wp_skip<|J _ _<|wr fun J Y=>G.xw (vl Z ((appL a l).length) ac) (fun F=>rl F rfl (C.rule.1 0)) fun _ G=>wpl_op (i:=1) rfl<|o_store1 (new:=[(vl Z ((appL a l).length) ac)]) G rfl rfl rfl rfl (G.get rfl) (G.get rfl) C inf26 (by simp) rfl rfl fun C V J=>have C:=J.size;G.xv (vi 0) fun _ C=>wn Y<|have G:=C.k [0,1,4,5,6,12,7,26,8,32,35];wp_ret<|retS1 G rfl rfl rfl V uu26 rfl<|have hE:applyE a l=0:=(if_neg (fun q=>q (Decidable.not_not.1 D))).trans ((if_neg (fun q=>q (validC_of (decide_eq_false O) (decide_eq_true U) (decide_eq_true M)))).trans ((if_neg (by rw [I];decide)).trans (if_neg (by omega))));have C:applyV a l=appL a l:=if_pos hE;have D:=OwnL.pres rIt ag ((Pres.refl ak).gn J);⟨_,_,by rw [C,hE],by rw [C];exact RLs.sub rIt (OwnL.rls rIt D) (fun b hb=>by omega),(((Ext.refl w).trans hX148).gn J)⟩
   exact G.ct<|wr fun J Y=>wpl_op (i:=0) rfl<|o_store1 (new:=[v0]) G rfl rfl rfl rfl (G.get rfl) rfl C inf26 (by simp) rfl rfl fun C V J=>have C:=J.size;G.xv (vi 400) fun _ C=>wn Y<|wp_ret<|ret_then<|retS1 C rfl rfl rfl V uu26 rfl<|have hE:applyE a l=400:=(if_neg (fun q=>q (Decidable.not_not.1 D))).trans ((if_neg (fun q=>q (validC_of (decide_eq_false O) (decide_eq_true U) (decide_eq_true M)))).trans (if_pos I));have C:applyV a l=[]:=if_neg (by rw [hE];decide);⟨none,0,by rw [C,hE];rfl,by rw [C];exact RLs.nil _,(((Ext.refl w).trans hX148).gn J)⟩
  exact G.ct<|wr fun C O=>have C:=J.ux am;wpl_op (i:=0) rfl<|o_store1 (new:=[v0]) G rfl rfl rfl rfl (G.get rfl) rfl C inf26 (by simp) rfl rfl fun C I C=>have J:=C.size;G.xv (vi 400) fun _ C=>wn O<|wp_ret<|ret_then<|retS1 C rfl rfl rfl I uu26 rfl<|have hE:applyE a l=400:=(if_neg (fun q=>q (Decidable.not_not.1 D))).trans (if_pos (validC_no3 (decide_eq_false M)));have C:applyV a l=[]:=if_neg (by rw [hE];decide);⟨none,0,by rw [C,hE];rfl,by rw [C];exact RLs.nil _,eX⟩
 exact al.xu<|Xu<|Xu<|Xv (.bool true) fun _ G=>wn ai<|have C:=G.k [0,1,4,5,6,12,7,26];C.ct<|wr fun G I=>have G:=J.ux aj;wpl_op (i:=0) rfl<|o_store1 (new:=[v0]) C rfl rfl rfl rfl (C.get rfl) rfl G inf26 (by simp) rfl rfl fun G G J=>have M:=J.size;C.xv (vi 400) fun _ C=>wn I<|wp_ret<|ret_then<|retS1 C rfl rfl rfl G uu26 rfl<|have hE:applyE a l=400:=(if_neg (fun q=>q (Decidable.not_not.1 D))).trans (if_pos (validC_no2 (decide_eq_false U)));have C:applyV a l=[]:=if_neg (by rw [hE];decide);⟨none,0,by rw [C,hE];rfl,by rw [C];exact RLs.nil _,eX⟩
theorem apply_at (a:List It) (l:List Cg) (w:World) (h1:RLs RIt 2 S1 w u a) (h2:RLs RCg 3 S2 w v l) (hsa:∀ z∈a,z.data.length≤4294967296) (hsb:∀ z∈l,z.data.length≤4294967296) :
  Calls Tryz.prog 90 #[u,v] w (fun e w'=>∃ A c,e=.returned (.tuple #[.slice A (applyV a l).length c,.int .i64 (applyE a l)])∧RLs RIt 2 (fun z=>w.heap.size≤z) w' (vl A (applyV a l).length c) (applyV a l)∧Ext w w'):=by
 obtain ⟨A,c,rfl,_⟩:=h1.form
 obtain ⟨B,d,rfl,_⟩:=h2.form
 exact apply_any (S:=fun _=>True) A c a B d l w (h1.sub rIt fun _ _=>trivial) (h2.sub rCg fun _ _=>trivial) hsa hsb
end Go.Proofs.YtihgmaoghbnnaaaGreatDoor
