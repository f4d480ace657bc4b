/- Several texts in one: Sr, Frame, LaidA, Open03, Open04, Grow, Rng, Rbv, MrA, Blake, DigA, DigB, DigC, DigP, DigD, ElA, DigE, DigF. -/
import Derived.Test.YtihgmaoghbnnaaaGreatDoorQgA
import Derived.KernelRfl
import Derived.Test.YtihgmaoghbnnaaaGreatDoorProg
import Derived.ProofKit
import Derived.SizedLaws
import Derived.Deep.Slices
import Derived.OpenShut
import Derived.ChangeMaps5
import Derived.Lib.SmallJoins
import Derived.RangeFuncNested
import Derived.TacticsIn
set_option linter.unusedVariables false
set_option linter.unusedSimpArgs false
set_option maxRecDepth 100000
set_option maxHeartbeats 1000000
namespace Go.Proofs.YtihgmaoghbnnaaaGreatDoor
open Go.RowKit
variable {X:Act→World→Prop} {vs:Array Value} {last:Bool} {R:Ending→World→Prop} {f:FuncId} {l:List (List UInt8)} {q:List MemPlace} {s:List Nat} {h h' h0 m v v':List UInt32} {a b b0:List UInt8} {cs:List Value} {N base d fuel r:Nat} {S S':Nat→Prop} {o:Oper} {x0:Operand} {α β:Type} {u:TypeDesc} {e t ty:TypeId} {y:UInt32} {W' w w' w1 w2:World}
section
variable {P:Program} {ρ:Operand→Value} {W:World} {d:Option Tmp} {t:TypeId} {p:String} {af:Array Edge} {g:Option (Nat × Bool)} {v:Value}
theorem rq_len {x:Operand} {s:TypeId} {A:Option Addr} {n c:Nat} {k:Int} (hu:P.underlying s=some (.slice e)) (hx:ρ x=.slice A n c) (h:(n:Int)=k):(execOp ρ ⟨d,.call { callee:=.builtin .len,args:=#[x],argTypes:=#[s] },t,p,af,g⟩).run P W=.ok (.value (.int .i64 k)) W:=h ▸ rn_len_slice hu hx
theorem rq_max {s:TypeId} {x y:Operand} {a b c:Int} (hu:P.underlying s=some u) (hx:ρ x=.int .i64 a) (hy:ρ y=.int .i64 b) (h:max a b=c):(execOp ρ ⟨d,.call { callee:=.builtin .max,args:=#[x,y],argTypes:=#[s,s] },t,p,af,g⟩).run P W=.ok (.value (.int .i64 c)) W:=by
  rw [← h];exact rn_max2 hu hx hy
theorem rq_min {s:TypeId} {x y:Operand} {a b c:Int} (hu:P.underlying s=some u) (hx:ρ x=.int .i64 a) (hy:ρ y=.int .i64 b) (h:min a b=c):(execOp ρ ⟨d,.call { callee:=.builtin .min,args:=#[x,y],argTypes:=#[s,s] },t,p,af,g⟩).run P W=.ok (.value (.int .i64 c)) W:=by
  rw [← h];exact rn_min2 hu hx hy
end
theorem xBk {p:Prop} (h:p:=by
    first
    | assumption
    | exact decide_eq_true (by assumption)
    | exact decide_eq_false (by assumption)
    | exact not_t (by assumption)
    | exact not_f (by assumption)
    | exact not_t (decide_eq_true (by assumption))
    | exact not_f (decide_eq_false (by assumption))
    | rfl
    | exact decide_eq_true (by omega)
    | exact decide_eq_false (by omega)):p:=h
abbrev vi (n:Int):Value:=.int .i64 n
abbrev vl (A:Option Addr) (n c:Nat):Value:=.slice A n c
abbrev vp (g:Nat):Value:=.pointer (some ⟨g,0,none⟩)
abbrev v0:Value:=.slice none 0 0
abbrev vq (g o:Nat):Value:=.pointer (some ⟨g,o,none⟩)
abbrev vd (p:Prop) [Decidable p]:Value:=.bool (decide p)
def Ex (a b:World):Prop:=Ext a b
theorem zl (k:Nat):(0:Int)≤(k:Nat):=Int.natCast_nonneg k
theorem il {a b:Nat} (h:a<b):(a:Int)<(b:Int):=Int.ofNat_lt.2 h
theorem ie {a b:Nat} (h:a≤b):(a:Int)≤(b:Int):=Int.ofNat_le.2 h
theorem xUd {P:Program} {t:TypeId} (h:P.underlying t=some u:=by exact (by first | with_reducible exact Tryz.underlying144 | with_reducible exact Tryz.underlying113 | with_reducible exact Tryz.underlying127 | with_reducible exact Tryz.underlying27 | with_reducible exact Tryz.underlying30 | with_reducible exact Tryz.underlying26 | with_reducible exact Tryz.underlying25 | with_reducible exact Tryz.underlying104 | with_reducible exact Tryz.underlying22 | with_reducible exact Tryz.underlying66 | with_reducible exact Tryz.underlying29 | with_reducible exact Tryz.underlying48 | with_reducible exact Tryz.underlying61 | with_reducible exact Tryz.underlying24 | with_reducible exact Tryz.underlying32 | with_reducible exact Tryz.underlying34 | with_reducible exact Tryz.underlying4 | with_reducible exact Tryz.underlying3 | with_reducible exact Tryz.underlying99 | with_reducible exact Tryz.underlying97 | with_reducible exact Tryz.underlying9 | with_reducible exact Tryz.underlying143 | with_reducible exact Tryz.underlying5)):P.underlying t=some u:=h
theorem xSz {P:Program} {t:TypeId} {k:Nat} (h:(P.info? t).map (·.size)=some k:=by exact (by first | with_reducible exact inf159 | with_reducible exact inf152 | with_reducible exact inf156 | with_reducible exact inf161 | with_reducible exact inf144 | with_reducible exact inf66 | with_reducible exact inf29 | with_reducible exact inf48 | with_reducible exact inf61 | with_reducible exact inf24 | with_reducible exact inf32 | with_reducible exact inf34 | with_reducible exact inf116 | with_reducible exact inf99 | with_reducible exact inf97)):(P.info? t).map (·.size)=some k:=h
theorem sk {x:Option Nat} {k:Nat} (h:x=some k) (hk:cs.length=k):x=some cs.length:=h.trans (congrArg some hk.symm)
theorem sk2 {x:Option Nat} {k k2:Nat} (h:x=some k) (hk:cs.length=k2) (he:k=k2):x=some cs.length:=sk h (he ▸ hk)
theorem bl0 {n:Nat}:(byteVals (List.replicate n 0)).length=n:=byteVals_len List.length_replicate
theorem xLg {l:List Value} {k:Nat} (h:l.length=k:=by
    first
    | rfl
    | exact len_dig zero32_len
    | exact len_dig1 zero32_len
    | exact bl0
    | exact byteVals_len zero32_len
    | exact byteVals_len (by assumption)
    | exact len_dig (by assumption)
    | exact boolVals_len (by assumption)):l.length=k:=h
theorem xOne {l:List Value} (h:∀ u∈l,u.oneCell'=true:=by
    first
    | exact byteVals_one _
    | exact boolVals_one _
    | (repeat' first | exact one_nil | exact byteVals_one _ | refine one_cons rfl ?_ | refine one_app ?_ ?_);done
    | simp [Value.oneCell']):∀ u∈l,u.oneCell'=true:=h
theorem len_dig1 {x:Value} {st:List UInt8} {B:List Value} (h:st.length=32):(x::(byteVals st++B)).length=33+B.length:=by rw [List.length_cons,List.length_append,byteVals_len h];omega
section
variable {P:Program} {N:Nat} {m:List (Nat × Value)} {a:Act} {W:World} {d:Option Tmp} {t:TypeId} {p:String} {af:Array Edge} {g:Option (Nat × Bool)} {v:Value} {s:TypeId} {q:Nat} {td:TypeDesc}
theorem rl {b o:Nat} (F:Sl N m a) (hv:look m q=some (.pointer (some ⟨b,o,none⟩))) (hc:W.cell? ⟨b,o,none⟩=some v) (hu:P.underlying s=some td:=by exact xUd) (hd:aggTy td=false:=by rfl):(execOp a.eval ⟨d,.load s (.tmp q),t,p,af,g⟩).run P W=.ok (.value v) W:=rn_load (isAgg_no hu (by cases td <;> simp_all [aggTy])) (F.get hv) hc
theorem rb {b k k2:Nat} {tt:TypeId} (F:Sl N m a) (hv:look m q=some (.pointer (some ⟨b,0,none⟩))) (hB:Blk W b tt cs) (hu:P.underlying s=some td:=by exact xUd) (hd:aggTy td=true:=by rfl) (hi:(P.info? s).map (·.size)=some k:=by exact xSz) (hk:cs.length=k2:=by exact xLg) (he:k=k2:=by rfl) :
    (execOp a.eval ⟨d,.load s (.tmp q),t,p,af,g⟩).run P W=.ok (.value (.agg cs.toArray)) W:=rn_loadBlk (F.get hv) hB hu hd (sk2 hi hk he)
end
theorem cb {p q:Nat→Prop} (h:∀ b,p b→q b:=by exact fun b hb=>by first | exact hb.elim | omega | (simp only [Clip] at hb;omega)):∀ b,p b→q b:=h
theorem Blk.gn {w:World} {m n:Nat} {t:TypeId} (h:Blk w m t cs) (hg:w.grownBy w' (some n)) (hn:m≠n:=by omega):Blk w' m t cs:=h.grownN hg hn
theorem Ext.gn {a w:World} {n:Nat} (h:Ext a w) (hg:w.grownBy w' (some n)) (hn:a.heap.size≤n:=by omega):Ext a w':=h.grownN hg hn
theorem Pres.gn {S:Nat→Prop} {a w:World} {n:Nat} (h:Pres S a w) (hg:w.grownBy w' (some n)) (hn:¬ S n:=by first | omega | (intro h;simp at h;omega)):Pres S a w':=h.grownN hg hn
theorem Pres.gc {S:Nat→Prop} {a w:World} {n:Nat} (h:Pres S a w) (hg:w.grownBy w' (some n)) (hn:¬ S n:=by exact fun h=>by first | (simp only [Clip] at h;omega) | exact h.1 rfl | exact h.2 rfl | exact h.2.1 rfl | exact h.2.2 rfl | exact h.2.2.1 rfl | exact h.2.2.2 rfl | omega):Pres S a w':=h.grownN hg hn
def Kp (m:Nat) (w w':World):Prop:=∀ t cs,Blk w m t cs→Blk w' m t cs
theorem Kp.refl (m:Nat) (w:World):Kp m w w:=fun _ _ h=>h
theorem Kp.x {m:Nat} {a w:World} (h:Kp m a w) (hx:Ext w w'):Kp m a w':=fun _ _ b=>(h _ _ b).ext hx
theorem Kp.g {m n:Nat} {a w:World} (h:Kp m a w) (hg:w.grownBy w' (some n)) (hn:m≠n:=by omega):Kp m a w':=fun _ _ b=>(h _ _ b).grownN hg hn
theorem Blk.ux {w:World} {m:Nat} {t:TypeId} (b:Blk w m t cs) (hx:Ext w1 w2) (k:Kp m w w1:=by repeat (first | exact Kp.refl _ _ | refine Kp.x ?_ (by with_reducible assumption) | refine Kp.g ?_ (by with_reducible assumption))):Blk w2 m t cs:=(k _ _ b).ext hx
theorem Blk.ug {w:World} {m n:Nat} {t:TypeId} (b:Blk w m t cs) (hg:w1.grownBy w2 (some n)) (k:Kp m w w1:=by repeat (first | exact Kp.refl _ _ | refine Kp.x ?_ (by with_reducible assumption) | refine Kp.g ?_ (by with_reducible assumption))) (hn:m≠n:=by omega):Blk w2 m t cs:=(k _ _ b).grownN hg hn
theorem eX {a w:World} (h:Ext a w:=by repeat (first | exact Ext.refl _ | refine Ext.trans ?_ (by with_reducible assumption) | refine Ext.gn ?_ (by with_reducible assumption))):Ext a w:=h
theorem pX {S:Nat→Prop} {a w:World} (h:Pres S a w:=by repeat (first | exact Pres.refl _ | refine Pres.ext ?_ (by with_reducible assumption) | refine Pres.gc ?_ (by with_reducible assumption))):Pres S a w:=h
theorem Fl.ux {S:Nat→Prop} {w:World} {j n:Nat} {v:Value} {xs:List Value} (h:Fl S w j v n xs) (hx:Ext w1 w2) (k:Pres S w w1:=by exact pX):Fl S w2 j v n xs:=(h.pres k).ext hx
theorem Fl.ug {S:Nat→Prop} {w:World} {j n m:Nat} {v:Value} {xs:List Value} (h:Fl S w j v n xs) (hg:w1.grownBy w2 (some m)) (k:Pres S w w1:=by exact pX) (hn:¬ S m:=by exact fun h=>by first | (simp only [Clip] at h;omega) | exact h.1 rfl | exact h.2 rfl | exact h.2.1 rfl | exact h.2.2 rfl | exact h.2.2.1 rfl | exact h.2.2.2 rfl | omega):Fl S w2 j v n xs:=h.pres (k.grownN hg hn)
abbrev Lt (P:Program) (N:Nat) (m:List (Nat × Value)) (o:Oper) (v:Value):Prop:=∀ a:Act,Sl N m a→∀ W:World,(execOp a.eval o).run P W=.ok (.value v) W
theorem Lt.go {P:Program} {N:Nat} {m:List (Nat × Value)} {v:Value} (h:Lt P N m o v:=by
    intro a F W
    first
    | (with_reducible apply rn_move) <;> (first | exact F.get rfl | rfl)
    | (with_reducible apply rn_assign) <;> (first | exact F.get rfl | rfl)
    | (with_reducible apply rn_field) <;> (first | exact xUd | exact F.get rfl | rfl | kernel_rfl)
    | (with_reducible apply rq_len) <;> (first | exact xUd | exact F.get rfl | rfl | omega)
    | (with_reducible apply rn_extract) <;> (first | exact F.get rfl | rfl)
    | (with_reducible apply rn_lss) <;> (first | exact F.get rfl | rfl)
    | (with_reducible apply rn_eql) <;> (first | exact F.get rfl | rfl)
    | (with_reducible apply rn_neq) <;> (first | exact F.get rfl | rfl)
    | (with_reducible apply rn_addN) <;> (first | exact F.get rfl | rfl | omega)
    | (with_reducible apply rn_pickT) <;> (first | exact c_true F rfl xBk | exact F.get rfl | rfl)
    | (with_reducible apply rn_pickF) <;> (first | exact c_false F rfl xBk | exact F.get rfl | rfl)
    | (with_reducible apply rn_gtr) <;> (first | exact F.get rfl | rfl)
    | (with_reducible apply rn_leq) <;> (first | exact F.get rfl | rfl)
    | (with_reducible apply rn_geq) <;> (first | exact F.get rfl | rfl)
    | (with_reducible apply rn_not) <;> (first | exact F.get rfl | rfl)
    | (with_reducible apply rn_nil) <;> (first | exact F.get rfl | rfl)
    | (with_reducible apply rn_sub) <;> (first | exact F.get rfl | rfl | omega)
    | (with_reducible apply rn_add) <;> (first | exact F.get rfl | rfl | omega)
    | (with_reducible apply rq_min) <;> (first | exact xUd | exact F.get rfl | rfl | omega)
    | (with_reducible apply rq_max) <;> (first | exact xUd | exact F.get rfl | rfl | omega)
    | (with_reducible apply rn_cutLo) <;> (first | exact xUd | exact xSz | exact F.get rfl | rfl | omega)
    | (with_reducible apply rn_eql') <;> (first | exact F.get rfl | rfl | decide)
    | (with_reducible apply rn_lss') <;> (first | exact F.get rfl | rfl | decide)
    | (with_reducible apply rn_neq') <;> (first | exact F.get rfl | rfl | decide)):Lt P N m o v:=h
theorem ag0_1 {ρ:Operand→Value} {v0:Value} (h0:ρ x0=v0):#[]++#[x0].map ρ=#[v0]:=by simp [h0]
theorem ag0_2 {ρ:Operand→Value} {x1:Operand} {v0 v1:Value} (h0:ρ x0=v0) (h1:ρ x1=v1):#[]++#[x0,x1].map ρ=#[v0,v1]:=by simp [h0,h1]
abbrev Lc (P:Program) (N:Nat) (m:List (Nat × Value)) (o:Oper) (f:FuncId) (vs:Array Value):Prop:=∀ a:Act,Sl N m a→∀ W:World,(execOp a.eval o).run P W=.ok (.enter f vs) W
theorem Lc.go {P:Program} {N:Nat} {m:List (Nat × Value)} (h:Lc P N m o f vs:=by
    intro a F W
    first
    | refine rn_call ?_ rfl (by kernel_rfl)
    | refine rn_callv (F.get rfl) ?_ (by kernel_rfl)
    first
    | exact args1 (by first | exact F.get rfl | rfl)
    | exact args2 (by first | exact F.get rfl | rfl) (by first | exact F.get rfl | rfl)
    | exact args3 (by first | exact F.get rfl | rfl) (by first | exact F.get rfl | rfl) (by first | exact F.get rfl | rfl)
    | exact args4 (by first | exact F.get rfl | rfl) (by first | exact F.get rfl | rfl) (by first | exact F.get rfl | rfl) (by first | exact F.get rfl | rfl)
    | exact args0
    | exact ag0_1 (by first | exact F.get rfl | rfl)
    | exact ag0_2 (by first | exact F.get rfl | rfl) (by first | exact F.get rfl | rfl)):Lc P N m o f vs:=h
section
variable {P:Program} {ops:Array Oper} {Q:Exit→Act→World→Prop} {S:World→Prop} {Fb:Nat→Bool} {w:World} {d N n:Nat} {m:List (Nat × Value)} {a:Act} {L L':Array Bool} {op:Op} {ty:TypeId} {ps:String} {af:Array Edge} {rest:List Oper} {v:Value} {t j dj:Nat} {b y:Bool} {oj:Oper}
theorem wpl_run (hw:Region.wanted o (yielded ops a.tmps)=true) (hr:(execOp a.eval o).run P w=.ok (.value v) w') (h:wpList P ops Q rest (a.put o.dst v) w'):wpList P ops Q (o::rest) a w:=by
  unfold wpList;rw [if_pos hw];exact .inl (by unfold Oper.wp;rw [hr];exact h)
theorem wpl_skip (hw:Region.wanted o (yielded ops a.tmps)=false) (h:wpList P ops Q rest (a.put o.dst undef) w):wpList P ops Q (o::rest) a w:=by
  unfold wpList;rw [if_neg (by rw [hw];decide)];exact h
theorem wpl_o {x:Option Nat} (h:wpOp P #[⟨x,op,ty,ps,af,.none⟩] Q 0 (wpList P ops Q rest) a w):wpList P ops Q (⟨x,op,ty,ps,af,.none⟩::rest) a w:=by
  have h1:wpOp P #[⟨x,op,ty,ps,af,.none⟩] Q 0 (wpList P ops Q rest) a w:=h
  unfold wpOp at h1;unfold wpList
  simp only [Region.wanted,if_true] at h1 ⊢;exact h1
theorem Sl.xw (hF:Sl N m a) (v:Value) (hr:∀ {a:Act},Sl N m a→(execOp a.eval ⟨some d,op,ty,ps,af,.none⟩).run P w=.ok (.value v) w) (h:∀ a',Sl N ((d,v)::m) a'→wpList P ops Q rest a' w)
    (hN:Nat.blt d N=true:=by rfl):wpList P ops Q (⟨some d,op,ty,ps,af,.none⟩::rest) a w:=wpl_run rfl (hr hF) (h _ (hF.put hN))
theorem Sl.xv (hF:Sl N m a) (v:Value) (h:∀ a',Sl N ((d,v)::m) a'→wpList P ops Q rest a' w) (hr:Lt P N m ⟨some d,op,ty,ps,af,.none⟩ v:=by exact Lt.go)
    (hN:Nat.blt d N=true:=by rfl):wpList P ops Q (⟨some d,op,ty,ps,af,.none⟩::rest) a w:=hF.xw v (fun F=>hr _ F _) h hN
theorem Sl.xm (hF:Sl N m a) (hv:look m t=some v) (h:∀ a',Sl N ((d,v)::m) a'→wpList P ops Q rest a' w)
    (hN:Nat.blt d N=true:=by rfl):wpList P ops Q (⟨some d,.move (.tmp t),ty,ps,af,.none⟩::rest) a w:=hF.xw v (fun F=>rn_move (F.get hv)) h hN
theorem Sl.xa (hF:Sl N m a) (hv:look m t=some v) (h:∀ a',Sl N ((d,v)::m) a'→wpList P ops Q rest a' w)
    (hN:Nat.blt d N=true:=by rfl):wpList P ops Q (⟨some d,.assign (.tmp t),ty,ps,af,.none⟩::rest) a w:=hF.xw v (fun F=>rn_assign (F.get hv)) h hN
theorem Sl.xgw (hF:Sl N m a) (v:Value) (hr:∀ {a:Act},Sl N m a→(execOp a.eval ⟨some d,op,ty,ps,af,some (j,b)⟩).run P w=.ok (.value v) w) (h:∀ a',Sl N ((d,v)::m) a'→wpList P ops Q rest a' w)
    (hj:ops[j]?=some oj:=by rfl) (hdj:oj.dst=some dj:=by rfl) (hv:look m dj=some (.bool y):=by rfl) (hy:y=b:=by exact xBk)
    (hN:Nat.blt d N=true:=by rfl):wpList P ops Q (⟨some d,op,ty,ps,af,some (j,b)⟩::rest) a w :=
  wpl_run (wanted_guard rfl hj hdj hF hv hy (by simp)) (hr hF) (h _ (hF.put hN))
theorem Sl.xg (hF:Sl N m a) (v:Value) (h:∀ a',Sl N ((d,v)::m) a'→wpList P ops Q rest a' w) (hr:Lt P N m ⟨some d,op,ty,ps,af,some (j,b)⟩ v:=by exact Lt.go)
    (hj:ops[j]?=some oj:=by rfl) (hdj:oj.dst=some dj:=by rfl) (hv:look m dj=some (.bool y):=by rfl) (hy:y=b:=by exact xBk)
    (hN:Nat.blt d N=true:=by rfl):wpList P ops Q (⟨some d,op,ty,ps,af,some (j,b)⟩::rest) a w:=hF.xgw v (fun F=>hr _ F _) h hj hdj hv hy hN
theorem Sl.xu (hF:Sl N m a) (h:∀ a',Sl N ((d,undef)::m) a'→wpList P ops Q rest a' w)
    (hj:ops[j]?=some oj:=by rfl) (hdj:oj.dst=some dj:=by rfl) (hv:look m dj=some (.bool y):=by rfl) (hy:y=!b:=by exact xBk)
    (hN:Nat.blt d N=true:=by rfl):wpList P ops Q (⟨some d,op,ty,ps,af,some (j,b)⟩::rest) a w :=
  wpl_skip (unwanted_guard rfl hj hdj hF hv hy (by cases b <;> rfl)) (h _ (hF.put hN))
theorem Sl.xc (hF:Sl N m a) (hc:Calls P f vs w R) (h:∀ e w',R e w'→∃ v,e=.returned v∧∀ a',Sl N ((d,v)::m) a'→wpList P ops Q rest a' w') (hr:Lc P N m ⟨some d,op,ty,ps,af,.none⟩ f vs:=by exact Lc.go)
    (hN:Nat.blt d N=true:=by rfl):wpList P ops Q (⟨some d,op,ty,ps,af,.none⟩::rest) a w:=wpl_o (o_call hF rfl rfl rfl hN (hr _ hF _) hc h)
theorem Xw (v:Value) (hr:∀ {a:Act},Sl N m a→(execOp a.eval ⟨some d,op,ty,ps,af,.none⟩).run P w=.ok (.value v) w) (h:∀ a',Sl N ((d,v)::m) a'→wpList P ops Q rest a' w)
    (hN:Nat.blt d N=true:=by rfl):∀ a,Sl N m a→wpList P ops Q (⟨some d,op,ty,ps,af,.none⟩::rest) a w:=fun _ F=>F.xw v hr h hN
theorem Xv (v:Value) (h:∀ a',Sl N ((d,v)::m) a'→wpList P ops Q rest a' w) (hr:Lt P N m ⟨some d,op,ty,ps,af,.none⟩ v:=by exact Lt.go)
    (hN:Nat.blt d N=true:=by rfl):∀ a,Sl N m a→wpList P ops Q (⟨some d,op,ty,ps,af,.none⟩::rest) a w:=fun _ F=>F.xv v h hr hN
theorem Xm (hv:look m t=some v) (h:∀ a',Sl N ((d,v)::m) a'→wpList P ops Q rest a' w)
    (hN:Nat.blt d N=true:=by rfl):∀ a,Sl N m a→wpList P ops Q (⟨some d,.move (.tmp t),ty,ps,af,.none⟩::rest) a w:=fun _ F=>F.xm hv h hN
theorem Xa (hv:look m t=some v) (h:∀ a',Sl N ((d,v)::m) a'→wpList P ops Q rest a' w)
    (hN:Nat.blt d N=true:=by rfl):∀ a,Sl N m a→wpList P ops Q (⟨some d,.assign (.tmp t),ty,ps,af,.none⟩::rest) a w:=fun _ F=>F.xa hv h hN
theorem Xgw (v:Value) (hr:∀ {a:Act},Sl N m a→(execOp a.eval ⟨some d,op,ty,ps,af,some (j,b)⟩).run P w=.ok (.value v) w) (h:∀ a',Sl N ((d,v)::m) a'→wpList P ops Q rest a' w)
    (hj:ops[j]?=some oj:=by rfl) (hdj:oj.dst=some dj:=by rfl) (hv:look m dj=some (.bool y):=by rfl) (hy:y=b:=by exact xBk)
    (hN:Nat.blt d N=true:=by rfl):∀ a,Sl N m a→wpList P ops Q (⟨some d,op,ty,ps,af,some (j,b)⟩::rest) a w:=fun _ F=>F.xgw v hr h hj hdj hv hy hN
theorem Xg (v:Value) (h:∀ a',Sl N ((d,v)::m) a'→wpList P ops Q rest a' w) (hr:Lt P N m ⟨some d,op,ty,ps,af,some (j,b)⟩ v:=by exact Lt.go)
    (hj:ops[j]?=some oj:=by rfl) (hdj:oj.dst=some dj:=by rfl) (hv:look m dj=some (.bool y):=by rfl) (hy:y=b:=by exact xBk)
    (hN:Nat.blt d N=true:=by rfl):∀ a,Sl N m a→wpList P ops Q (⟨some d,op,ty,ps,af,some (j,b)⟩::rest) a w:=fun _ F=>F.xg v h hr hj hdj hv hy hN
theorem Xu (h:∀ a',Sl N ((d,undef)::m) a'→wpList P ops Q rest a' w)
    (hj:ops[j]?=some oj:=by rfl) (hdj:oj.dst=some dj:=by rfl) (hv:look m dj=some (.bool y):=by rfl) (hy:y=!b:=by exact xBk)
    (hN:Nat.blt d N=true:=by rfl):∀ a,Sl N m a→wpList P ops Q (⟨some d,op,ty,ps,af,some (j,b)⟩::rest) a w:=fun _ F=>F.xu h hj hdj hv hy hN
theorem Sl.oc {i:Nat} {K:Act→World→Prop} (hF:Sl N m a) (hc:Calls P f vs w R) (h:∀ e w',R e w'→∃ v,e=.returned v∧∀ a',Sl N ((d,v)::m) a'→K a' w')
    (ho:ops[i]?=some ⟨some d,op,ty,ps,af,.none⟩:=by rfl) (hr:Lc P N m ⟨some d,op,ty,ps,af,.none⟩ f vs:=by exact Lc.go) (hN:Nat.blt d N=true:=by rfl):wpOp P ops Q i K a w:=o_call hF ho rfl rfl hN (hr _ hF _) hc h
theorem Sl.oe {i:Nat} {K:Act→World→Prop} (hF:Sl N m a) (hc:Calls P f vs w (fun e w'=>e=.returned v∧Ext w w')) (h:∀ w',Ext w w'→w.heap.size≤w'.heap.size→∀ a',Sl N ((d,v)::m) a'→K a' w')
    (ho:ops[i]?=some ⟨some d,op,ty,ps,af,.none⟩:=by rfl) (hr:Lc P N m ⟨some d,op,ty,ps,af,.none⟩ f vs:=by exact Lc.go) (hN:Nat.blt d N=true:=by rfl):wpOp P ops Q i K a w:=hF.oc hc (fun _ w' q=>⟨v,q.1,h w' q.2 q.2.size⟩) ho hr hN
theorem Sl.xe (hF:Sl N m a) (hc:Calls P f vs w (fun e w'=>e=.returned v∧Ext w w')) (h:∀ w',Ext w w'→w.heap.size≤w'.heap.size→∀ a',Sl N ((d,v)::m) a'→wpList P ops Q rest a' w') (hr:Lc P N m ⟨some d,op,ty,ps,af,.none⟩ f vs:=by exact Lc.go)
    (hN:Nat.blt d N=true:=by rfl):wpList P ops Q (⟨some d,op,ty,ps,af,.none⟩::rest) a w:=hF.xc hc (fun _ w' q=>⟨v,q.1,h w' q.2 q.2.size⟩) hr hN
theorem o_callE {i:Nat} {K:Act→World→Prop} (hF:Sl N m a) (ho:ops[i]?=some o) (hw:Region.wanted o (yielded ops a.tmps)=true) (hd:o.dst=some d) (hN:Nat.blt d N=true) (hr:(execOp a.eval o).run P w=.ok (.enter f vs) w)
    (hc:Calls P f vs w (fun e w'=>e=.returned v∧Ext w w')) (h:∀ w',Ext w w'→w.heap.size≤w'.heap.size→∀ a',Sl N ((d,v)::m) a'→K a' w'):wpOp P ops Q i K a w:=o_call hF ho hw hd hN hr hc (fun _ w' q=>⟨v,q.1,h w' q.2 q.2.size⟩)
theorem Sl.xC (hF:Sl N m a) (hr:Lc P N m ⟨some d,op,ty,ps,af,.none⟩ f vs:=by exact Lc.go) (c:Calls P f vs w R) (k:∀ e w',R e w'→∃ v,e=.returned v∧∀ a',Sl N ((d,v)::m) a'→wpList P ops Q rest a' w')
    (hN:Nat.blt d N=true:=by rfl):wpList P ops Q (⟨some d,op,ty,ps,af,.none⟩::rest) a w:=wpl_o (o_call hF rfl rfl rfl hN (hr _ hF _) c k)
theorem Sl.xE (hF:Sl N m a) (hr:Lc P N m ⟨some d,op,ty,ps,af,.none⟩ f vs:=by exact Lc.go) (c:Calls P f vs w (fun e w'=>e=.returned v∧Ext w w')) (k:∀ w',Ext w w'→w.heap.size≤w'.heap.size→∀ a',Sl N ((d,v)::m) a'→wpList P ops Q rest a' w')
    (hN:Nat.blt d N=true:=by rfl):wpList P ops Q (⟨some d,op,ty,ps,af,.none⟩::rest) a w:=hF.xC hr c (fun _ w' q=>⟨v,q.1,k w' q.2 q.2.size⟩) hN
theorem Sl.oC {i:Nat} {K:Act→World→Prop} (hF:Sl N m a) (ho:ops[i]?=some ⟨some d,op,ty,ps,af,.none⟩:=by rfl) (hr:Lc P N m ⟨some d,op,ty,ps,af,.none⟩ f vs:=by exact Lc.go) (c:Calls P f vs w R) (k:∀ e w',R e w'→∃ v,e=.returned v∧∀ a',Sl N ((d,v)::m) a'→K a' w')
    (hN:Nat.blt d N=true:=by rfl):wpOp P ops Q i K a w:=o_call hF ho rfl rfl hN (hr _ hF _) c k
theorem Sl.oE {i:Nat} {K:Act→World→Prop} (hF:Sl N m a) (ho:ops[i]?=some ⟨some d,op,ty,ps,af,.none⟩:=by rfl) (hr:Lc P N m ⟨some d,op,ty,ps,af,.none⟩ f vs:=by exact Lc.go) (c:Calls P f vs w (fun e w'=>e=.returned v∧Ext w w')) (k:∀ w',Ext w w'→w.heap.size≤w'.heap.size→∀ a',Sl N ((d,v)::m) a'→K a' w')
    (hN:Nat.blt d N=true:=by rfl):wpOp P ops Q i K a w:=hF.oC ho hr c (fun _ w' q=>⟨v,q.1,k w' q.2 q.2.size⟩) hN
theorem Sl.gC {i:Nat} {K:Act→World→Prop} (hF:Sl N m a) (ho:ops[i]?=some ⟨some d,op,ty,ps,af,some (j,b)⟩:=by rfl) (hr:Lc P N m ⟨some d,op,ty,ps,af,some (j,b)⟩ f vs:=by exact Lc.go) (c:Calls P f vs w R) (k:∀ e w',R e w'→∃ v,e=.returned v∧∀ a',Sl N ((d,v)::m) a'→K a' w')
    (hj:ops[j]?=some oj:=by rfl) (hdj:oj.dst=some dj:=by rfl) (hv:look m dj=some (.bool y):=by rfl) (hy:y=b:=by exact xBk) (hN:Nat.blt d N=true:=by rfl):wpOp P ops Q i K a w :=
  o_call hF ho (wanted_guard rfl hj hdj hF hv hy (by simp)) rfl hN (hr _ hF _) c k
theorem Sl.gE {i:Nat} {K:Act→World→Prop} (hF:Sl N m a) (ho:ops[i]?=some ⟨some d,op,ty,ps,af,some (j,b)⟩:=by rfl) (hr:Lc P N m ⟨some d,op,ty,ps,af,some (j,b)⟩ f vs:=by exact Lc.go) (c:Calls P f vs w (fun e w'=>e=.returned v∧Ext w w')) (k:∀ w',Ext w w'→w.heap.size≤w'.heap.size→∀ a',Sl N ((d,v)::m) a'→K a' w')
    (hj:ops[j]?=some oj:=by rfl) (hdj:oj.dst=some dj:=by rfl) (hv:look m dj=some (.bool y):=by rfl) (hy:y=b:=by exact xBk) (hN:Nat.blt d N=true:=by rfl):wpOp P ops Q i K a w :=
  hF.gC ho hr c (fun _ w' q=>⟨v,q.1,k w' q.2 q.2.size⟩) hj hdj hv hy hN
theorem wn (hK:∀ a w,X a w→Q .normal a w) (h:X a w):wpList P ops Q [] a w:=hK a w h
end
section
variable {P:Program} {ops:Array Oper} {Q:Exit→Act→World→Prop} {S:World→Prop} {Fb:Nat→Bool} {w:World} {d N n:Nat} {m:List (Nat × Value)} {a:Act} {L L':Array Bool} {op:Op} {ty:TypeId} {ps:String} {af:Array Edge} {v:Value} {t j dj:Nat} {b y:Bool} {oj:Oper}
theorem Sl.yw (hF:Sl N m a) (i:Nat) (v:Value) (ho:(ops[i]?,L.setIfInBounds i true)=(some ⟨some d,op,ty,ps,af,.none⟩,L')) (hr:∀ {a:Act},Sl N m a→∀ W,(execOp a.eval ⟨some d,op,ty,ps,af,.none⟩).run P W=.ok (.value v) W)
    (h:∀ a',Sl N ((d,v)::m) a'→wpAnyF P ops Q S Fb n L' a' w)
    (hs:Region.noSelect ops=true:=by decide +kernel) (hb:freeB ops L i=true:=by decide +kernel) (hN:Nat.blt d N=true:=by rfl)
    (hQ:∀ c a w v,Q (.panic c) (a.put (some d) v) w→Q (.panic c) a w:=by exact fun _ _ _ _ h=>h):wpAnyF P ops Q S Fb (n+1) L a w:=any_pure hF hs hb (Prod.mk.inj ho).2 (Prod.mk.inj ho).1 rfl hN hQ rfl (hr hF) h
theorem Sl.yv (hF:Sl N m a) (i:Nat) (v:Value) (ho:(ops[i]?,L.setIfInBounds i true)=(some ⟨some d,op,ty,ps,af,.none⟩,L'))
    (h:∀ a',Sl N ((d,v)::m) a'→wpAnyF P ops Q S Fb n L' a' w) (hr:Lt P N m ⟨some d,op,ty,ps,af,.none⟩ v:=by exact Lt.go)
    (hs:Region.noSelect ops=true:=by decide +kernel) (hb:freeB ops L i=true:=by decide +kernel) (hN:Nat.blt d N=true:=by rfl)
    (hQ:∀ c a w v,Q (.panic c) (a.put (some d) v) w→Q (.panic c) a w:=by exact fun _ _ _ _ h=>h):wpAnyF P ops Q S Fb (n+1) L a w:=hF.yw i v ho (fun F=>hr _ F) h hs hb hN hQ
theorem Sl.ym (hF:Sl N m a) (i:Nat) (ho:(ops[i]?,L.setIfInBounds i true,look m t)=(some ⟨some d,.move (.tmp t),ty,ps,af,.none⟩,L',some v))
    (h:∀ a',Sl N ((d,v)::m) a'→wpAnyF P ops Q S Fb n L' a' w)
    (hs:Region.noSelect ops=true:=by decide +kernel) (hb:freeB ops L i=true:=by decide +kernel) (hN:Nat.blt d N=true:=by rfl)
    (hQ:∀ c a w v,Q (.panic c) (a.put (some d) v) w→Q (.panic c) a w:=by exact fun _ _ _ _ h=>h):wpAnyF P ops Q S Fb (n+1) L a w :=
  hF.yw i v (Prod.ext (Prod.mk.inj ho).1 (Prod.mk.inj (Prod.mk.inj ho).2).1) (fun F _=>rn_move (F.get (Prod.mk.inj (Prod.mk.inj ho).2).2)) h hs hb hN hQ
theorem Sl.ygw (hF:Sl N m a) (i:Nat) (v:Value) (ho:(ops[i]?,L.setIfInBounds i true)=(some ⟨some d,op,ty,ps,af,some (j,b)⟩,L')) (hr:∀ {a:Act},Sl N m a→∀ W,(execOp a.eval ⟨some d,op,ty,ps,af,some (j,b)⟩).run P W=.ok (.value v) W)
    (h:∀ a',Sl N ((d,v)::m) a'→wpAnyF P ops Q S Fb n L' a' w)
    (hj:ops[j]?=some oj:=by rfl) (hdj:oj.dst=some dj:=by rfl) (hv:look m dj=some (.bool y):=by rfl) (hy:y=b:=by exact xBk)
    (hs:Region.noSelect ops=true:=by decide +kernel) (hb:freeB ops L i=true:=by decide +kernel) (hN:Nat.blt d N=true:=by rfl)
    (hQ:∀ c a w v,Q (.panic c) (a.put (some d) v) w→Q (.panic c) a w:=by exact fun _ _ _ _ h=>h):wpAnyF P ops Q S Fb (n+1) L a w :=
  any_pure hF hs hb (Prod.mk.inj ho).2 (Prod.mk.inj ho).1 rfl hN hQ (wanted_guard rfl hj hdj hF hv hy (by simp)) (hr hF) h
theorem Sl.yg (hF:Sl N m a) (i:Nat) (v:Value) (ho:(ops[i]?,L.setIfInBounds i true)=(some ⟨some d,op,ty,ps,af,some (j,b)⟩,L'))
    (h:∀ a',Sl N ((d,v)::m) a'→wpAnyF P ops Q S Fb n L' a' w) (hr:Lt P N m ⟨some d,op,ty,ps,af,some (j,b)⟩ v:=by exact Lt.go)
    (hj:ops[j]?=some oj:=by rfl) (hdj:oj.dst=some dj:=by rfl) (hv:look m dj=some (.bool y):=by rfl) (hy:y=b:=by exact xBk)
    (hs:Region.noSelect ops=true:=by decide +kernel) (hb:freeB ops L i=true:=by decide +kernel) (hN:Nat.blt d N=true:=by rfl)
    (hQ:∀ c a w v,Q (.panic c) (a.put (some d) v) w→Q (.panic c) a w:=by exact fun _ _ _ _ h=>h):wpAnyF P ops Q S Fb (n+1) L a w:=hF.ygw i v ho (fun F=>hr _ F) h hj hdj hv hy hs hb hN hQ
theorem Sl.yu (hF:Sl N m a) (i:Nat) (ho:(ops[i]?,L.setIfInBounds i true)=(some ⟨some d,op,ty,ps,af,some (j,b)⟩,L'))
    (h:∀ a',Sl N ((d,undef)::m) a'→wpAnyF P ops Q S Fb n L' a' w)
    (hj:ops[j]?=some oj:=by rfl) (hdj:oj.dst=some dj:=by rfl) (hv:look m dj=some (.bool y):=by rfl) (hy:y=!b:=by exact xBk)
    (hs:Region.noSelect ops=true:=by decide +kernel) (hb:freeB ops L i=true:=by decide +kernel) (hN:Nat.blt d N=true:=by rfl)
    (hQ:∀ c a w v,Q (.panic c) (a.put (some d) v) w→Q (.panic c) a w:=by exact fun _ _ _ _ h=>h):wpAnyF P ops Q S Fb (n+1) L a w :=
  any_pass hF hs hb (Prod.mk.inj ho).2 (Prod.mk.inj ho).1 rfl hN hQ (unwanted_guard rfl hj hdj hF hv hy (by cases b <;> rfl)) h
theorem Sl.yn (hF:Sl N m a) (i:Nat) (ho:(ops[i]?,L.setIfInBounds i true)=(some ⟨some d,op,ty,ps,af,some (j,b)⟩,L'))
    (h:∀ a',Sl N ((d,undef)::m) a'→wpAnyF P ops Q S Fb n L' a' w)
    (hj:ops[j]?=some oj:=by rfl) (hdj:oj.dst=some dj:=by rfl) (hv:look m dj=some undef:=by rfl)
    (hs:Region.noSelect ops=true:=by decide +kernel) (hb:freeB ops L i=true:=by decide +kernel) (hN:Nat.blt d N=true:=by rfl)
    (hQ:∀ c a w v,Q (.panic c) (a.put (some d) v) w→Q (.panic c) a w:=by exact fun _ _ _ _ h=>h):wpAnyF P ops Q S Fb (n+1) L a w :=
  any_pass hF hs hb (Prod.mk.inj ho).2 (Prod.mk.inj ho).1 rfl hN hQ (unwanted_undef rfl hj hdj hF hv) h
theorem Sl.ys (hF:Sl N m a) (i:Nat) (v:Value) (ho:(ops[i]?,L.setIfInBounds i true)=(some ⟨some d,op,ty,ps,af,.none⟩,L')) (hS:S w) (hr:∀ {a:Act},Sl N m a→∀ W,S W→(execOp a.eval ⟨some d,op,ty,ps,af,.none⟩).run P W=.ok (.value v) W)
    (h:∀ a',Sl N ((d,v)::m) a'→wpAnyF P ops Q S Fb n L' a' w)
    (hs:Region.noSelect ops=true:=by decide +kernel) (hb:lightB ops Fb L i=true:=by decide +kernel) (hN:Nat.blt d N=true:=by rfl)
    (hQ:∀ c a w v,Q (.panic c) (a.put (some d) v) w→Q (.panic c) a w:=by exact fun _ _ _ _ h=>h):wpAnyF P ops Q S Fb (n+1) L a w:=any_val hF hs hb (Prod.mk.inj ho).2 (Prod.mk.inj ho).1 rfl hN hQ rfl hS (hr hF) h
theorem Sl.ysg (hF:Sl N m a) (i:Nat) (v:Value) (ho:(ops[i]?,L.setIfInBounds i true)=(some ⟨some d,op,ty,ps,af,some (j,b)⟩,L')) (hS:S w) (hr:∀ {a:Act},Sl N m a→∀ W,S W→(execOp a.eval ⟨some d,op,ty,ps,af,some (j,b)⟩).run P W=.ok (.value v) W)
    (h:∀ a',Sl N ((d,v)::m) a'→wpAnyF P ops Q S Fb n L' a' w)
    (hj:ops[j]?=some oj:=by rfl) (hdj:oj.dst=some dj:=by rfl) (hv:look m dj=some (.bool y):=by rfl) (hy:y=b:=by exact xBk)
    (hs:Region.noSelect ops=true:=by decide +kernel) (hb:lightB ops Fb L i=true:=by decide +kernel) (hN:Nat.blt d N=true:=by rfl)
    (hQ:∀ c a w v,Q (.panic c) (a.put (some d) v) w→Q (.panic c) a w:=by exact fun _ _ _ _ h=>h):wpAnyF P ops Q S Fb (n+1) L a w :=
  any_val hF hs hb (Prod.mk.inj ho).2 (Prod.mk.inj ho).1 rfl hN hQ (wanted_guard rfl hj hdj hF hv hy (by simp)) hS (hr hF) h
theorem Yw (i:Nat) (v:Value) (ho:(ops[i]?,L.setIfInBounds i true)=(some ⟨some d,op,ty,ps,af,.none⟩,L')) (hr:∀ {a:Act},Sl N m a→∀ W,(execOp a.eval ⟨some d,op,ty,ps,af,.none⟩).run P W=.ok (.value v) W)
    (h:∀ a',Sl N ((d,v)::m) a'→wpAnyF P ops Q S Fb n L' a' w)
    (hs:Region.noSelect ops=true:=by decide +kernel) (hb:freeB ops L i=true:=by decide +kernel) (hN:Nat.blt d N=true:=by rfl)
    (hQ:∀ c a w v,Q (.panic c) (a.put (some d) v) w→Q (.panic c) a w:=by exact fun _ _ _ _ h=>h):∀ a,Sl N m a→wpAnyF P ops Q S Fb (n+1) L a w:=fun _ F=>F.yw i v ho hr h hs hb hN hQ
theorem Yv (i:Nat) (v:Value) (ho:(ops[i]?,L.setIfInBounds i true)=(some ⟨some d,op,ty,ps,af,.none⟩,L'))
    (h:∀ a',Sl N ((d,v)::m) a'→wpAnyF P ops Q S Fb n L' a' w) (hr:Lt P N m ⟨some d,op,ty,ps,af,.none⟩ v:=by exact Lt.go)
    (hs:Region.noSelect ops=true:=by decide +kernel) (hb:freeB ops L i=true:=by decide +kernel) (hN:Nat.blt d N=true:=by rfl)
    (hQ:∀ c a w v,Q (.panic c) (a.put (some d) v) w→Q (.panic c) a w:=by exact fun _ _ _ _ h=>h):∀ a,Sl N m a→wpAnyF P ops Q S Fb (n+1) L a w:=fun _ F=>F.yv i v ho h hr hs hb hN hQ
theorem Ym (i:Nat) (ho:(ops[i]?,L.setIfInBounds i true,look m t)=(some ⟨some d,.move (.tmp t),ty,ps,af,.none⟩,L',some v))
    (h:∀ a',Sl N ((d,v)::m) a'→wpAnyF P ops Q S Fb n L' a' w)
    (hs:Region.noSelect ops=true:=by decide +kernel) (hb:freeB ops L i=true:=by decide +kernel) (hN:Nat.blt d N=true:=by rfl)
    (hQ:∀ c a w v,Q (.panic c) (a.put (some d) v) w→Q (.panic c) a w:=by exact fun _ _ _ _ h=>h):∀ a,Sl N m a→wpAnyF P ops Q S Fb (n+1) L a w:=fun _ F=>F.ym i ho h hs hb hN hQ
theorem Ygw (i:Nat) (v:Value) (ho:(ops[i]?,L.setIfInBounds i true)=(some ⟨some d,op,ty,ps,af,some (j,b)⟩,L')) (hr:∀ {a:Act},Sl N m a→∀ W,(execOp a.eval ⟨some d,op,ty,ps,af,some (j,b)⟩).run P W=.ok (.value v) W)
    (h:∀ a',Sl N ((d,v)::m) a'→wpAnyF P ops Q S Fb n L' a' w)
    (hj:ops[j]?=some oj:=by rfl) (hdj:oj.dst=some dj:=by rfl) (hv:look m dj=some (.bool y):=by rfl) (hy:y=b:=by exact xBk)
    (hs:Region.noSelect ops=true:=by decide +kernel) (hb:freeB ops L i=true:=by decide +kernel) (hN:Nat.blt d N=true:=by rfl)
    (hQ:∀ c a w v,Q (.panic c) (a.put (some d) v) w→Q (.panic c) a w:=by exact fun _ _ _ _ h=>h):∀ a,Sl N m a→wpAnyF P ops Q S Fb (n+1) L a w:=fun _ F=>F.ygw i v ho hr h hj hdj hv hy hs hb hN hQ
theorem Yg (i:Nat) (v:Value) (ho:(ops[i]?,L.setIfInBounds i true)=(some ⟨some d,op,ty,ps,af,some (j,b)⟩,L'))
    (h:∀ a',Sl N ((d,v)::m) a'→wpAnyF P ops Q S Fb n L' a' w) (hr:Lt P N m ⟨some d,op,ty,ps,af,some (j,b)⟩ v:=by exact Lt.go)
    (hj:ops[j]?=some oj:=by rfl) (hdj:oj.dst=some dj:=by rfl) (hv:look m dj=some (.bool y):=by rfl) (hy:y=b:=by exact xBk)
    (hs:Region.noSelect ops=true:=by decide +kernel) (hb:freeB ops L i=true:=by decide +kernel) (hN:Nat.blt d N=true:=by rfl)
    (hQ:∀ c a w v,Q (.panic c) (a.put (some d) v) w→Q (.panic c) a w:=by exact fun _ _ _ _ h=>h):∀ a,Sl N m a→wpAnyF P ops Q S Fb (n+1) L a w:=fun _ F=>F.yg i v ho h hr hj hdj hv hy hs hb hN hQ
theorem Yu (i:Nat) (ho:(ops[i]?,L.setIfInBounds i true)=(some ⟨some d,op,ty,ps,af,some (j,b)⟩,L'))
    (h:∀ a',Sl N ((d,undef)::m) a'→wpAnyF P ops Q S Fb n L' a' w)
    (hj:ops[j]?=some oj:=by rfl) (hdj:oj.dst=some dj:=by rfl) (hv:look m dj=some (.bool y):=by rfl) (hy:y=!b:=by exact xBk)
    (hs:Region.noSelect ops=true:=by decide +kernel) (hb:freeB ops L i=true:=by decide +kernel) (hN:Nat.blt d N=true:=by rfl)
    (hQ:∀ c a w v,Q (.panic c) (a.put (some d) v) w→Q (.panic c) a w:=by exact fun _ _ _ _ h=>h):∀ a,Sl N m a→wpAnyF P ops Q S Fb (n+1) L a w:=fun _ F=>F.yu i ho h hj hdj hv hy hs hb hN hQ
theorem Yn (i:Nat) (ho:(ops[i]?,L.setIfInBounds i true)=(some ⟨some d,op,ty,ps,af,some (j,b)⟩,L'))
    (h:∀ a',Sl N ((d,undef)::m) a'→wpAnyF P ops Q S Fb n L' a' w)
    (hj:ops[j]?=some oj:=by rfl) (hdj:oj.dst=some dj:=by rfl) (hv:look m dj=some undef:=by rfl)
    (hs:Region.noSelect ops=true:=by decide +kernel) (hb:freeB ops L i=true:=by decide +kernel) (hN:Nat.blt d N=true:=by rfl)
    (hQ:∀ c a w v,Q (.panic c) (a.put (some d) v) w→Q (.panic c) a w:=by exact fun _ _ _ _ h=>h):∀ a,Sl N m a→wpAnyF P ops Q S Fb (n+1) L a w:=fun _ F=>F.yn i ho h hj hdj hv hs hb hN hQ
theorem Ys (i:Nat) (v:Value) (ho:(ops[i]?,L.setIfInBounds i true)=(some ⟨some d,op,ty,ps,af,.none⟩,L')) (hS:S w) (hr:∀ {a:Act},Sl N m a→∀ W,S W→(execOp a.eval ⟨some d,op,ty,ps,af,.none⟩).run P W=.ok (.value v) W)
    (h:∀ a',Sl N ((d,v)::m) a'→wpAnyF P ops Q S Fb n L' a' w)
    (hs:Region.noSelect ops=true:=by decide +kernel) (hb:lightB ops Fb L i=true:=by decide +kernel) (hN:Nat.blt d N=true:=by rfl)
    (hQ:∀ c a w v,Q (.panic c) (a.put (some d) v) w→Q (.panic c) a w:=by exact fun _ _ _ _ h=>h):∀ a,Sl N m a→wpAnyF P ops Q S Fb (n+1) L a w:=fun _ F=>F.ys i v ho hS hr h hs hb hN hQ
theorem Ysg (i:Nat) (v:Value) (ho:(ops[i]?,L.setIfInBounds i true)=(some ⟨some d,op,ty,ps,af,some (j,b)⟩,L')) (hS:S w) (hr:∀ {a:Act},Sl N m a→∀ W,S W→(execOp a.eval ⟨some d,op,ty,ps,af,some (j,b)⟩).run P W=.ok (.value v) W)
    (h:∀ a',Sl N ((d,v)::m) a'→wpAnyF P ops Q S Fb n L' a' w)
    (hj:ops[j]?=some oj:=by rfl) (hdj:oj.dst=some dj:=by rfl) (hv:look m dj=some (.bool y):=by rfl) (hy:y=b:=by exact xBk)
    (hs:Region.noSelect ops=true:=by decide +kernel) (hb:lightB ops Fb L i=true:=by decide +kernel) (hN:Nat.blt d N=true:=by rfl)
    (hQ:∀ c a w v,Q (.panic c) (a.put (some d) v) w→Q (.panic c) a w:=by exact fun _ _ _ _ h=>h):∀ a,Sl N m a→wpAnyF P ops Q S Fb (n+1) L a w:=fun _ F=>F.ysg i v ho hS hr h hj hdj hv hy hs hb hN hQ
end
section
variable {P:Program} {Q:Exit→Act→World→Prop} {a:Act} {w:World} {N:Nat} {m l l':List (Nat × Value)} {ts:List Nat} {v:Value} {t id:Nat}
def pk (m:List (Nat × Value)):List Nat→Option (List (Nat × Value))
  | []=>some []
  | t::ts=>match look m t,pk m ts with
    | some v,some l=>some ((t,v)::l)
    | _,_=>none
theorem Sl.k (hF:Sl N m a) (ts:List Nat) (h:pk m ts=some l:=by rfl):Sl N l a:=by
  induction ts generalizing l with
  | nil=>injection h with h;subst h;exact hF.nil
  | cons t ts ih =>
    simp only [pk] at h
    split at h
    · rename_i v l' h1 h2
      injection h with h;subst h
      exact (ih h2).cons (hF.get h1)
    · cases h
inductive Pj (m:List (Nat × Value)):List (Nat × Value)→Prop
  | n:Pj m []
  | c {t:Nat} {u v:Value} {l:List (Nat × Value)}:look m t=some u→u=v→Pj m l→Pj m ((t,v)::l)
theorem Sl.j (hF:Sl N m a) (h:Pj m l:=by repeat' first | exact Pj.n | refine Pj.c rfl (by first | rfl | (congr 1;omega) | (simp only [List.length_drop]) | (congr 1;done)) ?_):Sl N l a:=by
  induction h with
  | n=>exact hF.nil
  | c h1 h2 _ ih=>exact ih.cons ((hF.get h1).trans h2)
theorem Sl.ct {x y:Code} {b:Bool} (hF:Sl N m a) (h:x.wp P Q a w) (hv:look m t=some (.bool b):=by rfl) (hb:b=true:=by exact xBk):(Code.cond (.tmp t) x y).wp P Q a w:=wp_cond_true (c_true hF hv hb) h
theorem Sl.cf {x y:Code} {b:Bool} (hF:Sl N m a) (h:y.wp P Q a w) (hv:look m t=some (.bool b):=by rfl) (hb:b=false:=by exact xBk):(Code.cond (.tmp t) x y).wp P Q a w:=wp_cond_false (c_false hF hv hb) h
theorem wr {x:Code} {l:List Oper} (h:∀ K:Act→World→Prop,(∀ a w,x.wp P Q a w→K a w)→wpList P l.toArray (Exit.then K Q) l a w):(Code.seq (Code.region id l.toArray false) x).wp P Q a w:=wp_seq_k fun K hK=>wp_region_lit (h K hK)
end
section
variable {P:Program} {ops:Array Oper} {Q:Exit→Act→World→Prop} {S:World→Prop} {Fb:Nat→Bool} {w:World} {d N n i:Nat} {m:List (Nat × Value)} {a:Act} {L L' L1 L2:Array Bool} {op:Op} {ty s:TypeId} {ps:String} {af:Array Edge} {rest:List Oper} {v:Value} {t tx:Nat} {K:Act→World→Prop}
theorem Sl.xn (hF:Sl N m a) (f:Nat→Value) (cs:List Value) (T:TypeId) (hr:∀ {a:Act},Sl N m a→(execOp a.eval ⟨some d,op,ty,ps,af,.none⟩).run P w=.ok (.value (f w.heap.size)) (w.alloc (.cells cs.toArray T)))
    (h:∀ g w' a',Sl N ((d,f g)::m) a'→w.heap.size=g→w'.heap.size=g+1→Blk w' g T cs→Ext w w'→wpList P ops Q rest a' w')
    (hN:Nat.blt d N=true:=by rfl):wpList P ops Q (⟨some d,op,ty,ps,af,.none⟩::rest) a w:=wpl_o (o_new f cs T hF rfl rfl rfl hN (hr hF) h)
theorem Sl.xz (hF:Sl N m a) (cs:List Value) (T:TypeId)
    (h:∀ g w' a',Sl N ((d,.pointer (some ⟨g,0,.none⟩))::m) a'→w.heap.size=g→w'.heap.size=g+1→Blk w' g T cs→Ext w w'→wpList P ops Q rest a' w')
    (hr:∀ a:Act,(execOp a.eval ⟨some d,op,ty,ps,af,.none⟩).run P w=.ok (.value (.pointer (some ⟨w.heap.size,0,.none⟩))) (w.alloc (.cells cs.toArray T)):=by intro a;kernel_rfl)
    (hN:Nat.blt d N=true:=by rfl):wpList P ops Q (⟨some d,op,ty,ps,af,.none⟩::rest) a w:=hF.xn (fun g=>.pointer (some ⟨g,0,.none⟩)) cs T (fun _=>hr _) h hN
theorem Sl.xb (hF:Sl N m a) (hv:look m t=some (.agg cs.toArray))
    (h:∀ g w' a',Sl N ((d,.pointer (some ⟨g,0,.none⟩))::m) a'→w.heap.size=g→w'.heap.size=g+1→Blk w' g s cs→Ext w w'→wpList P ops Q rest a' w')
    (hN:Nat.blt d N=true:=by rfl):wpList P ops Q (⟨some d,.box s (.tmp t),ty,ps,af,.none⟩::rest) a w:=hF.xn (fun g=>.pointer (some ⟨g,0,.none⟩)) cs s (fun F=>rn_box (F.get hv) (box_arr _)) h hN
theorem Sl.on (hF:Sl N m a) (f:Nat→Value) (cs:List Value) (T:TypeId) (ho:ops[i]?=some ⟨some d,op,ty,ps,af,.none⟩) (hr:∀ {a:Act},Sl N m a→(execOp a.eval ⟨some d,op,ty,ps,af,.none⟩).run P w=.ok (.value (f w.heap.size)) (w.alloc (.cells cs.toArray T)))
    (h:∀ g w' a',Sl N ((d,f g)::m) a'→w.heap.size=g→w'.heap.size=g+1→Blk w' g T cs→Ext w w'→K a' w') (hN:Nat.blt d N=true:=by rfl):wpOp P ops Q i K a w:=o_new f cs T hF ho rfl rfl hN (hr hF) h
theorem Sl.oz (hF:Sl N m a) (cs:List Value) (T:TypeId) (ho:ops[i]?=some ⟨some d,op,ty,ps,af,.none⟩)
    (h:∀ g w' a',Sl N ((d,.pointer (some ⟨g,0,.none⟩))::m) a'→w.heap.size=g→w'.heap.size=g+1→Blk w' g T cs→Ext w w'→K a' w')
    (hr:∀ a:Act,(execOp a.eval ⟨some d,op,ty,ps,af,.none⟩).run P w=.ok (.value (.pointer (some ⟨w.heap.size,0,.none⟩))) (w.alloc (.cells cs.toArray T)):=by intro a;kernel_rfl) (hN:Nat.blt d N=true:=by rfl):wpOp P ops Q i K a w :=
  hF.on (fun g=>.pointer (some ⟨g,0,.none⟩)) cs T ho (fun _=>hr _) h hN
variable {g k k2:Nat} {t0:TypeId} {old cells:List Value}
theorem Sl.xs (hF:Sl N m a) (hv:(look m tx,look m t)=(some (.pointer (some ⟨g,0,.none⟩)),some (.agg cells.toArray))) (hb:Blk w g t0 old) (h:∀ w',Blk w' g t0 cells→w.grownBy w' (some g)→wpList P ops Q rest a w')
    (hi:(P.info? s).map (·.size)=some k:=by exact xSz) (hk:cells.length=k2:=by exact xLg) (he:k=k2:=by rfl) (hl:old.length=k2:=by exact xLg) (h1:∀ u∈cells,u.oneCell'=true:=by exact xOne):wpList P ops Q (⟨.none,.store s (.tmp tx) (.tmp t),ty,ps,af,.none⟩::rest) a w :=
  wpl_o (o_store hF rfl rfl rfl rfl (hF.get (Prod.mk.inj hv).1) (hF.get (Prod.mk.inj hv).2) hb (sk2 hi hk he) (hl.trans hk.symm) h1 h)
theorem Sl.os (hF:Sl N m a) (hv:(ops[i]?,look m tx,look m t)=(some ⟨.none,.store s (.tmp tx) (.tmp t),ty,ps,af,.none⟩,some (.pointer (some ⟨g,0,.none⟩)),some (.agg cells.toArray))) (hb:Blk w g t0 old) (h:∀ w',Blk w' g t0 cells→w.grownBy w' (some g)→K a w')
    (hi:(P.info? s).map (·.size)=some k:=by exact xSz) (hk:cells.length=k2:=by exact xLg) (he:k=k2:=by rfl) (hl:old.length=k2:=by exact xLg) (h1:∀ u∈cells,u.oneCell'=true:=by exact xOne):wpOp P ops Q i K a w :=
  o_store hF (Prod.mk.inj hv).1 rfl rfl rfl (hF.get (Prod.mk.inj (Prod.mk.inj hv).2).1) (hF.get (Prod.mk.inj (Prod.mk.inj hv).2).2) hb (sk2 hi hk he) (hl.trans hk.symm) h1 h
theorem Sl.ow (hF:Sl N m a) (v:Value) (ho:ops[i]?=some ⟨some d,op,ty,ps,af,.none⟩) (hr:∀ {a:Act},Sl N m a→(execOp a.eval ⟨some d,op,ty,ps,af,.none⟩).run P w=.ok (.value v) w) (h:∀ a',Sl N ((d,v)::m) a'→K a' w) (hN:Nat.blt d N=true:=by rfl):wpOp P ops Q i K a w:=o_val hF ho rfl rfl hN (hr hF) h
theorem ao (i:Nat) (hL:L.setIfInBounds i true=L') (h:wpOp P ops Q i (fun a' w'=>(Fb i=false→S w→S w')∧wpAnyF P ops Q S Fb n L' a' w') a w) (hr:Region.ready .any ops L=[i]:=by decide +kernel):wpAnyF P ops Q S Fb (n+1) L a w:=any_one hr hL h
theorem nN (h:Q .normal a w) (hr:Region.ready .any ops L=[]:=by decide +kernel):wpAnyF P ops Q S Fb 0 L a w:=any_nil hr h
theorem nK (hK:∀ a w,X a w→Q .normal a w) (h:X a w) (hr:Region.ready .any ops L=[]:=by decide +kernel):wpAnyF P ops Q S Fb 0 L a w:=any_nil hr (hK a w h)
theorem sX {id:Nat} (S:World→World→Prop) (Fb:Nat→Bool) (n:Nat) (h:∀ w',Ext w w'→w.heap.size≤w'.heap.size→wpAnyF P ops Q (S w') Fb n (.replicate n false) a w') (hm:P.follows .mixedOrders=true:=by rfl) (hn:n=ops.size:=by rfl):(Code.region id ops true).wp P Q a w :=
  any_start (S w.drew) Fb n (.replicate n false) hm hn (by rw [hn]) (h w.drew (Ext.refl _).drew (Ext.refl _).drew.size)
theorem an {p q s:Prop} (h:q) (hn:¬ p:=by decide):(p→s)∧q:=⟨fun x=>absurd x hn,h⟩
theorem ap {p q s:Prop} (h:q):(p→s→s)∧q:=⟨fun _ x=>x,h⟩
end
section
open Go.RowKit Go.ChangeShapes Go.WideShapes Go.ChangeAt Go.Deep
section
variable {H:Type} {enc:TypeId × Value→H} {P:Program}
def Old (w:World) (b:Nat):Prop:=b<w.heap.size
theorem sameAt_of_ext {W:World} (hb:Ext W W') {p:MemPlace} (hp:p.block<W.heap.size):W.sameAt W' p:=by
  cases p with
  | cell b off=>exact hb.cell hp
  | map b=>exact hb.below.block b hp
theorem trodAll_ext {W:World} (hb:Ext W W') {sp:Nat→Bool}:∀ {ts:List TypeId} {vs:List Value} {ds:List (DataW H)} {ps:List MemPlace},
    DataW.TrodAll enc P W 0 sp true ts vs ds ps→(∀ p∈ps,p.block<W.heap.size)→DataW.TrodAll enc P W' 0 sp true ts vs ds ps
  | [],[],[],_,h,_=>h
  | _::_,_::_,_::_,_,⟨p,q,⟨n,h1⟩,h2,e⟩,hs =>
    ⟨p,q,⟨n,DataW.trod_carry n _ _ _ h1 (fun x hx=>sameAt_of_ext hb (hs x (by rw [e];exact List.mem_append_left _ hx)))⟩,
      trodAll_ext hb h2 (fun x hx=>hs x (by rw [e];exact List.mem_append_right _ hx)),e⟩
theorem law_post {f:Func} {s:ChangeSpec} {W:World} {args:Array Value} {ds:List (DataW H)} {before:List MemPlace}
    (hl:laidOutB P=true) (hm:mapsRowed P=true) (hf:((List.range P.types.size).all fun t=>match P.underlying t with | some (.slice e)=>decide (0<P.cellsOf e) | _=>true)=true)
    (hts:∀ t∈f.params.toList,t<P.types.size) (hv:s.vars=[]) {tb:TypeId} (hr:f.resultTypes=#[tb]) (hb:P.underlying tb=some .bool)
    (hs:s.fn H ds={ results:=[.lit (.bool true)],args:=ds })
    (hW:DataW.Whole enc P f.params.toList s.vars false W args.toList ds [] before) (hx:Ext W W') :
    s.post enc P f false true false false W args (.bool true) W':=by
  have hlt:∀ p∈before,p.block<W.heap.size:=fun p hp=>hW.lt p hp
  obtain ⟨p,q,hA,hV,rfl,hz,hn⟩:=id hW
  rw [hv] at hV
  have hq:q=[]:=hV
  subst hq
  rw [List.append_nil] at hW hlt hz
  have again:∀ sp:Nat→Bool,(∀ x∈p,sp x.block=true)→DataW.TrodAll enc P W' 0 sp true f.params.toList args.toList ds p:=fun sp hsp =>
    trodAll_ext hx (DataW.TrodAll.respare (kids_rows hl hm) (fun t e ht hu=>slices_full_of P hf t e ht hu) hts hA hsp) hlt
  have hold:∀ x∈p,(fun b=>decide (b<W.heap.size)) x.block=true:=fun x hx=>by simpa using hlt x hx
  have hres:∀ (b:Nat) (sp:Nat→Bool) (hd:Bool),DataW.TrodAll enc P W' b sp hd f.resultTypes.toList ((Value.bool true).resultList f.resultTypes.size) [.lit (.bool true)] []:=fun b sp hd=>by
    rw [hr];exact trodAll_mk1 (shut_bool hb _)
  refine ⟨ds,[],p,[],p,[],hW,?_,?_,?_,?_,fun _=>?_⟩
  · rw [List.append_nil,hs];exact hres _ _ _
  · rw [List.append_nil,hs];exact again _ hold
  · rw [List.append_nil,hs,hv];rfl
  · refine World.keptBut_mono (fun x hx=>⟨hx,?_⟩) (hx.below.frame (·∈p))
    exact Or.inr (by simpa using hx)
  · refine ⟨?_,[.lit (.bool true)]++ds,[],([]++p)++[],⟨[]++p,[],?_,?_,rfl,?_,?_⟩,?_⟩
    · exact ok_one hr rfl (okWide_bool_mk hb _)
    · exact trodAll_append (again _ (fun _ _=>rfl)) (hres _ _ _)
    · rw [hv];rfl
    · intro b off hp
      have hin:MemPlace.cell b off∈p:=by simpa using hp
      rw [hx.frz b off (hlt _ hin)]
      exact hz b off hin
    · intro ha;cases ha
    · intro x hx _
      simpa using hx
def Reach (P:Program) (t:TypeId) (d:DataW H):Prop:=∀ n∈d.weights P t,n≤reachBytes
theorem reach_of {ts:List TypeId} {ds:List (DataW H)} (h:(DataW.weightsEach P ts ds).all (·≤reachBytes)=true) {j:Nat} {t:TypeId} {d:DataW H} (ht:ts[j]?=some t) (hd:ds[j]?=some d):Reach P t d:=fun n hn=>by
  have:=List.all_eq_true.1 h n (DataW.weights_mem_each ht hd n hn)
  simpa using this
theorem weightsAll_mem {x:DataW H} {n:Nat} (hn:n∈x.weights P e):∀ {l:List (DataW H)},x∈l→n∈DataW.weightsAll P e l
  | y::l,h=>by
    simp only [DataW.weightsAll,List.mem_append]
    cases h with
    | head=>exact .inl hn
    | tail _ h=>exact .inr (weightsAll_mem hn h)
theorem Reach.elem {l s:List (DataW H)} (h:Reach P t (.slice l s)) (ht:P.underlying t=some (.slice e)) {x:DataW H} (hx:x∈l):Reach P e x:=fun n hn=>h n (by
  simp only [DataW.weights,ht,List.mem_cons,List.mem_append]
  exact .inr (.inl (weightsAll_mem hn hx)))
theorem Reach.len {l s:List (DataW H)} (h:Reach P t (.slice l s)) (ht:P.underlying t=some (.slice e)):(l.length+s.length)*P.bytesOf e≤reachBytes:=h _ (by
  simp [DataW.weights,ht])
theorem Reach.field {fs:Array Field} {l:List (DataW H)} (h:Reach P t (.agg l)) (ht:P.underlying t=some (.struct fs)) {j:Nat} {f:Field} {x:DataW H} (hf:fs[j]?=some f) (hx:l[j]?=some x):Reach P f.type x:=fun n hn=>h n (by
  simp only [DataW.weights,ht]
  refine DataW.weights_mem_each (j:=j) (t:=f.type) (d:=x) ?_ hx n hn
  rw [List.getElem?_map,Array.getElem?_toList,hf];rfl)
end
theorem list_of_lt {n:Nat} {p:Nat→α→Prop} (h:∀ i,i<n→∃ x,p i x):∃ l:List α,l.length=n∧∀ i (hi:i<l.length),p i l[i]:=by
  induction n with
  | zero=>exact ⟨[],rfl,fun i hi=>absurd hi (Nat.not_lt_zero _)⟩
  | succ n ih =>
    obtain ⟨l,hl,hp⟩:=ih (fun i hi=>h i (Nat.lt_succ_of_lt hi))
    obtain ⟨x,hx⟩:=h n (Nat.lt_succ_self n)
    refine ⟨l++[x],by simp [hl],fun i hi=>?_⟩
    by_cases hlt:i<l.length
    · rw [List.getElem_append_left hlt];exact hp i hlt
    · have:i=l.length:=by simp at hi;omega
      subst this
      simp only [List.getElem_append_right (Nat.le_refl _),Nat.sub_self,List.getElem_cons_zero]
      rw [hl];exact hx
section
variable {H:Type} {enc:TypeId × Value→H} {P:Program} {W:World}
theorem flat_length {l:List (List α)} {k:Nat} (h:∀ x∈l,x.length=k):l.flatten.length=l.length*k:=by
  induction l with
  | nil=>simp
  | cons x l ih =>
    rw [List.flatten_cons,List.length_append,ih (fun y hy=>h y (List.mem_cons_of_mem _ hy)),h x (List.mem_cons_self ..),List.length_cons,Nat.add_mul,Nat.one_mul,Nat.add_comm]
theorem chunk_flat {l:List (List Value)} {k:Nat} (h:∀ x∈l,x.length=k):∀ i (hi:i<l.length),chunk k l.flatten i=l[i]:=by
  induction l with
  | nil=>intro i hi;exact absurd hi (Nat.not_lt_zero _)
  | cons x l ih =>
    intro i hi
    have hx:=h x (List.mem_cons_self ..)
    unfold chunk
    cases i with
    | zero=>simp [hx]
    | succ i =>
      rw [List.flatten_cons,Nat.add_mul,Nat.one_mul,List.drop_append,List.drop_eq_nil_of_le (by omega),List.nil_append,hx,Nat.add_sub_cancel]
      exact ih (fun y hy=>h y (List.mem_cons_of_mem _ hy)) i (by simpa using hi)
theorem flat_get {l:List (List Value)} {k:Nat} (h:∀ x∈l,x.length=k) {j:Nat} {u:Value} (hu:l.flatten[j]?=some u) (hk:0<k):∃ x,l[j / k]?=some x∧x[j % k]?=some u:=by
  induction l generalizing j with
  | nil=>simp at hu
  | cons x l ih =>
    have hx:=h x (List.mem_cons_self ..)
    rw [List.flatten_cons] at hu
    by_cases hj:j<k
    · rw [List.getElem?_append_left (by omega)] at hu
      exact ⟨x,by simp [Nat.div_eq_of_lt hj],by rw [Nat.mod_eq_of_lt hj];exact hu⟩
    · rw [List.getElem?_append_right (by omega),hx] at hu
      obtain ⟨y,h1,h2⟩:=ih (fun y hy=>h y (List.mem_cons_of_mem _ hy)) hu
      have hd:j / k=(j - k) / k+1:=by rw [← Nat.sub_add_cancel (by omega:k≤j),Nat.add_div_right _ hk,Nat.add_sub_cancel]
      refine ⟨y,by rw [hd];simpa using h1,?_⟩
      rwa [Nat.mod_eq_sub_mod (by omega)]
def OneC (cs:List Value):Prop:=∀ u∈cs,u.oneCell'=true
theorem open_rsl {k:Nat} {R:World→List Value→α→Prop} {B:α→Prop} {x:DataW H × List MemPlace}
    (ht:P.underlying t=some (.slice e)) (hk:P.cellsOf e=k) (hk0:0<k) (h:DataW.trod enc P W 0 (fun _=>true) true fuel t cs=some x) (hreach:Reach P t x.1)
    (hR:∀ n cs' y,DataW.trod enc P W 0 (fun _=>true) true n e cs'=some y→Reach P e y.1→∃ a,R W cs' a∧B a∧OneC cs') :
    ∃ v l,cs=[v]∧RSl (Old W) k R W v l∧(∀ a∈l,B a)∧l.length*P.bytesOf e≤reachBytes∧v.oneCell'=true:=by
  rcases open_slice ht h with ⟨rfl,rfl⟩ | ⟨a,len,cap,m,n,D,Pl,rfl,hb,hlc,hcm,hm,rfl,hi⟩
  · exact ⟨_,[],rfl,RSl.nil _,(fun a ha=>by cases ha),(by simp),rfl⟩
  · simp only [if_true] at hm
    subst hm
    rw [hk] at hi
    have hsome:∀ i,i<len→∃ ya:List Value × α,(W.cells? 0 (a.add (i*k)) k=some ya.1∧R W ya.1 ya.2)∧B ya.2∧OneC ya.1:=fun i hil=>by
      obtain ⟨cs',hc,htr⟩:=hi i (by omega)
      obtain ⟨y,h1,h2,h3⟩:=hR n cs' _ htr (hreach.elem ht (by simp only [List.mem_map];exact ⟨i,List.mem_range.2 hil,rfl⟩))
      exact ⟨(cs',y),⟨hc,h1⟩,h2,h3⟩
    obtain ⟨L,hL,hp⟩:=list_of_lt hsome
    have hlen:∀ y∈L.map (·.1),y.length=k:=fun y hy=>by
      obtain ⟨z,hz,rfl⟩:=List.mem_map.1 hy
      obtain ⟨i,hil,rfl⟩:=List.getElem_of_mem hz
      exact (World.cells?_some (hp i hil).1.1).2.1
    have hcell:∀ i (hil:i<L.length) (j:Nat) (u:Value),(L[i].1)[j]?=some u→W.cell? (a.add (i*k+j))=some u:=fun i hil j u hu=>by
      obtain ⟨_,C,hat⟩:=World.cells?_some (hp i hil).1.1
      have hjk:j<k:=by rw [← C];exact (List.getElem?_eq_some_iff.1 hu).1
      have:=hat j hjk
      rw [hu,add_add] at this
      exact this
    have hLl:(L.map (·.1)).length=L.length:=List.length_map ..
    refine ⟨_,L.map (·.2),rfl,⟨some a,m,(L.map (·.1)).flatten,by rw [List.length_map,hL],⟨by rw [List.length_map];omega,by simpa [maxLen] using hcm⟩,⟨?_,?_,fun h0=>?_⟩,fun i hil=>?_,fun h0=>?_⟩,fun y hy=>?_,?_,rfl⟩
    · rw [flat_length hlen,hLl,List.length_map]
    · intro u hu
      obtain ⟨y,hy,hu⟩:=List.mem_flatten.1 hu
      obtain ⟨z,hz,rfl⟩:=List.mem_map.1 hy
      obtain ⟨i,hil,rfl⟩:=List.getElem_of_mem hz
      exact (hp i hil).2.2 u hu
    · rw [List.length_map] at h0
      have C:∃ u,W.cell? (a.add 0)=some u:=by
        have h1:(L[0].1)[0]?=some ((L[0].1)[0]'(by rw [hlen _ (List.mem_map.2 ⟨_,List.getElem_mem h0,rfl⟩)];exact hk0)):=List.getElem?_eq_getElem _
        have:=hcell 0 h0 0 _ h1
        rw [Nat.zero_mul,Nat.zero_add] at this
        exact ⟨_,this⟩
      obtain ⟨G,hu0⟩:=C
      have ha0:a.add 0=a:=by simp [Addr.add]
      rw [ha0] at hu0
      obtain ⟨b,off,spot⟩:=a
      have hspot:spot=none:=World.cell?_spot hu0
      subst hspot
      refine ⟨b,off,rfl,World.block_lt_of_cell? W _ hu0,fun j u hu=>?_⟩
      obtain ⟨y,h1,h2⟩:=flat_get hlen hu hk0
      rw [List.getElem?_map] at h1
      obtain ⟨z,h3,rfl⟩:=Option.map_eq_some_iff.1 h1
      obtain ⟨hil,rfl⟩:=List.getElem?_eq_some_iff.1 h3
      have:=hcell _ hil _ _ h2
      rw [Nat.mul_comm,Nat.div_add_mod] at this
      rw [← this]
      congr 1
      unfold Addr.add
      split <;> simp_all
    · rw [List.length_map] at hil
      rw [chunk_flat hlen i (by simpa using hil)]
      simp only [List.getElem_map]
      exact (hp i hil).1.2
    · rw [List.length_map] at h0
      have h1:(L[0].1)[0]?=some ((L[0].1)[0]'(by rw [hlen _ (List.mem_map.2 ⟨_,List.getElem_mem h0,rfl⟩)];exact hk0)):=List.getElem?_eq_getElem _
      have hu0:=hcell 0 h0 0 _ h1
      rw [Nat.zero_mul,Nat.zero_add] at hu0
      have ha0:a.add 0=a:=by simp [Addr.add]
      rw [ha0] at hu0
      obtain ⟨b,off,spot⟩:=a
      have hspot:spot=none:=World.cell?_spot hu0
      subst hspot
      exact ⟨b,off,rfl,World.block_lt_of_cell? W _ hu0⟩
    · obtain ⟨z,hz,rfl⟩:=List.mem_map.1 hy
      obtain ⟨i,hil,rfl⟩:=List.getElem_of_mem hz
      exact (hp i hil).2.1
    · have:=hreach.len ht
      simp only [List.length_map,List.length_range] at this
      rw [List.length_map,hL]
      exact Nat.le_trans (Nat.mul_le_mul_right _ (Nat.le_add_right _ _)) this
theorem open_byte (he:P.underlying e=some (.int .u8)) (n:Nat) (cs':List Value) (y:DataW H × List MemPlace) (h:DataW.trod enc P W 0 (fun _=>true) true n e cs'=some y):∃ c:UInt8,RByte W cs' c∧True∧OneC cs':=by
  obtain ⟨m,rfl,_,hw⟩:=DataW.trod_int he h
  have hb:0≤m∧m≤255:=by simpa [Lit.wf,IntKind.min,IntKind.max,IntKind.signed,IntKind.bits] using hw
  refine ⟨UInt8.ofNat m.toNat,?_,trivial,fun u hu=>?_⟩
  · unfold RByte
    have:(UInt8.ofNat m.toNat).toNat=m.toNat:=by rw [UInt8.toNat_ofNat'];omega
    rw [this,Int.toNat_of_nonneg hb.1]
  · simp at hu;subst hu;rfl
theorem open_bytes (ht:P.underlying t=some (.slice e)) (he:P.underlying e=some (.int .u8)) (hc:P.cellsOf e=1) (hby:P.bytesOf e=1) {n:Nat} {cs:List Value} {y:DataW H × List MemPlace}
    (h:DataW.trod enc P W 0 (fun _=>true) true n t cs=some y) (hr:Reach P t y.1):∃ v l,cs=[v]∧RBs (Old W) W v l∧l.length≤140737488351232∧v.oneCell'=true:=by
  obtain ⟨v,l,h1,h2,_,h4,h5⟩:=open_rsl (k:=1) (R:=RByte) (B:=fun _=>True) ht hc (by omega) h hr (fun n cs' y hy _=>open_byte he n cs' y hy)
  refine ⟨v,l,h1,h2,?_,h5⟩
  rw [hby,Nat.mul_one] at h4
  exact h4
end
end
section
open Go.RowKit Go.ChangeShapes Go.WideShapes
section
variable {H:Type} {enc:TypeId × Value→H} {P:Program} {w:World} {base:Nat} {spare:Nat→Bool} {held:Bool}
theorem trod_nums {k:IntKind} {n:Nat} {l:List Int} (ht:P.underlying t=some (.array n e)) (he:P.underlying e=some (.int k)) (hc1:P.cellsOf e=1) (hct:P.cellsOf t=n)
    (h:DataW.trod enc P w base spare held fuel t cs=some (.agg (l.map fun x=>.lit (.int k x)),q)):cs=l.map (.int k):=by
  obtain ⟨xs,m,_,hx,hlen,hn,hel⟩:=DataW.trod_array ht h
  injection hx with C D
  injection C with C
  have hl:l.length=n:=by have:=congrArg List.length C;simp at this;omega
  rw [hct] at hlen
  apply List.ext_getElem (by simp;omega)
  intro i h1 h2
  have hi:i<n:=by omega
  have h3:=hel i hi
  rw [hc1,Nat.mul_one,List.drop_eq_getElem_cons h1,List.take_succ_cons,List.take_zero,List.getElem?_eq_getElem (by omega)] at h3
  obtain ⟨z,D,G,_⟩:=DataW.trod_int he h3
  have h4:=congrArg (fun l=>l[i]?) C
  simp only [List.getElem?_map,List.getElem?_eq_getElem (show i<l.length by omega),List.getElem?_eq_getElem (show i<xs.length by omega),Option.map_some,Option.some.injEq,G] at h4
  injection h4 with h4
  injection h4 with h4 h5
  injection D with D
  rw [D,List.getElem_map,h5]
theorem chunks_eq:∀ (rows:List (List α)) (m:Nat) (cs:List α),cs.length=rows.length*m→(∀ i (h:i<rows.length),(cs.drop (i*m)).take m=rows[i])→cs=rows.flatten
  | [],m,cs,hl,_=>by simpa using hl
  | r::rows,m,cs,hl,h=>by
    have h0:=h 0 (by simp)
    simp only [Nat.zero_mul,List.drop_zero,List.getElem_cons_zero] at h0
    have ih:=chunks_eq rows m (cs.drop m) (by rw [List.length_drop,hl,List.length_cons,Nat.add_mul];omega) (fun i hi=>by
      have:=h (i+1) (by simpa using hi)
      rw [List.getElem_cons_succ] at this
      rw [List.drop_drop,show m+i*m=(i+1)*m by rw [Nat.add_mul];omega]
      exact this)
    rw [List.flatten_cons,← ih,← h0,List.take_append_drop]
theorem trod_rows {k:IntKind} {e2:TypeId} {n m:Nat} {l:List (List Int)} (ht:P.underlying t=some (.array n e)) (he:P.underlying e=some (.array m e2)) (he2:P.underlying e2=some (.int k)) (hc1:P.cellsOf e2=1) (hce:P.cellsOf e=m) (hct:P.cellsOf t=n*m)
    (h:DataW.trod enc P w base spare held fuel t cs=some (.agg (l.map fun r=>.agg (r.map fun x=>.lit (.int k x))),q)):cs=(l.map fun r=>r.map (.int k)).flatten:=by
  obtain ⟨xs,f,_,hx,hlen,hn,hel⟩:=DataW.trod_array ht h
  injection hx with C D
  injection C with C
  have hl:l.length=n:=by have:=congrArg List.length C;simp at this;omega
  refine chunks_eq _ m cs (by rw [hlen,hct,List.length_map,hl]) (fun i hi=>?_)
  have hi':i<n:=by simpa [hl] using hi
  have h3:=hel i hi'
  rw [hce,List.getElem?_eq_getElem (by omega)] at h3
  have h4:=congrArg (fun l=>l[i]?) C
  simp only [List.getElem?_map,List.getElem?_eq_getElem (show i<l.length by omega),List.getElem?_eq_getElem (show i<xs.length by omega),Option.map_some,Option.some.injEq] at h4
  have h5:DataW.trod enc P w base spare held f e ((cs.drop (i*m)).take m)=some (.agg ((l[i]'(by omega)).map fun x=>.lit (.int k x)),(xs[i]'(by omega)).2):=by rw [h3,h4]
  rw [List.getElem_map]
  exact trod_nums he he2 hc1 hce h5
end
end
section
open Go.RowKit Go.ChangeShapes Go.WideShapes Go.ChangeAt Go.Deep Go.ChangeMaps
set_option maxRecDepth 100000
section
variable {H:Type} {enc:TypeId × Value→H} {W:World}
theorem trod_bytes {P:Program} {n:Nat} {x:DataW H × List MemPlace} {spare:Nat→Bool} {held:Bool} (ht:P.underlying t=some (.array n e)) (he:P.underlying e=some (.int .u8)) (hc1:P.cellsOf e=1) (hct:P.cellsOf t=n)
    (h:DataW.trod enc P W base spare held fuel t cs=some x):∃ l:List UInt8,l.length=n∧cs=byteVals l:=by
  obtain ⟨xs,m,_,hx,hlen,hn,hel⟩:=DataW.trod_array ht h
  rw [hct] at hlen
  have key:∀ i (h1:i<cs.length),∃ c:UInt8,cs[i]=.int .u8 (c.toNat:Nat):=by
    intro i h1
    have h3:=hel i (by omega)
    rw [hc1,Nat.mul_one,List.drop_eq_getElem_cons h1,List.take_succ_cons,List.take_zero,List.getElem?_eq_getElem (by omega)] at h3
    obtain ⟨z,C,_,hw⟩:=DataW.trod_int he h3
    injection C with C
    have hb:0≤z∧z≤255:=by simpa [Lit.wf,IntKind.min,IntKind.max,IntKind.signed,IntKind.bits] using hw
    refine ⟨UInt8.ofNat z.toNat,?_⟩
    have:(UInt8.ofNat z.toNat).toNat=z.toNat:=by rw [UInt8.toNat_ofNat'];omega
    rw [C,this,Int.toNat_of_nonneg hb.1]
  clear hel hx h
  revert n
  induction cs with
  | nil=>intro n _ _ hlen _;exact ⟨[],by simpa using hlen,rfl⟩
  | cons c cs ih =>
    intro n ht hct hlen hn
    obtain ⟨b,hb⟩:=key 0 (by simp)
    have:∃ l:List UInt8,l.length=cs.length∧cs=byteVals l:=by
      have h2:∀ (l:List Value),(∀ i (h1:i<l.length),∃ c:UInt8,l[i]=.int .u8 (c.toNat:Nat))→∃ m:List UInt8,m.length=l.length∧l=byteVals m:=by
        intro l
        induction l with
        | nil=>intro _;exact ⟨[],rfl,rfl⟩
        | cons a l ih2 =>
          intro hk
          obtain ⟨a',ha⟩:=hk 0 (by simp)
          obtain ⟨m',h1,h2⟩:=ih2 (fun i hi=>by have:=hk (i+1) (by simpa using hi);rwa [List.getElem_cons_succ] at this)
          exact ⟨a'::m',by simp [h1],by rw [h2] ;simp only [List.getElem_cons_zero] at ha;rw [ha];rfl⟩
      exact h2 cs (fun i hi=>by have:=key (i+1) (by simpa using hi);rwa [List.getElem_cons_succ] at this)
    obtain ⟨l,h1,h2⟩:=this
    exact ⟨b::l,by simp [h1] ;simpa using hlen,by simp only [List.getElem_cons_zero] at hb;rw [hb,h2];rfl⟩
end
end
section
open Go.RowKit Go.ChangeShapes Go.WideShapes Go.ChangeAt Go.Deep Go.Joins
theorem dig_of_chunks:∀ (l:List (List UInt8)) (xs:List Value),All32 l→xs.length=l.length*32→(∀ i (h:i<l.length),chunk 32 xs i=byteVals l[i])→xs=digVals l
  | [],xs,_,hl,_=>by
    have:xs=[]:=List.eq_nil_of_length_eq_zero (by simpa using hl)
    rw [this];rfl
  | x::l,xs,h32,hl,h=>by
    have h0:=h 0 (by simp)
    simp only [chunk,Nat.zero_mul,List.drop_zero,List.getElem_cons_zero] at h0
    rw [show digVals (x::l)=byteVals x++digVals l from List.flatMap_cons,← h0,← dig_of_chunks l (xs.drop 32) (fun y hy=>h32 y (List.mem_cons_of_mem _ hy)) (by rw [List.length_drop,hl,List.length_cons];omega) (fun i hi=>by
      have:=h (i+1) (by simpa using hi)
      simp only [chunk,List.getElem_cons_succ,List.drop_drop] at this ⊢
      rw [← this,Nat.add_mul,Nat.one_mul,Nat.add_comm]),List.take_append_drop]
set_option maxRecDepth 100000
section
variable {H:Type} {enc:TypeId × Value→H} {W:World}
theorem open_dig1 (n:Nat) (cs':List Value) (y:DataW H × List MemPlace) (h:DataW.trod enc Tryz.prog W 0 (fun _=>true) true n 29 cs'=some y) (_:Reach Tryz.prog 29 y.1) :
    ∃ x:List UInt8,(fun (_:World) cs x=>cs=byteVals x) W cs' x∧x.length=32∧OneC cs':=by
  obtain ⟨l,hl,hc⟩:=trod_bytes uu29 uu5 (by kernel_rfl) (by kernel_rfl) h
  subst hc
  exact ⟨l,rfl,hl,byteVals_one l⟩
theorem open_digs {v:Value} {x:DataW H × List MemPlace} (h:DataW.trod enc Tryz.prog W 0 (fun _=>true) true fuel 30 [v]=some x) (hr:Reach Tryz.prog 30 x.1) :
    ∃ C f l,v=.slice C l.length f∧Fl (Old W) W 32 (.slice C l.length f) l.length (digVals l)∧All32 l:=by
  obtain ⟨u,l,hu,h1,h2,_,_⟩:=open_rsl (k:=32) (R:=fun (_:World) cs x=>cs=byteVals x) (B:=fun x:List UInt8=>x.length=32) uu30 (by kernel_rfl) (by omega) h hr open_dig1
  injection hu with hu
  subst hu
  have h32:All32 l:=h2
  obtain ⟨A,cap,xs,hv,hc,hl,hr,hs⟩:=h1
  have:=dig_of_chunks l xs h32 hl.1 hr
  subst this
  subst hv
  exact ⟨A,cap,l,rfl,⟨A,cap,rfl,hc,hl,hs⟩,h32⟩
theorem open_bytes1 {v:Value} {x:DataW H × List MemPlace} (h:DataW.trod enc Tryz.prog W 0 (fun _=>true) true fuel 22 [v]=some x) (hr:Reach Tryz.prog 22 x.1) :
    ∃ C f l,v=.slice C l.length f∧Fl (Old W) W 1 (.slice C l.length f) l.length (byteVals l)∧l.length≤140737488355328:=by
  obtain ⟨u,l,hu,h1,h2,h3⟩:=open_bytes uu22 uu5 (by kernel_rfl) (by kernel_rfl) h hr
  injection hu with hu
  subst hu
  obtain ⟨A,cap,hf,_,_⟩:=h1.form
  rw [hf] at h1
  exact ⟨A,cap,l,hf,h1.fl,by omega⟩
end
end
theorem grow_refl (w:World) (g:Nat):w.grownBy w (some g):=⟨rfl,rfl,rfl,Nat.le_refl _,fun _ _ _=>rfl⟩
theorem grow_set {g:Nat} (h:w.grownBy w1 (some g)) (k:w1.grownBy w2 (some g)):w.grownBy w2 (some g) :=
  ⟨k.os.trans h.os,k.tape.trans h.tape,k.output.trans h.output,Nat.le_trans h.size k.size,fun i hi hn=>(k.block i (Nat.lt_of_lt_of_le hi h.size) hn).trans (h.block i hi hn)⟩
theorem grow_ext {g:Nat} (h:w.grownBy w1 (some g)) (k:Ext w1 w2):w.grownBy w2 (some g) :=
  grow_set h ⟨k.below.os,k.below.tape,k.below.output,k.size,fun i hi _=>k.below.block i hi⟩
section
section
variable {P:Program} {ops:Array Oper} {Q:Exit→Act→World→Prop} {n r:Nat} {K:Act→World→Prop} {a:Act} {w:World} {o:Oper}
end
theorem same_ext {W:World} (h:Ext W W') {k:Nat} {o:Obj} (hk:W.heap[k]?=some o):W'.heap[k]?=some o:=(h.below.block k (Array.getElem?_eq_some_iff.1 hk).1).trans hk
section
variable {P:Program} {Q:Exit→Act→World→Prop} {a:Act} {w:World}
end
variable {m:List (Nat × Value)} {a:Act}
section
variable {P:Program} {fn:Func} {R:Ending→World→Prop} {w:World}
end
def SlD (ds:List Deferred) (N:Nat) (m:List (Nat × Value)) (a:Act):Prop:=Sl N m { a with defers:=[] }∧a.defers=ds
variable {ds:List Deferred}
theorem SlD.of (h:Sl N m a):SlD ds N m { a with defers:=ds }:=⟨⟨h.1,rfl,h.2.2⟩,rfl⟩
theorem SlD.get (h:SlD ds N m a) {t:Nat} {v:Value} (e:look m t=some v):a.eval (.tmp t)=v:=h.1.2.2 t v e
theorem SlD.put (h:SlD ds N m a) {d:Nat} {v:Value} (hd:Nat.blt d N=true):SlD ds N ((d,v)::m) (a.put (some d) v):=⟨h.1.put hd,h.2⟩
theorem SlD.nil (h:SlD ds N m a):SlD ds N [] a:=⟨h.1.nil,h.2⟩
theorem SlD.cons {m':List (Nat × Value)} (h:SlD ds N m' a) {t:Nat} {v:Value} (e:a.eval (.tmp t)=v):SlD ds N ((t,v)::m') a:=⟨h.1.cons e,h.2⟩
section
variable {P:Program} {ops:Array Oper} {Q:Exit→Act→World→Prop} {i:Nat} {w w':World} {o:Oper} {v:Value} {K:Act→World→Prop} {d:Nat}
theorem oD_val (hF:SlD ds N m a) (ho:ops[i]?=some o) (hw:Region.wanted o (yielded ops a.tmps)=true) (hd:o.dst=some d) (hN:Nat.blt d N=true)
    (hr:(execOp a.eval o).run P w=.ok (.value v) w) (h:∀ a',SlD ds N ((d,v)::m) a'→K a' w):wpOp P ops Q i K a w :=
  op_run ho hw hr (hd ▸ h _ (hF.put hN))
theorem oD_store {x y:Operand} (_hF:SlD ds N m a) (ho:ops[i]?=some o) (hw:Region.wanted o (yielded ops a.tmps)=true) (hd:o.dst=none) (hop:o.op=.store ty x y) {g:Nat} {t:TypeId} {old cells:List Value}
    (hx:a.eval x=.pointer (some ⟨g,0,none⟩)) (hy:a.eval y=.agg cells.toArray) (hg:Blk w g t old) (hi:(P.info? ty).map (·.size)=some cells.length) (hl:old.length=cells.length) (h1:∀ u∈cells,u.oneCell'=true)
    (h:∀ w',Blk w' g t cells→w.grownBy w' (some g)→K a w'):wpOp P ops Q i K a w :=
  op_store ho hw hop hx hy hg hi hl h1 fun w' h1 h2=>by rw [hd];exact h w' h1 h2
theorem oD_store1 {x y:Operand} (_hF:SlD ds N m a) (ho:ops[i]?=some o) (hw:Region.wanted o (yielded ops a.tmps)=true) (hd:o.dst=none) (hop:o.op=.store ty x y) {g j:Nat} {t:TypeId} {old:List Value} {u:Value}
    (hx:a.eval x=.pointer (some ⟨g,j,none⟩)) (hy:a.eval y=u) (hg:Blk w g t old) (hi:(P.info? ty).map (·.size)=some 1) (hj:j<old.length) (h1:u.oneCell'=true) {new:List Value} (hn:old.set j u=new)
    (h:∀ w',Blk w' g t new→w.grownBy w' (some g)→K a w'):wpOp P ops Q i K a w :=
  op_store1 ho hw hop hx hy hg hi hj h1 fun w' h1 h2=>by rw [hd];exact h w' (hn ▸ h1) h2
end
theorem KeepsOthers.of_ext {w w':World} (h:Ext w w'):KeepsOthers w w':=⟨h.size,fun _ _ hk _=>same_ext h hk⟩
theorem KeepsOthers.blk {w w':World} {g:Nat} (h:w.grownBy w' (some g)) (hb:Blk w g t cs):KeepsOthers w w' :=
  KeepsOthers.of_grownBy h fun j o hj ho=>by
    injection hj with hj
    subst hj
    rw [show w.heap[g]?=_ from hb] at ho
    injection ho with ho
    subst ho
    rfl
theorem KeepsOthers.own {w w':World} {k n:Nat} {v:Value} {xs:List Value} (h:w.grownBy w' v.ownBlock) (hr:w.ownsRow base e k v n xs):KeepsOthers w w' :=
  KeepsOthers.of_grownBy h fun j o hj ho=>by
    rcases hr.2 with ⟨rfl,_⟩ | ⟨g,cap,cur,rfl,_,hg,_⟩
    · cases hj
    · injection hj with hj
      subst hj
      rw [hg] at ho
      injection ho with ho
      subst ho
      rfl
end
def RVs (base:Nat) (v:Value) (w:World) (vs:List Value) (l:List (List UInt8)):Prop :=
  vs.length=l.length∧∀ i (h:i<l.length) (h':i<vs.length),RBs (fun b=>base≤b∧some b≠v.ownBlock) w vs[i] l[i]
theorem RVs.nil (base:Nat) (v:Value) (w:World):RVs base v w [] []:=⟨rfl,fun i h=>absurd h (by simp)⟩
theorem RVs.ext {v:Value} {vs:List Value} (h:RVs base v w vs l) (hx:Ext w w'):RVs base v w' vs l:=⟨h.1,fun i h1 h2=>(h.2 i h1 h2).ext hx⟩
theorem RVs.set {g:Nat} {v:Value} {vs:List Value} (h:RVs base v w vs l) (hg:w.grownBy w' (some g)) (hb:g<base):RVs base v w' vs l :=
  ⟨h.1,fun i h1 h2=>(h.2 i h1 h2).keep hg.size fun b hb1 hlt=>hg.block b hlt (fun e=>by injection e with e;omega)⟩
theorem RVs.app {v v':Value} {vs:List Value} (h:RVs base v w vs l) (hg:w.grownBy w' v.ownBlock) (hn:∀ g,g<w.heap.size→some g≠v.ownBlock→some g≠v'.ownBlock):RVs base v' w' vs l :=
  ⟨h.1,fun i h1 h2=>((h.2 i h1 h2).subB (S':=fun b=>(base≤b∧some b≠v'.ownBlock)∧some b≠v.ownBlock) fun b hlt hb=>⟨⟨hb.1,hn b hlt hb.2⟩,hb.2⟩).keep hg.size (fun b hb1 hlt=>hg.block b hlt hb1.2) |>.sub fun b hb=>hb.1⟩
theorem RVs.snoc {v:Value} {vs:List Value} (h:RVs base v w vs l) {u:Value} {x:List UInt8} (hu:RBs S w u x) (hS:∀ b,b<w.heap.size→S b→base≤b∧some b≠v.ownBlock):RVs base v w (vs++[u]) (l++[x]):=by
  refine ⟨by simp [h.1],fun i h1 h2=>?_⟩
  by_cases hi:i<l.length
  · rw [List.getElem_append_left hi,List.getElem_append_left (by rw [h.1];exact hi)]
    exact h.2 i hi _
  · simp only [List.length_append,List.length_singleton] at h1
    have e:i=l.length:=by omega
    subst e
    rw [List.getElem_append_right (Nat.le_refl _),List.getElem_append_right (by rw [h.1];exact Nat.le_refl _)]
    simp only [h.1,Nat.sub_self,List.getElem_cons_zero]
    exact hu.subB hS
theorem RVs.one {v:Value} {vs:List Value} (h:RVs base v w vs l):∀ u∈vs,u.oneCell'=true:=fun u hu=>by
  obtain ⟨i,hi,rfl⟩:=List.getElem_of_mem hu
  exact RBs.one (h.2 i (by rw [← h.1];exact hi) hi)
theorem own_blk_lt {k n:Nat} {v:Value} {xs:List Value} (h:w.ownsRow base e k v n xs):∀ g,some g=v.ownBlock→g<w.heap.size:=fun g hg=>by
  rcases h.2 with ⟨rfl,_⟩ | ⟨g',cap,cur,rfl,_,hh,_⟩
  · cases hg
  · injection hg with hg
    subst hg
    exact (Array.getElem?_eq_some_iff.1 hh).1
theorem own_ge {k n:Nat} {v:Value} {xs:List Value} (h:w.ownsRow base e k v n xs):∀ g,some g=v.ownBlock→base≤g:=fun g hg=>by
  rcases h.2 with ⟨rfl,_⟩ | ⟨g',cap,cur,rfl,hb,_⟩
  · cases hg
  · injection hg with hg
    subst hg
    exact hb
abbrev ltS (a b:List UInt8):Bool:=Op.bytesLess a b
theorem u8_tri (a b:UInt8):a<b∨a=b∨b<a:=by
  rcases Nat.lt_trichotomy a.toNat b.toNat with h | h | h
  · exact .inl h
  · exact .inr (.inl (UInt8.toNat_inj.1 h))
  · exact .inr (.inr h)
theorem lt_cons {a b:UInt8} {x y:List UInt8}:ltS (a::x) (b::y)=true↔a<b∨a=b∧ltS x y=true:=by
  simp [ltS,Op.bytesLess]
theorem lt_irr:∀ a:List UInt8,ltS a a=false
  | []=>rfl
  | a::x=>by
    have h:=lt_irr x
    simp only [ltS] at h
    have:¬ a<a:=fun q=>Nat.lt_irrefl _ q
    simp [ltS,Op.bytesLess,h,this]
theorem lt_trans:∀ {a b c:List UInt8},ltS a b=true→ltS b c=true→ltS a c=true
  | _,_,[],_,h=>by simp [ltS,Op.bytesLess] at h
  | _,[],_::_,h,_=>by simp [ltS,Op.bytesLess] at h
  | [],_::_,_::_,_,_=>by simp [ltS,Op.bytesLess]
  | a::x,b::y,c::z,h,k=>by
    have h1:=lt_cons.1 h
    have k1:=lt_cons.1 k
    clear h k
    rcases h1 with h | ⟨rfl,h⟩ <;> rcases k1 with k | ⟨rfl,k⟩
    · exact lt_cons.2 (.inl (Nat.lt_trans h k))
    · exact lt_cons.2 (.inl h)
    · exact lt_cons.2 (.inl k)
    · exact lt_cons.2 (.inr ⟨rfl,lt_trans h k⟩)
theorem lt_conn:∀ {a b:List UInt8},ltS a b=false→ltS b a=false→a=b
  | [],[],_,_=>rfl
  | [],_::_,h,_=>by simp [ltS,Op.bytesLess] at h
  | _::_,[],_,h=>by simp [ltS,Op.bytesLess] at h
  | a::x,b::y,h,k=>by
    have h1:¬ (a<b∨a=b∧ltS x y=true):=fun q=>by rw [lt_cons.2 q] at h;cases h
    have k1:¬ (b<a∨b=a∧ltS y x=true):=fun q=>by rw [lt_cons.2 q] at k;cases k
    rcases u8_tri a b with q | q | q
    · exact absurd (.inl q) h1
    · subst q
      rw [lt_conn (a:=x) (b:=y) (by cases e:ltS x y <;> simp_all) (by cases e:ltS y x <;> simp_all)]
    · exact absurd (.inl q) k1
theorem lt_asym (h:ltS a b=true):ltS b a=false:=by
  cases k:ltS b a
  · rfl
  · have:=lt_trans h k;rw [lt_irr] at this;cases this
theorem lt_ne (h:ltS a b=true):a≠b:=fun e=>by rw [e,lt_irr] at h;cases h
structure It where
  name:List UInt8
  data:List UInt8
deriving DecidableEq
structure Cg where
  name:List UInt8
  data:List UInt8
  gone:Bool
deriving DecidableEq
instance:Inhabited It:=⟨⟨[],[]⟩⟩
instance:Inhabited Cg:=⟨⟨[],[],false⟩⟩
def okN (s:List UInt8):Prop:=1≤s.length∧s.length≤64
instance (s:List UInt8):Decidable (okN s):=inferInstanceAs (Decidable (_∧_))
def nameAt (l:List (List UInt8)) (i:Nat):Prop:=okN (l.getD i [])∧(0<i→ltS (l.getD (i - 1) []) (l.getD i [])=true)
instance (l:List (List UInt8)) (i:Nat):Decidable (nameAt l i):=inferInstanceAs (Decidable (_∧_))
def named (l:List (List UInt8)):Prop:=∀ i,i<l.length→nameAt l i
instance (l:List (List UInt8)):Decidable (named l):=inferInstanceAs (Decidable (∀ i,i<l.length→nameAt l i))
def Srt (l:List (List UInt8)):Prop:=l.Pairwise fun a b=>ltS a b=true
theorem Srt.cons:Srt (a::l)↔(∀ b∈l,ltS a b=true)∧Srt l:=List.pairwise_cons
theorem named_srt (h:named l):Srt l:=by
  rw [Srt,List.pairwise_iff_getElem]
  have key:∀ d i,i+d+1<l.length→ltS (l.getD i []) (l.getD (i+d+1) [])=true:=by
    intro d
    induction d with
    | zero=>intro i hi;have:=(h (i+1) hi).2 (by omega);simpa using this
    | succ d ih=>intro i hi;have h1:=ih i (by omega);have h2:=(h (i+(d+1)+1) hi).2 (by omega);exact lt_trans h1 (by simpa [Nat.add_assoc] using h2)
  intro i j hi hj hij
  have:=key (j - i - 1) i (by omega)
  rw [show i+(j - i - 1)+1=j by omega,List.getD_eq_getElem?_getD,List.getD_eq_getElem?_getD,List.getElem?_eq_getElem hi,List.getElem?_eq_getElem hj] at this
  exact this
theorem named_of (h:Srt l) (ho:∀ s∈l,okN s):named l:=by
  intro i hi
  rw [Srt,List.pairwise_iff_getElem] at h
  refine ⟨?_,fun h0=>?_⟩
  · rw [List.getD_eq_getElem?_getD,List.getElem?_eq_getElem hi];exact ho _ (List.getElem_mem hi)
  · rw [List.getD_eq_getElem?_getD,List.getD_eq_getElem?_getD,List.getElem?_eq_getElem hi,List.getElem?_eq_getElem (show i - 1<l.length by omega)]
    exact h (i - 1) i (by omega) hi (by omega)
theorem named_ok (h:named l):∀ s∈l,okN s:=by
  intro s hs
  obtain ⟨i,hi,rfl⟩:=List.getElem_of_mem hs
  have:=(h i hi).1
  rwa [List.getD_eq_getElem?_getD,List.getElem?_eq_getElem hi] at this
def itNames (l:List It):List (List UInt8):=l.map (·.name)
def cgNames (l:List Cg):List (List UInt8):=l.map (·.name)
def checkE (l:List It):Int:=if 65536<l.length then 2 else if named (itNames l) then 0 else 400
def fullC (c:Cg):Prop:=c.gone=true∧0<c.data.length
instance (c:Cg):Decidable (fullC c):=inferInstanceAs (Decidable (_∧_))
def validC (l:List Cg):Prop:=l.length≤65536∧named (cgNames l)∧∀ c∈l,¬ fullC c
instance (l:List Cg):Decidable (validC l):=inferInstanceAs (Decidable (_∧_∧∀ c∈l,¬ fullC c))
def mrg {α β:Type} (na:α→List UInt8) (nb:β→List UInt8):List α→List β→List (Option α × Option β)
  | [],[]=>[]
  | x::a,[]=>(some x,none)::mrg na nb a []
  | [],y::b=>(none,some y)::mrg na nb [] b
  | x::a,y::b=>if ltS (na x) (nb y) then (some x,none)::mrg na nb a (y::b) else if ltS (nb y) (na x) then (none,some y)::mrg na nb (x::a) b else (some x,some y)::mrg na nb a b
termination_by a b=>a.length+b.length
def dstep:Option It × Option It→List Cg
  | (some x,none)=>[⟨x.name,[],true⟩]
  | (none,some y)=>[⟨y.name,y.data,false⟩]
  | (some x,some y)=>if x.data=y.data then [] else [⟨y.name,y.data,false⟩]
  | (none,none)=>[]
def astep:Option It × Option Cg→List It
  | (some x,none)=>[x]
  | (_,some y)=>if y.gone then [] else [⟨y.name,y.data⟩]
  | (none,none)=>[]
def aok:Option It × Option Cg→Bool
  | (some x,some y)=>y.gone||!decide (x.data=y.data)
  | (none,some y)=>!y.gone
  | (_,none)=>true
def diffL (a b:List It):List Cg:=(mrg It.name It.name a b).flatMap dstep
def appL (a:List It) (l:List Cg):List It:=((mrg It.name Cg.name a l).flatMap fun p=>if aok p then astep p else [])
def appOk (a:List It) (l:List Cg):Bool:=(mrg It.name Cg.name a l).all aok
theorem mrg_mem {na:α→List UInt8} {nb:β→List UInt8} (a:List α) (b:List β):∀ p∈mrg na nb a b,(∀ x,p.1=some x→x∈a)∧(∀ y,p.2=some y→y∈b)∧(p.1=none→p.2≠none):=by
  fun_induction mrg na nb a b with
  | case1=>intro p hp;cases hp
  | case2 x a ih =>
    intro p hp
    rcases List.mem_cons.1 hp with rfl | hp
    · simp
    · have:=ih p hp;exact ⟨fun z hz=>List.mem_cons_of_mem _ (this.1 z hz),this.2⟩
  | case3 y b ih =>
    intro p hp
    rcases List.mem_cons.1 hp with rfl | hp
    · simp
    · have:=ih p hp;exact ⟨this.1,fun z hz=>List.mem_cons_of_mem _ (this.2.1 z hz),this.2.2⟩
  | case4 x a y b h ih =>
    intro p hp
    rcases List.mem_cons.1 hp with rfl | hp
    · simp
    · have:=ih p hp;exact ⟨fun z hz=>List.mem_cons_of_mem _ (this.1 z hz),this.2⟩
  | case5 x a y b h k ih =>
    intro p hp
    rcases List.mem_cons.1 hp with rfl | hp
    · simp
    · have:=ih p hp;exact ⟨this.1,fun z hz=>List.mem_cons_of_mem _ (this.2.1 z hz),this.2.2⟩
  | case6 x a y b h k ih =>
    intro p hp
    rcases List.mem_cons.1 hp with rfl | hp
    · simp
    · have:=ih p hp;exact ⟨fun z hz=>List.mem_cons_of_mem _ (this.1 z hz),fun z hz=>List.mem_cons_of_mem _ (this.2.1 z hz),this.2.2⟩
theorem mrg_len {na:α→List UInt8} {nb:β→List UInt8} (a:List α) (b:List β):(mrg na nb a b).length≤a.length+b.length:=by
  fun_induction mrg na nb a b <;> simp_all <;> omega
theorem mrg_l0 {na:α→List UInt8} {nb:β→List UInt8} {a:List α} {b:List β} {x:α} (hx:a[0]?=some x) (hb:b.length=0):mrg na nb a b=((a.take 1).head?,(b.take 0).head?)::mrg na nb (a.drop 1) (b.drop 0):=by
  obtain rfl:=List.eq_nil_of_length_eq_zero hb
  cases a with
  | nil=>simp at hx
  | cons y a=>rw [mrg];rfl
theorem mrg_0r {na:α→List UInt8} {nb:β→List UInt8} {a:List α} {b:List β} {y:β} (hy:b[0]?=some y) (ha:a.length=0):mrg na nb a b=((a.take 0).head?,(b.take 1).head?)::mrg na nb (a.drop 0) (b.drop 1):=by
  obtain rfl:=List.eq_nil_of_length_eq_zero ha
  cases b with
  | nil=>simp at hy
  | cons y b=>rw [mrg];rfl
theorem mrg_lt {na:α→List UInt8} {nb:β→List UInt8} {a:List α} {b:List β} {x:α} {y:β} (hx:a[0]?=some x) (hy:b[0]?=some y) (h:ltS (na x) (nb y)=true):mrg na nb a b=((a.take 1).head?,(b.take 0).head?)::mrg na nb (a.drop 1) (b.drop 0):=by
  cases a with
  | nil=>simp at hx
  | cons x' a=>cases b with
    | nil=>simp at hy
    | cons y' b=>simp at hx hy;subst hx;subst hy;rw [mrg,if_pos h];rfl
theorem mrg_gt {na:α→List UInt8} {nb:β→List UInt8} {a:List α} {b:List β} {x:α} {y:β} (hx:a[0]?=some x) (hy:b[0]?=some y) (h:ltS (na x) (nb y)=false) (k:ltS (nb y) (na x)=true):mrg na nb a b=((a.take 0).head?,(b.take 1).head?)::mrg na nb (a.drop 0) (b.drop 1):=by
  cases a with
  | nil=>simp at hx
  | cons x' a=>cases b with
    | nil=>simp at hy
    | cons y' b=>simp at hx hy;subst hx;subst hy;rw [mrg,if_neg (by rw [h];decide),if_pos k];rfl
theorem mrg_eq {na:α→List UInt8} {nb:β→List UInt8} {a:List α} {b:List β} {x:α} {y:β} (hx:a[0]?=some x) (hy:b[0]?=some y) (h:ltS (na x) (nb y)=false) (k:ltS (nb y) (na x)=false):mrg na nb a b=((a.take 1).head?,(b.take 1).head?)::mrg na nb (a.drop 1) (b.drop 1):=by
  cases a with
  | nil=>simp at hx
  | cons x' a=>cases b with
    | nil=>simp at hy
    | cons y' b=>simp at hx hy;subst hx;subst hy;rw [mrg,if_neg (by rw [h];decide),if_neg (by rw [k];decide)];rfl
theorem mrg_nil {na:α→List UInt8} {nb:β→List UInt8} {a:List α} {b:List β} (ha:a.length=0) (hb:b.length=0):mrg na nb a b=[]:=by
  obtain rfl:=List.eq_nil_of_length_eq_zero ha
  obtain rfl:=List.eq_nil_of_length_eq_zero hb
  rw [mrg]
theorem mrg_room {γ:Type} {ps M m m':List γ} {p:γ} (h:ps++m=M) (e:m=p::m') (hN:M.length≤N):ps.length<N:=by
  have:=congrArg List.length h
  rw [e,List.length_append,List.length_cons] at this
  omega
theorem dstep_len (p:Option It × Option It):(dstep p).length≤1:=by
  rcases p with ⟨_ | x,_ | y⟩ <;> simp [dstep]
  split <;> simp
theorem astep_len (p:Option It × Option Cg):(if aok p then astep p else []).length≤1:=by
  split
  · rcases p with ⟨_ | x,_ | y⟩ <;> simp [astep] <;> split <;> simp
  · simp
theorem flat_len {f:α→List β} (h:∀ x,(f x).length≤1):∀ l:List α,(l.flatMap f).length≤l.length
  | []=>by simp
  | x::l=>by have h1:=flat_len h l;have h2:=h x;rw [List.flatMap_cons,List.length_append,List.length_cons];omega
theorem diff_len (a b:List It):(diffL a b).length≤a.length+b.length:=Nat.le_trans (flat_len dstep_len _) (mrg_len a b)
theorem diff_mem {a b:List It} {c:Cg} (h:c∈diffL a b):(∃ x∈a,c=⟨x.name,[],true⟩)∨∃ y∈b,c=⟨y.name,y.data,false⟩:=by
  obtain ⟨p,hp,hc⟩:=List.mem_flatMap.1 h
  obtain ⟨h1,h2,-⟩:=mrg_mem a b p hp
  rcases p with ⟨_ | x,_ | y⟩ <;> simp [dstep] at hc
  · exact .inr ⟨y,h2 y rfl,hc⟩
  · exact .inl ⟨x,h1 x rfl,hc⟩
  · exact .inr ⟨y,h2 y rfl,hc.2⟩
theorem diff_full {a b:List It}:∀ c∈diffL a b,¬ fullC c:=by
  intro c hc ⟨hg,hd⟩
  rcases diff_mem hc with ⟨x,-,rfl⟩ | ⟨y,-,rfl⟩
  · simp at hd
  · cases hg
theorem diffL_cons {a b:List It}:diffL a b=(match a,b with
  | [],[]=>[]
  | x::a',[]=>⟨x.name,[],true⟩::diffL a' []
  | [],y::b'=>⟨y.name,y.data,false⟩::diffL [] b'
  | x::a',y::b'=>if ltS x.name y.name then ⟨x.name,[],true⟩::diffL a' (y::b') else if ltS y.name x.name then ⟨y.name,y.data,false⟩::diffL (x::a') b' else if x.data=y.data then diffL a' b' else ⟨y.name,y.data,false⟩::diffL a' b'):=by
  unfold diffL
  split
  · simp [mrg]
  · simp [mrg,dstep]
  · simp [mrg,dstep]
  · rw [mrg]
    split
    · simp [dstep]
    · split
      · simp [dstep]
      · split <;> simp_all [dstep]
theorem it_srt {x:It} {l:List It}:Srt (itNames (x::l))↔(∀ b∈l,ltS x.name b.name=true)∧Srt (itNames l):=by
  rw [itNames,List.map_cons,Srt.cons];simp [itNames]
theorem cg_srt {x:Cg} {l:List Cg}:Srt (cgNames (x::l))↔(∀ b∈l,ltS x.name b.name=true)∧Srt (cgNames l):=by
  rw [cgNames,List.map_cons,Srt.cons];simp [cgNames]
theorem diff_above {s:List UInt8} {a b:List It} (ha:∀ x∈a,ltS s x.name=true) (hb:∀ x∈b,ltS s x.name=true):∀ c∈diffL a b,ltS s c.name=true:=by
  intro c hc
  rcases diff_mem hc with ⟨x,hx,rfl⟩ | ⟨y,hy,rfl⟩
  · exact ha x hx
  · exact hb y hy
theorem diff_srt:∀ (n:Nat) (a b:List It),a.length+b.length≤n→Srt (itNames a)→Srt (itNames b)→Srt (cgNames (diffL a b))
  | 0,a,b,hn,_,_=>by
    obtain rfl:a=[]:=List.eq_nil_of_length_eq_zero (by omega)
    obtain rfl:b=[]:=List.eq_nil_of_length_eq_zero (by omega)
    rw [diffL_cons];exact List.Pairwise.nil
  | n+1,a,b,hn,ha,hb=>by
    rw [diffL_cons]
    split
    · exact List.Pairwise.nil
    · rename_i x a'
      obtain ⟨h1,h2⟩:=it_srt.1 ha
      exact cg_srt.2 ⟨diff_above h1 (fun _ h=>absurd h (by simp)),diff_srt n a' [] (by simp at hn ⊢;omega) h2 hb⟩
    · rename_i y b'
      obtain ⟨h1,h2⟩:=it_srt.1 hb
      exact cg_srt.2 ⟨diff_above (fun _ h=>absurd h (by simp)) h1,diff_srt n [] b' (by simp at hn ⊢;omega) ha h2⟩
    · rename_i x a' y b'
      obtain ⟨h1,h2⟩:=it_srt.1 ha
      obtain ⟨h3,h4⟩:=it_srt.1 hb
      simp only [List.length_cons] at hn
      split
      · rename_i h
        refine cg_srt.2 ⟨diff_above h1 (fun z hz=>?_),diff_srt n a' (y::b') (by simp;omega) h2 hb⟩
        rcases List.mem_cons.1 hz with rfl | hz
        · exact h
        · exact lt_trans h (h3 z hz)
      · split
        · rename_i h
          refine cg_srt.2 ⟨diff_above (fun z hz=>?_) h3,diff_srt n (x::a') b' (by simp;omega) ha h4⟩
          rcases List.mem_cons.1 hz with rfl | hz
          · exact h
          · exact lt_trans h (h1 z hz)
        · rename_i k1 k2
          have e:x.name=y.name:=lt_conn (by simpa using k1) (by simpa using k2)
          split
          · exact diff_srt n a' b' (by omega) h2 h4
          · exact cg_srt.2 ⟨diff_above (fun z hz=>by rw [← e];exact h1 z hz) h3,diff_srt n a' b' (by omega) h2 h4⟩
theorem diff_valid {a b:List It} (ha:named (itNames a)) (hb:named (itNames b)) (hl:a.length+b.length≤65536):validC (diffL a b):=by
  refine ⟨Nat.le_trans (diff_len a b) hl,named_of (diff_srt _ a b (Nat.le_refl _) (named_srt ha) (named_srt hb)) fun s hs=>?_,diff_full⟩
  obtain ⟨c,hc,rfl⟩:=List.mem_map.1 hs
  rcases diff_mem hc with ⟨x,hx,rfl⟩ | ⟨y,hy,rfl⟩
  · exact named_ok ha _ (List.mem_map.2 ⟨x,hx,rfl⟩)
  · exact named_ok hb _ (List.mem_map.2 ⟨y,hy,rfl⟩)
theorem app_cons {a:List It} {l:List Cg}:appL a l=(match a,l with
  | [],[]=>[]
  | x::a',[]=>x::appL a' []
  | [],y::l'=>(if y.gone then [] else [⟨y.name,y.data⟩])++appL [] l'
  | x::a',y::l'=>if ltS x.name y.name then x::appL a' (y::l') else if ltS y.name x.name then (if y.gone then [] else [⟨y.name,y.data⟩])++appL (x::a') l' else (if y.gone||decide (x.data=y.data) then [] else [⟨y.name,y.data⟩])++appL a' l')
  ∧ appOk a l=(match a,l with
  | [],[]=>true
  | _::a',[]=>appOk a' []
  | [],y::l'=>!y.gone&&appOk [] l'
  | x::a',y::l'=>if ltS x.name y.name then appOk a' (y::l') else if ltS y.name x.name then !y.gone&&appOk (x::a') l' else (y.gone||!decide (x.data=y.data))&&appOk a' l'):=by
  unfold appL appOk
  split
  · simp [mrg]
  · simp [mrg,astep,aok]
  · rename_i y l';cases hg:y.gone <;> simp [mrg,astep,aok,hg]
  · rename_i x a' y l'
    rw [mrg]
    split
    · simp [astep,aok]
    · split
      · cases hg:y.gone <;> simp [astep,aok,hg]
      · cases hg:y.gone <;> by_cases hd:x.data=y.data <;> simp [astep,aok,hg,hd]
theorem app_diff:∀ (n:Nat) (a b:List It),a.length+b.length≤n→Srt (itNames a)→Srt (itNames b)→appL a (diffL a b)=b∧appOk a (diffL a b)=true
  | 0,a,b,hn,_,_=>by
    obtain rfl:a=[]:=List.eq_nil_of_length_eq_zero (by omega)
    obtain rfl:b=[]:=List.eq_nil_of_length_eq_zero (by omega)
    rw [diffL_cons];simp [appL,appOk,mrg]
  | n+1,a,b,hn,ha,hb=>by
    rw [diffL_cons]
    have same:∀ (x:It) (a' b':List It),(∀ z∈a',ltS x.name z.name=true)→(∀ z∈b',ltS x.name z.name=true)→appL a' (diffL a' b')=b'→appOk a' (diffL a' b')=true→appL (x::a') (diffL a' b')=x::b'∧appOk (x::a') (diffL a' b')=true:=by
      intro x a' b' h1 h2 h3 h4
      have h5:=diff_above h1 h2
      cases hd:diffL a' b' with
      | nil=>rw [hd] at h3 h4;rw [app_cons.1,app_cons.2];exact ⟨by simp only [h3],h4⟩
      | cons c l =>
        rw [hd] at h3 h4 h5
        have h6:=h5 c (List.mem_cons_self ..)
        rw [app_cons.1,app_cons.2]
        simp only [h6,if_true,h3,h4];simp
    split
    · simp [appL,appOk,mrg]
    · rename_i x a'
      obtain ⟨h1,h2⟩:=it_srt.1 ha
      have ih:=app_diff n a' [] (by simp at hn ⊢;omega) h2 hb
      rw [app_cons.1,app_cons.2]
      simp [lt_irr,ih.1,ih.2]
    · rename_i y b'
      obtain ⟨h1,h2⟩:=it_srt.1 hb
      have ih:=app_diff n [] b' (by simp at hn ⊢;omega) ha h2
      rw [app_cons.1,app_cons.2]
      simp [ih.1,ih.2]
    · rename_i x a' y b'
      obtain ⟨h1,h2⟩:=it_srt.1 ha
      obtain ⟨h3,h4⟩:=it_srt.1 hb
      simp only [List.length_cons] at hn
      split
      · rename_i h
        have ih:=app_diff n a' (y::b') (by simp;omega) h2 hb
        rw [app_cons.1,app_cons.2]
        simp [lt_irr,ih.1,ih.2]
      · split
        · rename_i h0 h
          have ih:=app_diff n (x::a') b' (by simp;omega) ha h4
          rw [app_cons.1,app_cons.2]
          have h0':ltS x.name y.name=false:=by simpa using h0
          simp only [h0',h]
          simp [ih.1,ih.2]
        · rename_i k1 k2
          have e:x.name=y.name:=lt_conn (by simpa using k1) (by simpa using k2)
          have ih:=app_diff n a' b' (by omega) h2 h4
          split
          · rename_i hd
            have:=same x a' b' h1 (fun z hz=>by rw [e];exact h3 z hz) ih.1 ih.2
            have exy:x=y:=by cases x;cases y;simp_all
            rw [this.1,this.2,exy];exact ⟨rfl,rfl⟩
          · rename_i hd
            rw [app_cons.1,app_cons.2]
            have C:ltS x.name y.name=false:=by rw [e];exact lt_irr _
            have D:ltS y.name x.name=false:=by rw [e];exact lt_irr _
            simp only [C,D]
            simp [ih.1,ih.2,hd]
def iv:List UInt32:=[0x6a09e667,0xbb67ae85,0x3c6ef372,0xa54ff53a,0x510e527f,0x9b05688c,0x1f83d9ab,0x5be0cd19]
def perms:List (List Nat):=[
  [0,1,2,3,4,5,6,7,8,9,10,11,12,13,14,15],
  [14,10,4,8,9,15,13,6,1,12,0,2,11,7,5,3],
  [11,8,12,0,5,2,15,13,10,14,3,6,7,1,9,4],
  [7,9,3,1,13,12,11,14,2,6,5,10,4,0,15,8],
  [9,0,5,7,2,4,10,15,14,1,11,12,6,8,3,13],
  [2,12,6,10,0,11,8,3,4,13,7,5,15,14,1,9],
  [12,5,1,15,14,13,4,10,0,7,6,3,9,2,8,11],
  [13,11,7,14,12,1,3,9,5,0,15,4,8,6,2,10],
  [6,15,14,9,11,3,0,8,12,2,13,7,1,4,10,5],
  [10,2,8,4,7,6,1,5,15,11,9,14,3,12,13,0]]
def ror (v:UInt32) (n:Nat):UInt32:=v >>> UInt32.ofNat n ||| v <<< UInt32.ofNat (32 - n)
structure Four where (a b c d:UInt32)
def mix4 (a b c d x y:UInt32):Four :=
  let a:=a+b+x
  let d:=ror (d^^^a) 16
  let c:=c+d
  let b:=ror (b^^^c) 12
  let a:=a+b+y
  let d:=ror (d^^^a) 8
  let c:=c+d
  let b:=ror (b^^^c) 7
  ⟨a,b,c,d⟩
def put4 (v:List UInt32) (i j k l:Nat) (r:Four):List UInt32:=(((v.set i r.a).set j r.b).set k r.c).set l r.d
def at_ (v:List UInt32) (i:Nat):UInt32:=v.getD i 0
def mixv (v:List UInt32) (i j k l:Nat) (x y:UInt32):List UInt32:=put4 v i j k l (mix4 (at_ v i) (at_ v j) (at_ v k) (at_ v l) x y)
def mixAt (m:List UInt32) (s:List Nat) (v:List UInt32) (i:Nat):List UInt32 :=
  let x:=at_ m (s.getD (2*i) 0)
  let y:=at_ m (s.getD (2*i+1) 0)
  if i<4 then mixv v i (4+i) (8+i) (12+i) x y
  else let j:=i % 4;mixv v j (4+(j+1) % 4) (8+(j+2) % 4) (12+(j+3) % 4) x y
def round (m:List UInt32) (v:List UInt32) (s:List Nat):List UInt32:=(List.range 8).foldl (mixAt m s) v
def word (b:List UInt8) (m:List UInt32) (i:Nat):List UInt32:=m.set (i / 4) (at_ m (i / 4) ||| (b.getD i 0).toUInt32 <<< UInt32.ofNat (8*(i % 4)))
def words (b:List UInt8):List UInt32:=(List.range b.length).foldl (word b) (List.replicate 16 0)
def begin_ (h:List UInt32) (n:UInt64) (last:Bool):List UInt32 :=
  let v:=h++iv
  let v:=v.set 12 (at_ v 12^^^n.toUInt32)
  let v:=v.set 13 (at_ v 13^^^(n >>> 32).toUInt32)
  if last then v.set 14 (~~~ (at_ v 14)) else v
def close_ (v:List UInt32) (h:List UInt32) (i:Nat):List UInt32:=h.set i (at_ h i^^^at_ v i^^^at_ v (8+i))
def absorb (h:List UInt32) (b:List UInt8) (n:UInt64) (last:Bool):List UInt32 :=
  let v:=perms.foldl (round (words b)) (begin_ h n last)
  (List.range 8).foldl (close_ v) h
def first:List UInt32:=iv.set 0 (0x6a09e667^^^0x01010020)
def outByte (h:List UInt32) (i:Nat):UInt8:=(at_ h (i / 4) >>> UInt32.ofNat (8*(i % 4))).toUInt8
def out (h:List UInt32):List UInt8:=(List.range 32).map (outByte h)
def feed (h:List UInt32) (n:Nat) (b:List UInt8):List UInt32 :=
  if b.length≤64 then absorb h b (UInt64.ofNat (n+b.length)) true
  else feed (absorb h (b.take 64) (UInt64.ofNat (n+64)) false) (n+64) (b.drop 64)
termination_by b.length
decreasing_by simp;omega
def bsum (b:List UInt8):List UInt8:=out (feed first 0 b)
theorem rot16_any (x:UInt32) (w:World) :
  Calls Tryz.prog 129 #[.int .u32 (x.toNat:Nat),.int .i64 (-16)] w (fun e w'=>e=.returned (.int .u32 ((ror x 16).toNat:Nat))∧Ext w w'):=by
 exact calls_enter Tryz.func129 rfl rfl rfl fun _ C=>wr fun D D=>C.xv (.int .u32 0) fun _ C=>wn D<|wr fun D D=>C.xm rfl<|Xw (.int .u64 18446744073709551600) (fun F=>rn_convW uu3 uu112 (F.get rfl) (by decide +kernel:IntKind.wrap .u64 (-16)=18446744073709551600))<|Xw (.int .u64 16) (fun F=>rn_bin (v:=.int .u64 16) (F.get rfl) rfl guard_int (by kernel_rfl))<|Xa rfl fun _ C=>wn D<|wr fun D D=>C.xm rfl<|Xm rfl<|Xw (.int .u32 ((x <<< UInt32.ofNat 16).toNat:Nat)) (fun F=>rn_shl32 (a:=x) (n:=16) (F.get rfl) (F.get rfl) (by omega))<|Xm rfl<|Xm rfl<|Xw (.int .u64 16) (fun F=>rn_bin (v:=.int .u64 16) rfl (F.get rfl) guard_int (by kernel_rfl))<|Xw (.int .u32 ((x >>> UInt32.ofNat 16).toNat:Nat)) (fun F=>rn_shr32 (a:=x) (n:=16) (F.get rfl) (F.get rfl) (by omega))<|Xw (.int .u32 (((x <<< UInt32.ofNat 16) ||| (x >>> UInt32.ofNat 16)).toNat:Nat)) (fun F=>rn_or32 (a:=(x <<< UInt32.ofNat 16)) (b:=(x >>> UInt32.ofNat 16)) (F.get rfl) (F.get rfl))<|Xa rfl fun _ C=>wn D<|have D:=C.k [0,1,4,5];wp_ret<|ret1 D rfl rfl<|⟨congrArg (fun (z:UInt32)=>Ending.returned (.int .u32 z.toNat)) (UInt32.or_comm _ _),Ext.refl _⟩
theorem rot12_any (x:UInt32) (w:World) :
  Calls Tryz.prog 129 #[.int .u32 (x.toNat:Nat),.int .i64 (-12)] w (fun e w'=>e=.returned (.int .u32 ((ror x 12).toNat:Nat))∧Ext w w'):=by
 exact calls_enter Tryz.func129 rfl rfl rfl fun _ C=>wr fun D D=>C.xv (.int .u32 0) fun _ C=>wn D<|wr fun D D=>C.xm rfl<|Xw (.int .u64 18446744073709551604) (fun F=>rn_convW uu3 uu112 (F.get rfl) (by decide +kernel:IntKind.wrap .u64 (-12)=18446744073709551604))<|Xw (.int .u64 20) (fun F=>rn_bin (v:=.int .u64 20) (F.get rfl) rfl guard_int (by kernel_rfl))<|Xa rfl fun _ C=>wn D<|wr fun D D=>C.xm rfl<|Xm rfl<|Xw (.int .u32 ((x <<< UInt32.ofNat 20).toNat:Nat)) (fun F=>rn_shl32 (a:=x) (n:=20) (F.get rfl) (F.get rfl) (by omega))<|Xm rfl<|Xm rfl<|Xw (.int .u64 12) (fun F=>rn_bin (v:=.int .u64 12) rfl (F.get rfl) guard_int (by kernel_rfl))<|Xw (.int .u32 ((x >>> UInt32.ofNat 12).toNat:Nat)) (fun F=>rn_shr32 (a:=x) (n:=12) (F.get rfl) (F.get rfl) (by omega))<|Xw (.int .u32 (((x <<< UInt32.ofNat 20) ||| (x >>> UInt32.ofNat 12)).toNat:Nat)) (fun F=>rn_or32 (a:=(x <<< UInt32.ofNat 20)) (b:=(x >>> UInt32.ofNat 12)) (F.get rfl) (F.get rfl))<|Xa rfl fun _ C=>wn D<|have D:=C.k [0,1,4,5];wp_ret<|ret1 D rfl rfl<|⟨congrArg (fun (z:UInt32)=>Ending.returned (.int .u32 z.toNat)) (UInt32.or_comm _ _),Ext.refl _⟩
theorem rot8_any (x:UInt32) (w:World) :
  Calls Tryz.prog 129 #[.int .u32 (x.toNat:Nat),.int .i64 (-8)] w (fun e w'=>e=.returned (.int .u32 ((ror x 8).toNat:Nat))∧Ext w w'):=by
 exact calls_enter Tryz.func129 rfl rfl rfl fun _ C=>wr fun D D=>C.xv (.int .u32 0) fun _ C=>wn D<|wr fun D D=>C.xm rfl<|Xw (.int .u64 18446744073709551608) (fun F=>rn_convW uu3 uu112 (F.get rfl) (by decide +kernel:IntKind.wrap .u64 (-8)=18446744073709551608))<|Xw (.int .u64 24) (fun F=>rn_bin (v:=.int .u64 24) (F.get rfl) rfl guard_int (by kernel_rfl))<|Xa rfl fun _ C=>wn D<|wr fun D D=>C.xm rfl<|Xm rfl<|Xw (.int .u32 ((x <<< UInt32.ofNat 24).toNat:Nat)) (fun F=>rn_shl32 (a:=x) (n:=24) (F.get rfl) (F.get rfl) (by omega))<|Xm rfl<|Xm rfl<|Xw (.int .u64 8) (fun F=>rn_bin (v:=.int .u64 8) rfl (F.get rfl) guard_int (by kernel_rfl))<|Xw (.int .u32 ((x >>> UInt32.ofNat 8).toNat:Nat)) (fun F=>rn_shr32 (a:=x) (n:=8) (F.get rfl) (F.get rfl) (by omega))<|Xw (.int .u32 (((x <<< UInt32.ofNat 24) ||| (x >>> UInt32.ofNat 8)).toNat:Nat)) (fun F=>rn_or32 (a:=(x <<< UInt32.ofNat 24)) (b:=(x >>> UInt32.ofNat 8)) (F.get rfl) (F.get rfl))<|Xa rfl fun _ C=>wn D<|have D:=C.k [0,1,4,5];wp_ret<|ret1 D rfl rfl<|⟨congrArg (fun (z:UInt32)=>Ending.returned (.int .u32 z.toNat)) (UInt32.or_comm _ _),Ext.refl _⟩
theorem rot7_any (x:UInt32) (w:World) :
  Calls Tryz.prog 129 #[.int .u32 (x.toNat:Nat),.int .i64 (-7)] w (fun e w'=>e=.returned (.int .u32 ((ror x 7).toNat:Nat))∧Ext w w'):=by
 exact calls_enter Tryz.func129 rfl rfl rfl fun _ C=>wr fun D D=>C.xv (.int .u32 0) fun _ C=>wn D<|wr fun D D=>C.xm rfl<|Xw (.int .u64 18446744073709551609) (fun F=>rn_convW uu3 uu112 (F.get rfl) (by decide +kernel:IntKind.wrap .u64 (-7)=18446744073709551609))<|Xw (.int .u64 25) (fun F=>rn_bin (v:=.int .u64 25) (F.get rfl) rfl guard_int (by kernel_rfl))<|Xa rfl fun _ C=>wn D<|wr fun D D=>C.xm rfl<|Xm rfl<|Xw (.int .u32 ((x <<< UInt32.ofNat 25).toNat:Nat)) (fun F=>rn_shl32 (a:=x) (n:=25) (F.get rfl) (F.get rfl) (by omega))<|Xm rfl<|Xm rfl<|Xw (.int .u64 7) (fun F=>rn_bin (v:=.int .u64 7) rfl (F.get rfl) guard_int (by kernel_rfl))<|Xw (.int .u32 ((x >>> UInt32.ofNat 7).toNat:Nat)) (fun F=>rn_shr32 (a:=x) (n:=7) (F.get rfl) (F.get rfl) (by omega))<|Xw (.int .u32 (((x <<< UInt32.ofNat 25) ||| (x >>> UInt32.ofNat 7)).toNat:Nat)) (fun F=>rn_or32 (a:=(x <<< UInt32.ofNat 25)) (b:=(x >>> UInt32.ofNat 7)) (F.get rfl) (F.get rfl))<|Xa rfl fun _ C=>wn D<|have D:=C.k [0,1,4,5];wp_ret<|ret1 D rfl rfl<|⟨congrArg (fun (z:UInt32)=>Ending.returned (.int .u32 z.toNat)) (UInt32.or_comm _ _),Ext.refl _⟩
def mixSeq (v:List UInt32) (a b c d:Nat) (x y:UInt32):List UInt32 :=
 let v1:=v.set a (v.getD a 0+(v.getD b 0+x))
 let v2:=v1.set d (ror (v1.getD d 0^^^v1.getD a 0) 16)
 let v3:=v2.set c (v2.getD c 0+v2.getD d 0)
 let v4:=v3.set b (ror (v3.getD b 0^^^v3.getD c 0) 12)
 let v5:=v4.set a (v4.getD a 0+(v4.getD b 0+y))
 let v6:=v5.set d (ror (v5.getD d 0^^^v5.getD a 0) 8)
 let v7:=v6.set c (v6.getD c 0+v6.getD d 0)
 v7.set b (ror (v7.getD b 0^^^v7.getD c 0) 7)
theorem mix_chain {v1 v2 v3 v4 v5 v6 v7 v8:List UInt32} {a b c:Nat} {x:UInt32} (e1:v1=v.set a (v.getD a 0+(v.getD b 0+x))) (e2:v2=v1.set d (ror (v1.getD d 0^^^v1.getD a 0) 16)) (e3:v3=v2.set c (v2.getD c 0+v2.getD d 0)) (e4:v4=v3.set b (ror (v3.getD b 0^^^v3.getD c 0) 12))
  (e5:v5=v4.set a (v4.getD a 0+(v4.getD b 0+y))) (e6:v6=v5.set d (ror (v5.getD d 0^^^v5.getD a 0) 8)) (e7:v7=v6.set c (v6.getD c 0+v6.getD d 0)) (e8:v8=v7.set b (ror (v7.getD b 0^^^v7.getD c 0) 7)):v8=mixSeq v a b c d x y:=by
 subst e1 e2 e3 e4 e5 e6 e7 e8;rfl
theorem mix_any (g:Nat) (v:List UInt32) (ia ib ic id_:Nat) (x y:UInt32) (w:World) (hb:Blk w g 153 (u32Vals v)) (h16:v.length=16) (ha:ia<16) (hb':ib<16) (hc:ic<16) (hd:id_<16) :
  Calls Tryz.prog 126 #[.pointer (some ⟨g,0,none⟩),.int .i64 (ia:Nat),.int .i64 (ib:Nat),.int .i64 (ic:Nat),.int .i64 (id_:Nat),.int .u32 (x.toNat:Nat),.int .u32 (y.toNat:Nat)] w (fun e w'=>e=.returned (.tuple #[])∧Blk w' g 153 (u32Vals (mixSeq v ia ib ic id_ x y))∧w.grownBy w' (some g)):=by
 refine calls_enter Tryz.func126 rfl rfl rfl fun _ D=>wp_seq_k fun C J=>sX (fun C W=>Ext C W∧Blk W g 153 (u32Vals v)) (fun i=>i==15) 16 fun C aw G=>D.ym 0 rfl<|Ym 1 rfl<|Yv 2 (vp g) rfl<|Yw 3 (vq g (0+ia)) rfl (fun F W=>rn_indexArr uu153 inf143 (F.get rfl) (F.get rfl) (zl _) (by omega:(ia:Int)<((16:Nat):Int))) fun _ I=>have G:=(hb.ext aw);have D:Ext C C∧Blk C g 153 (u32Vals v):=⟨(Ext.refl C),G⟩;I.ys 4 (.int .u32 ((v.getD ia 0).toNat:Nat)) rfl D (fun F W hW=>rl F rfl (blk_word hW.2 (by omega) (by have:=(show List.length v=_ from h16);omega)))<|Ym 5 rfl<|Ym 6 rfl<|Yv 7 (vp g) rfl<|Yw 8 (vq g (0+ib)) rfl (fun F W=>rn_indexArr uu153 inf143 (F.get rfl) (F.get rfl) (zl _) (by omega:(ib:Int)<((16:Nat):Int)))<|Ys 9 (.int .u32 ((v.getD ib 0).toNat:Nat)) rfl D (fun F W hW=>rl F rfl (blk_word hW.2 (by omega) (by have:=(show List.length v=_ from h16);omega)))<|Ym 10 rfl<|Yw 11 (.int .u32 (((v.getD ib 0)+x).toNat:Nat)) rfl (fun F W=>rn_add32 (a:=(v.getD ib 0)) (b:=x) (F.get rfl) (F.get rfl))<|Yw 12 (.int .u32 (((v.getD ia 0)+((v.getD ib 0)+x)).toNat:Nat)) rfl (fun F W=>rn_add32 (a:=(v.getD ia 0)) (b:=((v.getD ib 0)+x)) (F.get rfl) (F.get rfl))<|Yv 13 (vp g) rfl<|Yw 14 (vq g (0+ia)) rfl (fun F W=>rn_indexArr uu153 inf143 (F.get rfl) (F.get rfl) (zl _) (by omega:(ia:Int)<((16:Nat):Int))) fun _ D=>ao 15 rfl<|o_store1 (new:=(u32Vals (v.set ia ((v.getD ia 0)+((v.getD ib 0)+x))))) D rfl rfl rfl rfl (D.get rfl) (D.get rfl) G inf143 (by rw [u32Vals_len h16];omega) rfl (u32Vals_set (by omega)) fun C G aj=>?_;have C:=aj.size
 obtain ⟨C,Z⟩:∃ z,z=v.set ia ((v.getD ia 0)+((v.getD ib 0)+x)):=⟨_,rfl⟩
 have I:C.length=16:=by rw [Z,List.length_set];exact h16
 rw [← Z] at G
 refine ⟨fun h=>absurd h (by decide),?_⟩
 refine nK J<|have J:=D.k [0,1,2,3,4,5,6];wp_seq_k fun D O=>sX (fun D W=>Ext D W∧Blk W g 153 (u32Vals C)) (fun i=>i==16) 17 fun D az M=>J.ym 0 rfl<|Ym 1 rfl<|Ym 2 rfl<|Ym 3 rfl<|Yv 4 (vp g) rfl<|Yw 5 (vq g (0+id_)) rfl (fun F W=>rn_indexArr uu153 inf143 (F.get rfl) (F.get rfl) (zl _) (by omega:(id_:Int)<((16:Nat):Int))) fun _ M=>have J:=(G.ext az);have G:Ext D D∧Blk D g 153 (u32Vals C):=⟨(Ext.refl D),J⟩;M.ys 6 (.int .u32 ((C.getD id_ 0).toNat:Nat)) rfl G (fun F W hW=>rl F rfl (blk_word hW.2 (by omega) (by have:=(show List.length C=_ from I);omega)))<|Ym 7 rfl<|Ym 8 rfl<|Yv 9 (vp g) rfl<|Yw 10 (vq g (0+ia)) rfl (fun F W=>rn_indexArr uu153 inf143 (F.get rfl) (F.get rfl) (zl _) (by omega:(ia:Int)<((16:Nat):Int)))<|Ys 11 (.int .u32 ((C.getD ia 0).toNat:Nat)) rfl G (fun F W hW=>rl F rfl (blk_word hW.2 (by omega) (by have:=(show List.length C=_ from I);omega)))<|Yw 12 (.int .u32 (((C.getD id_ 0)^^^(C.getD ia 0)).toNat:Nat)) rfl (fun F W=>rn_xor32 (a:=(C.getD id_ 0)) (b:=(C.getD ia 0)) (F.get rfl) (F.get rfl))<|Yv 14 (vp g) rfl fun _ D=>ao 13 rfl<|D.oe (rot16_any ((C.getD id_ 0)^^^(C.getD ia 0)) _) fun D aA D _ G=>?_
 have D:=J.ext aA
 refine ⟨fun _ _=>⟨eX,D⟩,?_⟩
 refine G.yw 15 (vq g (0+id_)) rfl (fun F W=>rn_indexArr uu153 inf143 (F.get rfl) (F.get rfl) (zl _) (by omega:(id_:Int)<((16:Nat):Int))) fun _ G=>ao 16 rfl<|o_store1 (new:=(u32Vals (C.set id_ (ror ((C.getD id_ 0)^^^(C.getD ia 0)) 16)))) G rfl rfl rfl rfl (G.get rfl) (G.get rfl) D inf143 (by rw [u32Vals_len I];omega) rfl (u32Vals_set (by omega)) fun D M ak=>?_;have D:=ak.size
 obtain ⟨D,aa⟩:∃ z,z=C.set id_ (ror ((C.getD id_ 0)^^^(C.getD ia 0)) 16):=⟨_,rfl⟩
 have J:D.length=16:=by rw [aa,List.length_set];exact I
 rw [← aa] at M
 refine ⟨fun h=>absurd h (by decide),?_⟩
 refine nK O<|have I:=G.k [0,1,2,3,4,5,6];wp_seq_k fun C U=>sX (fun C W=>Ext C W∧Blk W g 153 (u32Vals D)) (fun i=>i==13) 14 fun C aB G=>I.ym 0 rfl<|Ym 1 rfl<|Yv 2 (vp g) rfl<|Yw 3 (vq g (0+ic)) rfl (fun F W=>rn_indexArr uu153 inf143 (F.get rfl) (F.get rfl) (zl _) (by omega:(ic:Int)<((16:Nat):Int))) fun _ O=>have I:=(M.ext aB);have G:Ext C C∧Blk C g 153 (u32Vals D):=⟨(Ext.refl C),I⟩;O.ys 4 (.int .u32 ((D.getD ic 0).toNat:Nat)) rfl G (fun F W hW=>rl F rfl (blk_word hW.2 (by omega) (by have:=(show List.length D=_ from J);omega)))<|Ym 5 rfl<|Ym 6 rfl<|Yv 7 (vp g) rfl<|Yw 8 (vq g (0+id_)) rfl (fun F W=>rn_indexArr uu153 inf143 (F.get rfl) (F.get rfl) (zl _) (by omega:(id_:Int)<((16:Nat):Int)))<|Ys 9 (.int .u32 ((D.getD id_ 0).toNat:Nat)) rfl G (fun F W hW=>rl F rfl (blk_word hW.2 (by omega) (by have:=(show List.length D=_ from J);omega)))<|Yw 10 (.int .u32 (((D.getD ic 0)+(D.getD id_ 0)).toNat:Nat)) rfl (fun F W=>rn_add32 (a:=(D.getD ic 0)) (b:=(D.getD id_ 0)) (F.get rfl) (F.get rfl))<|Yv 11 (vp g) rfl<|Yw 12 (vq g (0+ic)) rfl (fun F W=>rn_indexArr uu153 inf143 (F.get rfl) (F.get rfl) (zl _) (by omega:(ic:Int)<((16:Nat):Int))) fun _ G=>ao 13 rfl<|o_store1 (new:=(u32Vals (D.set ic ((D.getD ic 0)+(D.getD id_ 0))))) G rfl rfl rfl rfl (G.get rfl) (G.get rfl) I inf143 (by rw [u32Vals_len J];omega) rfl (u32Vals_set (by omega)) fun C O ac=>?_;have C:=ac.size
 obtain ⟨C,M⟩:∃ z,z=D.set ic ((D.getD ic 0)+(D.getD id_ 0)):=⟨_,rfl⟩
 have I:C.length=16:=by rw [M,List.length_set];exact J
 rw [← M] at O
 refine ⟨fun h=>absurd h (by decide),?_⟩
 refine nK U<|have J:=G.k [0,1,2,3,4,5,6];wp_seq_k fun D V=>sX (fun D W=>Ext D W∧Blk W g 153 (u32Vals C)) (fun i=>i==16) 17 fun D al G=>J.ym 0 rfl<|Ym 1 rfl<|Ym 2 rfl<|Ym 3 rfl<|Yv 4 (vp g) rfl<|Yw 5 (vq g (0+ib)) rfl (fun F W=>rn_indexArr uu153 inf143 (F.get rfl) (F.get rfl) (zl _) (by omega:(ib:Int)<((16:Nat):Int))) fun _ U=>have G:=(O.ext al);have J:Ext D D∧Blk D g 153 (u32Vals C):=⟨(Ext.refl D),G⟩;U.ys 6 (.int .u32 ((C.getD ib 0).toNat:Nat)) rfl J (fun F W hW=>rl F rfl (blk_word hW.2 (by omega) (by have:=(show List.length C=_ from I);omega)))<|Ym 7 rfl<|Ym 8 rfl<|Yv 9 (vp g) rfl<|Yw 10 (vq g (0+ic)) rfl (fun F W=>rn_indexArr uu153 inf143 (F.get rfl) (F.get rfl) (zl _) (by omega:(ic:Int)<((16:Nat):Int)))<|Ys 11 (.int .u32 ((C.getD ic 0).toNat:Nat)) rfl J (fun F W hW=>rl F rfl (blk_word hW.2 (by omega) (by have:=(show List.length C=_ from I);omega)))<|Yw 12 (.int .u32 (((C.getD ib 0)^^^(C.getD ic 0)).toNat:Nat)) rfl (fun F W=>rn_xor32 (a:=(C.getD ib 0)) (b:=(C.getD ic 0)) (F.get rfl) (F.get rfl))<|Yv 14 (vp g) rfl fun _ D=>ao 13 rfl<|D.oe (rot12_any ((C.getD ib 0)^^^(C.getD ic 0)) _) fun D am D _ J=>?_
 have D:=G.ext am
 refine ⟨fun _ _=>⟨eX,D⟩,?_⟩
 refine J.yw 15 (vq g (0+ib)) rfl (fun F W=>rn_indexArr uu153 inf143 (F.get rfl) (F.get rfl) (zl _) (by omega:(ib:Int)<((16:Nat):Int))) fun _ G=>ao 16 rfl<|o_store1 (new:=(u32Vals (C.set ib (ror ((C.getD ib 0)^^^(C.getD ic 0)) 12)))) G rfl rfl rfl rfl (G.get rfl) (G.get rfl) D inf143 (by rw [u32Vals_len I];omega) rfl (u32Vals_set (by omega)) fun D U ae=>?_;have D:=ae.size
 obtain ⟨D,O⟩:∃ z,z=C.set ib (ror ((C.getD ib 0)^^^(C.getD ic 0)) 12):=⟨_,rfl⟩
 have J:D.length=16:=by rw [O,List.length_set];exact I
 rw [← O] at U
 refine ⟨fun h=>absurd h (by decide),?_⟩
 refine nK V<|have I:=G.k [0,1,2,3,4,5,6];wp_seq_k fun C Y=>sX (fun C W=>Ext C W∧Blk W g 153 (u32Vals D)) (fun i=>i==15) 16 fun C aq G=>I.ym 0 rfl<|Ym 1 rfl<|Yv 2 (vp g) rfl<|Yw 3 (vq g (0+ia)) rfl (fun F W=>rn_indexArr uu153 inf143 (F.get rfl) (F.get rfl) (zl _) (by omega:(ia:Int)<((16:Nat):Int))) fun _ V=>have I:=(U.ext aq);have G:Ext C C∧Blk C g 153 (u32Vals D):=⟨(Ext.refl C),I⟩;V.ys 4 (.int .u32 ((D.getD ia 0).toNat:Nat)) rfl G (fun F W hW=>rl F rfl (blk_word hW.2 (by omega) (by have:=(show List.length D=_ from J);omega)))<|Ym 5 rfl<|Ym 6 rfl<|Yv 7 (vp g) rfl<|Yw 8 (vq g (0+ib)) rfl (fun F W=>rn_indexArr uu153 inf143 (F.get rfl) (F.get rfl) (zl _) (by omega:(ib:Int)<((16:Nat):Int)))<|Ys 9 (.int .u32 ((D.getD ib 0).toNat:Nat)) rfl G (fun F W hW=>rl F rfl (blk_word hW.2 (by omega) (by have:=(show List.length D=_ from J);omega)))<|Ym 10 rfl<|Yw 11 (.int .u32 (((D.getD ib 0)+y).toNat:Nat)) rfl (fun F W=>rn_add32 (a:=(D.getD ib 0)) (b:=y) (F.get rfl) (F.get rfl))<|Yw 12 (.int .u32 (((D.getD ia 0)+((D.getD ib 0)+y)).toNat:Nat)) rfl (fun F W=>rn_add32 (a:=(D.getD ia 0)) (b:=((D.getD ib 0)+y)) (F.get rfl) (F.get rfl))<|Yv 13 (vp g) rfl<|Yw 14 (vq g (0+ia)) rfl (fun F W=>rn_indexArr uu153 inf143 (F.get rfl) (F.get rfl) (zl _) (by omega:(ia:Int)<((16:Nat):Int))) fun _ G=>ao 15 rfl<|o_store1 (new:=(u32Vals (D.set ia ((D.getD ia 0)+((D.getD ib 0)+y))))) G rfl rfl rfl rfl (G.get rfl) (G.get rfl) I inf143 (by rw [u32Vals_len J];omega) rfl (u32Vals_set (by omega)) fun C V ag=>?_;have C:=ag.size
 obtain ⟨C,U⟩:∃ z,z=D.set ia ((D.getD ia 0)+((D.getD ib 0)+y)):=⟨_,rfl⟩
 have I:C.length=16:=by rw [U,List.length_set];exact J
 rw [← U] at V
 refine ⟨fun h=>absurd h (by decide),?_⟩
 refine nK Y<|have J:=G.k [0,1,2,3,4,5,6];wp_seq_k fun D ab=>sX (fun D W=>Ext D W∧Blk W g 153 (u32Vals C)) (fun i=>i==16) 17 fun D ar G=>J.ym 0 rfl<|Ym 1 rfl<|Ym 2 rfl<|Ym 3 rfl<|Yv 4 (vp g) rfl<|Yw 5 (vq g (0+id_)) rfl (fun F W=>rn_indexArr uu153 inf143 (F.get rfl) (F.get rfl) (zl _) (by omega:(id_:Int)<((16:Nat):Int))) fun _ Y=>have G:=(V.ext ar);have J:Ext D D∧Blk D g 153 (u32Vals C):=⟨(Ext.refl D),G⟩;Y.ys 6 (.int .u32 ((C.getD id_ 0).toNat:Nat)) rfl J (fun F W hW=>rl F rfl (blk_word hW.2 (by omega) (by have:=(show List.length C=_ from I);omega)))<|Ym 7 rfl<|Ym 8 rfl<|Yv 9 (vp g) rfl<|Yw 10 (vq g (0+ia)) rfl (fun F W=>rn_indexArr uu153 inf143 (F.get rfl) (F.get rfl) (zl _) (by omega:(ia:Int)<((16:Nat):Int)))<|Ys 11 (.int .u32 ((C.getD ia 0).toNat:Nat)) rfl J (fun F W hW=>rl F rfl (blk_word hW.2 (by omega) (by have:=(show List.length C=_ from I);omega)))<|Yw 12 (.int .u32 (((C.getD id_ 0)^^^(C.getD ia 0)).toNat:Nat)) rfl (fun F W=>rn_xor32 (a:=(C.getD id_ 0)) (b:=(C.getD ia 0)) (F.get rfl) (F.get rfl))<|Yv 14 (vp g) rfl fun _ D=>ao 13 rfl<|D.oe (rot8_any ((C.getD id_ 0)^^^(C.getD ia 0)) _) fun D au D _ J=>?_
 have D:=G.ext au
 refine ⟨fun _ _=>⟨eX,D⟩,?_⟩
 refine J.yw 15 (vq g (0+id_)) rfl (fun F W=>rn_indexArr uu153 inf143 (F.get rfl) (F.get rfl) (zl _) (by omega:(id_:Int)<((16:Nat):Int))) fun _ G=>ao 16 rfl<|o_store1 (new:=(u32Vals (C.set id_ (ror ((C.getD id_ 0)^^^(C.getD ia 0)) 8)))) G rfl rfl rfl rfl (G.get rfl) (G.get rfl) D inf143 (by rw [u32Vals_len I];omega) rfl (u32Vals_set (by omega)) fun D Y ah=>?_;have D:=ah.size
 obtain ⟨D,V⟩:∃ z,z=C.set id_ (ror ((C.getD id_ 0)^^^(C.getD ia 0)) 8):=⟨_,rfl⟩
 have J:D.length=16:=by rw [V,List.length_set];exact I
 rw [← V] at Y
 refine ⟨fun h=>absurd h (by decide),?_⟩
 refine nK ab<|have I:=G.k [0,1,2,3,4,5,6];wp_seq_k fun C ax=>sX (fun C W=>Ext C W∧Blk W g 153 (u32Vals D)) (fun i=>i==13) 14 fun C av G=>I.ym 0 rfl<|Ym 1 rfl<|Yv 2 (vp g) rfl<|Yw 3 (vq g (0+ic)) rfl (fun F W=>rn_indexArr uu153 inf143 (F.get rfl) (F.get rfl) (zl _) (by omega:(ic:Int)<((16:Nat):Int))) fun _ ab=>have I:=(Y.ext av);have G:Ext C C∧Blk C g 153 (u32Vals D):=⟨(Ext.refl C),I⟩;ab.ys 4 (.int .u32 ((D.getD ic 0).toNat:Nat)) rfl G (fun F W hW=>rl F rfl (blk_word hW.2 (by omega) (by have:=(show List.length D=_ from J);omega)))<|Ym 5 rfl<|Ym 6 rfl<|Yv 7 (vp g) rfl<|Yw 8 (vq g (0+id_)) rfl (fun F W=>rn_indexArr uu153 inf143 (F.get rfl) (F.get rfl) (zl _) (by omega:(id_:Int)<((16:Nat):Int)))<|Ys 9 (.int .u32 ((D.getD id_ 0).toNat:Nat)) rfl G (fun F W hW=>rl F rfl (blk_word hW.2 (by omega) (by have:=(show List.length D=_ from J);omega)))<|Yw 10 (.int .u32 (((D.getD ic 0)+(D.getD id_ 0)).toNat:Nat)) rfl (fun F W=>rn_add32 (a:=(D.getD ic 0)) (b:=(D.getD id_ 0)) (F.get rfl) (F.get rfl))<|Yv 11 (vp g) rfl<|Yw 12 (vq g (0+ic)) rfl (fun F W=>rn_indexArr uu153 inf143 (F.get rfl) (F.get rfl) (zl _) (by omega:(ic:Int)<((16:Nat):Int))) fun _ G=>ao 13 rfl<|o_store1 (new:=(u32Vals (D.set ic ((D.getD ic 0)+(D.getD id_ 0))))) G rfl rfl rfl rfl (G.get rfl) (G.get rfl) I inf143 (by rw [u32Vals_len J];omega) rfl (u32Vals_set (by omega)) fun C ab ai=>?_;have C:=ai.size
 obtain ⟨C,Y⟩:∃ z,z=D.set ic ((D.getD ic 0)+(D.getD id_ 0)):=⟨_,rfl⟩
 have I:C.length=16:=by rw [Y,List.length_set];exact J
 rw [← Y] at ab
 refine ⟨fun h=>absurd h (by decide),?_⟩
 refine nK ax<|have J:=G.k [0,1,2,3,4,5,6];sX (fun D W=>Ext D W∧Blk W g 153 (u32Vals C)) (fun i=>i==16) 17 fun D ax G=>J.ym 0 rfl<|Ym 1 rfl<|Ym 2 rfl<|Ym 3 rfl<|Yv 4 (vp g) rfl<|Yw 5 (vq g (0+ib)) rfl (fun F W=>rn_indexArr uu153 inf143 (F.get rfl) (F.get rfl) (zl _) (by omega:(ib:Int)<((16:Nat):Int))) fun _ ay=>have G:=(ab.ext ax);have J:Ext D D∧Blk D g 153 (u32Vals C):=⟨(Ext.refl D),G⟩;ay.ys 6 (.int .u32 ((C.getD ib 0).toNat:Nat)) rfl J (fun F W hW=>rl F rfl (blk_word hW.2 (by omega) (by have:=(show List.length C=_ from I);omega)))<|Ym 7 rfl<|Ym 8 rfl<|Yv 9 (vp g) rfl<|Yw 10 (vq g (0+ic)) rfl (fun F W=>rn_indexArr uu153 inf143 (F.get rfl) (F.get rfl) (zl _) (by omega:(ic:Int)<((16:Nat):Int)))<|Ys 11 (.int .u32 ((C.getD ic 0).toNat:Nat)) rfl J (fun F W hW=>rl F rfl (blk_word hW.2 (by omega) (by have:=(show List.length C=_ from I);omega)))<|Yw 12 (.int .u32 (((C.getD ib 0)^^^(C.getD ic 0)).toNat:Nat)) rfl (fun F W=>rn_xor32 (a:=(C.getD ib 0)) (b:=(C.getD ic 0)) (F.get rfl) (F.get rfl))<|Yv 14 (vp g) rfl fun _ D=>ao 13 rfl<|D.oe (rot7_any ((C.getD ib 0)^^^(C.getD ic 0)) _) fun D ay D _ D=>?_
 have J:=G.ext ay
 refine ⟨fun _ _=>⟨eX,J⟩,?_⟩
 refine D.yw 15 (vq g (0+ib)) rfl (fun F W=>rn_indexArr uu153 inf143 (F.get rfl) (F.get rfl) (zl _) (by omega:(ib:Int)<((16:Nat):Int))) fun _ D=>ao 16 rfl<|o_store1 (new:=(u32Vals (C.set ib (ror ((C.getD ib 0)^^^(C.getD ic 0)) 7)))) D rfl rfl rfl rfl (D.get rfl) (D.get rfl) J inf143 (by rw [u32Vals_len I];omega) rfl (u32Vals_set (by omega)) fun G J ab=>?_;have G:=ab.size
 obtain ⟨aC,G⟩:∃ z,z=C.set ib (ror ((C.getD ib 0)^^^(C.getD ic 0)) 7):=⟨_,rfl⟩
 have C:aC.length=16:=by rw [G,List.length_set];exact I
 rw [← G] at J
 refine ⟨fun h=>absurd h (by decide),?_⟩
 exact nN<|ret0 D rfl<|⟨rfl,(mix_chain Z aa M O U V Y G) ▸ J,(grow_set (grow_ext (grow_ext (grow_set (grow_ext (grow_set (grow_ext (grow_ext (grow_set (grow_ext (grow_set (grow_ext (grow_ext (grow_set (grow_ext (grow_set (grow_ext (grow_ext (grow_set (grow_ext (grow_refl w g) aw) aj) az) aA) ak) aB) ac) al) am) ae) aq) ag) ar) au) ah) av) ai) ax) ay) ab)⟩
theorem getD_setU {l:List UInt32} {i j:Nat} {x:UInt32} (h:i≠j):(l.set i x).getD j 0=l.getD j 0:=by
 simp [List.getD_eq_getElem?_getD,h]
theorem add_assoc32 (a b c:UInt32):a+(b+c)=a+b+c:=(UInt32.add_assoc a b c).symm
theorem mixSeq_eq {a b c:Nat} {x:UInt32} (ha:a<v.length) (hb:b<v.length) (hc:c<v.length) (hd:d<v.length) (hab:a≠b) (hac:a≠c) (had:a≠d) (hbc:b≠c) (hbd:b≠d) (hcd:c≠d) :
  mixSeq v a b c d x y=mixv v a b c d x y:=by
 apply List.ext_getElem
 ·simp [mixSeq,mixv,put4]
 ·intro n h1 h2
  have e:∀ l:List UInt32,∀ h:n<l.length,l[n]=l.getD n 0:=fun l h=>by simp [List.getD_eq_getElem?_getD,List.getElem?_eq_getElem h]
  rw [e _ h1,e _ h2]
  unfold mixSeq mixv put4 mix4 at_
  dsimp only
  have hba:=hab.symm
  have hca:=hac.symm
  have hda:=had.symm
  have hcb:=hbc.symm
  have hdb:=hbd.symm
  have hdc:=hcd.symm
  by_cases h3:n=a
  ·subst h3;simp [ha,hb,hc,hd,hab,hac,had,hbc,hbd,hcd,hba,hca,hda,hcb,hdb,hdc,add_assoc32]
  ·by_cases h4:n=b
   ·subst h4;simp [ha,hb,hc,hd,hab,hac,had,hbc,hbd,hcd,hba,hca,hda,hcb,hdb,hdc,add_assoc32]
   ·by_cases h5:n=c
    ·subst h5;simp [ha,hb,hc,hd,hab,hac,had,hbc,hbd,hcd,hba,hca,hda,hcb,hdb,hdc,add_assoc32]
    ·by_cases h6:n=d
     ·subst h6;simp [ha,hb,hc,hd,hab,hac,had,hbc,hbd,hcd,hba,hca,hda,hcb,hdb,hdc,add_assoc32]
     ·rw [getD_setU (Ne.symm h4),getD_setU (Ne.symm h5),getD_setU (Ne.symm h6),getD_setU (Ne.symm h3),getD_setU (Ne.symm h4),getD_setU (Ne.symm h5),getD_setU (Ne.symm h6),getD_setU (Ne.symm h3),getD_setU (Ne.symm h6),getD_setU (Ne.symm h5),getD_setU (Ne.symm h4),getD_setU (Ne.symm h3)]
theorem foldl_range (f:α→Nat→α) (a:α) (k:Nat):(List.range (k+1)).foldl f a=f ((List.range k).foldl f a) k:=by
  rw [List.range_succ,List.foldl_append];rfl
theorem foldl_len {f:List UInt32→α→List UInt32} {n:Nat} (hf:∀ v i,v.length=n→(f v i).length=n):∀ (l:List α) (v:List UInt32),v.length=n→(l.foldl f v).length=n
  | [],_,h=>h
  | x::l,v,h=>foldl_len hf l (f v x) (hf v x h)
theorem mixSeq_len (v:List UInt32) (a b c d:Nat) (x y:UInt32):(mixSeq v a b c d x y).length=v.length:=by simp [mixSeq]
def wordsTo (b:List UInt8) (k:Nat):List UInt32:=(List.range k).foldl (word b) (List.replicate 16 0)
theorem wordsTo_len (b:List UInt8) (k:Nat):(wordsTo b k).length=16:=foldl_len (fun v i h=>by simp [word,h]) _ _ (by simp)
theorem wordsTo_step {k:Nat} (hm:m=wordsTo b k) (hv:v=m.set (k / 4) (m.getD (k / 4) 0 ||| (b.getD k 0).toUInt32 <<< UInt32.ofNat (8*(k % 4)))):v=wordsTo b (k+1):=by
  rw [hv,hm,wordsTo,wordsTo,foldl_range];rfl
theorem words_eq {k:Nat} (hm:m=wordsTo b k) (hk:k=b.length):m=words b:=by rw [hm,hk];rfl
def permB:List UInt8:=perms.flatten.map UInt8.ofNat
theorem permB_len:permB.length=160:=by decide +kernel
def permRow (r:Nat):List Nat:=perms.getD r []
theorem perm_row_all:∀ r<10,∀ j<16,(((permB.drop (r*16)).take 16).getD j 0).toNat=(permRow r).getD j 0∧(permRow r).getD j 0<16:=by decide +kernel
theorem perm_row (hr:r<10) {j:Nat} (hj:j<16):(((permB.drop (r*16)).take 16).getD j 0).toNat=(permRow r).getD j 0:=(perm_row_all r hr j hj).1
theorem perm_lt (hr:r<10) {j:Nat} (hj:j<16):(((permB.drop (r*16)).take 16).getD j 0).toNat<16:=by rw [perm_row hr hj];exact (perm_row_all r hr j hj).2
theorem mixv_len {a b c:Nat} {x:UInt32} (h:v.length=16):(mixv v a b c d x y).length=16:=by simp [mixv,put4,h]
theorem mixAt_len (m:List UInt32) (s:List Nat) {v:List UInt32} (i:Nat) (h:v.length=16):(mixAt m s v i).length=16:=by
  unfold mixAt
  dsimp only
  split <;> exact mixv_len h
def mixTo (m:List UInt32) (s:List Nat) (v:List UInt32) (k:Nat):List UInt32:=(List.range k).foldl (mixAt m s) v
theorem mixTo_len {k:Nat} (h:v.length=16):(mixTo m s v k).length=16:=foldl_len (fun _ i h=>mixAt_len m s i h) _ _ h
theorem mixTo_step1 {v0:List UInt32} {k:Nat} (hr:r<10) (hk:k<4) (h0:v0.length=16) (hv:v=mixTo m (permRow r) v0 k)
    (he:v'=mixSeq v k (4+k) (8+k) (12+k) (m.getD (((permB.drop (r*16)).take 16).getD (2*k) 0).toNat 0) (m.getD (((permB.drop (r*16)).take 16).getD ((2*k)+1) 0).toNat 0)):v'=mixTo m (permRow r) v0 (k+1):=by
  have hl:v.length=16:=by rw [hv];exact mixTo_len h0
  rw [mixTo,foldl_range,← mixTo,← hv,he,mixSeq_eq (by omega) (by omega) (by omega) (by omega) (by omega) (by omega) (by omega) (by omega) (by omega) (by omega),perm_row hr (by omega),perm_row hr (by omega)]
  simp [mixAt,hk,at_]
theorem mixTo_step2 {v0:List UInt32} {k:Nat} (hr:r<10) (hk:k<4) (h0:v0.length=16) (hv:v=mixTo m (permRow r) v0 (4+k))
    (he:v'=mixSeq v k (4+((k+1) % 4)) (8+((k+2) % 4)) (12+((k+3) % 4)) (m.getD (((permB.drop (r*16)).take 16).getD (8+(2*k)) 0).toNat 0) (m.getD (((permB.drop (r*16)).take 16).getD (9+(2*k)) 0).toNat 0)):v'=mixTo m (permRow r) v0 (4+(k+1)):=by
  have hl:v.length=16:=by rw [hv];exact mixTo_len h0
  rw [← Nat.add_assoc,mixTo,foldl_range,← mixTo,← hv,he,mixSeq_eq (by omega) (by omega) (by omega) (by omega) (by omega) (by omega) (by omega) (by omega) (by omega) (by omega),perm_row hr (by omega),perm_row hr (by omega)]
  have h1:¬ (4+k<4):=by omega
  have h2:(4+k) % 4=k:=by omega
  simp only [mixAt,h1,if_false,h2,at_]
  rw [show 2*(4+k)=8+2*k from by omega,show 8+2*k+1=9+2*k from by omega]
def roundTo (m v:List UInt32) (r:Nat):List UInt32:=(perms.take r).foldl (round m) v
theorem round_len (h:v.length=16):(round m v s).length=16:=mixTo_len h
theorem roundTo_len (h:v.length=16):(roundTo m v r).length=16:=foldl_len (fun _ s h=>round_len (s:=s) h) _ _ h
theorem roundTo_step {v0:List UInt32} (hr:r<10) (hv:v=roundTo m v0 r) (he:v'=mixTo m (permRow r) v 8):v'=roundTo m v0 (r+1):=by
  have hl:perms.length=10:=rfl
  have hlt:r<perms.length:=by rw [hl];exact hr
  have hg:permRow r=perms[r]:=by unfold permRow;rw [List.getD_eq_getElem?_getD,List.getElem?_eq_getElem hlt,Option.getD_some]
  rw [roundTo,List.take_succ_eq_append_getElem hlt,List.foldl_append,← roundTo,← hv,he,hg,List.foldl_cons,List.foldl_nil,round,mixTo]
def closeTo (v h:List UInt32) (k:Nat):List UInt32:=(List.range k).foldl (close_ v) h
theorem closeTo_len {k:Nat} (hh:h.length=8):(closeTo v h k).length=8:=foldl_len (fun _ i h=>by simp [close_,h]) _ _ hh
theorem closeTo_step {k:Nat} (hh:h=closeTo v h0 k) (he:h'=h.set k (h.getD k 0^^^(v.getD k 0^^^v.getD (8+k) 0))):h'=closeTo v h0 (k+1):=by
  rw [he,hh,closeTo,closeTo,foldl_range,← closeTo,close_,at_,at_,at_,UInt32.xor_assoc]
theorem absorb_len {n:UInt64} (hh:h.length=8):(absorb h b n last).length=8:=closeTo_len hh
theorem absorb_eq {n:UInt64} (hv:v=roundTo (words b) (begin_ h n last) 10) (hh:h'=closeTo v h 8):h'=absorb h b n last:=by rw [hh,hv];rfl
theorem begin_true {n:UInt64}:((((h++iv).set 12 ((h++iv).getD 12 0^^^n.toUInt32)).set 13 (((h++iv).set 12 ((h++iv).getD 12 0^^^n.toUInt32)).getD 13 0^^^(n >>> UInt64.ofNat 32).toUInt32)).set 14 (~~~ ((((h++iv).set 12 ((h++iv).getD 12 0^^^n.toUInt32)).set 13 (((h++iv).set 12 ((h++iv).getD 12 0^^^n.toUInt32)).getD 13 0^^^(n >>> UInt64.ofNat 32).toUInt32)).getD 14 0)))=begin_ h n true:=rfl
theorem begin_false {n:UInt64}:(((h++iv).set 12 ((h++iv).getD 12 0^^^n.toUInt32)).set 13 (((h++iv).set 12 ((h++iv).getD 12 0^^^n.toUInt32)).getD 13 0^^^(n >>> UInt64.ofNat 32).toUInt32))=begin_ h n false:=rfl
theorem iv_len:iv.length=8:=rfl
theorem hiv_len (hh:h.length=8):(h++iv).length=16:=by simp [hh,iv]
theorem h8_len (hh:h.length=8):(h++List.replicate 8 0).length=16:=by simp [hh]
theorem copy1 (hh:h.length=8):splice (u32Vals (List.replicate 16 0)) 0 ((u32Vals h).take (min 8 8))=u32Vals (h++List.replicate 8 0):=by
  have hl:(u32Vals h).length=8:=u32Vals_len hh
  rw [show min 8 8=8 from rfl,List.take_of_length_le (by omega)]
  simp [splice,hh,u32Vals]
theorem copy2 (hh:h.length=8):splice (u32Vals (h++List.replicate 8 0)) 8 ((u32Vals iv).take (min 8 8))=u32Vals (h++iv):=by
  have hl:(u32Vals h).length=8:=u32Vals_len hh
  rw [show min 8 8=8 from rfl,List.take_of_length_le (by decide)]
  simp [splice,hh,u32Vals,iv,List.drop_append]
structure Glob (w:World):Prop where
  a:Cel w 1 (some ⟨0,0,none⟩) 8 (u32Vals iv)
  b:Cel w 1 (some ⟨1,0,none⟩) 160 (byteVals permB)
theorem Glob.ext (h:Glob w) (e:Ext w w'):Glob w':=⟨h.a.ext e,h.b.ext e⟩
theorem Glob.at0 (h:Glob w) (j:Nat) (v:Value) (hv:(u32Vals iv)[j]?=some v):w.cell? ⟨0,0+j,none⟩=some v:=by
  obtain ⟨b,off,hA,_,hx⟩:=h.a.2.2 (by omega)
  cases hA
  exact hx j v hv
theorem Glob.at1 (h:Glob w) (j:Nat) (v:Value) (hv:(byteVals permB)[j]?=some v):w.cell? ⟨1,0+j,none⟩=some v:=by
  obtain ⟨b,off,hA,_,hx⟩:=h.b.2.2 (by omega)
  cases hA
  exact hx j v hv
theorem El154:El Tryz.prog 154 143 (.int .u32 0) 1 4:=⟨uu154,by kernel_rfl,rfl,by decide⟩
theorem absorb_any (g:Nat) (h:List UInt32) (A:Option Addr) (c:Nat) (b:List UInt8) (n:UInt64) (last:Bool) (w:World) (hb:Blk w g 144 (u32Vals h)) (hh:h.length=8) (hf:Fl S w 1 (vl A b.length c) b.length (byteVals b)) (h64:b.length≤64) (hG:Glob w) :
  Calls Tryz.prog 120 #[.pointer (some ⟨g,0,none⟩),.slice A b.length c,.int .u64 (n.toNat:Nat),.bool last] w (fun e w'=>e=.returned (.tuple #[])∧Blk w' g 144 (u32Vals (absorb h b n last))∧w.grownBy w' (some g)):=by
 refine calls_enter Tryz.func120 rfl rfl rfl fun _ U=>have hlt:=hb.lt;wr fun K1 aJ=>U.xz (u32Vals (List.replicate 16 0)) 153 fun I U _ U z6 z7 b4 ar=>U.xz (u32Vals (List.replicate 16 0)) 153 fun G U _ ar U U au U=>wn aJ<|wp_seq_k fun aJ aM=>wr fun aJ aJ=>ar.xm rfl<|Xv (vi b.length)<|Xv (vi 0) fun _ ar=>wn aJ<|wp_block<|have aJ:=hb.ux U;have aL:=(b4.ext U);wp_loop (fun a' W=>∃ (k:Nat) (m:List UInt32),Sl 149 [(0,(vp g)),(1,(vl A b.length c)),(2,(.int .u64 n.toNat)),(3,(.bool last)),(8,(vp I)),(9,(vp G)),(18,(vl A b.length c)),(19,(vi b.length)),(20,(vi k))] a'∧k≤b.length∧m=wordsTo b k∧Ext w W∧Blk W g 144 (u32Vals h)∧Blk W I 153 (u32Vals m)∧Blk W G 153 (u32Vals (List.replicate 16 0))) (fun a' _=>b.length - (intOf (a'.eval (.tmp 20))).toNat) ⟨0,(List.replicate 16 0),ar.j,(by omega),rfl,eX,aJ,aL,au⟩ ?_
 rintro U U ⟨k,m,U,ar,ag,aJ,ar,ac,au⟩
 have aU:=U
 have aL:=aJ.size
 have aL:=ar.lt
 have aL:=ac.lt
 have aL:=au.lt
 have hm:m.length=16:=by rw [ag];exact wordsTo_len _ _
 refine wr fun aL aL=>U.xv (vd ((k:Int)<(b.length:Int))) fun _ U=>wn aL<|wp_seq_k fun aL aL=>?_
 by_cases aV:(k:Int)<(b.length:Int)
 ·refine U.ct<|wp_skip<|aL _ _<|wp_seq_k fun C M=>wp_block<|wr fun C O=>U.xm rfl fun _ G=>?_
  have C:=hf.ext aJ
  obtain ⟨J,U,D,-⟩:=Fl.at C (by omega)
  refine G.xw (vq J (U+k)) (fun F=>rn_index1 uu22 inf5 ((F.get rfl).trans (by rw [D])) (F.get rfl) (zl _) (il (by omega:k<b.length)))<|Xw (.int .u8 ((b.getD k 0).toNat:Nat)) (fun F=>rl F rfl (Fl.cellAt C D (byteVals_at (i:=k) (by omega))))<|Xa rfl<|Xa rfl fun _ D=>wn O<|sX (fun C W=>Ext C W∧Blk W I 153 (u32Vals m)) (fun i=>i==12) 13 fun C G J=>D.ym 0 rfl<|Yw 1 (vi (k / 4:Nat)) rfl (fun F W=>rn_quoN (a:=k) (b:=4) (F.get rfl) rfl (by omega) (by omega))<|Yw 2 (.pointer (some ⟨I,0+(k / 4),none⟩)) rfl (fun F W=>rn_indexArr uu153 inf143 (F.get rfl) (F.get rfl) (by omega:(0:Int)≤(k / 4:Nat)) (by omega:((k / 4:Nat):Int)<((16:Nat):Int))) fun _ J=>have D:=(ac.ext G);have G:Ext C C∧Blk C I 153 (u32Vals m):=⟨(Ext.refl C),D⟩;J.ys 3 (.int .u32 ((m.getD (k / 4) 0).toNat:Nat)) rfl G (fun F W hW=>rl F rfl (blk_word hW.2 (by omega) (by have:=(show List.length m=_ from hm);omega)))<|Ym 4 rfl<|Ys 5 (.int .u32 (((b.getD k 0).toUInt32).toNat:Nat)) rfl G (fun F W hW=>rn_convW uu5 uu143 (F.get rfl) (cv8_32 (b.getD k 0)))<|Ym 6 rfl<|Yw 7 (vi (k % 4:Nat)) rfl (fun F W=>rn_remN (a:=k) (b:=4) (F.get rfl) rfl (by omega))<|Yw 8 (vi (8*(k % 4):Nat)) rfl (fun F W=>rn_mulN (a:=8) (b:=k % 4) rfl (F.get rfl) (by omega))<|Yw 9 (.int .u32 ((((b.getD k 0).toUInt32) <<< UInt32.ofNat (8*(k % 4))).toNat:Nat)) rfl (fun F W=>rn_shl32 (a:=((b.getD k 0).toUInt32)) (n:=(8*(k % 4))) (F.get rfl) (F.get rfl) (by omega))<|Yw 10 (.int .u32 (((m.getD (k / 4) 0) ||| (((b.getD k 0).toUInt32) <<< UInt32.ofNat (8*(k % 4)))).toNat:Nat)) rfl (fun F W=>rn_or32 (a:=(m.getD (k / 4) 0)) (b:=(((b.getD k 0).toUInt32) <<< UInt32.ofNat (8*(k % 4)))) (F.get rfl) (F.get rfl))<|Yw 11 (.pointer (some ⟨I,0+(k / 4),none⟩)) rfl (fun F W=>rn_indexArr uu153 inf143 (F.get rfl) (F.get rfl) (by omega:(0:Int)≤(k / 4:Nat)) (by omega:((k / 4:Nat):Int)<((16:Nat):Int))) fun _ C=>ao 12 rfl<|o_store1 (new:=(u32Vals (m.set (k / 4) ((m.getD (k / 4) 0) ||| (((b.getD k 0).toUInt32) <<< UInt32.ofNat (8*(k % 4))))))) C rfl rfl rfl rfl (C.get rfl) (C.get rfl) D inf143 (by rw [u32Vals_len hm];omega) rfl (u32Vals_set (by omega)) fun D I D=>?_;have G:=D.size
  refine ⟨fun h=>absurd h (by decide),?_⟩
  refine nK M<|have G:=C.k [0,1,2,3,8,9,18,19,20,21,10,11];wp_region_lit<|G.xv (vi (k+1:Nat))<|Xm rfl fun _ G=>wpList_nil ?_
  obtain ⟨J,C⟩:∃ z,z=m.set (k / 4) ((m.getD (k / 4) 0) ||| (((b.getD k 0).toUInt32) <<< UInt32.ofNat (8*(k % 4)))):=⟨_,rfl⟩
  have M:J.length=16:=(congrArg List.length C).trans (show List.length (m.set (k / 4) ((m.getD (k / 4) 0) ||| (((b.getD k 0).toUInt32) <<< UInt32.ofNat (8*(k % 4)))))=_ from List.length_set.trans hm)
  rw [← C] at I
  have M:=ar.ug D
  have O:=au.ug D
  refine ⟨⟨k+1,J,G.j,(by omega),(wordsTo_step ag C),eX,M,I,O⟩,?_⟩
  rw [G.get (t:=20) rfl,aU.get (t:=20) rfl];simp [intOf];omega
 refine U.cf<|wp_exit<|exit_then<|exit_then<|exit_here<|aM _ _<|wp_seq_k fun aJ aM=>sX (fun aJ W=>Ext aJ W∧Blk W G 153 (u32Vals (List.replicate 16 0))∧Blk W g 144 (u32Vals h)) (fun i=>i==4) 5 fun aJ aJ aL=>U.yw 0 (vl (some ⟨G,0,none⟩) 8 16) rfl (fun F W=>rn_arrHi uu153 inf143 (F.get rfl) rfl (by omega:(0:Int)≤8) (by omega:(8:Int)≤((16:Nat):Int)))<|Ym 1 rfl<|Yv 2 (vp g) rfl<|Yw 3 (vl (some ⟨g,0,none⟩) 8 8) rfl (fun F W=>rn_arrAll uu144 inf143 (F.get rfl)) fun _ U=>ao 4 rfl<|have aL:=(au.ext aJ);have ah:=(ar.ext aJ);o_copy (new:=u32Vals (h++List.replicate 8 0)) (n:=8) (El154) U rfl rfl rfl rfl rfl (U.get rfl) (U.get rfl) aL (ah.cel (by rw [u32Vals_len hh]) (u32Vals_one _)) (by rw [u32Vals_len (show List.length (List.replicate 16 0)=_ from List.length_replicate)];omega) (copy1 hh) (by omega) fun U U U au ar=>?_;have aJ:=ar.size
 refine ⟨fun h=>absurd h (by decide),?_⟩
 refine nK aM<|have ar:=U.k [0,1,2,3,8,9,18,19,20,21];wp_seq_k fun U aJ=>sX (fun U W=>Ext U W∧Blk W G 153 (u32Vals (h++List.replicate 8 0))) (fun i=>i==2) 3 fun U aL U=>ar.yw 0 (vl (some ⟨G,8,none⟩) 8 8) rfl (fun F W=>rn_arrLo (l:=8) uu153 inf143 (F.get rfl) rfl (by omega))<|Yw 1 (vl (some ⟨0,0,none⟩) 8 8) rfl (fun F W=>rn_arrAll uu144 inf143 rfl) fun _ U=>ao 2 rfl<|have ar:=(au.ext aL);o_copy (new:=u32Vals (h++iv)) (n:=8) (El154) U rfl rfl rfl rfl rfl (U.get rfl) (U.get rfl) ar (hG.ext eX).a (by rw [u32Vals_len (h8_len hh)];omega) (copy2 hh) (by omega) fun U U U ar au=>?_;have aL:=au.size
 refine ⟨fun h=>absurd h (by decide),?_⟩
 refine nK aJ<|wr fun au au=>U.xw (vq G (0+12)) (fun F=>rn_indexArr uu153 inf143 (F.get rfl) rfl (by omega:(0:Int)≤12) (by omega:(12:Int)<((16:Nat):Int)))<|Xw (.int .u32 (((h++iv).getD 12 0).toNat:Nat)) (fun F=>rl F rfl (blk_word ar (by omega) (by have:=(show List.length (h++iv)=_ from (hiv_len hh));omega)))<|Xm rfl<|Xw (.int .u32 n.toUInt32.toNat) (fun F=>rn_convW uu130 uu143 (F.get rfl) (cv64_32 n))<|Xw (.int .u32 ((((h++iv).getD 12 0)^^^n.toUInt32).toNat:Nat)) (fun F=>rn_xor32 (a:=((h++iv).getD 12 0)) (b:=n.toUInt32) (F.get rfl) (F.get rfl))<|Xw (vq G (0+12)) (fun F=>rn_indexArr uu153 inf143 (F.get rfl) rfl (by omega:(0:Int)≤12) (by omega:(12:Int)<((16:Nat):Int))) fun _ U=>wpl_op (i:=6) rfl<|o_store1 (new:=(u32Vals ((h++iv).set 12 (((h++iv).getD 12 0)^^^n.toUInt32)))) U rfl rfl rfl rfl (U.get rfl) (U.get rfl) ar inf143 (by rw [u32Vals_len (hiv_len hh)];omega) rfl (u32Vals_set (by omega)) fun ar ar aJ=>have aL:=aJ.size;wn au<|have au:=U.k [0,1,2,3,8,9,18,19,20,21];wr fun U aJ=>au.xw (vq G (0+13)) (fun F=>rn_indexArr uu153 inf143 (F.get rfl) rfl (by omega:(0:Int)≤13) (by omega:(13:Int)<((16:Nat):Int)))<|Xw (.int .u32 ((((h++iv).set 12 (((h++iv).getD 12 0)^^^n.toUInt32)).getD 13 0).toNat:Nat)) (fun F=>rl F rfl (blk_word ar (by omega) (by have:=(show List.length ((h++iv).set 12 (((h++iv).getD 12 0)^^^n.toUInt32))=_ from (show List.length ((h++iv).set 12 (((h++iv).getD 12 0)^^^n.toUInt32))=_ from List.length_set.trans (hiv_len hh)));omega)))<|Xm rfl<|Xw (.int .u64 ((n >>> UInt64.ofNat 32).toNat:Nat)) (fun F=>rn_shr64 (a:=n) (n:=32) (F.get rfl) rfl (by omega))<|Xw (.int .u32 (((n >>> UInt64.ofNat 32).toUInt32).toNat:Nat)) (fun F=>rn_convW uu130 uu143 (F.get rfl) (cv64_32 (n >>> UInt64.ofNat 32)))<|Xw (.int .u32 (((((h++iv).set 12 (((h++iv).getD 12 0)^^^n.toUInt32)).getD 13 0)^^^((n >>> UInt64.ofNat 32).toUInt32)).toNat:Nat)) (fun F=>rn_xor32 (a:=(((h++iv).set 12 (((h++iv).getD 12 0)^^^n.toUInt32)).getD 13 0)) (b:=((n >>> UInt64.ofNat 32).toUInt32)) (F.get rfl) (F.get rfl))<|Xw (vq G (0+13)) (fun F=>rn_indexArr uu153 inf143 (F.get rfl) rfl (by omega:(0:Int)≤13) (by omega:(13:Int)<((16:Nat):Int))) fun _ U=>?_
 refine wpl_op (i:=7) rfl<|o_store1 (new:=(u32Vals (((h++iv).set 12 (((h++iv).getD 12 0)^^^n.toUInt32)).set 13 ((((h++iv).set 12 (((h++iv).getD 12 0)^^^n.toUInt32)).getD 13 0)^^^((n >>> UInt64.ofNat 32).toUInt32))))) U rfl rfl rfl rfl (U.get rfl) (U.get rfl) ar inf143 (by rw [u32Vals_len (show List.length ((h++iv).set 12 (((h++iv).getD 12 0)^^^n.toUInt32))=_ from List.length_set.trans (hiv_len hh))];omega) rfl (u32Vals_set (by omega)) fun ar ab az=>have ar:=az.size;wn aJ<|have ar:=U.k [0,1,2,3,8,9,18,19,20,21];wp_seq_k fun U aI=>wr fun U U=>ar.xm rfl fun _ V=>wn U ?_
 rcases Bool.eq_false_or_eq_true last with ay | ay
 ·refine V.ct<|wp_region_lit<|V.xw (vq G (0+14)) (fun F=>rn_indexArr uu153 inf143 (F.get rfl) rfl (by omega:(0:Int)≤14) (by omega:(14:Int)<((16:Nat):Int)))<|Xw (.int .u32 (((((h++iv).set 12 (((h++iv).getD 12 0)^^^n.toUInt32)).set 13 ((((h++iv).set 12 (((h++iv).getD 12 0)^^^n.toUInt32)).getD 13 0)^^^((n >>> UInt64.ofNat 32).toUInt32))).getD 14 0).toNat:Nat)) (fun F=>rl F rfl (blk_word ab (by omega) (by have:=(show List.length (((h++iv).set 12 (((h++iv).getD 12 0)^^^n.toUInt32)).set 13 ((((h++iv).set 12 (((h++iv).getD 12 0)^^^n.toUInt32)).getD 13 0)^^^((n >>> UInt64.ofNat 32).toUInt32)))=_ from (show List.length (((h++iv).set 12 (((h++iv).getD 12 0)^^^n.toUInt32)).set 13 ((((h++iv).set 12 (((h++iv).getD 12 0)^^^n.toUInt32)).getD 13 0)^^^((n >>> UInt64.ofNat 32).toUInt32)))=_ from List.length_set.trans (show List.length ((h++iv).set 12 (((h++iv).getD 12 0)^^^n.toUInt32))=_ from List.length_set.trans (hiv_len hh))));omega)))<|Xw (.int .u32 ((~~~ ((((h++iv).set 12 (((h++iv).getD 12 0)^^^n.toUInt32)).set 13 ((((h++iv).set 12 (((h++iv).getD 12 0)^^^n.toUInt32)).getD 13 0)^^^((n >>> UInt64.ofNat 32).toUInt32))).getD 14 0)).toNat:Nat)) (fun F=>rn_not32 (a:=((((h++iv).set 12 (((h++iv).getD 12 0)^^^n.toUInt32)).set 13 ((((h++iv).set 12 (((h++iv).getD 12 0)^^^n.toUInt32)).getD 13 0)^^^((n >>> UInt64.ofNat 32).toUInt32))).getD 14 0)) (F.get rfl))<|Xw (vq G (0+14)) (fun F=>rn_indexArr uu153 inf143 (F.get rfl) rfl (by omega:(0:Int)≤14) (by omega:(14:Int)<((16:Nat):Int))) fun _ U=>wpl_op (i:=4) rfl<|o_store1 (new:=(u32Vals ((((h++iv).set 12 (((h++iv).getD 12 0)^^^n.toUInt32)).set 13 ((((h++iv).set 12 (((h++iv).getD 12 0)^^^n.toUInt32)).getD 13 0)^^^((n >>> UInt64.ofNat 32).toUInt32))).set 14 (~~~ ((((h++iv).set 12 (((h++iv).getD 12 0)^^^n.toUInt32)).set 13 ((((h++iv).set 12 (((h++iv).getD 12 0)^^^n.toUInt32)).getD 13 0)^^^((n >>> UInt64.ofNat 32).toUInt32))).getD 14 0))))) U rfl rfl rfl rfl (U.get rfl) (U.get rfl) ab inf143 (by rw [u32Vals_len (show List.length (((h++iv).set 12 (((h++iv).getD 12 0)^^^n.toUInt32)).set 13 ((((h++iv).set 12 (((h++iv).getD 12 0)^^^n.toUInt32)).getD 13 0)^^^((n >>> UInt64.ofNat 32).toUInt32)))=_ from List.length_set.trans (show List.length ((h++iv).set 12 (((h++iv).getD 12 0)^^^n.toUInt32))=_ from List.length_set.trans (hiv_len hh)))];omega) rfl (u32Vals_set (by omega)) fun ar aE au=>have ar:=au.size;wn aI<|have ar:=U.k [0,1,2,3,8,9,18,19,20,21,59];wr fun U aJ=>ar.xw (.func (.func 126) #[(vp G)] #[]) (fun F=>rn_makeFunc (args1 (F.get rfl)) (args0))<|Xa rfl fun _ U=>wn aJ<|wp_seq_k fun ar aN=>wr fun ar ar=>?_
  refine U.xw (.agg (byteVals permB).toArray) (fun F=>rn_loadN (cs:=byteVals permB) rfl uu157 rfl (sk inf157 (byteVals_len permB_len)) (fun j v hv=>(hG.ext eX).at1 j v hv))<|Xv (vi 0) fun _ aJ=>wn ar<|wp_block ?_
  have hmw:m=words b:=words_eq ag (by omega)
  obtain ⟨U,ar⟩:∃ z,z=(((h++iv).set 12 (((h++iv).getD 12 0)^^^n.toUInt32)).set 13 ((((h++iv).set 12 (((h++iv).getD 12 0)^^^n.toUInt32)).getD 13 0)^^^((n >>> UInt64.ofNat 32).toUInt32))).set 14 (~~~ ((((h++iv).set 12 (((h++iv).getD 12 0)^^^n.toUInt32)).set 13 ((((h++iv).set 12 (((h++iv).getD 12 0)^^^n.toUInt32)).getD 13 0)^^^((n >>> UInt64.ofNat 32).toUInt32))).getD 14 0)):=⟨_,rfl⟩
  have aM:U.length=16:=(congrArg List.length ar).trans (show List.length ((((h++iv).set 12 (((h++iv).getD 12 0)^^^n.toUInt32)).set 13 ((((h++iv).set 12 (((h++iv).getD 12 0)^^^n.toUInt32)).getD 13 0)^^^((n >>> UInt64.ofNat 32).toUInt32))).set 14 (~~~ ((((h++iv).set 12 (((h++iv).getD 12 0)^^^n.toUInt32)).set 13 ((((h++iv).set 12 (((h++iv).getD 12 0)^^^n.toUInt32)).getD 13 0)^^^((n >>> UInt64.ofNat 32).toUInt32))).getD 14 0)))=_ from List.length_set.trans (show List.length (((h++iv).set 12 (((h++iv).getD 12 0)^^^n.toUInt32)).set 13 ((((h++iv).set 12 (((h++iv).getD 12 0)^^^n.toUInt32)).getD 13 0)^^^((n >>> UInt64.ofNat 32).toUInt32)))=_ from List.length_set.trans (show List.length ((h++iv).set 12 (((h++iv).getD 12 0)^^^n.toUInt32))=_ from List.length_set.trans (hiv_len hh))))
  rw [← ar] at aE
  have aD:U=begin_ h n last:=by rw [ar,ay];exact begin_true
  have ar:=ah.ug au
  have aL:=ac.ug au
  refine wp_loop (fun a' W=>∃ (r:Nat) (v:List UInt32),Sl 149 [(0,(vp g)),(1,(vl A b.length c)),(2,(.int .u64 n.toNat)),(3,(.bool last)),(8,(vp I)),(9,(vp G)),(18,(vl A b.length c)),(19,(vi b.length)),(20,(vi k)),(21,(vd ((k:Int)<(b.length:Int)))),(59,(.bool last)),(12,(.func (.func 126) #[(vp G)] #[])),(65,(.agg (byteVals permB).toArray)),(66,(vi r))] a'∧r≤10∧v=roundTo m U r∧Ext w W∧Blk W g 144 (u32Vals h)∧Blk W I 153 (u32Vals m)∧Blk W G 153 (u32Vals v)) (fun a' _=>10 - (intOf (a'.eval (.tmp 66))).toNat) ⟨0,U,aJ.j,(by omega),rfl,eX,ar,aL,aE⟩ ?_
  rintro U U ⟨r,v,U,ar,aA,aK,ai,au,aj⟩
  have aR:=U
  have ar:=aK.size
  have ar:=ai.lt
  have ar:=au.lt
  have ar:=aj.lt
  have hvl:v.length=16:=by rw [aA];exact roundTo_len aM
  refine wr fun ar ar=>U.xv (vd ((r:Int)<(10:Int))) fun _ Y=>wn ar<|wp_seq_k fun U U=>?_
  by_cases ar:(r:Int)<(10:Int)
  ·refine Y.ct<|wp_skip<|U _ _<|wp_seq_k fun U aO=>wp_block<|wr fun U aJ=>Y.xw (.agg (byteVals ((permB.drop (r*16)).take 16)).toArray) (fun F=>(rn_indexAA uu157 uu156 rfl inf156 (F.get rfl) (F.get rfl) (zl _) (by omega:(r:Int)<((10:Nat):Int))).trans (congrArg (fun v=>Result.ok (Next.value (Value.agg v)) _) (bytes_part _ _ _))) fun _ U=>U.xz (byteVals (List.replicate 16 0)) 156 fun O U _ ar U U U aE=>?_
   refine ar.xs rfl U (fun U aE U=>?_) (hk:=byteVals_len (len_part (i:=r) (k:=16) permB_len (by omega))) (hl:=byteVals_len (show List.length (List.replicate 16 0)=_ from List.length_replicate));have aL:=U.size
   refine wn aJ<|wp_seq_k fun aJ aP=>wr fun aJ aJ=>ar.xv (vi 0) fun _ ar=>wn aJ<|wp_block<|have aJ:=ai.ug U;have aL:=au.ug U;have au:=aj.ug U;wp_loop (fun a' W=>∃ (D:Nat) (J:List UInt32),Sl 149 [(0,(vp g)),(1,(vl A b.length c)),(2,(.int .u64 n.toNat)),(3,(.bool last)),(8,(vp I)),(9,(vp G)),(18,(vl A b.length c)),(19,(vi b.length)),(20,(vi k)),(21,(vd ((k:Int)<(b.length:Int)))),(59,(.bool last)),(12,(.func (.func 126) #[(vp G)] #[])),(65,(.agg (byteVals permB).toArray)),(66,(vi r)),(67,(vd ((r:Int)<(10:Int)))),(14,(vp O)),(69,(vi D))] a'∧D≤4∧J=mixTo m (permRow r) v (D)∧Ext w W∧Blk W g 144 (u32Vals h)∧Blk W I 153 (u32Vals m)∧Blk W G 153 (u32Vals J)∧Blk W O 156 (byteVals ((permB.drop (r*16)).take 16))) (fun a' _=>4 - (intOf (a'.eval (.tmp 69))).toNat) ⟨0,v,ar.j,(by omega),rfl,eX,aJ,aL,au,aE⟩ ?_
   rintro U U ⟨D,J,U,ar,aB,ar,ak,al,am,aq⟩
   have aS:=U
   have au:=ar.size
   have ar:=ak.lt
   have ar:=al.lt
   have ar:=am.lt
   have ar:=aq.lt
   have hlv1:J.length=16:=by rw [aB];exact mixTo_len hvl
   refine wr fun ar ar=>U.xv (vd ((D:Int)<(4:Int))) fun _ Z=>wn ar<|wp_seq_k fun U U=>?_
   by_cases ar:(D:Int)<(4:Int)
   ·refine Z.ct<|wp_skip<|U _ _<|wp_seq_k fun C ax=>wp_block<|wr fun C U=>Z.xm rfl<|Xa rfl fun _ C=>wn U<|have U:=perm_lt (r:=r) (by omega) (j:=2*D) (by omega);have U:=perm_lt (r:=r) (by omega) (j:=(2*D)+1) (by omega);sX (fun aa W=>True∧Blk W O 156 (byteVals ((permB.drop (r*16)).take 16))∧Blk W I 153 (u32Vals m)) (fun i=>false) 22 fun aa U ar=>C.ym 0 rfl<|Ym 1 rfl<|Ym 2 rfl<|Yw 3 (vi (4+D:Nat)) rfl (fun F W=>rn_addN (a:=4) (b:=D) rfl (F.get rfl) (by omega))<|Ym 4 rfl<|Yw 5 (vi (8+D:Nat)) rfl (fun F W=>rn_addN (a:=8) (b:=D) rfl (F.get rfl) (by omega))<|Ym 6 rfl<|Yw 7 (vi (12+D:Nat)) rfl (fun F W=>rn_addN (a:=12) (b:=D) rfl (F.get rfl) (by omega))<|Ym 8 rfl<|Yw 9 (vi (2*D:Nat)) rfl (fun F W=>rn_mulN (a:=2) (b:=D) rfl (F.get rfl) (by omega))<|Yw 10 (.pointer (some ⟨O,0+(2*D),none⟩)) rfl (fun F W=>rn_indexArr uu156 inf5 (F.get rfl) (F.get rfl) (by omega:(0:Int)≤(2*D:Nat)) (by omega:((2*D:Nat):Int)<((16:Nat):Int))) fun _ ar=>?_
    have ae:=aq.ext U
    have av:=al.ext U
    have C:True∧Blk aa O 156 (byteVals ((permB.drop (r*16)).take 16))∧Blk aa I 153 (u32Vals m):=⟨trivial,ae,av⟩
    refine ar.ys 11 (.int .u8 ((((permB.drop (r*16)).take 16).getD (2*D) 0).toNat:Nat)) rfl C (fun F W hW=>rl F rfl (blk_byte hW.2.1 (by omega) (by have:=(show List.length ((permB.drop (r*16)).take 16)=_ from (len_part (i:=r) (k:=16) permB_len (by omega)));omega)))<|Yw 12 (.pointer (some ⟨I,0+((((permB.drop (r*16)).take 16).getD (2*D) 0).toNat),none⟩)) rfl (fun F W=>rn_indexArr uu153 inf143 (F.get rfl) (F.get rfl) (by omega:(0:Int)≤((((permB.drop (r*16)).take 16).getD (2*D) 0).toNat:Nat)) (by omega:(((((permB.drop (r*16)).take 16).getD (2*D) 0).toNat:Nat):Int)<((16:Nat):Int)))<|Ys 13 (.int .u32 ((m.getD ((((permB.drop (r*16)).take 16).getD (2*D) 0).toNat) 0).toNat:Nat)) rfl C (fun F W hW=>rl F rfl (blk_word hW.2.2 (by omega) (by have:=(show List.length m=_ from hm);omega)))<|Ym 14 rfl<|Yw 15 (vi (2*D:Nat)) rfl (fun F W=>rn_mulN (a:=2) (b:=D) rfl (F.get rfl) (by omega))<|Yv 16 (vi ((2*D)+1:Nat)) rfl<|Yw 17 (.pointer (some ⟨O,0+((2*D)+1),none⟩)) rfl (fun F W=>rn_indexArr uu156 inf5 (F.get rfl) (F.get rfl) (by omega:(0:Int)≤((2*D)+1:Nat)) (by omega:(((2*D)+1:Nat):Int)<((16:Nat):Int)))<|Ys 18 (.int .u8 ((((permB.drop (r*16)).take 16).getD ((2*D)+1) 0).toNat:Nat)) rfl C (fun F W hW=>rl F rfl (blk_byte hW.2.1 (by omega) (by have:=(show List.length ((permB.drop (r*16)).take 16)=_ from (len_part (i:=r) (k:=16) permB_len (by omega)));omega)))<|Yw 19 (.pointer (some ⟨I,0+((((permB.drop (r*16)).take 16).getD ((2*D)+1) 0).toNat),none⟩)) rfl (fun F W=>rn_indexArr uu153 inf143 (F.get rfl) (F.get rfl) (by omega:(0:Int)≤((((permB.drop (r*16)).take 16).getD ((2*D)+1) 0).toNat:Nat)) (by omega:(((((permB.drop (r*16)).take 16).getD ((2*D)+1) 0).toNat:Nat):Int)<((16:Nat):Int)))<|Ys 20 (.int .u32 ((m.getD ((((permB.drop (r*16)).take 16).getD ((2*D)+1) 0).toNat) 0).toNat:Nat)) rfl C (fun F W hW=>rl F rfl (blk_word hW.2.2 (by omega) (by have:=(show List.length m=_ from hm);omega))) fun _ C=>ao 21 rfl<|have aa:=(am.ext U);o_call C rfl rfl rfl rfl (rn_callv (C.get rfl) (args1_6 (C.get rfl) (C.get rfl) (C.get rfl) (C.get rfl) (C.get rfl) (C.get rfl)) (by kernel_rfl)) (mix_any G J D (4+D) (8+D) (12+D) (m.getD ((((permB.drop (r*16)).take 16).getD (2*D) 0).toNat) 0) (m.getD ((((permB.drop (r*16)).take 16).getD ((2*D)+1) 0).toNat) 0) _ aa hlv1 (by omega) (by omega) (by omega) (by omega)) ?_
    rintro _ C ⟨rfl,aw,M⟩
    refine ⟨_,rfl,?_⟩;intro C C;have G:=M.size
    have I:=ae.gn M
    have O:=av.gn M
    refine ⟨fun _ _=>⟨trivial,I,O⟩,?_⟩
    refine nK ax<|have G:=C.k [0,1,2,3,8,9,18,19,20,21,59,12,65,66,67,14,69,70,15];wp_region_lit<|G.xv (vi (D+1:Nat))<|Xm rfl fun _ G=>wpList_nil ?_
    obtain ⟨U,C⟩:∃ z,z=mixSeq J D (4+D) (8+D) (12+D) (m.getD ((((permB.drop (r*16)).take 16).getD (2*D) 0).toNat) 0) (m.getD ((((permB.drop (r*16)).take 16).getD ((2*D)+1) 0).toNat) 0):=⟨_,rfl⟩
    have J:U.length=16:=(congrArg List.length C).trans ((mixSeq_len _ _ _ _ _ _ _).trans hlv1)
    rw [← C] at aw
    have J:=ak.ug M
    refine ⟨⟨D+1,U,G.j,(by omega),(mixTo_step1 (by omega) (by omega) hvl aB C),eX,J,O,aw,I⟩,?_⟩
    rw [G.get (t:=69) rfl,aS.get (t:=69) rfl];simp [intOf];omega
   refine Z.cf<|wp_exit<|exit_then<|exit_then<|exit_here<|aP _ _<|wr fun U U=>Z.xv (vi 0) fun _ Z=>wn U<|wp_block ?_
   have U:J=mixTo m (permRow r) v (4+0):=by rw [aB,show D=4+0 from by omega]
   refine wp_loop (fun a' W=>∃ (C:Nat) (M:List UInt32),Sl 149 [(0,(vp g)),(1,(vl A b.length c)),(2,(.int .u64 n.toNat)),(3,(.bool last)),(8,(vp I)),(9,(vp G)),(18,(vl A b.length c)),(19,(vi b.length)),(20,(vi k)),(21,(vd ((k:Int)<(b.length:Int)))),(59,(.bool last)),(12,(.func (.func 126) #[(vp G)] #[])),(65,(.agg (byteVals permB).toArray)),(66,(vi r)),(67,(vd ((r:Int)<(10:Int)))),(14,(vp O)),(69,(vi D)),(70,(vd ((D:Int)<(4:Int)))),(95,(vi C))] a'∧C≤4∧M=mixTo m (permRow r) v (4+C)∧Ext w W∧Blk W g 144 (u32Vals h)∧Blk W I 153 (u32Vals m)∧Blk W G 153 (u32Vals M)∧Blk W O 156 (byteVals ((permB.drop (r*16)).take 16))) (fun a' _=>4 - (intOf (a'.eval (.tmp 95))).toNat) ⟨0,J,Z.j,(by omega),U,eX,ak,al,am,aq⟩ ?_
   rintro D D ⟨C,M,D,J,aC,J,av,aw,ax,Z⟩
   have aT:=D
   have U:=J.size
   have J:=av.lt
   have J:=aw.lt
   have J:=ax.lt
   have J:=Z.lt
   have hlv2:M.length=16:=by rw [aC];exact mixTo_len hvl
   refine wr fun J J=>D.xv (vd ((C:Int)<(4:Int))) fun _ aa=>wn J<|wp_seq_k fun D D=>?_
   by_cases J:(C:Int)<(4:Int)
   ·refine aa.ct<|wp_skip<|D _ _<|wp_seq_k fun D aQ=>wp_block<|wr fun D J=>aa.xm rfl<|Xa rfl fun _ D=>wn J<|have J:=perm_lt (r:=r) (by omega) (j:=8+(2*C)) (by omega);have J:=perm_lt (r:=r) (by omega) (j:=9+(2*C)) (by omega);sX (fun U W=>True∧Blk W O 156 (byteVals ((permB.drop (r*16)).take 16))∧Blk W I 153 (u32Vals m)) (fun i=>false) 29 fun U J ak=>D.ym 0 rfl<|Ym 1 rfl<|Ym 2 rfl<|Yv 3 (vi (C+1:Nat)) rfl<|Yw 4 (vi ((C+1) % 4:Nat)) rfl (fun F W=>rn_remN (a:=C+1) (b:=4) (F.get rfl) rfl (by omega))<|Yw 5 (vi (4+((C+1) % 4):Nat)) rfl (fun F W=>rn_addN (a:=4) (b:=(C+1) % 4) rfl (F.get rfl) (by omega))<|Ym 6 rfl<|Yv 7 (vi (C+2:Nat)) rfl<|Yw 8 (vi ((C+2) % 4:Nat)) rfl (fun F W=>rn_remN (a:=C+2) (b:=4) (F.get rfl) rfl (by omega))<|Yw 9 (vi (8+((C+2) % 4):Nat)) rfl (fun F W=>rn_addN (a:=8) (b:=(C+2) % 4) rfl (F.get rfl) (by omega))<|Ym 10 rfl<|Yv 11 (vi (C+3:Nat)) rfl<|Yw 12 (vi ((C+3) % 4:Nat)) rfl (fun F W=>rn_remN (a:=C+3) (b:=4) (F.get rfl) rfl (by omega))<|Yw 13 (vi (12+((C+3) % 4):Nat)) rfl (fun F W=>rn_addN (a:=12) (b:=(C+3) % 4) rfl (F.get rfl) (by omega))<|Ym 14 rfl<|Yw 15 (vi (2*C:Nat)) rfl (fun F W=>rn_mulN (a:=2) (b:=C) rfl (F.get rfl) (by omega))<|Yw 16 (vi (8+(2*C):Nat)) rfl (fun F W=>rn_addN (a:=8) (b:=2*C) rfl (F.get rfl) (by omega))<|Yw 17 (.pointer (some ⟨O,0+(8+(2*C)),none⟩)) rfl (fun F W=>rn_indexArr uu156 inf5 (F.get rfl) (F.get rfl) (by omega:(0:Int)≤(8+(2*C):Nat)) (by omega:((8+(2*C):Nat):Int)<((16:Nat):Int))) fun _ ak=>?_
    have aF:=Z.ext J
    have aG:=aw.ext J
    have D:True∧Blk U O 156 (byteVals ((permB.drop (r*16)).take 16))∧Blk U I 153 (u32Vals m):=⟨trivial,aF,aG⟩
    refine ak.ys 18 (.int .u8 ((((permB.drop (r*16)).take 16).getD (8+(2*C)) 0).toNat:Nat)) rfl D (fun F W hW=>rl F rfl (blk_byte hW.2.1 (by omega) (by have:=(show List.length ((permB.drop (r*16)).take 16)=_ from (len_part (i:=r) (k:=16) permB_len (by omega)));omega)))<|Yw 19 (.pointer (some ⟨I,0+((((permB.drop (r*16)).take 16).getD (8+(2*C)) 0).toNat),none⟩)) rfl (fun F W=>rn_indexArr uu153 inf143 (F.get rfl) (F.get rfl) (by omega:(0:Int)≤((((permB.drop (r*16)).take 16).getD (8+(2*C)) 0).toNat:Nat)) (by omega:(((((permB.drop (r*16)).take 16).getD (8+(2*C)) 0).toNat:Nat):Int)<((16:Nat):Int)))<|Ys 20 (.int .u32 ((m.getD ((((permB.drop (r*16)).take 16).getD (8+(2*C)) 0).toNat) 0).toNat:Nat)) rfl D (fun F W hW=>rl F rfl (blk_word hW.2.2 (by omega) (by have:=(show List.length m=_ from hm);omega)))<|Ym 21 rfl<|Yw 22 (vi (2*C:Nat)) rfl (fun F W=>rn_mulN (a:=2) (b:=C) rfl (F.get rfl) (by omega))<|Yw 23 (vi (9+(2*C):Nat)) rfl (fun F W=>rn_addN (a:=9) (b:=2*C) rfl (F.get rfl) (by omega))<|Yw 24 (.pointer (some ⟨O,0+(9+(2*C)),none⟩)) rfl (fun F W=>rn_indexArr uu156 inf5 (F.get rfl) (F.get rfl) (by omega:(0:Int)≤(9+(2*C):Nat)) (by omega:((9+(2*C):Nat):Int)<((16:Nat):Int)))<|Ys 25 (.int .u8 ((((permB.drop (r*16)).take 16).getD (9+(2*C)) 0).toNat:Nat)) rfl D (fun F W hW=>rl F rfl (blk_byte hW.2.1 (by omega) (by have:=(show List.length ((permB.drop (r*16)).take 16)=_ from (len_part (i:=r) (k:=16) permB_len (by omega)));omega)))<|Yw 26 (.pointer (some ⟨I,0+((((permB.drop (r*16)).take 16).getD (9+(2*C)) 0).toNat),none⟩)) rfl (fun F W=>rn_indexArr uu153 inf143 (F.get rfl) (F.get rfl) (by omega:(0:Int)≤((((permB.drop (r*16)).take 16).getD (9+(2*C)) 0).toNat:Nat)) (by omega:(((((permB.drop (r*16)).take 16).getD (9+(2*C)) 0).toNat:Nat):Int)<((16:Nat):Int)))<|Ys 27 (.int .u32 ((m.getD ((((permB.drop (r*16)).take 16).getD (9+(2*C)) 0).toNat) 0).toNat:Nat)) rfl D (fun F W hW=>rl F rfl (blk_word hW.2.2 (by omega) (by have:=(show List.length m=_ from hm);omega))) fun _ D=>ao 28 rfl<|have O:=(ax.ext J);o_call D rfl rfl rfl rfl (rn_callv (D.get rfl) (args1_6 (D.get rfl) (D.get rfl) (D.get rfl) (D.get rfl) (D.get rfl) (D.get rfl)) (by kernel_rfl)) (mix_any G M C (4+((C+1) % 4)) (8+((C+2) % 4)) (12+((C+3) % 4)) (m.getD ((((permB.drop (r*16)).take 16).getD (8+(2*C)) 0).toNat) 0) (m.getD ((((permB.drop (r*16)).take 16).getD (9+(2*C)) 0).toNat) 0) _ O hlv2 (by omega) (by omega) (by omega) (by omega)) ?_
    rintro _ D ⟨rfl,aH,ae⟩
    refine ⟨_,rfl,?_⟩;intro D D;have G:=ae.size
    have I:=aF.gn ae
    have J:=aG.gn ae
    refine ⟨fun _ _=>⟨trivial,I,J⟩,?_⟩
    refine nK aQ<|have G:=D.k [0,1,2,3,8,9,18,19,20,21,59,12,65,66,67,14,69,70,95,96,16];wp_region_lit<|G.xv (vi (C+1:Nat))<|Xm rfl fun _ G=>wpList_nil ?_
    obtain ⟨O,D⟩:∃ z,z=mixSeq M C (4+((C+1) % 4)) (8+((C+2) % 4)) (12+((C+3) % 4)) (m.getD ((((permB.drop (r*16)).take 16).getD (8+(2*C)) 0).toNat) 0) (m.getD ((((permB.drop (r*16)).take 16).getD (9+(2*C)) 0).toNat) 0):=⟨_,rfl⟩
    have M:O.length=16:=(congrArg List.length D).trans ((mixSeq_len _ _ _ _ _ _ _).trans hlv2)
    rw [← D] at aH
    have M:=av.ug ae
    refine ⟨⟨C+1,O,G.j,(by omega),(mixTo_step2 (by omega) (by omega) hvl aC D),eX,M,J,aH,I⟩,?_⟩
    rw [G.get (t:=95) rfl,aT.get (t:=95) rfl];simp [intOf];omega
   have D:M=mixTo m (permRow r) v 8:=by rw [aC,show 4+C=8 from by omega]
   refine aa.cf<|wp_exit<|exit_then<|exit_then<|exit_here<|aO _ _<|wp_region_lit<|aa.xv (vi (r+1:Nat))<|Xm rfl fun _ C=>wpList_nil ?_
   refine ⟨⟨r+1,M,C.j,(by omega),(roundTo_step (by omega) aA D),eX,av,aw,ax⟩,?_⟩
   rw [C.get (t:=66) rfl,aR.get (t:=66) rfl];simp [intOf];omega
  refine Y.cf<|wp_exit<|exit_then<|exit_then<|exit_here<|aN _ _<|wr fun C C=>Y.xv (vi 0) fun _ D=>wn C<|wp_block ?_
  have Z:v=roundTo (words b) (begin_ h n last) 10:=by rw [aA,aD,hmw,show r=10 from by omega]
  refine wp_loop (fun a' W=>∃ (C:Nat) (hh2:List UInt32),Sl 149 [(0,(vp g)),(1,(vl A b.length c)),(2,(.int .u64 n.toNat)),(3,(.bool last)),(8,(vp I)),(9,(vp G)),(18,(vl A b.length c)),(19,(vi b.length)),(20,(vi k)),(21,(vd ((k:Int)<(b.length:Int)))),(59,(.bool last)),(12,(.func (.func 126) #[(vp G)] #[])),(65,(.agg (byteVals permB).toArray)),(66,(vi r)),(67,(vd ((r:Int)<(10:Int)))),(129,(vi C))] a'∧C≤8∧hh2=closeTo v h C∧w.grownBy W (some g)∧Blk W g 144 (u32Vals hh2)∧Blk W G 153 (u32Vals v)) (fun a' _=>8 - (intOf (a'.eval (.tmp 129))).toNat) ⟨0,h,D.j,(by omega),rfl,(grow_ext (grow_refl w g) aK),ai,aj⟩ ?_
  rintro C C ⟨C,hh2,D,U,O,aa,J,U⟩
  have ae:=D
  have Y:=aa.size
  have Y:=J.lt
  have Y:=U.lt
  have hhl:hh2.length=8:=by rw [O];exact closeTo_len hh
  refine wr fun Y Y=>D.xv (vd ((C:Int)<(8:Int))) fun _ D=>wn Y<|wp_seq_k fun Y Y=>?_
  by_cases ai:(C:Int)<(8:Int)
  ·refine D.ct<|wp_skip<|Y _ _<|wp_seq_k fun I Z=>wp_block<|wr fun I M=>D.xm rfl<|Xa rfl fun _ I=>wn M<|sX (fun D W=>Ext D W∧Blk W g 144 (u32Vals hh2)∧Blk W G 153 (u32Vals v)) (fun i=>i==16) 17 fun D M V=>I.ym 0 rfl<|Ym 1 rfl<|Yv 2 (vp g) rfl<|Yw 3 (vq g (0+C)) rfl (fun F W=>rn_indexArr uu144 inf143 (F.get rfl) (F.get rfl) (zl _) (by omega:(C:Int)<((8:Nat):Int))) fun _ Y=>have V:=(J.ext M);have J:=(U.ext M);have I:Ext D D∧Blk D g 144 (u32Vals hh2)∧Blk D G 153 (u32Vals v):=⟨(Ext.refl D),V,J⟩;Y.ys 4 (.int .u32 ((hh2.getD C 0).toNat:Nat)) rfl I (fun F W hW=>rl F rfl (blk_word hW.2.1 (by omega) (by have:=(show List.length hh2=_ from hhl);omega)))<|Ym 5 rfl<|Yw 6 (vq G (0+C)) rfl (fun F W=>rn_indexArr uu153 inf143 (F.get rfl) (F.get rfl) (zl _) (by omega:(C:Int)<((16:Nat):Int)))<|Ys 7 (.int .u32 ((v.getD C 0).toNat:Nat)) rfl I (fun F W hW=>rl F rfl (blk_word hW.2.2 (by omega) (by have:=(show List.length v=_ from hvl);omega)))<|Ym 8 rfl<|Yw 9 (vi (8+C:Nat)) rfl (fun F W=>rn_addN (a:=8) (b:=C) rfl (F.get rfl) (by omega))<|Yw 10 (.pointer (some ⟨G,0+(8+C),none⟩)) rfl (fun F W=>rn_indexArr uu153 inf143 (F.get rfl) (F.get rfl) (by omega:(0:Int)≤(8+C:Nat)) (by omega:((8+C:Nat):Int)<((16:Nat):Int)))<|Ys 11 (.int .u32 ((v.getD (8+C) 0).toNat:Nat)) rfl I (fun F W hW=>rl F rfl (blk_word hW.2.2 (by omega) (by have:=(show List.length v=_ from hvl);omega)))<|Yw 12 (.int .u32 (((v.getD C 0)^^^(v.getD (8+C) 0)).toNat:Nat)) rfl (fun F W=>rn_xor32 (a:=(v.getD C 0)) (b:=(v.getD (8+C) 0)) (F.get rfl) (F.get rfl))<|Yw 13 (.int .u32 (((hh2.getD C 0)^^^((v.getD C 0)^^^(v.getD (8+C) 0))).toNat:Nat)) rfl (fun F W=>rn_xor32 (a:=(hh2.getD C 0)) (b:=((v.getD C 0)^^^(v.getD (8+C) 0))) (F.get rfl) (F.get rfl))<|Yv 14 (vp g) rfl<|Yw 15 (vq g (0+C)) rfl (fun F W=>rn_indexArr uu144 inf143 (F.get rfl) (F.get rfl) (zl _) (by omega:(C:Int)<((8:Nat):Int))) fun _ D=>ao 16 rfl<|o_store1 (new:=(u32Vals (hh2.set C ((hh2.getD C 0)^^^((v.getD C 0)^^^(v.getD (8+C) 0)))))) D rfl rfl rfl rfl (D.get rfl) (D.get rfl) V inf143 (by rw [u32Vals_len hhl];omega) rfl (u32Vals_set (by omega)) fun G U G=>?_;have I:=G.size
   refine ⟨fun h=>absurd h (by decide),?_⟩
   refine nK Z<|have I:=D.k [0,1,2,3,8,9,18,19,20,21,59,12,65,66,67,129,130,17];wp_region_lit<|I.xv (vi (C+1:Nat))<|Xm rfl fun _ I=>wpList_nil ?_
   obtain ⟨V,D⟩:∃ z,z=hh2.set C ((hh2.getD C 0)^^^((v.getD C 0)^^^(v.getD (8+C) 0))):=⟨_,rfl⟩
   have Y:V.length=8:=(congrArg List.length D).trans (show List.length (hh2.set C ((hh2.getD C 0)^^^((v.getD C 0)^^^(v.getD (8+C) 0))))=_ from List.length_set.trans hhl)
   rw [← D] at U
   have Y:=J.gn G
   refine ⟨⟨C+1,V,I.j,(by omega),(closeTo_step O D),(grow_set (grow_ext (grow_set (grow_refl w g) aa) M) G),U,Y⟩,?_⟩
   rw [I.get (t:=129) rfl,ae.get (t:=129) rfl];simp [intOf];omega
  refine D.cf<|wp_exit<|exit_then<|exit_then<|exit_here<|ret0 D rfl ?_
  have M:C=8:=by omega
  subst M
  exact ⟨rfl,(absorb_eq Z O) ▸ J,(grow_set (grow_refl w g) aa)⟩
 refine V.cf<|wp_skip<|aI _ _<|wr fun U ar=>V.xw (.func (.func 126) #[(vp G)] #[]) (fun F=>rn_makeFunc (args1 (F.get rfl)) (args0))<|Xa rfl fun _ U=>wn ar<|wp_seq_k fun V aK=>wr fun V V=>U.xw (.agg (byteVals permB).toArray) (fun F=>rn_loadN (cs:=byteVals permB) rfl uu157 rfl (sk inf157 (byteVals_len permB_len)) (fun j v hv=>(hG.ext eX).at1 j v hv))<|Xv (vi 0) fun _ ar=>wn V<|wp_block ?_
 have hmw:m=words b:=words_eq ag (by omega)
 obtain ⟨U,V⟩:∃ z,z=((h++iv).set 12 (((h++iv).getD 12 0)^^^n.toUInt32)).set 13 ((((h++iv).set 12 (((h++iv).getD 12 0)^^^n.toUInt32)).getD 13 0)^^^((n >>> UInt64.ofNat 32).toUInt32)):=⟨_,rfl⟩
 have au:U.length=16:=(congrArg List.length V).trans (show List.length (((h++iv).set 12 (((h++iv).getD 12 0)^^^n.toUInt32)).set 13 ((((h++iv).set 12 (((h++iv).getD 12 0)^^^n.toUInt32)).getD 13 0)^^^((n >>> UInt64.ofNat 32).toUInt32)))=_ from List.length_set.trans (show List.length ((h++iv).set 12 (((h++iv).getD 12 0)^^^n.toUInt32))=_ from List.length_set.trans (hiv_len hh)))
 rw [← V] at ab
 have aD:U=begin_ h n last:=by rw [V,ay];exact begin_false
 have V:=ah.ug az
 have ag:=ac.ug az
 refine wp_loop (fun a' W=>∃ (r:Nat) (v:List UInt32),Sl 149 [(0,(vp g)),(1,(vl A b.length c)),(2,(.int .u64 n.toNat)),(3,(.bool last)),(8,(vp I)),(9,(vp G)),(18,(vl A b.length c)),(19,(vi b.length)),(20,(vi k)),(21,(vd ((k:Int)<(b.length:Int)))),(59,(.bool last)),(12,(.func (.func 126) #[(vp G)] #[])),(65,(.agg (byteVals permB).toArray)),(66,(vi r))] a'∧r≤10∧v=roundTo m U r∧Ext w W∧Blk W g 144 (u32Vals h)∧Blk W I 153 (u32Vals m)∧Blk W G 153 (u32Vals v)) (fun a' _=>10 - (intOf (a'.eval (.tmp 66))).toNat) ⟨0,U,ar.j,(by omega),rfl,eX,V,ag,ab⟩ ?_
 rintro U U ⟨r,v,U,V,aA,aH,ai,ab,aj⟩
 have aQ:=U
 have V:=aH.size
 have V:=ai.lt
 have V:=ab.lt
 have V:=aj.lt
 have hvl:v.length=16:=by rw [aA];exact roundTo_len au
 refine wr fun V V=>U.xv (vd ((r:Int)<(10:Int))) fun _ Y=>wn V<|wp_seq_k fun U U=>?_
 by_cases V:(r:Int)<(10:Int)
 ·refine Y.ct<|wp_skip<|U _ _<|wp_seq_k fun U aN=>wp_block<|wr fun U ag=>Y.xw (.agg (byteVals ((permB.drop (r*16)).take 16)).toArray) (fun F=>(rn_indexAA uu157 uu156 rfl inf156 (F.get rfl) (F.get rfl) (zl _) (by omega:(r:Int)<((10:Nat):Int))).trans (congrArg (fun v=>Result.ok (Next.value (Value.agg v)) _) (bytes_part _ _ _))) fun _ U=>U.xz (byteVals (List.replicate 16 0)) 156 fun O U _ V U U U ac=>?_
  refine V.xs rfl U (fun U ac U=>?_) (hk:=byteVals_len (len_part (i:=r) (k:=16) permB_len (by omega))) (hl:=byteVals_len (show List.length (List.replicate 16 0)=_ from List.length_replicate));have ah:=U.size
  refine wn ag<|wp_seq_k fun ag aO=>wr fun ag ag=>V.xv (vi 0) fun _ V=>wn ag<|wp_block<|have ag:=ai.ug U;have ah:=ab.ug U;have ab:=aj.ug U;wp_loop (fun a' W=>∃ (D:Nat) (J:List UInt32),Sl 149 [(0,(vp g)),(1,(vl A b.length c)),(2,(.int .u64 n.toNat)),(3,(.bool last)),(8,(vp I)),(9,(vp G)),(18,(vl A b.length c)),(19,(vi b.length)),(20,(vi k)),(21,(vd ((k:Int)<(b.length:Int)))),(59,(.bool last)),(12,(.func (.func 126) #[(vp G)] #[])),(65,(.agg (byteVals permB).toArray)),(66,(vi r)),(67,(vd ((r:Int)<(10:Int)))),(14,(vp O)),(69,(vi D))] a'∧D≤4∧J=mixTo m (permRow r) v (D)∧Ext w W∧Blk W g 144 (u32Vals h)∧Blk W I 153 (u32Vals m)∧Blk W G 153 (u32Vals J)∧Blk W O 156 (byteVals ((permB.drop (r*16)).take 16))) (fun a' _=>4 - (intOf (a'.eval (.tmp 69))).toNat) ⟨0,v,V.j,(by omega),rfl,eX,ag,ah,ab,ac⟩ ?_
  rintro U U ⟨D,J,U,V,aB,V,ak,al,am,aq⟩
  have aR:=U
  have ab:=V.size
  have V:=ak.lt
  have V:=al.lt
  have V:=am.lt
  have V:=aq.lt
  have hlv1:J.length=16:=by rw [aB];exact mixTo_len hvl
  refine wr fun V V=>U.xv (vd ((D:Int)<(4:Int))) fun _ Z=>wn V<|wp_seq_k fun U U=>?_
  by_cases V:(D:Int)<(4:Int)
  ·refine Z.ct<|wp_skip<|U _ _<|wp_seq_k fun C aw=>wp_block<|wr fun C U=>Z.xm rfl<|Xa rfl fun _ C=>wn U<|have U:=perm_lt (r:=r) (by omega) (j:=2*D) (by omega);have U:=perm_lt (r:=r) (by omega) (j:=(2*D)+1) (by omega);sX (fun V W=>True∧Blk W O 156 (byteVals ((permB.drop (r*16)).take 16))∧Blk W I 153 (u32Vals m)) (fun i=>false) 22 fun V U ab=>C.ym 0 rfl<|Ym 1 rfl<|Ym 2 rfl<|Yw 3 (vi (4+D:Nat)) rfl (fun F W=>rn_addN (a:=4) (b:=D) rfl (F.get rfl) (by omega))<|Ym 4 rfl<|Yw 5 (vi (8+D:Nat)) rfl (fun F W=>rn_addN (a:=8) (b:=D) rfl (F.get rfl) (by omega))<|Ym 6 rfl<|Yw 7 (vi (12+D:Nat)) rfl (fun F W=>rn_addN (a:=12) (b:=D) rfl (F.get rfl) (by omega))<|Ym 8 rfl<|Yw 9 (vi (2*D:Nat)) rfl (fun F W=>rn_mulN (a:=2) (b:=D) rfl (F.get rfl) (by omega))<|Yw 10 (.pointer (some ⟨O,0+(2*D),none⟩)) rfl (fun F W=>rn_indexArr uu156 inf5 (F.get rfl) (F.get rfl) (by omega:(0:Int)≤(2*D:Nat)) (by omega:((2*D:Nat):Int)<((16:Nat):Int))) fun _ ab=>?_
   have aa:=aq.ext U
   have ae:=al.ext U
   have C:True∧Blk V O 156 (byteVals ((permB.drop (r*16)).take 16))∧Blk V I 153 (u32Vals m):=⟨trivial,aa,ae⟩
   refine ab.ys 11 (.int .u8 ((((permB.drop (r*16)).take 16).getD (2*D) 0).toNat:Nat)) rfl C (fun F W hW=>rl F rfl (blk_byte hW.2.1 (by omega) (by have:=(show List.length ((permB.drop (r*16)).take 16)=_ from (len_part (i:=r) (k:=16) permB_len (by omega)));omega)))<|Yw 12 (.pointer (some ⟨I,0+((((permB.drop (r*16)).take 16).getD (2*D) 0).toNat),none⟩)) rfl (fun F W=>rn_indexArr uu153 inf143 (F.get rfl) (F.get rfl) (by omega:(0:Int)≤((((permB.drop (r*16)).take 16).getD (2*D) 0).toNat:Nat)) (by omega:(((((permB.drop (r*16)).take 16).getD (2*D) 0).toNat:Nat):Int)<((16:Nat):Int)))<|Ys 13 (.int .u32 ((m.getD ((((permB.drop (r*16)).take 16).getD (2*D) 0).toNat) 0).toNat:Nat)) rfl C (fun F W hW=>rl F rfl (blk_word hW.2.2 (by omega) (by have:=(show List.length m=_ from hm);omega)))<|Ym 14 rfl<|Yw 15 (vi (2*D:Nat)) rfl (fun F W=>rn_mulN (a:=2) (b:=D) rfl (F.get rfl) (by omega))<|Yv 16 (vi ((2*D)+1:Nat)) rfl<|Yw 17 (.pointer (some ⟨O,0+((2*D)+1),none⟩)) rfl (fun F W=>rn_indexArr uu156 inf5 (F.get rfl) (F.get rfl) (by omega:(0:Int)≤((2*D)+1:Nat)) (by omega:(((2*D)+1:Nat):Int)<((16:Nat):Int)))<|Ys 18 (.int .u8 ((((permB.drop (r*16)).take 16).getD ((2*D)+1) 0).toNat:Nat)) rfl C (fun F W hW=>rl F rfl (blk_byte hW.2.1 (by omega) (by have:=(show List.length ((permB.drop (r*16)).take 16)=_ from (len_part (i:=r) (k:=16) permB_len (by omega)));omega)))<|Yw 19 (.pointer (some ⟨I,0+((((permB.drop (r*16)).take 16).getD ((2*D)+1) 0).toNat),none⟩)) rfl (fun F W=>rn_indexArr uu153 inf143 (F.get rfl) (F.get rfl) (by omega:(0:Int)≤((((permB.drop (r*16)).take 16).getD ((2*D)+1) 0).toNat:Nat)) (by omega:(((((permB.drop (r*16)).take 16).getD ((2*D)+1) 0).toNat:Nat):Int)<((16:Nat):Int)))<|Ys 20 (.int .u32 ((m.getD ((((permB.drop (r*16)).take 16).getD ((2*D)+1) 0).toNat) 0).toNat:Nat)) rfl C (fun F W hW=>rl F rfl (blk_word hW.2.2 (by omega) (by have:=(show List.length m=_ from hm);omega))) fun _ C=>ao 21 rfl<|have V:=(am.ext U);o_call C rfl rfl rfl rfl (rn_callv (C.get rfl) (args1_6 (C.get rfl) (C.get rfl) (C.get rfl) (C.get rfl) (C.get rfl) (C.get rfl)) (by kernel_rfl)) (mix_any G J D (4+D) (8+D) (12+D) (m.getD ((((permB.drop (r*16)).take 16).getD (2*D) 0).toNat) 0) (m.getD ((((permB.drop (r*16)).take 16).getD ((2*D)+1) 0).toNat) 0) _ V hlv1 (by omega) (by omega) (by omega) (by omega)) ?_
   rintro _ C ⟨rfl,av,M⟩
   refine ⟨_,rfl,?_⟩;intro C C;have G:=M.size
   have I:=aa.gn M
   have O:=ae.gn M
   refine ⟨fun _ _=>⟨trivial,I,O⟩,?_⟩
   refine nK aw<|have G:=C.k [0,1,2,3,8,9,18,19,20,21,59,12,65,66,67,14,69,70,15];wp_region_lit<|G.xv (vi (D+1:Nat))<|Xm rfl fun _ G=>wpList_nil ?_
   obtain ⟨U,C⟩:∃ z,z=mixSeq J D (4+D) (8+D) (12+D) (m.getD ((((permB.drop (r*16)).take 16).getD (2*D) 0).toNat) 0) (m.getD ((((permB.drop (r*16)).take 16).getD ((2*D)+1) 0).toNat) 0):=⟨_,rfl⟩
   have J:U.length=16:=(congrArg List.length C).trans ((mixSeq_len _ _ _ _ _ _ _).trans hlv1)
   rw [← C] at av
   have J:=ak.ug M
   refine ⟨⟨D+1,U,G.j,(by omega),(mixTo_step1 (by omega) (by omega) hvl aB C),eX,J,O,av,I⟩,?_⟩
   rw [G.get (t:=69) rfl,aR.get (t:=69) rfl];simp [intOf];omega
  refine Z.cf<|wp_exit<|exit_then<|exit_then<|exit_here<|aO _ _<|wr fun U U=>Z.xv (vi 0) fun _ V=>wn U<|wp_block ?_
  have U:J=mixTo m (permRow r) v (4+0):=by rw [aB,show D=4+0 from by omega]
  refine wp_loop (fun a' W=>∃ (C:Nat) (M:List UInt32),Sl 149 [(0,(vp g)),(1,(vl A b.length c)),(2,(.int .u64 n.toNat)),(3,(.bool last)),(8,(vp I)),(9,(vp G)),(18,(vl A b.length c)),(19,(vi b.length)),(20,(vi k)),(21,(vd ((k:Int)<(b.length:Int)))),(59,(.bool last)),(12,(.func (.func 126) #[(vp G)] #[])),(65,(.agg (byteVals permB).toArray)),(66,(vi r)),(67,(vd ((r:Int)<(10:Int)))),(14,(vp O)),(69,(vi D)),(70,(vd ((D:Int)<(4:Int)))),(95,(vi C))] a'∧C≤4∧M=mixTo m (permRow r) v (4+C)∧Ext w W∧Blk W g 144 (u32Vals h)∧Blk W I 153 (u32Vals m)∧Blk W G 153 (u32Vals M)∧Blk W O 156 (byteVals ((permB.drop (r*16)).take 16))) (fun a' _=>4 - (intOf (a'.eval (.tmp 95))).toNat) ⟨0,J,V.j,(by omega),U,eX,ak,al,am,aq⟩ ?_
  rintro D D ⟨C,M,D,J,aC,J,av,aw,ax,V⟩
  have aS:=D
  have U:=J.size
  have J:=av.lt
  have J:=aw.lt
  have J:=ax.lt
  have J:=V.lt
  have hlv2:M.length=16:=by rw [aC];exact mixTo_len hvl
  refine wr fun J J=>D.xv (vd ((C:Int)<(4:Int))) fun _ aa=>wn J<|wp_seq_k fun D D=>?_
  by_cases J:(C:Int)<(4:Int)
  ·refine aa.ct<|wp_skip<|D _ _<|wp_seq_k fun D aP=>wp_block<|wr fun D J=>aa.xm rfl<|Xa rfl fun _ D=>wn J<|have J:=perm_lt (r:=r) (by omega) (j:=8+(2*C)) (by omega);have J:=perm_lt (r:=r) (by omega) (j:=9+(2*C)) (by omega);sX (fun U W=>True∧Blk W O 156 (byteVals ((permB.drop (r*16)).take 16))∧Blk W I 153 (u32Vals m)) (fun i=>false) 29 fun U J Z=>D.ym 0 rfl<|Ym 1 rfl<|Ym 2 rfl<|Yv 3 (vi (C+1:Nat)) rfl<|Yw 4 (vi ((C+1) % 4:Nat)) rfl (fun F W=>rn_remN (a:=C+1) (b:=4) (F.get rfl) rfl (by omega))<|Yw 5 (vi (4+((C+1) % 4):Nat)) rfl (fun F W=>rn_addN (a:=4) (b:=(C+1) % 4) rfl (F.get rfl) (by omega))<|Ym 6 rfl<|Yv 7 (vi (C+2:Nat)) rfl<|Yw 8 (vi ((C+2) % 4:Nat)) rfl (fun F W=>rn_remN (a:=C+2) (b:=4) (F.get rfl) rfl (by omega))<|Yw 9 (vi (8+((C+2) % 4):Nat)) rfl (fun F W=>rn_addN (a:=8) (b:=(C+2) % 4) rfl (F.get rfl) (by omega))<|Ym 10 rfl<|Yv 11 (vi (C+3:Nat)) rfl<|Yw 12 (vi ((C+3) % 4:Nat)) rfl (fun F W=>rn_remN (a:=C+3) (b:=4) (F.get rfl) rfl (by omega))<|Yw 13 (vi (12+((C+3) % 4):Nat)) rfl (fun F W=>rn_addN (a:=12) (b:=(C+3) % 4) rfl (F.get rfl) (by omega))<|Ym 14 rfl<|Yw 15 (vi (2*C:Nat)) rfl (fun F W=>rn_mulN (a:=2) (b:=C) rfl (F.get rfl) (by omega))<|Yw 16 (vi (8+(2*C):Nat)) rfl (fun F W=>rn_addN (a:=8) (b:=2*C) rfl (F.get rfl) (by omega))<|Yw 17 (.pointer (some ⟨O,0+(8+(2*C)),none⟩)) rfl (fun F W=>rn_indexArr uu156 inf5 (F.get rfl) (F.get rfl) (by omega:(0:Int)≤(8+(2*C):Nat)) (by omega:((8+(2*C):Nat):Int)<((16:Nat):Int))) fun _ Z=>?_
   have aE:=V.ext J
   have aF:=aw.ext J
   have D:True∧Blk U O 156 (byteVals ((permB.drop (r*16)).take 16))∧Blk U I 153 (u32Vals m):=⟨trivial,aE,aF⟩
   refine Z.ys 18 (.int .u8 ((((permB.drop (r*16)).take 16).getD (8+(2*C)) 0).toNat:Nat)) rfl D (fun F W hW=>rl F rfl (blk_byte hW.2.1 (by omega) (by have:=(show List.length ((permB.drop (r*16)).take 16)=_ from (len_part (i:=r) (k:=16) permB_len (by omega)));omega)))<|Yw 19 (.pointer (some ⟨I,0+((((permB.drop (r*16)).take 16).getD (8+(2*C)) 0).toNat),none⟩)) rfl (fun F W=>rn_indexArr uu153 inf143 (F.get rfl) (F.get rfl) (by omega:(0:Int)≤((((permB.drop (r*16)).take 16).getD (8+(2*C)) 0).toNat:Nat)) (by omega:(((((permB.drop (r*16)).take 16).getD (8+(2*C)) 0).toNat:Nat):Int)<((16:Nat):Int)))<|Ys 20 (.int .u32 ((m.getD ((((permB.drop (r*16)).take 16).getD (8+(2*C)) 0).toNat) 0).toNat:Nat)) rfl D (fun F W hW=>rl F rfl (blk_word hW.2.2 (by omega) (by have:=(show List.length m=_ from hm);omega)))<|Ym 21 rfl<|Yw 22 (vi (2*C:Nat)) rfl (fun F W=>rn_mulN (a:=2) (b:=C) rfl (F.get rfl) (by omega))<|Yw 23 (vi (9+(2*C):Nat)) rfl (fun F W=>rn_addN (a:=9) (b:=2*C) rfl (F.get rfl) (by omega))<|Yw 24 (.pointer (some ⟨O,0+(9+(2*C)),none⟩)) rfl (fun F W=>rn_indexArr uu156 inf5 (F.get rfl) (F.get rfl) (by omega:(0:Int)≤(9+(2*C):Nat)) (by omega:((9+(2*C):Nat):Int)<((16:Nat):Int)))<|Ys 25 (.int .u8 ((((permB.drop (r*16)).take 16).getD (9+(2*C)) 0).toNat:Nat)) rfl D (fun F W hW=>rl F rfl (blk_byte hW.2.1 (by omega) (by have:=(show List.length ((permB.drop (r*16)).take 16)=_ from (len_part (i:=r) (k:=16) permB_len (by omega)));omega)))<|Yw 26 (.pointer (some ⟨I,0+((((permB.drop (r*16)).take 16).getD (9+(2*C)) 0).toNat),none⟩)) rfl (fun F W=>rn_indexArr uu153 inf143 (F.get rfl) (F.get rfl) (by omega:(0:Int)≤((((permB.drop (r*16)).take 16).getD (9+(2*C)) 0).toNat:Nat)) (by omega:(((((permB.drop (r*16)).take 16).getD (9+(2*C)) 0).toNat:Nat):Int)<((16:Nat):Int)))<|Ys 27 (.int .u32 ((m.getD ((((permB.drop (r*16)).take 16).getD (9+(2*C)) 0).toNat) 0).toNat:Nat)) rfl D (fun F W hW=>rl F rfl (blk_word hW.2.2 (by omega) (by have:=(show List.length m=_ from hm);omega))) fun _ D=>ao 28 rfl<|have O:=(ax.ext J);o_call D rfl rfl rfl rfl (rn_callv (D.get rfl) (args1_6 (D.get rfl) (D.get rfl) (D.get rfl) (D.get rfl) (D.get rfl) (D.get rfl)) (by kernel_rfl)) (mix_any G M C (4+((C+1) % 4)) (8+((C+2) % 4)) (12+((C+3) % 4)) (m.getD ((((permB.drop (r*16)).take 16).getD (8+(2*C)) 0).toNat) 0) (m.getD ((((permB.drop (r*16)).take 16).getD (9+(2*C)) 0).toNat) 0) _ O hlv2 (by omega) (by omega) (by omega) (by omega)) ?_
   rintro _ D ⟨rfl,aG,ae⟩
   refine ⟨_,rfl,?_⟩;intro D D;have G:=ae.size
   have I:=aE.gn ae
   have J:=aF.gn ae
   refine ⟨fun _ _=>⟨trivial,I,J⟩,?_⟩
   refine nK aP<|have G:=D.k [0,1,2,3,8,9,18,19,20,21,59,12,65,66,67,14,69,70,95,96,16];wp_region_lit<|G.xv (vi (C+1:Nat))<|Xm rfl fun _ G=>wpList_nil ?_
   obtain ⟨O,D⟩:∃ z,z=mixSeq M C (4+((C+1) % 4)) (8+((C+2) % 4)) (12+((C+3) % 4)) (m.getD ((((permB.drop (r*16)).take 16).getD (8+(2*C)) 0).toNat) 0) (m.getD ((((permB.drop (r*16)).take 16).getD (9+(2*C)) 0).toNat) 0):=⟨_,rfl⟩
   have M:O.length=16:=(congrArg List.length D).trans ((mixSeq_len _ _ _ _ _ _ _).trans hlv2)
   rw [← D] at aG
   have M:=av.ug ae
   refine ⟨⟨C+1,O,G.j,(by omega),(mixTo_step2 (by omega) (by omega) hvl aC D),eX,M,J,aG,I⟩,?_⟩
   rw [G.get (t:=95) rfl,aS.get (t:=95) rfl];simp [intOf];omega
  have D:M=mixTo m (permRow r) v 8:=by rw [aC,show 4+C=8 from by omega]
  refine aa.cf<|wp_exit<|exit_then<|exit_then<|exit_here<|aN _ _<|wp_region_lit<|aa.xv (vi (r+1:Nat))<|Xm rfl fun _ C=>wpList_nil ?_
  refine ⟨⟨r+1,M,C.j,(by omega),(roundTo_step (by omega) aA D),eX,av,aw,ax⟩,?_⟩
  rw [C.get (t:=66) rfl,aQ.get (t:=66) rfl];simp [intOf];omega
 refine Y.cf<|wp_exit<|exit_then<|exit_then<|exit_here<|aK _ _<|wr fun C C=>Y.xv (vi 0) fun _ D=>wn C<|wp_block ?_
 have Z:v=roundTo (words b) (begin_ h n last) 10:=by rw [aA,aD,hmw,show r=10 from by omega]
 refine wp_loop (fun a' W=>∃ (C:Nat) (hh2:List UInt32),Sl 149 [(0,(vp g)),(1,(vl A b.length c)),(2,(.int .u64 n.toNat)),(3,(.bool last)),(8,(vp I)),(9,(vp G)),(18,(vl A b.length c)),(19,(vi b.length)),(20,(vi k)),(21,(vd ((k:Int)<(b.length:Int)))),(59,(.bool last)),(12,(.func (.func 126) #[(vp G)] #[])),(65,(.agg (byteVals permB).toArray)),(66,(vi r)),(67,(vd ((r:Int)<(10:Int)))),(129,(vi C))] a'∧C≤8∧hh2=closeTo v h C∧w.grownBy W (some g)∧Blk W g 144 (u32Vals hh2)∧Blk W G 153 (u32Vals v)) (fun a' _=>8 - (intOf (a'.eval (.tmp 129))).toNat) ⟨0,h,D.j,(by omega),rfl,(grow_ext (grow_refl w g) aH),ai,aj⟩ ?_
 rintro C C ⟨C,hh2,D,I,O,aa,J,I⟩
 have ab:=D
 have U:=aa.size
 have U:=J.lt
 have U:=I.lt
 have hhl:hh2.length=8:=by rw [O];exact closeTo_len hh
 refine wr fun U U=>D.xv (vd ((C:Int)<(8:Int))) fun _ D=>wn U<|wp_seq_k fun U U=>?_
 by_cases V:(C:Int)<(8:Int)
 ·refine D.ct<|wp_skip<|U _ _<|wp_seq_k fun M Y=>wp_block<|wr fun M M=>D.xm rfl<|Xa rfl fun _ U=>wn M<|sX (fun D W=>Ext D W∧Blk W g 144 (u32Vals hh2)∧Blk W G 153 (u32Vals v)) (fun i=>i==16) 17 fun D M V=>U.ym 0 rfl<|Ym 1 rfl<|Yv 2 (vp g) rfl<|Yw 3 (vq g (0+C)) rfl (fun F W=>rn_indexArr uu144 inf143 (F.get rfl) (F.get rfl) (zl _) (by omega:(C:Int)<((8:Nat):Int))) fun _ V=>have U:=(J.ext M);have J:=(I.ext M);have I:Ext D D∧Blk D g 144 (u32Vals hh2)∧Blk D G 153 (u32Vals v):=⟨(Ext.refl D),U,J⟩;V.ys 4 (.int .u32 ((hh2.getD C 0).toNat:Nat)) rfl I (fun F W hW=>rl F rfl (blk_word hW.2.1 (by omega) (by have:=(show List.length hh2=_ from hhl);omega)))<|Ym 5 rfl<|Yw 6 (vq G (0+C)) rfl (fun F W=>rn_indexArr uu153 inf143 (F.get rfl) (F.get rfl) (zl _) (by omega:(C:Int)<((16:Nat):Int)))<|Ys 7 (.int .u32 ((v.getD C 0).toNat:Nat)) rfl I (fun F W hW=>rl F rfl (blk_word hW.2.2 (by omega) (by have:=(show List.length v=_ from hvl);omega)))<|Ym 8 rfl<|Yw 9 (vi (8+C:Nat)) rfl (fun F W=>rn_addN (a:=8) (b:=C) rfl (F.get rfl) (by omega))<|Yw 10 (.pointer (some ⟨G,0+(8+C),none⟩)) rfl (fun F W=>rn_indexArr uu153 inf143 (F.get rfl) (F.get rfl) (by omega:(0:Int)≤(8+C:Nat)) (by omega:((8+C:Nat):Int)<((16:Nat):Int)))<|Ys 11 (.int .u32 ((v.getD (8+C) 0).toNat:Nat)) rfl I (fun F W hW=>rl F rfl (blk_word hW.2.2 (by omega) (by have:=(show List.length v=_ from hvl);omega)))<|Yw 12 (.int .u32 (((v.getD C 0)^^^(v.getD (8+C) 0)).toNat:Nat)) rfl (fun F W=>rn_xor32 (a:=(v.getD C 0)) (b:=(v.getD (8+C) 0)) (F.get rfl) (F.get rfl))<|Yw 13 (.int .u32 (((hh2.getD C 0)^^^((v.getD C 0)^^^(v.getD (8+C) 0))).toNat:Nat)) rfl (fun F W=>rn_xor32 (a:=(hh2.getD C 0)) (b:=((v.getD C 0)^^^(v.getD (8+C) 0))) (F.get rfl) (F.get rfl))<|Yv 14 (vp g) rfl<|Yw 15 (vq g (0+C)) rfl (fun F W=>rn_indexArr uu144 inf143 (F.get rfl) (F.get rfl) (zl _) (by omega:(C:Int)<((8:Nat):Int))) fun _ D=>ao 16 rfl<|o_store1 (new:=(u32Vals (hh2.set C ((hh2.getD C 0)^^^((v.getD C 0)^^^(v.getD (8+C) 0)))))) D rfl rfl rfl rfl (D.get rfl) (D.get rfl) U inf143 (by rw [u32Vals_len hhl];omega) rfl (u32Vals_set (by omega)) fun G U G=>?_;have I:=G.size
  refine ⟨fun h=>absurd h (by decide),?_⟩
  refine nK Y<|have I:=D.k [0,1,2,3,8,9,18,19,20,21,59,12,65,66,67,129,130,17];wp_region_lit<|I.xv (vi (C+1:Nat))<|Xm rfl fun _ I=>wpList_nil ?_
  obtain ⟨V,D⟩:∃ z,z=hh2.set C ((hh2.getD C 0)^^^((v.getD C 0)^^^(v.getD (8+C) 0))):=⟨_,rfl⟩
  have Y:V.length=8:=(congrArg List.length D).trans (show List.length (hh2.set C ((hh2.getD C 0)^^^((v.getD C 0)^^^(v.getD (8+C) 0))))=_ from List.length_set.trans hhl)
  rw [← D] at U
  have Y:=J.gn G
  refine ⟨⟨C+1,V,I.j,(by omega),(closeTo_step O D),(grow_set (grow_ext (grow_set (grow_refl w g) aa) M) G),U,Y⟩,?_⟩
  rw [I.get (t:=129) rfl,ab.get (t:=129) rfl];simp [intOf];omega
 refine D.cf<|wp_exit<|exit_then<|exit_then<|exit_here<|ret0 D rfl ?_
 have M:C=8:=by omega
 subst M
 exact ⟨rfl,(absorb_eq Z O) ▸ J,(grow_set (grow_refl w g) aa)⟩
theorem El22:El Tryz.prog 22 5 (.int .u8 0) 1 1:=⟨uu22,by kernel_rfl,rfl,by decide⟩
theorem El30:El Tryz.prog 30 29 (.agg #[(.int .u8 0),(.int .u8 0),(.int .u8 0),(.int .u8 0),(.int .u8 0),(.int .u8 0),(.int .u8 0),(.int .u8 0),(.int .u8 0),(.int .u8 0),(.int .u8 0),(.int .u8 0),(.int .u8 0),(.int .u8 0),(.int .u8 0),(.int .u8 0),(.int .u8 0),(.int .u8 0),(.int .u8 0),(.int .u8 0),(.int .u8 0),(.int .u8 0),(.int .u8 0),(.int .u8 0),(.int .u8 0),(.int .u8 0),(.int .u8 0),(.int .u8 0),(.int .u8 0),(.int .u8 0),(.int .u8 0),(.int .u8 0)]) 32 32:=⟨uu30,by kernel_rfl,rfl,by decide⟩
theorem El104:El Tryz.prog 104 4 (.bool false) 1 1:=⟨uu104,by kernel_rfl,rfl,by decide⟩
theorem absorb_at (g:Nat) (h:List UInt32) (b:List UInt8) (n:UInt64) (last:Bool) {A:Option Addr} {c m:Nat} (w:World) (hb:Blk w g 144 (u32Vals h)) (hh:h.length=8) (hf:Fl S w 1 (vl A m c) m (byteVals b)) (h64:m≤64) (hG:Glob w) :
  Calls Tryz.prog 120 #[.pointer (some ⟨g,0,none⟩),.slice A m c,.int .u64 (n.toNat:Nat),.bool last] w (fun e w'=>e=.returned (.tuple #[])∧Blk w' g 144 (u32Vals (absorb h b n last))∧w.grownBy w' (some g)):=by
 have hm:m=b.length:=by have:=hf.len;simp [byteVals] at this;omega
 subst hm
 exact absorb_any g h A c b n last w hb hh hf h64 hG
theorem feed_step {n:Nat} (hm:¬ b.length≤64) (e:feed h n b=feed h0 0 b0):feed (absorb h (b.take 64) (UInt64.ofNat n+64) false) (n+64) (b.drop 64)=feed h0 0 b0:=by
 rw [← e,show feed h n b=feed (absorb h (b.take 64) (UInt64.ofNat (n+64)) false) (n+64) (b.drop 64) from by rw [feed,if_neg hm],UInt64.ofNat_add];rfl
theorem feed_last {n m:Nat} (hl:b.length=m) (hm:b.length≤64) (e:feed h n b=feed first 0 b0):out (absorb h b (UInt64.ofNat n+UInt64.ofNat m) true)=bsum b0:=by
 subst hl
 rw [bsum,← e,feed,if_pos hm,UInt64.ofNat_add]
def outTo (h:List UInt32) (k:Nat):List UInt8:=(List.range k).map (outByte h)++List.replicate (32 - k) 0
theorem outTo_len {k:Nat} (hk:k≤32):(outTo h k).length=32:=by simp [outTo];omega
theorem outTo_all (h:List UInt32):outTo h 32=out h:=by simp [outTo,out]
theorem outTo_step {k:Nat} {d d':List UInt8} (hk:k<32) (hd:d=outTo h k) (he:d'=d.set k (h.getD (k / 4) 0 >>> UInt32.ofNat (8*(k % 4))).toUInt8):d'=outTo h (k+1):=by
 rw [he,hd,outTo,outTo,List.set_append_right _ _ (by simp),List.range_succ,List.map_append,List.append_assoc]
 congr 1
 simp only [List.length_map,List.length_range,Nat.sub_self]
 rw [show 32 - k=(32 - (k+1))+1 by omega,List.replicate_succ]
 rfl
theorem bsum_len (b:List UInt8):(bsum b).length=32:=by simp [bsum,out]
def sliceLen:Value→Nat | .slice _ n _=>n | _=>0
theorem sum_any (A:Option Addr) (c:Nat) (b:List UInt8) (w:World) (hf:Fl S w 1 (vl A b.length c) b.length (byteVals b)) (hG:Glob w) :
  Calls Tryz.prog 98 #[.slice A b.length c] w (fun e w'=>e=.returned (.agg (byteVals (bsum b)).toArray)∧Ext w w'):=by
 have hc:Fl (Clip S w) w 1 (vl A b.length c) b.length (byteVals b):=hf.clip
 have hcc:=(Fl.cel hc).2.1
 refine calls_enter Tryz.func98 rfl rfl rfl fun _ C=>wr fun K1 aa=>C.xz (byteVals (List.replicate 32 0)) 29 fun V C _ C z6 z7 b4 ag=>wn aa<|wr fun aa ag=>C.xw (.agg (u32Vals iv).toArray) (fun F=>rn_loadN (cs:=u32Vals iv) rfl uu144 rfl (sk inf144 (u32Vals_len iv_len)) (fun j v hv=>(hG.ext eX).at0 j v hv)) fun _ C=>C.xz (u32Vals (List.replicate 8 0)) 144 fun M C _ C aa aa aa ah=>?_
 refine C.xs rfl aa (fun aa aa ah=>?_) (hk:=u32Vals_len iv_len) (hl:=u32Vals_len (show List.length (List.replicate 8 0)=_ from List.length_replicate)) (h1:=u32Vals_one _);have ai:=ah.size
 refine wn ag<|wr fun ag ag=>C.xw (vq M (0+0)) (fun F=>rn_indexArr uu144 inf143 (F.get rfl) rfl (by omega:(0:Int)≤0) (by omega:(0:Int)<((8:Nat):Int)))<|Xw (.int .u32 ((iv.getD 0 0).toNat:Nat)) (fun F=>rl F rfl (blk_word aa (by omega) (by have:=(show List.length iv=_ from iv_len);omega)))<|Xw (.int .u32 (((iv.getD 0 0)^^^(16842784:UInt32)).toNat:Nat)) (fun F=>rn_xor32 (a:=(iv.getD 0 0)) (b:=(16842784:UInt32)) (F.get rfl) rfl)<|Xw (vq M (0+0)) (fun F=>rn_indexArr uu144 inf143 (F.get rfl) rfl (by omega:(0:Int)≤0) (by omega:(0:Int)<((8:Nat):Int))) fun _ C=>wpl_op (i:=4) rfl<|o_store1 (new:=(u32Vals (iv.set 0 ((iv.getD 0 0)^^^(16842784:UInt32))))) C rfl rfl rfl rfl (C.get rfl) (C.get rfl) aa inf143 (by rw [u32Vals_len iv_len];omega) rfl (u32Vals_set (by omega)) fun ar ah aa=>have ai:=aa.size;wn ag<|have ag:=C.k [0,2,3];wr fun C ai=>ag.xv (.int .u64 0) fun _ C=>wn ai<|wp_seq_k fun ag ak=>wp_block<|have ai:=(hc.ug aa);have ag:=b4.ug aa;wp_loop (fun a' W=>∃ (U:Option Addr) (J:Nat) (m1:Nat) (I:List UInt8) (D:Nat) (hh:List UInt32),Sl 45 [(0,(vl U m1 J)),(2,(vp V)),(3,(vp M)),(4,(.int .u64 ((UInt64.ofNat D).toNat:Nat)))] a'∧hh.length=8∧I.length=m1∧feed hh D I=feed first 0 b∧Ext w W∧Blk W V 29 (byteVals (List.replicate 32 0))∧Blk W M 144 (u32Vals hh)∧Fl (Clip S w) W 1 (vl U m1 J) m1 (byteVals I)∧ar.heap.size≤W.heap.size) (fun a' _=>(sliceLen (a'.eval (.tmp 0)))) ⟨A,c,b.length,b,0,iv.set 0 ((iv.getD 0 0)^^^(16842784:UInt32)),((((C.nil.cons (q_get C (t:=4) rfl (by first | rfl | (congr 1;omega) | (simp only [UInt64.ofNat_add];rfl)))).cons (q_get C (t:=3) rfl rfl)).cons (q_get C (t:=2) rfl rfl)).cons (q_get C (t:=0) rfl (by first | rfl | (congr 1;omega) | (simp only [UInt64.ofNat_add];rfl)))),rfl,rfl,rfl,eX,ag,ah,ai,(Nat.le_refl _)⟩ ?_
 rintro C C ⟨U,J,m1,I,D,hh,C,aa,am,ae,ag,Z,O,Y,ah⟩
 have al:=C
 have ah:=ag.size
 have ag:=Z.lt
 have ag:=O.lt
 have hhl:hh.length=8:=aa
 have hcc1:=(Fl.cel Y).2.1
 refine wp_seq_k fun aa aa=>wr fun ag ag=>C.xm rfl<|Xv (vi m1)<|Xv (vd ((64:Int)<(m1:Int))) fun _ G=>wn ag ?_
 by_cases C:(64:Int)<(m1:Int)
 ·refine G.ct<|wp_skip<|aa _ _<|wp_block<|wr fun C aa=>G.xm rfl<|Xw (.int .u64 (((UInt64.ofNat D)+(64:UInt64)).toNat:Nat)) (fun F=>rn_add64 (a:=(UInt64.ofNat D)) (b:=(64:UInt64)) (F.get rfl) rfl)<|Xa rfl fun _ C=>wn aa<|have aa:=C.k [0,2,3,4,13];wr fun C aj=>aa.xm rfl<|Xw (vl U 64 J) (fun F=>rn_sliceHi uu22 inf5 (F.get rfl) rfl (by omega:(0:Int)≤64) (by omega:(64:Int)≤(J:Int)))<|Xm rfl fun _ C=>C.xC (c:=absorb_at M hh (I.take 64) ((UInt64.ofNat D)+(64:UInt64)) false _ O hhl (Fl.take_eq (j:=64) Y (by omega) (byteVals_take1 _ _)) (by omega) (hG.ext eX)) (k:= ?_)
  rintro _ C ⟨rfl,ac,ab⟩
  refine ⟨_,rfl,?_⟩;intro C C;have G:=ab.size
  refine wn aj<|have G:=C.k [0,2,3,4,13];wp_region_lit<|G.xm rfl fun _ C=>?_
  have M:=Y.ug ab
  obtain ⟨G,U,O,-⟩:=Fl.at M (by omega)
  refine C.xw (vl (some ⟨G,U+64*1,none⟩) (m1 - 64) (J - 64)) (fun F=>rn_sliceLo (l:=64) uu22 inf5 ((F.get rfl).trans (by rw [O])) rfl (by omega:64≤m1) (by omega:64<J))<|Xa rfl fun _ C=>wpList_nil ?_
  have V:=Z.gn ab
  refine ⟨⟨(some ⟨G,U+64*1,none⟩),J - 64,m1 - 64,I.drop 64,(D+64),absorb hh (I.take 64) ((UInt64.ofNat D)+(64:UInt64)) false,((((C.nil.cons (q_get C (t:=4) rfl (by first | rfl | (congr 1;omega) | (simp only [UInt64.ofNat_add];rfl)))).cons (q_get C (t:=3) rfl rfl)).cons (q_get C (t:=2) rfl rfl)).cons (q_get C (t:=0) rfl (by first | rfl | (congr 1;omega) | (simp only [UInt64.ofNat_add];rfl)))),(absorb_len hhl),(by rw [List.length_drop];omega),(feed_step (by omega) ae),eX,V,ac,(Fl.drop_eq (j:=64) M O (by omega) (byteVals_drop1 _ _)),(by omega)⟩,?_⟩
  rw [C.get (t:=0) rfl,al.get (t:=0) rfl];simp only [sliceLen];omega
 refine G.cf<|wp_exit<|exit_then<|exit_then<|exit_here<|ak _ _<|wr fun C aj=>G.xm rfl<|Xm rfl<|Xm rfl<|Xv (vi m1)<|Xw (.int .u64 ((UInt64.ofNat m1).toNat:Nat)) (fun F=>rn_convW uu3 uu130 (F.get rfl) (cvi_64 m1 (by omega)))<|Xw (.int .u64 (((UInt64.ofNat D)+(UInt64.ofNat m1)).toNat:Nat)) (fun F=>rn_add64 (a:=(UInt64.ofNat D)) (b:=(UInt64.ofNat m1)) (F.get rfl) (F.get rfl)) fun _ C=>C.xC (c:=absorb_at M hh I ((UInt64.ofNat D)+(UInt64.ofNat m1)) true _ O hhl Y (by omega) (hG.ext eX)) (k:= ?_)
 rintro _ aq ⟨rfl,ac,ab⟩
 refine ⟨_,rfl,?_⟩;intro C C;have G:=ab.size
 refine wn aj<|have G:=C.k [0,2,3,4,13];wp_seq_k fun C ah=>wr fun C C=>G.xv (vi 0) fun _ O=>wn C<|wp_block ?_
 obtain ⟨G,aa⟩:∃ z,z=absorb hh I ((UInt64.ofNat D)+(UInt64.ofNat m1)) true:=⟨_,rfl⟩
 have ai:G.length=8:=(congrArg List.length aa).trans (absorb_len hhl)
 rw [← aa] at ac
 have ag:=Y.ug ab
 have Y:=Z.gn ab
 refine wp_loop (fun a' W=>∃ (C:Nat) (dd:List UInt8),Sl 45 [(0,(vl U m1 J)),(2,(vp V)),(3,(vp M)),(4,(.int .u64 ((UInt64.ofNat D).toNat:Nat))),(13,(vd ((64:Int)<(m1:Int)))),(29,(vi C))] a'∧C≤32∧dd=outTo G C∧Ext w W∧Blk W V 29 (byteVals dd)∧Blk W M 144 (u32Vals G)∧Fl (Clip S w) W 1 (vl U m1 J) m1 (byteVals I)∧aq.heap.size≤W.heap.size) (fun a' _=>32 - (intOf (a'.eval (.tmp 29))).toNat) ⟨0,(List.replicate 32 0),((((((O.nil.cons (q_get O (t:=29) rfl (by first | rfl | (congr 1;omega) | (simp only [UInt64.ofNat_add];rfl)))).cons (q_get O (t:=13) rfl rfl)).cons (q_get O (t:=4) rfl rfl)).cons (q_get O (t:=3) rfl rfl)).cons (q_get O (t:=2) rfl rfl)).cons (q_get O (t:=0) rfl rfl)),(by omega),rfl,eX,Y,ac,ag,(Nat.le_refl _)⟩ ?_
 rintro C C ⟨C,dd,D,I,O,U,I,J,ab,Y⟩
 have Z:=D
 have Y:=U.size
 have U:=I.lt
 have U:=J.lt
 have hdl:dd.length=32:=by rw [O];exact outTo_len (by omega)
 refine wr fun U U=>D.xv (vd ((C:Int)<(32:Int))) fun _ D=>wn U<|wp_seq_k fun U U=>?_
 by_cases Y:(C:Int)<(32:Int)
 ·refine D.ct<|wp_skip<|U _ _<|wp_seq_k fun U Y=>wp_block<|wr fun U U=>D.xm rfl<|Xa rfl fun _ D=>wn U<|wp_region_lit<|D.xm rfl<|Xm rfl<|Xw (vi (C / 4:Nat)) (fun F=>rn_quoN (a:=C) (b:=4) (F.get rfl) rfl (by omega) (by omega))<|Xw (.pointer (some ⟨M,0+(C / 4),none⟩)) (fun F=>rn_indexArr uu144 inf143 (F.get rfl) (F.get rfl) (by omega:(0:Int)≤(C / 4:Nat)) (by omega:((C / 4:Nat):Int)<((8:Nat):Int)))<|Xw (.int .u32 ((G.getD (C / 4) 0).toNat:Nat)) (fun F=>rl F rfl (blk_word J (by omega) (by have:=(show List.length G=_ from ai);omega)))<|Xm rfl<|Xw (vi (C % 4:Nat)) (fun F=>rn_remN (a:=C) (b:=4) (F.get rfl) rfl (by omega))<|Xw (vi (8*(C % 4):Nat)) (fun F=>rn_mulN (a:=8) (b:=C % 4) rfl (F.get rfl) (by omega))<|Xw (.int .u32 (((G.getD (C / 4) 0) >>> UInt32.ofNat (8*(C % 4))).toNat:Nat)) (fun F=>rn_shr32 (a:=(G.getD (C / 4) 0)) (n:=(8*(C % 4))) (F.get rfl) (F.get rfl) (by omega))<|Xw (.int .u8 ((((G.getD (C / 4) 0) >>> UInt32.ofNat (8*(C % 4))).toUInt8).toNat:Nat)) (fun F=>rn_convW uu143 uu5 (F.get rfl) (cv32_8 ((G.getD (C / 4) 0) >>> UInt32.ofNat (8*(C % 4)))))<|Xw (vq V (0+C)) (fun F=>rn_indexArr uu29 inf5 (F.get rfl) (F.get rfl) (zl _) (by omega:(C:Int)<((32:Nat):Int))) fun _ D=>wpl_op (i:=11) rfl<|o_store1 (new:=(byteVals (dd.set C (((G.getD (C / 4) 0) >>> UInt32.ofNat (8*(C % 4))).toUInt8)))) D rfl rfl rfl rfl (D.get rfl) (D.get rfl) I inf5 (by rw [byteVals_len hdl];omega) rfl (byteVals_set (by omega)) fun I U M=>have I:=M.size;wn Y<|have I:=D.k [0,2,3,4,13,29,30,5];wp_region_lit<|I.xv (vi (C+1:Nat))<|Xm rfl fun _ D=>wpList_nil ?_
  obtain ⟨V,I⟩:∃ z,z=dd.set C (((G.getD (C / 4) 0) >>> UInt32.ofNat (8*(C % 4))).toUInt8):=⟨_,rfl⟩
  have Y:V.length=32:=(congrArg List.length I).trans (show List.length (dd.set C (((G.getD (C / 4) 0) >>> UInt32.ofNat (8*(C % 4))).toUInt8))=_ from List.length_set.trans hdl)
  rw [← I] at U
  have Y:=ab.ug M
  have G:=J.gn M
  refine ⟨⟨(C+1),V,((((((D.nil.cons (q_get D (t:=29) rfl (by first | rfl | (congr 1;omega) | (simp only [UInt64.ofNat_add];rfl)))).cons (q_get D (t:=13) rfl rfl)).cons (q_get D (t:=4) rfl rfl)).cons (q_get D (t:=3) rfl rfl)).cons (q_get D (t:=2) rfl rfl)).cons (q_get D (t:=0) rfl rfl)),(by omega),(outTo_step (by omega) O I),eX,U,G,Y,(by omega)⟩,?_⟩
  rw [D.get (t:=29) rfl,Z.get (t:=29) rfl];simp [intOf] <;> omega
 refine D.cf<|wp_exit<|exit_then<|exit_then<|exit_here<|ah _ _<|wr fun G J=>D.xw (.agg (byteVals dd).toArray) (fun F=>rb F rfl I (hk:=byteVals_len hdl)) fun _ D=>?_
 refine D.xs rfl I (fun G G I=>?_) (hk:=byteVals_len hdl) (hl:=byteVals_len hdl);have M:=I.size
 exact wn J<|wp_ret<|retC D rfl rfl G uu29 rfl (sk inf29 (byteVals_len hdl))<|have hd:dd=bsum b:=(by rw [O,show C=32 by omega,outTo_all,aa,feed_last am (by omega) ae]);⟨by rw [← hd],eX⟩
theorem sum_at {v:Value} {n:Nat} (b:List UInt8) (w:World) (hf:Fl S w 1 v n (byteVals b)) (hG:Glob w):Calls Tryz.prog 98 #[v] w (fun e w'=>e=.returned (.agg (byteVals (bsum b)).toArray)∧Ext w w'):=by
 have hm:n=b.length:=by have:=hf.len;simp [byteVals] at this;omega
 subst hm
 obtain ⟨A,c,rfl,_⟩:=hf.form
 exact sum_any A c b w hf hG
theorem grow_any (n:Nat) (w:World) (hn:n≤140737488355328) :
  Calls Tryz.prog 99 #[.slice none 0 0,.int .i64 (n:Nat)] w (fun e w'=>∃ A c,e=.returned (vl A 0 c)∧w'.ownsRow w.heap.size 5 1 (vl A 0 c) 0 []∧Ext w w'):=by
 refine calls_enter Tryz.func99 rfl rfl rfl fun _ C=>wr fun D D=>C.xv v0 fun _ C=>wn D<|wp_seq_k fun D D=>wr fun G G=>C.xm rfl<|Xv (vd ((n:Int)<(0:Int))) fun _ C=>wn G ?_
 by_cases G:(n:Int)<(0:Int)
 ·refine C.ct ?_
  exfalso;omega
 refine C.cf<|wp_skip<|D _ _<|wp_seq_k fun D D=>wr fun G G=>C.xm rfl<|Xm rfl<|Xw (vi 0) (fun F=>rn_cap uu22 (F.get rfl))<|Xm rfl<|Xv (vi 0)<|Xv (vi 0)<|Xv (vi n)<|Xa rfl fun _ C=>wn G<|have G:=C.k [0,1,4,6];wr fun C I=>G.xm rfl<|Xv (vd ((0:Int)<(n:Int))) fun _ C=>wn I ?_
 by_cases G:(0:Int)<(n:Int)
 ·exact C.ct<|wp_region_lit<|C.xm rfl<|Xm rfl<|Xw (vi 0) (fun F=>rn_cap uu22 (F.get rfl))<|Xw v0 (fun F=>rn_sliceHi uu22 inf5 (F.get rfl) (F.get rfl) (by omega:(0:Int)≤0) (by omega:(0:Int)≤((0:Nat):Int)))<|Xm rfl fun _ C=>wpl_op (i:=5) rfl<|o_zeros El22 C rfl rfl rfl rfl rfl uu3 (C.get rfl) (C.get rfl) (by omega) (by omega) (by omega) fun J C G G G I G G G G M=>have M:=own_lt G;I.xm rfl<|Xv (vi 0)<|Xw (vl (some ⟨J,0,none⟩) 0 C) (fun F=>rn_sliceHi uu22 inf5 (F.get rfl) (F.get rfl) (by omega:(0:Int)≤0) (by omega:(0:Int)≤((C:Nat):Int)))<|Xa rfl fun _ C=>wn D<|have D:=C.k [0,1,4,6,16];wr fun C I=>D.xm rfl<|Xa rfl fun _ C=>wn I<|wp_ret<|ret1 C rfl rfl<|⟨_,_,rfl,own_zero G,eX⟩
 exact C.cf<|wp_skip<|D _ _<|wr fun D D=>C.xm rfl<|Xa rfl fun _ C=>wn D<|wp_ret<|ret1 C rfl rfl<|⟨none,0,rfl,own_nil _ _ _ _,(Ext.refl w)⟩
theorem concat_any (A:Option Addr) (c:Nat) (l:List (List UInt8)) (w:World) (hl:RBss S w (vl A l.length c) l) (hn:l.flatten.length≤140737488355328) :
  Calls Tryz.prog 61 #[.slice A l.length c] w (fun e w'=>∃ A c,e=.returned (vl A l.flatten.length c)∧Fl (fun b=>w.heap.size≤b) w' 1 (vl A l.flatten.length c) l.flatten.length (byteVals l.flatten)∧Ext w w'):=by
 have hll:=(RSl.elem hl).2.1
 refine calls_enter Tryz.func61 rfl rfl rfl fun _ C=>wr fun D D=>C.xv v0 fun _ C=>wn D<|wr fun D D=>C.xv (vi 0) fun _ C=>wn D<|wp_seq_k fun D Z=>wr fun D D=>C.xm rfl<|Xv (vi l.length)<|Xv (vi 0) fun _ C=>wn D<|wp_block<|wp_loop (fun a' W=>∃ (k:Nat),Sl 36 [(0,(vl A l.length c)),(2,v0),(3,(vi ((l.take k).flatten.length:Nat))),(9,(vl A l.length c)),(10,(vi l.length)),(11,(vi k))] a'∧k≤l.length∧(l.take k).flatten.length≤l.flatten.length∧Ext w W∧w.heap.size≤W.heap.size) (fun a' _=>l.length - (intOf (a'.eval (.tmp 11))).toNat) ⟨0,((((((C.nil.cons (q_get C (t:=11) rfl (by first | rfl | (congr 1;omega)))).cons (q_get C (t:=10) rfl rfl)).cons (q_get C (t:=9) rfl rfl)).cons (q_get C (t:=3) rfl (by first | rfl | (congr 1;omega)))).cons (q_get C (t:=2) rfl rfl)).cons (q_get C (t:=0) rfl rfl)),(by omega),(by simp),(Ext.refl w),(Nat.le_refl _)⟩ ?_
 rintro C M ⟨k,C,D,D,G,D⟩
 have ab:=C
 have D:=G.size
 refine wr fun D Y=>C.xv (vd ((k:Int)<(l.length:Int))) fun _ D=>wn Y<|wp_seq_k fun C C=>?_
 by_cases Y:(k:Int)<(l.length:Int)
 ·refine D.ct<|wp_skip<|C _ _<|wp_seq_k fun C Y=>wp_block<|wr fun C Z=>?_
  have U:=hl.ext G
  obtain ⟨C,G,I⟩:=nth_of_lt l k (by omega)
  obtain ⟨J,ac,I,O,V,aa,aa,ae,le42,le43⟩:=RBss.get U G
  have U:=flat_le G
  refine D.xw (vq J (ac+k)) (fun F=>rn_index1 uu127 inf22 ((F.get rfl).trans (by rw [V])) (F.get rfl) (zl _) (il (by omega:k<l.length)))<|Xw (vl I C.length O) (fun F=>rl F rfl (Ext.keep (Ext.refl M) aa))<|Xa rfl fun _ D=>wn Z<|wr fun G G=>D.xm rfl<|Xm rfl<|Xv (vi C.length)<|Xw (vi (((l.take k).flatten.length)+C.length:Nat)) (fun F=>rn_addN (a:=(l.take k).flatten.length) (b:=C.length) (F.get rfl) (F.get rfl) (by omega))<|Xa rfl fun _ D=>wn G<|have G:=D.k [0,2,3,9,10,11,12,5];wr fun D I=>G.xm rfl<|Xv (vd (((((l.take k).flatten.length)+C.length:Nat):Int)<(0:Int))) fun _ D=>wn I ?_
  by_cases G:((((l.take k).flatten.length)+C.length:Nat):Int)<(0:Int)
  ·refine D.ct ?_
   exfalso;omega
  refine D.cf<|wp_skip<|Y _ _<|wp_region_lit<|D.xv (vi (k+1:Nat))<|Xm rfl fun _ C=>wpList_nil ?_
  refine ⟨⟨(k+1),((((((C.nil.cons (q_get C (t:=11) rfl (by first | rfl | (congr 1;omega)))).cons (q_get C (t:=10) rfl rfl)).cons (q_get C (t:=9) rfl rfl)).cons (q_get C (t:=3) rfl (by first | rfl | (congr 1;omega)))).cons (q_get C (t:=2) rfl rfl)).cons (q_get C (t:=0) rfl rfl)),(by omega),(by omega),eX,(by omega)⟩,?_⟩
  rw [C.get (t:=11) rfl,ab.get (t:=11) rfl];simp [intOf] <;> omega
 refine D.cf<|wp_exit<|exit_then<|exit_then<|exit_here<|Z _ _<|wr fun C aa=>D.xm rfl fun _ C=>C.xC (c:=grow_any (l.take k).flatten.length _ (by omega)) (k:= ?_)
 rintro _ ag ⟨U,V,rfl,O,ae⟩
 have C:=own_form0 O
 refine ⟨_,rfl,?_⟩;intro C C;have D:=ae.size
 refine C.xa rfl fun _ C=>wn aa<|wp_seq_k fun D Y=>wr fun D D=>C.xm rfl<|Xv (vi l.length)<|Xv (vi 0) fun _ C=>wn D<|wp_block<|wp_loop (fun a' W=>∃ (D:Nat) (I:Option Addr) (J:Nat) (G:Nat) (l6:List UInt8),Sl 36 [(0,(vl A l.length c)),(2,v0),(3,(vi ((l.take k).flatten.length:Nat))),(9,(vl A l.length c)),(10,(vi l.length)),(11,(vi k)),(12,(vd ((k:Int)<(l.length:Int)))),(6,(vl I G J)),(25,(vl A l.length c)),(26,(vi l.length)),(27,(vi D))] a'∧D≤l.length∧G=(l.take D).flatten.length∧l6=(l.take D).flatten∧Ext w W∧W.ownsRow M.heap.size 5 1 (vl I G J) G (byteVals l6)∧M.heap.size≤W.heap.size∧ag.heap.size≤W.heap.size) (fun a' _=>l.length - (intOf (a'.eval (.tmp 27))).toNat) ⟨0,U,V,0,[],(((((((((((C.nil.cons (q_get C (t:=27) rfl (by first | rfl | (congr 1;omega)))).cons (q_get C (t:=26) rfl rfl)).cons (q_get C (t:=25) rfl rfl)).cons (q_get C (t:=6) rfl (by first | rfl | (congr 1;omega)))).cons (q_get C (t:=12) rfl rfl)).cons (q_get C (t:=11) rfl rfl)).cons (q_get C (t:=10) rfl rfl)).cons (q_get C (t:=9) rfl rfl)).cons (q_get C (t:=3) rfl rfl)).cons (q_get C (t:=2) rfl rfl)).cons (q_get C (t:=0) rfl rfl)),(by omega),(by simp),(by simp),eX,O,(by omega),(Nat.le_refl _)⟩ ?_
 rintro C aj ⟨D,I,J,G,l6,C,M,M,U,O,M,V,V⟩
 have ae:=C
 have V:=O.size
 have V:=own_form0 M
 refine wr fun V V=>C.xv (vd ((D:Int)<(l.length:Int))) fun _ C=>wn V<|wp_seq_k fun V V=>?_
 by_cases Z:(D:Int)<(l.length:Int)
 ·refine C.ct<|wp_skip<|V _ _<|wp_seq_k fun I ab=>wp_block<|wr fun I ac=>?_
  have Z:=hl.ext O
  obtain ⟨I,J,O⟩:=nth_of_lt l D (by omega)
  obtain ⟨V,ai,O,Y,aa,ag,ag,ah,le127,le128⟩:=RBss.get Z J
  have Z:=flat_le J
  refine C.xw (vq V (ai+D)) (fun F=>rn_index1 uu127 inf22 ((F.get rfl).trans (by rw [aa])) (F.get rfl) (zl _) (il (by omega:D<l.length)))<|Xw (vl O I.length Y) (fun F=>rl F rfl (Ext.keep (Ext.refl aj) ag))<|Xa rfl fun _ C=>wn ac<|wp_region_lit<|C.xm rfl<|Xm rfl fun _ C=>have O:=M;wpl_op (i:=2) rfl<|o_appA (zs:=byteVals (l6++I)) El22 C rfl rfl rfl rfl rfl (C.get rfl) (C.get rfl) O (Fl.cel (RBs.fl ah)).2.2 (by omega) (by omega) (by omega) (byteVals_app _ _) fun V Z C C C aa M Y Y=>have Y:=M.size;C.xa rfl fun _ C=>wn ab<|have Y:=C.k [0,2,3,9,10,11,12,6,25,26,27,28,8];wp_region_lit<|Y.xv (vi (D+1:Nat))<|Xm rfl fun _ C=>wpList_nil ?_
  refine ⟨⟨(D+1),V,Z,G+I.length,l6++I,(((((((((((C.nil.cons (q_get C (t:=27) rfl (by first | rfl | (congr 1;omega)))).cons (q_get C (t:=26) rfl rfl)).cons (q_get C (t:=25) rfl rfl)).cons (q_get C (t:=6) rfl (by first | rfl | (congr 1;omega)))).cons (q_get C (t:=12) rfl rfl)).cons (q_get C (t:=11) rfl rfl)).cons (q_get C (t:=10) rfl rfl)).cons (q_get C (t:=9) rfl rfl)).cons (q_get C (t:=3) rfl rfl)).cons (q_get C (t:=2) rfl rfl)).cons (q_get C (t:=0) rfl rfl)),(by omega),(by omega),(by rw [flat_step J,← U]),(ext_row eX M O (by omega)),aa,(by omega),(by omega)⟩,?_⟩
  rw [C.get (t:=27) rfl,ae.get (t:=27) rfl];simp [intOf] <;> omega
 refine C.cf<|wp_exit<|exit_then<|exit_then<|exit_here<|Y _ _<|wr fun V V=>C.xm rfl<|Xa rfl fun _ C=>wn V<|wp_ret<|ret1 C rfl rfl ?_
 have C:D=l.length:=by omega
 have hfl:l6=l.flatten:=by rw [U,C,List.take_length]
 have hn6:G=l.flatten.length:=by rw [← hfl];have:=(Fl.own (S:=fun _=>True) M (fun _ _=>trivial) (byteVals_one _)).len;simp [byteVals] at this;omega
 have hrow:=Fl.own (S:=fun b=>w.heap.size≤b) M (fun b hb=>by omega) (byteVals_one _)
 have ac:=(Ext.refl w).trans O
 subst hfl hn6
 exact ⟨I,J,rfl,hrow,ac⟩
theorem concat_at {v:Value} {n:Nat} (l:List (List UInt8)) (w:World) (hl:RBss S w v l) (he:l.flatten.length=n) (hn:n≤140737488355328) :
  Calls Tryz.prog 61 #[v] w (fun e w'=>∃ A c,e=.returned (vl A n c)∧Fl (fun b=>w.heap.size≤b) w' 1 (vl A n c) n (byteVals l.flatten)∧Ext w w'):=by
 subst he
 obtain ⟨A,c,rfl,_⟩:=RSl.form hl
 exact concat_any A c l w hl hn
end Go.Proofs.YtihgmaoghbnnaaaGreatDoor
