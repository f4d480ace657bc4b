/- Several texts in one: Sr, Frame, LaidA, Open03, Open04, Grow, Rng, Rbv, MrA, Blake, DigA, DigB, DigC, DigP, DigD, ElA. -/
import Derived.Test.YtihgmaoghbnnaaaDoorQbA
import Derived.KernelRfl
import Derived.Test.YtihgmaoghbnnaaaDoorProg
import Derived.ProofKit
import Derived.SizedLaws
import Derived.Deep.Slices
import Derived.OpenShut
import Derived.ChangeMaps5
import Derived.Lib.SmallJoins
import Derived.RangeFuncNested
import Derived.TacticsIn
set_option linter.unusedVariables false
set_option linter.unusedSimpArgs false
namespace Go.Proofs.YtihgmaoghbnnaaaDoor
open Go.RowKit

section
variable {P:Program} {ρ:Operand→Value} {W:World} {d:Option Tmp} {t:TypeId} {p:String} {af:Array Edge} {g:Option (Nat × Bool)} {v:Value}
theorem rq_len {x:Operand} {s e:TypeId} {A:Option Addr} {n c:Nat} {k:Int} (hu:P.underlying s=some (.slice e)) (hx:ρ x=.slice A n c) (h:(n:Int)=k):(execOp ρ ⟨d,.call { callee:=.builtin .len,args:=#[x],argTypes:=#[s] },t,p,af,g⟩).run P W=.ok (.value (.int .i64 k)) W:=h ▸ rn_len_slice hu hx
theorem rq_max {s:TypeId} {x y:Operand} {a b c:Int} {u:TypeDesc} (hu:P.underlying s=some u) (hx:ρ x=.int .i64 a) (hy:ρ y=.int .i64 b) (h:max a b=c):(execOp ρ ⟨d,.call { callee:=.builtin .max,args:=#[x,y],argTypes:=#[s,s] },t,p,af,g⟩).run P W=.ok (.value (.int .i64 c)) W:=by
  rw [← h];exact rn_max2 hu hx hy
theorem rq_min {s:TypeId} {x y:Operand} {a b c:Int} {u:TypeDesc} (hu:P.underlying s=some u) (hx:ρ x=.int .i64 a) (hy:ρ y=.int .i64 b) (h:min a b=c):(execOp ρ ⟨d,.call { callee:=.builtin .min,args:=#[x,y],argTypes:=#[s,s] },t,p,af,g⟩).run P W=.ok (.value (.int .i64 c)) W:=by
  rw [← h];exact rn_min2 hu hx hy
end

/-- what is known of a Bool -/
theorem xBk {p:Prop} (h:p:=by
    first
    | assumption
    | exact decide_eq_true (by assumption)
    | exact decide_eq_false (by assumption)
    | exact not_t (by assumption)
    | exact not_f (by assumption)
    | exact not_t (decide_eq_true (by assumption))
    | exact not_f (decide_eq_false (by assumption))
    | rfl
    | exact decide_eq_true (by omega)
    | exact decide_eq_false (by omega)):p:=h

abbrev vi (n:Int):Value:=.int .i64 n
abbrev vl (A:Option Addr) (n c:Nat):Value:=.slice A n c
abbrev vp (g:Nat):Value:=.pointer (some ⟨g,0,none⟩)
abbrev v0:Value:=.slice none 0 0
/-- what a type is -/
theorem xUd {P:Program} {t:TypeId} {u:TypeDesc} (h:P.underlying t=some u:=by exact (by first | with_reducible exact Tryd.underlying141 | with_reducible exact Tryd.underlying39 | with_reducible exact Tryd.underlying96 | with_reducible exact Tryd.underlying132 | with_reducible exact Tryd.underlying25 | with_reducible exact Tryd.underlying26 | with_reducible exact Tryd.underlying22 | with_reducible exact Tryd.underlying36 | with_reducible exact Tryd.underlying136 | with_reducible exact Tryd.underlying52 | with_reducible exact Tryd.underlying92 | with_reducible exact Tryd.underlying24 | with_reducible exact Tryd.underlying41 | with_reducible exact Tryd.underlying66 | with_reducible exact Tryd.underlying56 | with_reducible exact Tryd.underlying28 | with_reducible exact Tryd.underlying30 | with_reducible exact Tryd.underlying4 | with_reducible exact Tryd.underlying3 | with_reducible exact Tryd.underlying114 | with_reducible exact Tryd.underlying112 | with_reducible exact Tryd.underlying9 | with_reducible exact Tryd.underlying140 | with_reducible exact Tryd.underlying5)):P.underlying t=some u:=h
/-- a type's size -/
theorem xSz {P:Program} {t:TypeId} {k:Nat} (h:(P.info? t).map (·.size)=some k:=by exact (by first | with_reducible exact inf146 | with_reducible exact inf150 | with_reducible exact inf141 | with_reducible exact inf92 | with_reducible exact inf24 | with_reducible exact inf41 | with_reducible exact inf66 | with_reducible exact inf56 | with_reducible exact inf28 | with_reducible exact inf30 | with_reducible exact inf99 | with_reducible exact inf114 | with_reducible exact inf112)):(P.info? t).map (·.size)=some k:=h
theorem sk {x:Option Nat} {cs:List Value} {k:Nat} (h:x=some k) (hk:cs.length=k):x=some cs.length:=h.trans (congrArg some hk.symm)
theorem sk2 {x:Option Nat} {cs:List Value} {k k2:Nat} (h:x=some k) (hk:cs.length=k2) (he:k=k2):x=some cs.length:=sk h (he ▸ hk)
theorem bl0 {n:Nat}:(byteVals (List.replicate n 0)).length=n:=byteVals_len List.length_replicate
/-- the length of a list of cells -/
theorem xLg {l:List Value} {k:Nat} (h:l.length=k:=by
    first
    | rfl
    | exact len_dig zero32_len
    | exact len_dig1 zero32_len
    | exact bl0
    | exact byteVals_len zero32_len
    | exact byteVals_len (by assumption)
    | exact len_dig (by assumption)
    | exact boolVals_len (by assumption)):l.length=k:=h
/-- cells of one sign each -/
theorem xOne {l:List Value} (h:∀ u∈l,u.oneCell'=true:=by
    first
    | exact byteVals_one _
    | exact boolVals_one _
    | (repeat' first | exact one_nil | exact byteVals_one _ | refine one_cons rfl ?_ | refine one_app ?_ ?_);done
    | simp [Value.oneCell']):∀ u∈l,u.oneCell'=true:=h
theorem len_dig1 {x:Value} {st:List UInt8} {B:List Value} (h:st.length=32):(x::(byteVals st++B)).length=33+B.length:=by rw [List.length_cons,List.length_append,byteVals_len h];omega
section
variable {P:Program} {N:Nat} {m:List (Nat × Value)} {a:Act} {W:World} {d:Option Tmp} {t:TypeId} {p:String} {af:Array Edge} {g:Option (Nat × Bool)} {v:Value} {s:TypeId} {q:Nat} {td:TypeDesc}
theorem rl {b o:Nat} (F:Sl N m a) (hv:look m q=some (.pointer (some ⟨b,o,none⟩))) (hc:W.cell? ⟨b,o,none⟩=some v) (hu:P.underlying s=some td:=by exact xUd) (hd:aggTy td=false:=by rfl):(execOp a.eval ⟨d,.load s (.tmp q),t,p,af,g⟩).run P W=.ok (.value v) W:=rn_load (isAgg_no hu (by cases td <;> simp_all [aggTy])) (F.get hv) hc
theorem rb {b k k2:Nat} {tt:TypeId} {cs:List Value} (F:Sl N m a) (hv:look m q=some (.pointer (some ⟨b,0,none⟩))) (hB:Blk W b tt cs) (hu:P.underlying s=some td:=by exact xUd) (hd:aggTy td=true:=by rfl) (hi:(P.info? s).map (·.size)=some k:=by exact xSz) (hk:cs.length=k2:=by exact xLg) (he:k=k2:=by rfl) :
    (execOp a.eval ⟨d,.load s (.tmp q),t,p,af,g⟩).run P W=.ok (.value (.agg cs.toArray)) W:=rn_loadBlk (F.get hv) hB hu hd (sk2 hi hk he)
end
/-- what is written is none of what is kept -/
theorem cb {p q:Nat→Prop} (h:∀ b,p b→q b:=by exact fun b hb=>by first | exact hb.elim | omega | (simp only [Clip] at hb;omega)):∀ b,p b→q b:=h
theorem Blk.gn {w w':World} {m n:Nat} {t:TypeId} {cs:List Value} (h:Blk w m t cs) (hg:w.grownBy w' (some n)) (hn:m≠n:=by omega):Blk w' m t cs:=h.grownN hg hn
theorem Ext.gn {a w w':World} {n:Nat} (h:Ext a w) (hg:w.grownBy w' (some n)) (hn:a.heap.size≤n:=by omega):Ext a w':=h.grownN hg hn
theorem Pres.gn {S:Nat→Prop} {a w w':World} {n:Nat} (h:Pres S a w) (hg:w.grownBy w' (some n)) (hn:¬ S n:=by first | omega | (intro h;simp at h;omega)):Pres S a w':=h.grownN hg hn
theorem Pres.gc {S:Nat→Prop} {a w w':World} {n:Nat} (h:Pres S a w) (hg:w.grownBy w' (some n)) (hn:¬ S n:=by exact fun h=>by first | (simp only [Clip] at h;omega) | exact h.1 rfl | exact h.2 rfl | exact h.2.1 rfl | exact h.2.2 rfl | exact h.2.2.1 rfl | exact h.2.2.2 rfl | omega):Pres S a w':=h.grownN hg hn
/-- a light operation gives a value, whatever the frame and the world -/
abbrev Lt (P:Program) (N:Nat) (m:List (Nat × Value)) (o:Oper) (v:Value):Prop:=∀ a:Act,Sl N m a→∀ W:World,(execOp a.eval o).run P W=.ok (.value v) W
theorem Lt.go {P:Program} {N:Nat} {m:List (Nat × Value)} {o:Oper} {v:Value} (h:Lt P N m o v:=by
    intro a F W
    first
    | (with_reducible apply rn_move) <;> (first | exact F.get rfl | rfl)
    | (with_reducible apply rn_assign) <;> (first | exact F.get rfl | rfl)
    | (with_reducible apply rn_field) <;> (first | exact xUd | exact F.get rfl | rfl | kernel_rfl)
    | (with_reducible apply rq_len) <;> (first | exact xUd | exact F.get rfl | rfl | omega)
    | (with_reducible apply rn_extract) <;> (first | exact F.get rfl | rfl)
    | (with_reducible apply rn_lss) <;> (first | exact F.get rfl | rfl)
    | (with_reducible apply rn_eql) <;> (first | exact F.get rfl | rfl)
    | (with_reducible apply rn_neq) <;> (first | exact F.get rfl | rfl)
    | (with_reducible apply rn_addN) <;> (first | exact F.get rfl | rfl | omega)
    | (with_reducible apply rn_pickT) <;> (first | exact c_true F rfl xBk | exact F.get rfl | rfl)
    | (with_reducible apply rn_pickF) <;> (first | exact c_false F rfl xBk | exact F.get rfl | rfl)
    | (with_reducible apply rn_gtr) <;> (first | exact F.get rfl | rfl)
    | (with_reducible apply rn_leq) <;> (first | exact F.get rfl | rfl)
    | (with_reducible apply rn_geq) <;> (first | exact F.get rfl | rfl)
    | (with_reducible apply rn_not) <;> (first | exact F.get rfl | rfl)
    | (with_reducible apply rn_nil) <;> (first | exact F.get rfl | rfl)
    | (with_reducible apply rn_sub) <;> (first | exact F.get rfl | rfl | omega)
    | (with_reducible apply rn_add) <;> (first | exact F.get rfl | rfl | omega)
    | (with_reducible apply rq_min) <;> (first | exact xUd | exact F.get rfl | rfl | omega)
    | (with_reducible apply rq_max) <;> (first | exact xUd | exact F.get rfl | rfl | omega)
    | (with_reducible apply rn_cutLo) <;> (first | exact xUd | exact xSz | exact F.get rfl | rfl | omega)
    | (with_reducible apply rn_eql') <;> (first | exact F.get rfl | rfl | decide)
    | (with_reducible apply rn_lss') <;> (first | exact F.get rfl | rfl | decide)
    | (with_reducible apply rn_neq') <;> (first | exact F.get rfl | rfl | decide)):Lt P N m o v:=h
/-- a call enters a function -/
abbrev Lc (P:Program) (N:Nat) (m:List (Nat × Value)) (o:Oper) (f:FuncId) (vs:Array Value):Prop:=∀ a:Act,Sl N m a→∀ W:World,(execOp a.eval o).run P W=.ok (.enter f vs) W
theorem Lc.go {P:Program} {N:Nat} {m:List (Nat × Value)} {o:Oper} {f:FuncId} {vs:Array Value} (h:Lc P N m o f vs:=by
    intro a F W
    first
    | refine rn_call ?_ rfl (by kernel_rfl)
    | refine rn_callv (F.get rfl) ?_ (by kernel_rfl)
    first
    | exact args1 (by first | exact F.get rfl | rfl)
    | exact args2 (by first | exact F.get rfl | rfl) (by first | exact F.get rfl | rfl)
    | exact args3 (by first | exact F.get rfl | rfl) (by first | exact F.get rfl | rfl) (by first | exact F.get rfl | rfl)
    | exact args4 (by first | exact F.get rfl | rfl) (by first | exact F.get rfl | rfl) (by first | exact F.get rfl | rfl) (by first | exact F.get rfl | rfl)):Lc P N m o f vs:=h

section
variable {P:Program} {ops:Array Oper} {Q:Exit→Act→World→Prop} {S:World→Prop} {Fb:Nat→Bool} {w:World} {d N n:Nat} {m:List (Nat × Value)} {a:Act} {L L':Array Bool} {op:Op} {ty:TypeId} {ps:String} {af:Array Edge} {rest:List Oper} {v:Value} {t j dj:Nat} {b y:Bool} {oj:Oper}
theorem wpl_run {o:Oper} {w':World} (hw:Region.wanted o (yielded ops a.tmps)=true) (hr:(execOp a.eval o).run P w=.ok (.value v) w') (h:wpList P ops Q rest (a.put o.dst v) w'):wpList P ops Q (o::rest) a w:=by
  unfold wpList;rw [if_pos hw];exact .inl (by unfold Oper.wp;rw [hr];exact h)
theorem wpl_skip {o:Oper} (hw:Region.wanted o (yielded ops a.tmps)=false) (h:wpList P ops Q rest (a.put o.dst undef) w):wpList P ops Q (o::rest) a w:=by
  unfold wpList;rw [if_neg (by rw [hw];decide)];exact h
theorem wpl_o {x:Option Nat} (h:wpOp P #[⟨x,op,ty,ps,af,.none⟩] Q 0 (wpList P ops Q rest) a w):wpList P ops Q (⟨x,op,ty,ps,af,.none⟩::rest) a w:=by
  have h1:wpOp P #[⟨x,op,ty,ps,af,.none⟩] Q 0 (wpList P ops Q rest) a w:=h
  unfold wpOp at h1;unfold wpList
  simp only [Region.wanted,if_true] at h1 ⊢;exact h1
/-! regions in order: a value by the rules; by a proof; a move; a guarded one; one that its guard leaves out; a call -/
theorem Sl.xw (hF:Sl N m a) (v:Value) (hr:∀ {a:Act},Sl N m a→(execOp a.eval ⟨some d,op,ty,ps,af,.none⟩).run P w=.ok (.value v) w) (h:∀ a',Sl N ((d,v)::m) a'→wpList P ops Q rest a' w)
    (hN:Nat.blt d N=true:=by rfl):wpList P ops Q (⟨some d,op,ty,ps,af,.none⟩::rest) a w:=wpl_run rfl (hr hF) (h _ (hF.put hN))
theorem Sl.xv (hF:Sl N m a) (v:Value) (h:∀ a',Sl N ((d,v)::m) a'→wpList P ops Q rest a' w) (hr:Lt P N m ⟨some d,op,ty,ps,af,.none⟩ v:=by exact Lt.go)
    (hN:Nat.blt d N=true:=by rfl):wpList P ops Q (⟨some d,op,ty,ps,af,.none⟩::rest) a w:=hF.xw v (fun F=>hr _ F _) h hN
theorem Sl.xm (hF:Sl N m a) (hv:look m t=some v) (h:∀ a',Sl N ((d,v)::m) a'→wpList P ops Q rest a' w)
    (hN:Nat.blt d N=true:=by rfl):wpList P ops Q (⟨some d,.move (.tmp t),ty,ps,af,.none⟩::rest) a w:=hF.xw v (fun F=>rn_move (F.get hv)) h hN
theorem Sl.xa (hF:Sl N m a) (hv:look m t=some v) (h:∀ a',Sl N ((d,v)::m) a'→wpList P ops Q rest a' w)
    (hN:Nat.blt d N=true:=by rfl):wpList P ops Q (⟨some d,.assign (.tmp t),ty,ps,af,.none⟩::rest) a w:=hF.xw v (fun F=>rn_assign (F.get hv)) h hN
theorem Sl.xgw (hF:Sl N m a) (v:Value) (hr:∀ {a:Act},Sl N m a→(execOp a.eval ⟨some d,op,ty,ps,af,some (j,b)⟩).run P w=.ok (.value v) w) (h:∀ a',Sl N ((d,v)::m) a'→wpList P ops Q rest a' w)
    (hj:ops[j]?=some oj:=by rfl) (hdj:oj.dst=some dj:=by rfl) (hv:look m dj=some (.bool y):=by rfl) (hy:y=b:=by exact xBk)
    (hN:Nat.blt d N=true:=by rfl):wpList P ops Q (⟨some d,op,ty,ps,af,some (j,b)⟩::rest) a w :=
  wpl_run (wanted_guard rfl hj hdj hF hv hy (by simp)) (hr hF) (h _ (hF.put hN))
theorem Sl.xg (hF:Sl N m a) (v:Value) (h:∀ a',Sl N ((d,v)::m) a'→wpList P ops Q rest a' w) (hr:Lt P N m ⟨some d,op,ty,ps,af,some (j,b)⟩ v:=by exact Lt.go)
    (hj:ops[j]?=some oj:=by rfl) (hdj:oj.dst=some dj:=by rfl) (hv:look m dj=some (.bool y):=by rfl) (hy:y=b:=by exact xBk)
    (hN:Nat.blt d N=true:=by rfl):wpList P ops Q (⟨some d,op,ty,ps,af,some (j,b)⟩::rest) a w:=hF.xgw v (fun F=>hr _ F _) h hj hdj hv hy hN
theorem Sl.xu (hF:Sl N m a) (h:∀ a',Sl N ((d,undef)::m) a'→wpList P ops Q rest a' w)
    (hj:ops[j]?=some oj:=by rfl) (hdj:oj.dst=some dj:=by rfl) (hv:look m dj=some (.bool y):=by rfl) (hy:y=!b:=by exact xBk)
    (hN:Nat.blt d N=true:=by rfl):wpList P ops Q (⟨some d,op,ty,ps,af,some (j,b)⟩::rest) a w :=
  wpl_skip (unwanted_guard rfl hj hdj hF hv hy (by cases b <;> rfl)) (h _ (hF.put hN))
theorem Sl.xc {f:FuncId} {vs:Array Value} {R:Ending→World→Prop} (hF:Sl N m a) (hc:Calls P f vs w R) (h:∀ e w',R e w'→∃ v,e=.returned v∧∀ a',Sl N ((d,v)::m) a'→wpList P ops Q rest a' w') (hr:Lc P N m ⟨some d,op,ty,ps,af,.none⟩ f vs:=by exact Lc.go)
    (hN:Nat.blt d N=true:=by rfl):wpList P ops Q (⟨some d,op,ty,ps,af,.none⟩::rest) a w:=wpl_o (o_call hF rfl rfl rfl hN (hr _ hF _) hc h)
theorem Xw (v:Value) (hr:∀ {a:Act},Sl N m a→(execOp a.eval ⟨some d,op,ty,ps,af,.none⟩).run P w=.ok (.value v) w) (h:∀ a',Sl N ((d,v)::m) a'→wpList P ops Q rest a' w)
    (hN:Nat.blt d N=true:=by rfl):∀ a,Sl N m a→wpList P ops Q (⟨some d,op,ty,ps,af,.none⟩::rest) a w:=fun _ F=>F.xw v hr h hN
theorem Xv (v:Value) (h:∀ a',Sl N ((d,v)::m) a'→wpList P ops Q rest a' w) (hr:Lt P N m ⟨some d,op,ty,ps,af,.none⟩ v:=by exact Lt.go)
    (hN:Nat.blt d N=true:=by rfl):∀ a,Sl N m a→wpList P ops Q (⟨some d,op,ty,ps,af,.none⟩::rest) a w:=fun _ F=>F.xv v h hr hN
theorem Xm (hv:look m t=some v) (h:∀ a',Sl N ((d,v)::m) a'→wpList P ops Q rest a' w)
    (hN:Nat.blt d N=true:=by rfl):∀ a,Sl N m a→wpList P ops Q (⟨some d,.move (.tmp t),ty,ps,af,.none⟩::rest) a w:=fun _ F=>F.xm hv h hN
theorem Xa (hv:look m t=some v) (h:∀ a',Sl N ((d,v)::m) a'→wpList P ops Q rest a' w)
    (hN:Nat.blt d N=true:=by rfl):∀ a,Sl N m a→wpList P ops Q (⟨some d,.assign (.tmp t),ty,ps,af,.none⟩::rest) a w:=fun _ F=>F.xa hv h hN
theorem Xgw (v:Value) (hr:∀ {a:Act},Sl N m a→(execOp a.eval ⟨some d,op,ty,ps,af,some (j,b)⟩).run P w=.ok (.value v) w) (h:∀ a',Sl N ((d,v)::m) a'→wpList P ops Q rest a' w)
    (hj:ops[j]?=some oj:=by rfl) (hdj:oj.dst=some dj:=by rfl) (hv:look m dj=some (.bool y):=by rfl) (hy:y=b:=by exact xBk)
    (hN:Nat.blt d N=true:=by rfl):∀ a,Sl N m a→wpList P ops Q (⟨some d,op,ty,ps,af,some (j,b)⟩::rest) a w:=fun _ F=>F.xgw v hr h hj hdj hv hy hN
theorem Xg (v:Value) (h:∀ a',Sl N ((d,v)::m) a'→wpList P ops Q rest a' w) (hr:Lt P N m ⟨some d,op,ty,ps,af,some (j,b)⟩ v:=by exact Lt.go)
    (hj:ops[j]?=some oj:=by rfl) (hdj:oj.dst=some dj:=by rfl) (hv:look m dj=some (.bool y):=by rfl) (hy:y=b:=by exact xBk)
    (hN:Nat.blt d N=true:=by rfl):∀ a,Sl N m a→wpList P ops Q (⟨some d,op,ty,ps,af,some (j,b)⟩::rest) a w:=fun _ F=>F.xg v h hr hj hdj hv hy hN
theorem Xu (h:∀ a',Sl N ((d,undef)::m) a'→wpList P ops Q rest a' w)
    (hj:ops[j]?=some oj:=by rfl) (hdj:oj.dst=some dj:=by rfl) (hv:look m dj=some (.bool y):=by rfl) (hy:y=!b:=by exact xBk)
    (hN:Nat.blt d N=true:=by rfl):∀ a,Sl N m a→wpList P ops Q (⟨some d,op,ty,ps,af,some (j,b)⟩::rest) a w:=fun _ F=>F.xu h hj hdj hv hy hN
theorem Sl.oc {i:Nat} {K:Act→World→Prop} {f:FuncId} {vs:Array Value} {R:Ending→World→Prop} (hF:Sl N m a) (hc:Calls P f vs w R) (h:∀ e w',R e w'→∃ v,e=.returned v∧∀ a',Sl N ((d,v)::m) a'→K a' w')
    (ho:ops[i]?=some ⟨some d,op,ty,ps,af,.none⟩:=by rfl) (hr:Lc P N m ⟨some d,op,ty,ps,af,.none⟩ f vs:=by exact Lc.go) (hN:Nat.blt d N=true:=by rfl):wpOp P ops Q i K a w:=o_call hF ho rfl rfl hN (hr _ hF _) hc h
end

section
variable {P:Program} {ops:Array Oper} {Q:Exit→Act→World→Prop} {S:World→Prop} {Fb:Nat→Bool} {w:World} {d N n:Nat} {m:List (Nat × Value)} {a:Act} {L L':Array Bool} {op:Op} {ty:TypeId} {ps:String} {af:Array Edge} {v:Value} {t j dj:Nat} {b y:Bool} {oj:Oper}
/-! regions that draw their order -/
theorem Sl.yw (hF:Sl N m a) (i:Nat) (v:Value) (ho:(ops[i]?,L.setIfInBounds i true)=(some ⟨some d,op,ty,ps,af,.none⟩,L')) (hr:∀ {a:Act},Sl N m a→∀ W,(execOp a.eval ⟨some d,op,ty,ps,af,.none⟩).run P W=.ok (.value v) W)
    (h:∀ a',Sl N ((d,v)::m) a'→wpAnyF P ops Q S Fb n L' a' w)
    (hs:Region.noSelect ops=true:=by decide +kernel) (hb:freeB ops L i=true:=by decide +kernel) (hN:Nat.blt d N=true:=by rfl)
    (hQ:∀ c a w v,Q (.panic c) (a.put (some d) v) w→Q (.panic c) a w:=by exact fun _ _ _ _ h=>h):wpAnyF P ops Q S Fb (n+1) L a w:=any_pure hF hs hb (Prod.mk.inj ho).2 (Prod.mk.inj ho).1 rfl hN hQ rfl (hr hF) h
theorem Sl.yv (hF:Sl N m a) (i:Nat) (v:Value) (ho:(ops[i]?,L.setIfInBounds i true)=(some ⟨some d,op,ty,ps,af,.none⟩,L'))
    (h:∀ a',Sl N ((d,v)::m) a'→wpAnyF P ops Q S Fb n L' a' w) (hr:Lt P N m ⟨some d,op,ty,ps,af,.none⟩ v:=by exact Lt.go)
    (hs:Region.noSelect ops=true:=by decide +kernel) (hb:freeB ops L i=true:=by decide +kernel) (hN:Nat.blt d N=true:=by rfl)
    (hQ:∀ c a w v,Q (.panic c) (a.put (some d) v) w→Q (.panic c) a w:=by exact fun _ _ _ _ h=>h):wpAnyF P ops Q S Fb (n+1) L a w:=hF.yw i v ho (fun F=>hr _ F) h hs hb hN hQ
theorem Sl.ym (hF:Sl N m a) (i:Nat) (ho:(ops[i]?,L.setIfInBounds i true,look m t)=(some ⟨some d,.move (.tmp t),ty,ps,af,.none⟩,L',some v))
    (h:∀ a',Sl N ((d,v)::m) a'→wpAnyF P ops Q S Fb n L' a' w)
    (hs:Region.noSelect ops=true:=by decide +kernel) (hb:freeB ops L i=true:=by decide +kernel) (hN:Nat.blt d N=true:=by rfl)
    (hQ:∀ c a w v,Q (.panic c) (a.put (some d) v) w→Q (.panic c) a w:=by exact fun _ _ _ _ h=>h):wpAnyF P ops Q S Fb (n+1) L a w :=
  hF.yw i v (Prod.ext (Prod.mk.inj ho).1 (Prod.mk.inj (Prod.mk.inj ho).2).1) (fun F _=>rn_move (F.get (Prod.mk.inj (Prod.mk.inj ho).2).2)) h hs hb hN hQ
theorem Sl.ygw (hF:Sl N m a) (i:Nat) (v:Value) (ho:(ops[i]?,L.setIfInBounds i true)=(some ⟨some d,op,ty,ps,af,some (j,b)⟩,L')) (hr:∀ {a:Act},Sl N m a→∀ W,(execOp a.eval ⟨some d,op,ty,ps,af,some (j,b)⟩).run P W=.ok (.value v) W)
    (h:∀ a',Sl N ((d,v)::m) a'→wpAnyF P ops Q S Fb n L' a' w)
    (hj:ops[j]?=some oj:=by rfl) (hdj:oj.dst=some dj:=by rfl) (hv:look m dj=some (.bool y):=by rfl) (hy:y=b:=by exact xBk)
    (hs:Region.noSelect ops=true:=by decide +kernel) (hb:freeB ops L i=true:=by decide +kernel) (hN:Nat.blt d N=true:=by rfl)
    (hQ:∀ c a w v,Q (.panic c) (a.put (some d) v) w→Q (.panic c) a w:=by exact fun _ _ _ _ h=>h):wpAnyF P ops Q S Fb (n+1) L a w :=
  any_pure hF hs hb (Prod.mk.inj ho).2 (Prod.mk.inj ho).1 rfl hN hQ (wanted_guard rfl hj hdj hF hv hy (by simp)) (hr hF) h
theorem Sl.yg (hF:Sl N m a) (i:Nat) (v:Value) (ho:(ops[i]?,L.setIfInBounds i true)=(some ⟨some d,op,ty,ps,af,some (j,b)⟩,L'))
    (h:∀ a',Sl N ((d,v)::m) a'→wpAnyF P ops Q S Fb n L' a' w) (hr:Lt P N m ⟨some d,op,ty,ps,af,some (j,b)⟩ v:=by exact Lt.go)
    (hj:ops[j]?=some oj:=by rfl) (hdj:oj.dst=some dj:=by rfl) (hv:look m dj=some (.bool y):=by rfl) (hy:y=b:=by exact xBk)
    (hs:Region.noSelect ops=true:=by decide +kernel) (hb:freeB ops L i=true:=by decide +kernel) (hN:Nat.blt d N=true:=by rfl)
    (hQ:∀ c a w v,Q (.panic c) (a.put (some d) v) w→Q (.panic c) a w:=by exact fun _ _ _ _ h=>h):wpAnyF P ops Q S Fb (n+1) L a w:=hF.ygw i v ho (fun F=>hr _ F) h hj hdj hv hy hs hb hN hQ
theorem Sl.yu (hF:Sl N m a) (i:Nat) (ho:(ops[i]?,L.setIfInBounds i true)=(some ⟨some d,op,ty,ps,af,some (j,b)⟩,L'))
    (h:∀ a',Sl N ((d,undef)::m) a'→wpAnyF P ops Q S Fb n L' a' w)
    (hj:ops[j]?=some oj:=by rfl) (hdj:oj.dst=some dj:=by rfl) (hv:look m dj=some (.bool y):=by rfl) (hy:y=!b:=by exact xBk)
    (hs:Region.noSelect ops=true:=by decide +kernel) (hb:freeB ops L i=true:=by decide +kernel) (hN:Nat.blt d N=true:=by rfl)
    (hQ:∀ c a w v,Q (.panic c) (a.put (some d) v) w→Q (.panic c) a w:=by exact fun _ _ _ _ h=>h):wpAnyF P ops Q S Fb (n+1) L a w :=
  any_pass hF hs hb (Prod.mk.inj ho).2 (Prod.mk.inj ho).1 rfl hN hQ (unwanted_guard rfl hj hdj hF hv hy (by cases b <;> rfl)) h
theorem Sl.yn (hF:Sl N m a) (i:Nat) (ho:(ops[i]?,L.setIfInBounds i true)=(some ⟨some d,op,ty,ps,af,some (j,b)⟩,L'))
    (h:∀ a',Sl N ((d,undef)::m) a'→wpAnyF P ops Q S Fb n L' a' w)
    (hj:ops[j]?=some oj:=by rfl) (hdj:oj.dst=some dj:=by rfl) (hv:look m dj=some undef:=by rfl)
    (hs:Region.noSelect ops=true:=by decide +kernel) (hb:freeB ops L i=true:=by decide +kernel) (hN:Nat.blt d N=true:=by rfl)
    (hQ:∀ c a w v,Q (.panic c) (a.put (some d) v) w→Q (.panic c) a w:=by exact fun _ _ _ _ h=>h):wpAnyF P ops Q S Fb (n+1) L a w :=
  any_pass hF hs hb (Prod.mk.inj ho).2 (Prod.mk.inj ho).1 rfl hN hQ (unwanted_undef rfl hj hdj hF hv) h
theorem Sl.ys (hF:Sl N m a) (i:Nat) (v:Value) (ho:(ops[i]?,L.setIfInBounds i true)=(some ⟨some d,op,ty,ps,af,.none⟩,L')) (hS:S w) (hr:∀ {a:Act},Sl N m a→∀ W,S W→(execOp a.eval ⟨some d,op,ty,ps,af,.none⟩).run P W=.ok (.value v) W)
    (h:∀ a',Sl N ((d,v)::m) a'→wpAnyF P ops Q S Fb n L' a' w)
    (hs:Region.noSelect ops=true:=by decide +kernel) (hb:lightB ops Fb L i=true:=by decide +kernel) (hN:Nat.blt d N=true:=by rfl)
    (hQ:∀ c a w v,Q (.panic c) (a.put (some d) v) w→Q (.panic c) a w:=by exact fun _ _ _ _ h=>h):wpAnyF P ops Q S Fb (n+1) L a w:=any_val hF hs hb (Prod.mk.inj ho).2 (Prod.mk.inj ho).1 rfl hN hQ rfl hS (hr hF) h
theorem Sl.ysg (hF:Sl N m a) (i:Nat) (v:Value) (ho:(ops[i]?,L.setIfInBounds i true)=(some ⟨some d,op,ty,ps,af,some (j,b)⟩,L')) (hS:S w) (hr:∀ {a:Act},Sl N m a→∀ W,S W→(execOp a.eval ⟨some d,op,ty,ps,af,some (j,b)⟩).run P W=.ok (.value v) W)
    (h:∀ a',Sl N ((d,v)::m) a'→wpAnyF P ops Q S Fb n L' a' w)
    (hj:ops[j]?=some oj:=by rfl) (hdj:oj.dst=some dj:=by rfl) (hv:look m dj=some (.bool y):=by rfl) (hy:y=b:=by exact xBk)
    (hs:Region.noSelect ops=true:=by decide +kernel) (hb:lightB ops Fb L i=true:=by decide +kernel) (hN:Nat.blt d N=true:=by rfl)
    (hQ:∀ c a w v,Q (.panic c) (a.put (some d) v) w→Q (.panic c) a w:=by exact fun _ _ _ _ h=>h):wpAnyF P ops Q S Fb (n+1) L a w :=
  any_val hF hs hb (Prod.mk.inj ho).2 (Prod.mk.inj ho).1 rfl hN hQ (wanted_guard rfl hj hdj hF hv hy (by simp)) hS (hr hF) h
theorem Yw (i:Nat) (v:Value) (ho:(ops[i]?,L.setIfInBounds i true)=(some ⟨some d,op,ty,ps,af,.none⟩,L')) (hr:∀ {a:Act},Sl N m a→∀ W,(execOp a.eval ⟨some d,op,ty,ps,af,.none⟩).run P W=.ok (.value v) W)
    (h:∀ a',Sl N ((d,v)::m) a'→wpAnyF P ops Q S Fb n L' a' w)
    (hs:Region.noSelect ops=true:=by decide +kernel) (hb:freeB ops L i=true:=by decide +kernel) (hN:Nat.blt d N=true:=by rfl)
    (hQ:∀ c a w v,Q (.panic c) (a.put (some d) v) w→Q (.panic c) a w:=by exact fun _ _ _ _ h=>h):∀ a,Sl N m a→wpAnyF P ops Q S Fb (n+1) L a w:=fun _ F=>F.yw i v ho hr h hs hb hN hQ
theorem Yv (i:Nat) (v:Value) (ho:(ops[i]?,L.setIfInBounds i true)=(some ⟨some d,op,ty,ps,af,.none⟩,L'))
    (h:∀ a',Sl N ((d,v)::m) a'→wpAnyF P ops Q S Fb n L' a' w) (hr:Lt P N m ⟨some d,op,ty,ps,af,.none⟩ v:=by exact Lt.go)
    (hs:Region.noSelect ops=true:=by decide +kernel) (hb:freeB ops L i=true:=by decide +kernel) (hN:Nat.blt d N=true:=by rfl)
    (hQ:∀ c a w v,Q (.panic c) (a.put (some d) v) w→Q (.panic c) a w:=by exact fun _ _ _ _ h=>h):∀ a,Sl N m a→wpAnyF P ops Q S Fb (n+1) L a w:=fun _ F=>F.yv i v ho h hr hs hb hN hQ
theorem Ym (i:Nat) (ho:(ops[i]?,L.setIfInBounds i true,look m t)=(some ⟨some d,.move (.tmp t),ty,ps,af,.none⟩,L',some v))
    (h:∀ a',Sl N ((d,v)::m) a'→wpAnyF P ops Q S Fb n L' a' w)
    (hs:Region.noSelect ops=true:=by decide +kernel) (hb:freeB ops L i=true:=by decide +kernel) (hN:Nat.blt d N=true:=by rfl)
    (hQ:∀ c a w v,Q (.panic c) (a.put (some d) v) w→Q (.panic c) a w:=by exact fun _ _ _ _ h=>h):∀ a,Sl N m a→wpAnyF P ops Q S Fb (n+1) L a w:=fun _ F=>F.ym i ho h hs hb hN hQ
theorem Ygw (i:Nat) (v:Value) (ho:(ops[i]?,L.setIfInBounds i true)=(some ⟨some d,op,ty,ps,af,some (j,b)⟩,L')) (hr:∀ {a:Act},Sl N m a→∀ W,(execOp a.eval ⟨some d,op,ty,ps,af,some (j,b)⟩).run P W=.ok (.value v) W)
    (h:∀ a',Sl N ((d,v)::m) a'→wpAnyF P ops Q S Fb n L' a' w)
    (hj:ops[j]?=some oj:=by rfl) (hdj:oj.dst=some dj:=by rfl) (hv:look m dj=some (.bool y):=by rfl) (hy:y=b:=by exact xBk)
    (hs:Region.noSelect ops=true:=by decide +kernel) (hb:freeB ops L i=true:=by decide +kernel) (hN:Nat.blt d N=true:=by rfl)
    (hQ:∀ c a w v,Q (.panic c) (a.put (some d) v) w→Q (.panic c) a w:=by exact fun _ _ _ _ h=>h):∀ a,Sl N m a→wpAnyF P ops Q S Fb (n+1) L a w:=fun _ F=>F.ygw i v ho hr h hj hdj hv hy hs hb hN hQ
theorem Yg (i:Nat) (v:Value) (ho:(ops[i]?,L.setIfInBounds i true)=(some ⟨some d,op,ty,ps,af,some (j,b)⟩,L'))
    (h:∀ a',Sl N ((d,v)::m) a'→wpAnyF P ops Q S Fb n L' a' w) (hr:Lt P N m ⟨some d,op,ty,ps,af,some (j,b)⟩ v:=by exact Lt.go)
    (hj:ops[j]?=some oj:=by rfl) (hdj:oj.dst=some dj:=by rfl) (hv:look m dj=some (.bool y):=by rfl) (hy:y=b:=by exact xBk)
    (hs:Region.noSelect ops=true:=by decide +kernel) (hb:freeB ops L i=true:=by decide +kernel) (hN:Nat.blt d N=true:=by rfl)
    (hQ:∀ c a w v,Q (.panic c) (a.put (some d) v) w→Q (.panic c) a w:=by exact fun _ _ _ _ h=>h):∀ a,Sl N m a→wpAnyF P ops Q S Fb (n+1) L a w:=fun _ F=>F.yg i v ho h hr hj hdj hv hy hs hb hN hQ
theorem Yu (i:Nat) (ho:(ops[i]?,L.setIfInBounds i true)=(some ⟨some d,op,ty,ps,af,some (j,b)⟩,L'))
    (h:∀ a',Sl N ((d,undef)::m) a'→wpAnyF P ops Q S Fb n L' a' w)
    (hj:ops[j]?=some oj:=by rfl) (hdj:oj.dst=some dj:=by rfl) (hv:look m dj=some (.bool y):=by rfl) (hy:y=!b:=by exact xBk)
    (hs:Region.noSelect ops=true:=by decide +kernel) (hb:freeB ops L i=true:=by decide +kernel) (hN:Nat.blt d N=true:=by rfl)
    (hQ:∀ c a w v,Q (.panic c) (a.put (some d) v) w→Q (.panic c) a w:=by exact fun _ _ _ _ h=>h):∀ a,Sl N m a→wpAnyF P ops Q S Fb (n+1) L a w:=fun _ F=>F.yu i ho h hj hdj hv hy hs hb hN hQ
theorem Yn (i:Nat) (ho:(ops[i]?,L.setIfInBounds i true)=(some ⟨some d,op,ty,ps,af,some (j,b)⟩,L'))
    (h:∀ a',Sl N ((d,undef)::m) a'→wpAnyF P ops Q S Fb n L' a' w)
    (hj:ops[j]?=some oj:=by rfl) (hdj:oj.dst=some dj:=by rfl) (hv:look m dj=some undef:=by rfl)
    (hs:Region.noSelect ops=true:=by decide +kernel) (hb:freeB ops L i=true:=by decide +kernel) (hN:Nat.blt d N=true:=by rfl)
    (hQ:∀ c a w v,Q (.panic c) (a.put (some d) v) w→Q (.panic c) a w:=by exact fun _ _ _ _ h=>h):∀ a,Sl N m a→wpAnyF P ops Q S Fb (n+1) L a w:=fun _ F=>F.yn i ho h hj hdj hv hs hb hN hQ
theorem Ys (i:Nat) (v:Value) (ho:(ops[i]?,L.setIfInBounds i true)=(some ⟨some d,op,ty,ps,af,.none⟩,L')) (hS:S w) (hr:∀ {a:Act},Sl N m a→∀ W,S W→(execOp a.eval ⟨some d,op,ty,ps,af,.none⟩).run P W=.ok (.value v) W)
    (h:∀ a',Sl N ((d,v)::m) a'→wpAnyF P ops Q S Fb n L' a' w)
    (hs:Region.noSelect ops=true:=by decide +kernel) (hb:lightB ops Fb L i=true:=by decide +kernel) (hN:Nat.blt d N=true:=by rfl)
    (hQ:∀ c a w v,Q (.panic c) (a.put (some d) v) w→Q (.panic c) a w:=by exact fun _ _ _ _ h=>h):∀ a,Sl N m a→wpAnyF P ops Q S Fb (n+1) L a w:=fun _ F=>F.ys i v ho hS hr h hs hb hN hQ
theorem Ysg (i:Nat) (v:Value) (ho:(ops[i]?,L.setIfInBounds i true)=(some ⟨some d,op,ty,ps,af,some (j,b)⟩,L')) (hS:S w) (hr:∀ {a:Act},Sl N m a→∀ W,S W→(execOp a.eval ⟨some d,op,ty,ps,af,some (j,b)⟩).run P W=.ok (.value v) W)
    (h:∀ a',Sl N ((d,v)::m) a'→wpAnyF P ops Q S Fb n L' a' w)
    (hj:ops[j]?=some oj:=by rfl) (hdj:oj.dst=some dj:=by rfl) (hv:look m dj=some (.bool y):=by rfl) (hy:y=b:=by exact xBk)
    (hs:Region.noSelect ops=true:=by decide +kernel) (hb:lightB ops Fb L i=true:=by decide +kernel) (hN:Nat.blt d N=true:=by rfl)
    (hQ:∀ c a w v,Q (.panic c) (a.put (some d) v) w→Q (.panic c) a w:=by exact fun _ _ _ _ h=>h):∀ a,Sl N m a→wpAnyF P ops Q S Fb (n+1) L a w:=fun _ F=>F.ysg i v ho hS hr h hj hdj hv hy hs hb hN hQ
end

section
variable {P:Program} {Q:Exit→Act→World→Prop} {a:Act} {w:World} {N:Nat} {m l l':List (Nat × Value)} {ts:List Nat} {v:Value} {t id:Nat}
/-- some slots of a frame -/
def pk (m:List (Nat × Value)):List Nat→Option (List (Nat × Value))
  | []=>some []
  | t::ts=>match look m t,pk m ts with
    | some v,some l=>some ((t,v)::l)
    | _,_=>none
theorem Sl.k (hF:Sl N m a) (ts:List Nat) (h:pk m ts=some l:=by rfl):Sl N l a:=by
  induction ts generalizing l with
  | nil=>injection h with h;subst h;exact hF.nil
  | cons t ts ih =>
    simp only [pk] at h
    split at h
    · rename_i v l' h1 h2
      injection h with h;subst h
      exact (ih h2).cons (hF.get h1)
    · cases h
/-- the slots that are to stand again -/
inductive Pj (m:List (Nat × Value)):List (Nat × Value)→Prop
  | n:Pj m []
  | c {t:Nat} {u v:Value} {l:List (Nat × Value)}:look m t=some u→u=v→Pj m l→Pj m ((t,v)::l)
theorem Sl.j (hF:Sl N m a) (h:Pj m l:=by repeat' first | exact Pj.n | refine Pj.c rfl (by first | rfl | (congr 1;omega) | (simp only [List.length_drop]) | (congr 1;done)) ?_):Sl N l a:=by
  induction h with
  | n=>exact hF.nil
  | c h1 h2 _ ih=>exact ih.cons ((hF.get h1).trans h2)
theorem Sl.ct {x y:Code} {b:Bool} (hF:Sl N m a) (h:x.wp P Q a w) (hv:look m t=some (.bool b):=by rfl) (hb:b=true:=by exact xBk):(Code.cond (.tmp t) x y).wp P Q a w:=wp_cond_true (c_true hF hv hb) h
theorem Sl.cf {x y:Code} {b:Bool} (hF:Sl N m a) (h:y.wp P Q a w) (hv:look m t=some (.bool b):=by rfl) (hb:b=false:=by exact xBk):(Code.cond (.tmp t) x y).wp P Q a w:=wp_cond_false (c_false hF hv hb) h
theorem wr {x:Code} {l:List Oper} (h:∀ K:Act→World→Prop,(∀ a w,x.wp P Q a w→K a w)→wpList P l.toArray (Exit.then K Q) l a w):(Code.seq (Code.region id l.toArray false) x).wp P Q a w:=wp_seq_k fun K hK=>wp_region_lit (h K hK)
end
section
variable {P:Program} {ops:Array Oper} {Q:Exit→Act→World→Prop} {S:World→Prop} {Fb:Nat→Bool} {w:World} {d N n i:Nat} {m:List (Nat × Value)} {a:Act} {L L' L1 L2:Array Bool} {op:Op} {ty s:TypeId} {ps:String} {af:Array Edge} {rest:List Oper} {v:Value} {t tx:Nat} {K:Act→World→Prop}
/-! new memory (of its type's zero; of a value; of a made slice), stores; in order and by themselves -/
theorem Sl.xn (hF:Sl N m a) (f:Nat→Value) (cs:List Value) (T:TypeId) (hr:∀ {a:Act},Sl N m a→(execOp a.eval ⟨some d,op,ty,ps,af,.none⟩).run P w=.ok (.value (f w.heap.size)) (w.alloc (.cells cs.toArray T)))
    (h:∀ g w' a',Sl N ((d,f g)::m) a'→w.heap.size=g→w'.heap.size=g+1→Blk w' g T cs→Ext w w'→wpList P ops Q rest a' w')
    (hN:Nat.blt d N=true:=by rfl):wpList P ops Q (⟨some d,op,ty,ps,af,.none⟩::rest) a w:=wpl_o (o_new f cs T hF rfl rfl rfl hN (hr hF) h)
theorem Sl.xz (hF:Sl N m a) (cs:List Value) (T:TypeId)
    (h:∀ g w' a',Sl N ((d,.pointer (some ⟨g,0,.none⟩))::m) a'→w.heap.size=g→w'.heap.size=g+1→Blk w' g T cs→Ext w w'→wpList P ops Q rest a' w')
    (hr:∀ a:Act,(execOp a.eval ⟨some d,op,ty,ps,af,.none⟩).run P w=.ok (.value (.pointer (some ⟨w.heap.size,0,.none⟩))) (w.alloc (.cells cs.toArray T)):=by intro a;kernel_rfl)
    (hN:Nat.blt d N=true:=by rfl):wpList P ops Q (⟨some d,op,ty,ps,af,.none⟩::rest) a w:=hF.xn (fun g=>.pointer (some ⟨g,0,.none⟩)) cs T (fun _=>hr _) h hN
theorem Sl.xb {cs:List Value} (hF:Sl N m a) (hv:look m t=some (.agg cs.toArray))
    (h:∀ g w' a',Sl N ((d,.pointer (some ⟨g,0,.none⟩))::m) a'→w.heap.size=g→w'.heap.size=g+1→Blk w' g s cs→Ext w w'→wpList P ops Q rest a' w')
    (hN:Nat.blt d N=true:=by rfl):wpList P ops Q (⟨some d,.box s (.tmp t),ty,ps,af,.none⟩::rest) a w:=hF.xn (fun g=>.pointer (some ⟨g,0,.none⟩)) cs s (fun F=>rn_box (F.get hv) (box_arr _)) h hN
theorem Sl.on (hF:Sl N m a) (f:Nat→Value) (cs:List Value) (T:TypeId) (ho:ops[i]?=some ⟨some d,op,ty,ps,af,.none⟩) (hr:∀ {a:Act},Sl N m a→(execOp a.eval ⟨some d,op,ty,ps,af,.none⟩).run P w=.ok (.value (f w.heap.size)) (w.alloc (.cells cs.toArray T)))
    (h:∀ g w' a',Sl N ((d,f g)::m) a'→w.heap.size=g→w'.heap.size=g+1→Blk w' g T cs→Ext w w'→K a' w') (hN:Nat.blt d N=true:=by rfl):wpOp P ops Q i K a w:=o_new f cs T hF ho rfl rfl hN (hr hF) h
theorem Sl.oz (hF:Sl N m a) (cs:List Value) (T:TypeId) (ho:ops[i]?=some ⟨some d,op,ty,ps,af,.none⟩)
    (h:∀ g w' a',Sl N ((d,.pointer (some ⟨g,0,.none⟩))::m) a'→w.heap.size=g→w'.heap.size=g+1→Blk w' g T cs→Ext w w'→K a' w')
    (hr:∀ a:Act,(execOp a.eval ⟨some d,op,ty,ps,af,.none⟩).run P w=.ok (.value (.pointer (some ⟨w.heap.size,0,.none⟩))) (w.alloc (.cells cs.toArray T)):=by intro a;kernel_rfl) (hN:Nat.blt d N=true:=by rfl):wpOp P ops Q i K a w :=
  hF.on (fun g=>.pointer (some ⟨g,0,.none⟩)) cs T ho (fun _=>hr _) h hN
variable {g k k2:Nat} {t0:TypeId} {old cells:List Value}
theorem Sl.xs (hF:Sl N m a) (hv:(look m tx,look m t)=(some (.pointer (some ⟨g,0,.none⟩)),some (.agg cells.toArray))) (hb:Blk w g t0 old) (h:∀ w',Blk w' g t0 cells→w.grownBy w' (some g)→wpList P ops Q rest a w')
    (hi:(P.info? s).map (·.size)=some k:=by exact xSz) (hk:cells.length=k2:=by exact xLg) (he:k=k2:=by rfl) (hl:old.length=k2:=by exact xLg) (h1:∀ u∈cells,u.oneCell'=true:=by exact xOne):wpList P ops Q (⟨.none,.store s (.tmp tx) (.tmp t),ty,ps,af,.none⟩::rest) a w :=
  wpl_o (o_store hF rfl rfl rfl rfl (hF.get (Prod.mk.inj hv).1) (hF.get (Prod.mk.inj hv).2) hb (sk2 hi hk he) (hl.trans hk.symm) h1 h)
theorem Sl.os (hF:Sl N m a) (hv:(ops[i]?,look m tx,look m t)=(some ⟨.none,.store s (.tmp tx) (.tmp t),ty,ps,af,.none⟩,some (.pointer (some ⟨g,0,.none⟩)),some (.agg cells.toArray))) (hb:Blk w g t0 old) (h:∀ w',Blk w' g t0 cells→w.grownBy w' (some g)→K a w')
    (hi:(P.info? s).map (·.size)=some k:=by exact xSz) (hk:cells.length=k2:=by exact xLg) (he:k=k2:=by rfl) (hl:old.length=k2:=by exact xLg) (h1:∀ u∈cells,u.oneCell'=true:=by exact xOne):wpOp P ops Q i K a w :=
  o_store hF (Prod.mk.inj hv).1 rfl rfl rfl (hF.get (Prod.mk.inj (Prod.mk.inj hv).2).1) (hF.get (Prod.mk.inj (Prod.mk.inj hv).2).2) hb (sk2 hi hk he) (hl.trans hk.symm) h1 h
theorem Sl.ow (hF:Sl N m a) (v:Value) (ho:ops[i]?=some ⟨some d,op,ty,ps,af,.none⟩) (hr:∀ {a:Act},Sl N m a→(execOp a.eval ⟨some d,op,ty,ps,af,.none⟩).run P w=.ok (.value v) w) (h:∀ a',Sl N ((d,v)::m) a'→K a' w) (hN:Nat.blt d N=true:=by rfl):wpOp P ops Q i K a w:=o_val hF ho rfl rfl hN (hr hF) h
theorem ao (i:Nat) (hL:L.setIfInBounds i true=L') (h:wpOp P ops Q i (fun a' w'=>(Fb i=false→S w→S w')∧wpAnyF P ops Q S Fb n L' a' w') a w) (hr:Region.ready .any ops L=[i]:=by decide +kernel):wpAnyF P ops Q S Fb (n+1) L a w:=any_one hr hL h
theorem nn (h:Q .normal a w) (hr:Region.ready .any ops L=[]:=by decide +kernel):wpAnyF P ops Q S Fb 0 L a w:=any_nil hr h
theorem an {p q s:Prop} (h:q) (hn:¬ p:=by decide):(p→s)∧q:=⟨fun x=>absurd x hn,h⟩
theorem ap {p q s:Prop} (h:q):(p→s→s)∧q:=⟨fun _ x=>x,h⟩
end
end Go.Proofs.YtihgmaoghbnnaaaDoor

namespace Go.Proofs.YtihgmaoghbnnaaaDoor
open Go.RowKit Go.ChangeShapes Go.WideShapes Go.ChangeAt Go.Deep

section
variable {H:Type} {enc:TypeId × Value→H} {P:Program}

/-- The blocks that were there. -/
def Old (w:World) (b:Nat):Prop:=b<w.heap.size

theorem sameAt_of_ext {W W':World} (hb:Ext W W') {p:MemPlace} (hp:p.block<W.heap.size):W.sameAt W' p:=by
  cases p with
  | cell b off=>exact hb.cell hp
  | map b=>exact hb.below.block b hp

theorem trodAll_ext {W W':World} (hb:Ext W W') {sp:Nat→Bool}:∀ {ts:List TypeId} {vs:List Value} {ds:List (DataW H)} {ps:List MemPlace},
    DataW.TrodAll enc P W 0 sp true ts vs ds ps→(∀ p∈ps,p.block<W.heap.size)→DataW.TrodAll enc P W' 0 sp true ts vs ds ps
  | [],[],[],_,h,_=>h
  | _::_,_::_,_::_,_,⟨p,q,⟨n,h1⟩,h2,e⟩,hs =>
    ⟨p,q,⟨n,DataW.trod_carry n _ _ _ h1 (fun x hx=>sameAt_of_ext hb (hs x (by rw [e];exact List.mem_append_left _ hx)))⟩,
      trodAll_ext hb h2 (fun x hx=>hs x (by rw [e];exact List.mem_append_right _ hx)),e⟩

/-- What a law owes behind its call: it has returned true, and nothing that was there has changed. -/
theorem law_post {f:Func} {s:ChangeSpec} {W W':World} {args:Array Value} {ds:List (DataW H)} {before:List MemPlace}
    (hl:laidOutB P=true) (hm:mapsRowed P=true) (hf:((List.range P.types.size).all fun t=>match P.underlying t with | some (.slice e)=>decide (0<P.cellsOf e) | _=>true)=true)
    (hts:∀ t∈f.params.toList,t<P.types.size) (hv:s.vars=[]) {tb:TypeId} (hr:f.resultTypes=#[tb]) (hb:P.underlying tb=some .bool)
    (hs:s.fn H ds={ results:=[.lit (.bool true)],args:=ds })
    (hW:DataW.Whole enc P f.params.toList s.vars false W args.toList ds [] before) (hx:Ext W W') :
    s.post enc P f false true false false W args (.bool true) W':=by
  have hlt:∀ p∈before,p.block<W.heap.size:=fun p hp=>hW.lt p hp
  obtain ⟨p,q,hA,hV,rfl,hz,hn⟩:=id hW
  rw [hv] at hV
  have hq:q=[]:=hV
  subst hq
  rw [List.append_nil] at hW hlt hz
  have again:∀ sp:Nat→Bool,(∀ x∈p,sp x.block=true)→DataW.TrodAll enc P W' 0 sp true f.params.toList args.toList ds p:=fun sp hsp =>
    trodAll_ext hx (DataW.TrodAll.respare (kids_rows hl hm) (fun t e ht hu=>slices_full_of P hf t e ht hu) hts hA hsp) hlt
  have hold:∀ x∈p,(fun b=>decide (b<W.heap.size)) x.block=true:=fun x hx=>by simpa using hlt x hx
  have hres:∀ (b:Nat) (sp:Nat→Bool) (hd:Bool),DataW.TrodAll enc P W' b sp hd f.resultTypes.toList ((Value.bool true).resultList f.resultTypes.size) [.lit (.bool true)] []:=fun b sp hd=>by
    rw [hr];exact trodAll_mk1 (shut_bool hb _)
  refine ⟨ds,[],p,[],p,[],hW,?_,?_,?_,?_,fun _=>?_⟩
  · rw [List.append_nil,hs];exact hres _ _ _
  · rw [List.append_nil,hs];exact again _ hold
  · rw [List.append_nil,hs,hv];rfl
  · refine World.keptBut_mono (fun x hx=>⟨hx,?_⟩) (hx.below.frame (·∈p))
    exact Or.inr (by simpa using hx)
  · refine ⟨?_,[.lit (.bool true)]++ds,[],([]++p)++[],⟨[]++p,[],?_,?_,rfl,?_,?_⟩,?_⟩
    · exact ok_one hr rfl (okWide_bool_mk hb _)
    · exact trodAll_append (again _ (fun _ _=>rfl)) (hres _ _ _)
    · rw [hv];rfl
    · intro b off hp
      have hin:MemPlace.cell b off∈p:=by simpa using hp
      rw [hx.frz b off (hlt _ hin)]
      exact hz b off hin
    · intro ha;cases ha
    · intro x hx _
      simpa using hx

/-- The weights of a datum are within reach. -/
def Reach (P:Program) (t:TypeId) (d:DataW H):Prop:=∀ n∈d.weights P t,n≤reachBytes

theorem reach_of {ts:List TypeId} {ds:List (DataW H)} (h:(DataW.weightsEach P ts ds).all (·≤reachBytes)=true) {j:Nat} {t:TypeId} {d:DataW H} (ht:ts[j]?=some t) (hd:ds[j]?=some d):Reach P t d:=fun n hn=>by
  have:=List.all_eq_true.1 h n (DataW.weights_mem_each ht hd n hn)
  simpa using this

theorem weightsAll_mem {e:TypeId} {x:DataW H} {n:Nat} (hn:n∈x.weights P e):∀ {l:List (DataW H)},x∈l→n∈DataW.weightsAll P e l
  | y::l,h=>by
    simp only [DataW.weightsAll,List.mem_append]
    cases h with
    | head=>exact .inl hn
    | tail _ h=>exact .inr (weightsAll_mem hn h)

theorem Reach.elem {t e:TypeId} {l s:List (DataW H)} (h:Reach P t (.slice l s)) (ht:P.underlying t=some (.slice e)) {x:DataW H} (hx:x∈l):Reach P e x:=fun n hn=>h n (by
  simp only [DataW.weights,ht,List.mem_cons,List.mem_append]
  exact .inr (.inl (weightsAll_mem hn hx)))
theorem Reach.len {t e:TypeId} {l s:List (DataW H)} (h:Reach P t (.slice l s)) (ht:P.underlying t=some (.slice e)):(l.length+s.length)*P.bytesOf e≤reachBytes:=h _ (by
  simp [DataW.weights,ht])
theorem Reach.field {t:TypeId} {fs:Array Field} {l:List (DataW H)} (h:Reach P t (.agg l)) (ht:P.underlying t=some (.struct fs)) {j:Nat} {f:Field} {x:DataW H} (hf:fs[j]?=some f) (hx:l[j]?=some x):Reach P f.type x:=fun n hn=>h n (by
  simp only [DataW.weights,ht]
  refine DataW.weights_mem_each (j:=j) (t:=f.type) (d:=x) ?_ hx n hn
  rw [List.getElem?_map,Array.getElem?_toList,hf];rfl)

end

/-- A choice for every index, as_ a list. -/
theorem list_of_lt {α:Type} {n:Nat} {p:Nat→α→Prop} (h:∀ i,i<n→∃ x,p i x):∃ l:List α,l.length=n∧∀ i (hi:i<l.length),p i l[i]:=by
  induction n with
  | zero=>exact ⟨[],rfl,fun i hi=>absurd hi (Nat.not_lt_zero _)⟩
  | succ n ih =>
    obtain ⟨l,hl,hp⟩:=ih (fun i hi=>h i (Nat.lt_succ_of_lt hi))
    obtain ⟨x,hx⟩:=h n (Nat.lt_succ_self n)
    refine ⟨l++[x],by simp [hl],fun i hi=>?_⟩
    by_cases hlt:i<l.length
    · rw [List.getElem_append_left hlt];exact hp i hlt
    · have:i=l.length:=by simp at hi;omega
      subst this
      simp only [List.getElem_append_right (Nat.le_refl _),Nat.sub_self,List.getElem_cons_zero]
      rw [hl];exact hx

section
variable {H:Type} {enc:TypeId × Value→H} {P:Program} {W:World}

theorem flat_length {α:Type} {l:List (List α)} {k:Nat} (h:∀ x∈l,x.length=k):l.flatten.length=l.length*k:=by
  induction l with
  | nil=>simp
  | cons x l ih =>
    rw [List.flatten_cons,List.length_append,ih (fun y hy=>h y (List.mem_cons_of_mem _ hy)),h x (List.mem_cons_self ..),List.length_cons,Nat.add_mul,Nat.one_mul,Nat.add_comm]

theorem chunk_flat {l:List (List Value)} {k:Nat} (h:∀ x∈l,x.length=k):∀ i (hi:i<l.length),chunk k l.flatten i=l[i]:=by
  induction l with
  | nil=>intro i hi;exact absurd hi (Nat.not_lt_zero _)
  | cons x l ih =>
    intro i hi
    have hx:=h x (List.mem_cons_self ..)
    unfold chunk
    cases i with
    | zero=>simp [hx]
    | succ i =>
      rw [List.flatten_cons,Nat.add_mul,Nat.one_mul,List.drop_append,List.drop_eq_nil_of_le (by omega),List.nil_append,hx,Nat.add_sub_cancel]
      exact ih (fun y hy=>h y (List.mem_cons_of_mem _ hy)) i (by simpa using hi)

theorem flat_get {l:List (List Value)} {k:Nat} (h:∀ x∈l,x.length=k) {j:Nat} {u:Value} (hu:l.flatten[j]?=some u) (hk:0<k):∃ x,l[j / k]?=some x∧x[j % k]?=some u:=by
  induction l generalizing j with
  | nil=>simp at hu
  | cons x l ih =>
    have hx:=h x (List.mem_cons_self ..)
    rw [List.flatten_cons] at hu
    by_cases hj:j<k
    · rw [List.getElem?_append_left (by omega)] at hu
      exact ⟨x,by simp [Nat.div_eq_of_lt hj],by rw [Nat.mod_eq_of_lt hj];exact hu⟩
    · rw [List.getElem?_append_right (by omega),hx] at hu
      obtain ⟨y,h1,h2⟩:=ih (fun y hy=>h y (List.mem_cons_of_mem _ hy)) hu
      have hd:j / k=(j - k) / k+1:=by rw [← Nat.sub_add_cancel (by omega:k≤j),Nat.add_div_right _ hk,Nat.add_sub_cancel]
      refine ⟨y,by rw [hd];simpa using h1,?_⟩
      rwa [Nat.mod_eq_sub_mod (by omega)]

/-- Elements that are formed: one cell each. -/
def OneC (cs:List Value):Prop:=∀ u∈cs,u.oneCell'=true

/-- A slice opens: each element by what its own reading gives. -/
theorem open_rsl {α:Type} {k:Nat} {R:World→List Value→α→Prop} {B:α→Prop} {t e:TypeId} {fuel:Nat} {cs:List Value} {x:DataW H × List MemPlace}
    (ht:P.underlying t=some (.slice e)) (hk:P.cellsOf e=k) (hk0:0<k) (h:DataW.trod enc P W 0 (fun _=>true) true fuel t cs=some x) (hreach:Reach P t x.1)
    (hR:∀ n cs' y,DataW.trod enc P W 0 (fun _=>true) true n e cs'=some y→Reach P e y.1→∃ a,R W cs' a∧B a∧OneC cs') :
    ∃ v l,cs=[v]∧RSl (Old W) k R W v l∧(∀ a∈l,B a)∧l.length*P.bytesOf e≤reachBytes∧v.oneCell'=true:=by
  rcases open_slice ht h with ⟨rfl,rfl⟩ | ⟨a,len,cap,m,n,D,Pl,rfl,hb,hlc,hcm,hm,rfl,hi⟩
  · exact ⟨_,[],rfl,RSl.nil _,(fun a ha=>by cases ha),(by simp),rfl⟩
  · simp only [if_true] at hm
    subst hm
    rw [hk] at hi
    have hsome:∀ i,i<len→∃ ya:List Value × α,(W.cells? 0 (a.add (i*k)) k=some ya.1∧R W ya.1 ya.2)∧B ya.2∧OneC ya.1:=fun i hil=>by
      obtain ⟨cs',hc,htr⟩:=hi i (by omega)
      obtain ⟨y,h1,h2,h3⟩:=hR n cs' _ htr (hreach.elem ht (by simp only [List.mem_map];exact ⟨i,List.mem_range.2 hil,rfl⟩))
      exact ⟨(cs',y),⟨hc,h1⟩,h2,h3⟩
    obtain ⟨L,hL,hp⟩:=list_of_lt hsome
    have hlen:∀ y∈L.map (·.1),y.length=k:=fun y hy=>by
      obtain ⟨z,hz,rfl⟩:=List.mem_map.1 hy
      obtain ⟨i,hil,rfl⟩:=List.getElem_of_mem hz
      exact (World.cells?_some (hp i hil).1.1).2.1
    have hcell:∀ i (hil:i<L.length) (j:Nat) (u:Value),(L[i].1)[j]?=some u→W.cell? (a.add (i*k+j))=some u:=fun i hil j u hu=>by
      obtain ⟨_,hl2,hat⟩:=World.cells?_some (hp i hil).1.1
      have hjk:j<k:=by rw [← hl2];exact (List.getElem?_eq_some_iff.1 hu).1
      have:=hat j hjk
      rw [hu,add_add] at this
      exact this
    have hLl:(L.map (·.1)).length=L.length:=List.length_map ..
    refine ⟨_,L.map (·.2),rfl,⟨some a,m,(L.map (·.1)).flatten,by rw [List.length_map,hL],⟨by rw [List.length_map];omega,by simpa [maxLen] using hcm⟩,⟨?_,?_,fun h0=>?_⟩,fun i hil=>?_,fun h0=>?_⟩,fun y hy=>?_,?_,rfl⟩
    · rw [flat_length hlen,hLl,List.length_map]
    · intro u hu
      obtain ⟨y,hy,hu⟩:=List.mem_flatten.1 hu
      obtain ⟨z,hz,rfl⟩:=List.mem_map.1 hy
      obtain ⟨i,hil,rfl⟩:=List.getElem_of_mem hz
      exact (hp i hil).2.2 u hu
    · rw [List.length_map] at h0
      have hc0:∃ u,W.cell? (a.add 0)=some u:=by
        have h1:(L[0].1)[0]?=some ((L[0].1)[0]'(by rw [hlen _ (List.mem_map.2 ⟨_,List.getElem_mem h0,rfl⟩)];exact hk0)):=List.getElem?_eq_getElem _
        have:=hcell 0 h0 0 _ h1
        rw [Nat.zero_mul,Nat.zero_add] at this
        exact ⟨_,this⟩
      obtain ⟨u0,hu0⟩:=hc0
      have ha0:a.add 0=a:=by simp [Addr.add]
      rw [ha0] at hu0
      obtain ⟨b,off,spot⟩:=a
      have hspot:spot=none:=World.cell?_spot hu0
      subst hspot
      refine ⟨b,off,rfl,World.block_lt_of_cell? W _ hu0,fun j u hu=>?_⟩
      obtain ⟨y,h1,h2⟩:=flat_get hlen hu hk0
      rw [List.getElem?_map] at h1
      obtain ⟨z,h3,rfl⟩:=Option.map_eq_some_iff.1 h1
      obtain ⟨hil,rfl⟩:=List.getElem?_eq_some_iff.1 h3
      have:=hcell _ hil _ _ h2
      rw [Nat.mul_comm,Nat.div_add_mod] at this
      rw [← this]
      congr 1
      unfold Addr.add
      split <;> simp_all
    · rw [List.length_map] at hil
      rw [chunk_flat hlen i (by simpa using hil)]
      simp only [List.getElem_map]
      exact (hp i hil).1.2
    · rw [List.length_map] at h0
      have h1:(L[0].1)[0]?=some ((L[0].1)[0]'(by rw [hlen _ (List.mem_map.2 ⟨_,List.getElem_mem h0,rfl⟩)];exact hk0)):=List.getElem?_eq_getElem _
      have hu0:=hcell 0 h0 0 _ h1
      rw [Nat.zero_mul,Nat.zero_add] at hu0
      have ha0:a.add 0=a:=by simp [Addr.add]
      rw [ha0] at hu0
      obtain ⟨b,off,spot⟩:=a
      have hspot:spot=none:=World.cell?_spot hu0
      subst hspot
      exact ⟨b,off,rfl,World.block_lt_of_cell? W _ hu0⟩
    · obtain ⟨z,hz,rfl⟩:=List.mem_map.1 hy
      obtain ⟨i,hil,rfl⟩:=List.getElem_of_mem hz
      exact (hp i hil).2.1
    · have:=hreach.len ht
      simp only [List.length_map,List.length_range] at this
      rw [List.length_map,hL]
      exact Nat.le_trans (Nat.mul_le_mul_right _ (Nat.le_add_right _ _)) this

/-- Bytes open. -/
theorem open_byte {e:TypeId} (he:P.underlying e=some (.int .u8)) (n:Nat) (cs':List Value) (y:DataW H × List MemPlace) (h:DataW.trod enc P W 0 (fun _=>true) true n e cs'=some y):∃ c:UInt8,RByte W cs' c∧True∧OneC cs':=by
  obtain ⟨m,rfl,_,hw⟩:=DataW.trod_int he h
  have hb:0≤m∧m≤255:=by simpa [Lit.wf,IntKind.min,IntKind.max,IntKind.signed,IntKind.bits] using hw
  refine ⟨UInt8.ofNat m.toNat,?_,trivial,fun u hu=>?_⟩
  · unfold RByte
    have:(UInt8.ofNat m.toNat).toNat=m.toNat:=by rw [UInt8.toNat_ofNat'];omega
    rw [this,Int.toNat_of_nonneg hb.1]
  · simp at hu;subst hu;rfl

theorem open_bytes {t e:TypeId} (ht:P.underlying t=some (.slice e)) (he:P.underlying e=some (.int .u8)) (hc:P.cellsOf e=1) (hby:P.bytesOf e=1) {n:Nat} {cs:List Value} {y:DataW H × List MemPlace}
    (h:DataW.trod enc P W 0 (fun _=>true) true n t cs=some y) (hr:Reach P t y.1):∃ v l,cs=[v]∧RBs (Old W) W v l∧l.length≤140737488351232∧v.oneCell'=true:=by
  obtain ⟨v,l,h1,h2,_,h4,h5⟩:=open_rsl (k:=1) (R:=RByte) (B:=fun _=>True) ht hc (by omega) h hr (fun n cs' y hy _=>open_byte he n cs' y hy)
  refine ⟨v,l,h1,h2,?_,h5⟩
  rw [hby,Nat.mul_one] at h4
  exact h4

end

end Go.Proofs.YtihgmaoghbnnaaaDoor

namespace Go.Proofs.YtihgmaoghbnnaaaDoor
open Go.RowKit Go.ChangeShapes Go.WideShapes

section
variable {H:Type} {enc:TypeId × Value→H} {P:Program} {w:World} {base:Nat} {spare:Nat→Bool} {held:Bool}
theorem trod_nums {k:IntKind} {t e:TypeId} {n fuel:Nat} {cs:List Value} {l:List Int} {q:List MemPlace} (ht:P.underlying t=some (.array n e)) (he:P.underlying e=some (.int k)) (hc1:P.cellsOf e=1) (hct:P.cellsOf t=n)
    (h:DataW.trod enc P w base spare held fuel t cs=some (.agg (l.map fun x=>.lit (.int k x)),q)):cs=l.map (.int k):=by
  obtain ⟨xs,m,_,hx,hlen,hn,hel⟩:=DataW.trod_array ht h
  injection hx with hx1 hx2
  injection hx1 with hx1
  have hl:l.length=n:=by have:=congrArg List.length hx1;simp at this;omega
  rw [hct] at hlen
  apply List.ext_getElem (by simp;omega)
  intro i h1 h2
  have hi:i<n:=by omega
  have h3:=hel i hi
  rw [hc1,Nat.mul_one,List.drop_eq_getElem_cons h1,List.take_succ_cons,List.take_zero,List.getElem?_eq_getElem (by omega)] at h3
  obtain ⟨z,e1,e2,_⟩:=DataW.trod_int he h3
  have h4:=congrArg (fun l=>l[i]?) hx1
  simp only [List.getElem?_map,List.getElem?_eq_getElem (show i<l.length by omega),List.getElem?_eq_getElem (show i<xs.length by omega),Option.map_some,Option.some.injEq,e2] at h4
  injection h4 with h4
  injection h4 with h4 h5
  injection e1 with e1
  rw [e1,List.getElem_map,h5]
theorem chunks_eq {α:Type}:∀ (rows:List (List α)) (m:Nat) (cs:List α),cs.length=rows.length*m→(∀ i (h:i<rows.length),(cs.drop (i*m)).take m=rows[i])→cs=rows.flatten
  | [],m,cs,hl,_=>by simpa using hl
  | r::rows,m,cs,hl,h=>by
    have h0:=h 0 (by simp)
    simp only [Nat.zero_mul,List.drop_zero,List.getElem_cons_zero] at h0
    have ih:=chunks_eq rows m (cs.drop m) (by rw [List.length_drop,hl,List.length_cons,Nat.add_mul];omega) (fun i hi=>by
      have:=h (i+1) (by simpa using hi)
      rw [List.getElem_cons_succ] at this
      rw [List.drop_drop,show m+i*m=(i+1)*m by rw [Nat.add_mul];omega]
      exact this)
    rw [List.flatten_cons,← ih,← h0,List.take_append_drop]
theorem trod_rows {k:IntKind} {t e e2:TypeId} {n m fuel:Nat} {cs:List Value} {l:List (List Int)} {q:List MemPlace} (ht:P.underlying t=some (.array n e)) (he:P.underlying e=some (.array m e2)) (he2:P.underlying e2=some (.int k)) (hc1:P.cellsOf e2=1) (hce:P.cellsOf e=m) (hct:P.cellsOf t=n*m)
    (h:DataW.trod enc P w base spare held fuel t cs=some (.agg (l.map fun r=>.agg (r.map fun x=>.lit (.int k x))),q)):cs=(l.map fun r=>r.map (.int k)).flatten:=by
  obtain ⟨xs,f,_,hx,hlen,hn,hel⟩:=DataW.trod_array ht h
  injection hx with hx1 hx2
  injection hx1 with hx1
  have hl:l.length=n:=by have:=congrArg List.length hx1;simp at this;omega
  refine chunks_eq _ m cs (by rw [hlen,hct,List.length_map,hl]) (fun i hi=>?_)
  have hi':i<n:=by simpa [hl] using hi
  have h3:=hel i hi'
  rw [hce,List.getElem?_eq_getElem (by omega)] at h3
  have h4:=congrArg (fun l=>l[i]?) hx1
  simp only [List.getElem?_map,List.getElem?_eq_getElem (show i<l.length by omega),List.getElem?_eq_getElem (show i<xs.length by omega),Option.map_some,Option.some.injEq] at h4
  have h5:DataW.trod enc P w base spare held f e ((cs.drop (i*m)).take m)=some (.agg ((l[i]'(by omega)).map fun x=>.lit (.int k x)),(xs[i]'(by omega)).2):=by rw [h3,h4]
  rw [List.getElem_map]
  exact trod_nums he he2 hc1 hce h5
end
end Go.Proofs.YtihgmaoghbnnaaaDoor

namespace Go.Proofs.YtihgmaoghbnnaaaDoor
open Go.RowKit Go.ChangeShapes Go.WideShapes Go.ChangeAt Go.Deep Go.ChangeMaps

set_option maxRecDepth 100000
section
variable {H:Type} {enc:TypeId × Value→H} {W:World}
theorem open_byteArg {b0:Nat} {v:Value} {dd:DataW H} {p:List MemPlace} (hv:Value.okWide Tryd.prog W .any b0 5 v) (h:DataW.Trod enc Tryd.prog W 0 (fun _=>true) true 5 v dd p):∃ c:UInt8,v=.int .u8 (c.toNat:Nat):=by
  obtain ⟨n,rfl,_,_,hw⟩:=open_int Tryd.underlying5 hv h
  have hb:0≤n∧n≤255:=by simpa [Lit.wf,IntKind.min,IntKind.max,IntKind.signed,IntKind.bits] using hw
  refine ⟨UInt8.ofNat n.toNat,?_⟩
  have:(UInt8.ofNat n.toNat).toNat=n.toNat:=by rw [UInt8.toNat_ofNat'];omega
  rw [this,Int.toNat_of_nonneg hb.1]
end
end Go.Proofs.YtihgmaoghbnnaaaDoor

namespace Go.Proofs.YtihgmaoghbnnaaaDoor
open Go.RowKit Go.ChangeShapes Go.WideShapes Go.ChangeAt Go.Deep Go.Joins

set_option maxRecDepth 100000
section
variable {H:Type} {enc:TypeId × Value→H} {W:World}
theorem open_bytes1 {fuel:Nat} {v:Value} {x:DataW H × List MemPlace} (h:DataW.trod enc Tryd.prog W 0 (fun _=>true) true fuel 52 [v]=some x) (hr:Reach Tryd.prog 52 x.1) :
    ∃ C f l,v=.slice C l.length f∧Fl (Old W) W 1 (.slice C l.length f) l.length (byteVals l)∧l.length≤140737488355328:=by
  obtain ⟨u,l,hu,h1,h2,h3⟩:=open_bytes Tryd.underlying52 Tryd.underlying5 (by kernel_rfl) (by kernel_rfl) h hr
  injection hu with hu
  subst hu
  obtain ⟨A,cap,hf,_,_⟩:=h1.form
  rw [hf] at h1
  exact ⟨A,cap,l,hf,h1.fl,by omega⟩
end
end Go.Proofs.YtihgmaoghbnnaaaDoor

namespace Go.Proofs.YtihgmaoghbnnaaaDoor

theorem grow_refl (w:World) (g:Nat):w.grownBy w (some g):=⟨rfl,rfl,rfl,Nat.le_refl _,fun _ _ _=>rfl⟩
theorem grow_set {w w1 w2:World} {g:Nat} (h:w.grownBy w1 (some g)) (k:w1.grownBy w2 (some g)):w.grownBy w2 (some g) :=
  ⟨k.os.trans h.os,k.tape.trans h.tape,k.output.trans h.output,Nat.le_trans h.size k.size,fun i hi hn=>(k.block i (Nat.lt_of_lt_of_le hi h.size) hn).trans (h.block i hi hn)⟩
theorem grow_ext {w w1 w2:World} {g:Nat} (h:w.grownBy w1 (some g)) (k:Ext w1 w2):w.grownBy w2 (some g) :=
  grow_set h ⟨k.below.os,k.below.tape,k.below.output,k.size,fun i hi _=>k.below.block i hi⟩

end Go.Proofs.YtihgmaoghbnnaaaDoor

namespace Go.Proofs.YtihgmaoghbnnaaaDoor
open Go.RowKit

section
variable {P:Program} {ops:Array Oper} {Q:Exit→Act→World→Prop} {n r:Nat} {K:Act→World→Prop} {a:Act} {w:World} {o:Oper}
end

theorem same_ext {W W':World} (h:Ext W W') {k:Nat} {o:Obj} (hk:W.heap[k]?=some o):W'.heap[k]?=some o:=(h.below.block k (Array.getElem?_eq_some_iff.1 hk).1).trans hk

section
variable {P:Program} {Q:Exit→Act→World→Prop} {a:Act} {w:World}
end

/-! a function that holds such a loop -/
variable {N:Nat} {m:List (Nat × Value)} {a:Act}
section
variable {P:Program} {fn:Func} {R:Ending→World→Prop} {w:World}
end
/-- the frame's slots, and what is deferred -/
def SlD (ds:List Deferred) (N:Nat) (m:List (Nat × Value)) (a:Act):Prop:=Sl N m { a with defers:=[] }∧a.defers=ds
variable {ds:List Deferred}
theorem SlD.of (h:Sl N m a):SlD ds N m { a with defers:=ds }:=⟨⟨h.1,rfl,h.2.2⟩,rfl⟩
theorem SlD.get (h:SlD ds N m a) {t:Nat} {v:Value} (e:look m t=some v):a.eval (.tmp t)=v:=h.1.2.2 t v e
theorem SlD.put (h:SlD ds N m a) {d:Nat} {v:Value} (hd:Nat.blt d N=true):SlD ds N ((d,v)::m) (a.put (some d) v):=⟨h.1.put hd,h.2⟩
theorem SlD.nil (h:SlD ds N m a):SlD ds N [] a:=⟨h.1.nil,h.2⟩
theorem SlD.cons {m':List (Nat × Value)} (h:SlD ds N m' a) {t:Nat} {v:Value} (e:a.eval (.tmp t)=v):SlD ds N ((t,v)::m') a:=⟨h.1.cons e,h.2⟩
section
variable {P:Program} {ops:Array Oper} {Q:Exit→Act→World→Prop} {i:Nat} {w w':World} {o:Oper} {v:Value} {K:Act→World→Prop} {d:Nat}
theorem oD_val (hF:SlD ds N m a) (ho:ops[i]?=some o) (hw:Region.wanted o (yielded ops a.tmps)=true) (hd:o.dst=some d) (hN:Nat.blt d N=true)
    (hr:(execOp a.eval o).run P w=.ok (.value v) w) (h:∀ a',SlD ds N ((d,v)::m) a'→K a' w):wpOp P ops Q i K a w :=
  op_run ho hw hr (hd ▸ h _ (hF.put hN))
theorem oD_store {ty:TypeId} {x y:Operand} (_hF:SlD ds N m a) (ho:ops[i]?=some o) (hw:Region.wanted o (yielded ops a.tmps)=true) (hd:o.dst=none) (hop:o.op=.store ty x y) {g:Nat} {t:TypeId} {old cells:List Value}
    (hx:a.eval x=.pointer (some ⟨g,0,none⟩)) (hy:a.eval y=.agg cells.toArray) (hg:Blk w g t old) (hi:(P.info? ty).map (·.size)=some cells.length) (hl:old.length=cells.length) (h1:∀ u∈cells,u.oneCell'=true)
    (h:∀ w',Blk w' g t cells→w.grownBy w' (some g)→K a w'):wpOp P ops Q i K a w :=
  op_store ho hw hop hx hy hg hi hl h1 fun w' h1 h2=>by rw [hd];exact h w' h1 h2
theorem oD_store1 {ty:TypeId} {x y:Operand} (_hF:SlD ds N m a) (ho:ops[i]?=some o) (hw:Region.wanted o (yielded ops a.tmps)=true) (hd:o.dst=none) (hop:o.op=.store ty x y) {g j:Nat} {t:TypeId} {old:List Value} {u:Value}
    (hx:a.eval x=.pointer (some ⟨g,j,none⟩)) (hy:a.eval y=u) (hg:Blk w g t old) (hi:(P.info? ty).map (·.size)=some 1) (hj:j<old.length) (h1:u.oneCell'=true) {new:List Value} (hn:old.set j u=new)
    (h:∀ w',Blk w' g t new→w.grownBy w' (some g)→K a w'):wpOp P ops Q i K a w :=
  op_store1 ho hw hop hx hy hg hi hj h1 fun w' h1 h2=>by rw [hd];exact h w' (hn ▸ h1) h2
end

theorem KeepsOthers.of_ext {w w':World} (h:Ext w w'):KeepsOthers w w':=⟨h.size,fun _ _ hk _=>same_ext h hk⟩
theorem KeepsOthers.blk {w w':World} {g:Nat} {t:TypeId} {cs:List Value} (h:w.grownBy w' (some g)) (hb:Blk w g t cs):KeepsOthers w w' :=
  KeepsOthers.of_grownBy h fun j o hj ho=>by
    injection hj with hj
    subst hj
    rw [show w.heap[g]?=_ from hb] at ho
    injection ho with ho
    subst ho
    rfl
theorem KeepsOthers.own {w w':World} {base:Nat} {e:TypeId} {k n:Nat} {v:Value} {xs:List Value} (h:w.grownBy w' v.ownBlock) (hr:w.ownsRow base e k v n xs):KeepsOthers w w' :=
  KeepsOthers.of_grownBy h fun j o hj ho=>by
    rcases hr.2 with ⟨rfl,_⟩ | ⟨g,cap,cur,rfl,_,hg,_⟩
    · cases hj
    · injection hj with hj
      subst hj
      rw [hg] at ho
      injection ho with ho
      subst ho
      rfl

end Go.Proofs.YtihgmaoghbnnaaaDoor

namespace Go.Proofs.YtihgmaoghbnnaaaDoor
open Go.RowKit

variable {S S':Nat→Prop}

/-- the values vs read as_ the byte strings l, each from blocks from base on, none of them the row's own -/
def RVs (base:Nat) (v:Value) (w:World) (vs:List Value) (l:List (List UInt8)):Prop :=
  vs.length=l.length∧∀ i (h:i<l.length) (h':i<vs.length),RBs (fun b=>base≤b∧some b≠v.ownBlock) w vs[i] l[i]
theorem RVs.nil (base:Nat) (v:Value) (w:World):RVs base v w [] []:=⟨rfl,fun i h=>absurd h (by simp)⟩
theorem RVs.ext {base:Nat} {v:Value} {w w':World} {vs:List Value} {l:List (List UInt8)} (h:RVs base v w vs l) (hx:Ext w w'):RVs base v w' vs l:=⟨h.1,fun i h1 h2=>(h.2 i h1 h2).ext hx⟩
theorem RVs.set {base g:Nat} {v:Value} {w w':World} {vs:List Value} {l:List (List UInt8)} (h:RVs base v w vs l) (hg:w.grownBy w' (some g)) (hb:g<base):RVs base v w' vs l :=
  ⟨h.1,fun i h1 h2=>(h.2 i h1 h2).keep hg.size fun b hb1 hlt=>hg.block b hlt (fun e=>by injection e with e;omega)⟩
/-- the row moves on to v' (by an append) -/
theorem RVs.app {base:Nat} {v v':Value} {w w':World} {vs:List Value} {l:List (List UInt8)} (h:RVs base v w vs l) (hg:w.grownBy w' v.ownBlock) (hn:∀ g,g<w.heap.size→some g≠v.ownBlock→some g≠v'.ownBlock):RVs base v' w' vs l :=
  ⟨h.1,fun i h1 h2=>((h.2 i h1 h2).subB (S':=fun b=>(base≤b∧some b≠v'.ownBlock)∧some b≠v.ownBlock) fun b hlt hb=>⟨⟨hb.1,hn b hlt hb.2⟩,hb.2⟩).keep hg.size (fun b hb1 hlt=>hg.block b hlt hb1.2) |>.sub fun b hb=>hb.1⟩
theorem RVs.snoc {base:Nat} {v:Value} {w:World} {vs:List Value} {l:List (List UInt8)} (h:RVs base v w vs l) {u:Value} {x:List UInt8} (hu:RBs S w u x) (hS:∀ b,b<w.heap.size→S b→base≤b∧some b≠v.ownBlock):RVs base v w (vs++[u]) (l++[x]):=by
  refine ⟨by simp [h.1],fun i h1 h2=>?_⟩
  by_cases hi:i<l.length
  · rw [List.getElem_append_left hi,List.getElem_append_left (by rw [h.1];exact hi)]
    exact h.2 i hi _
  · simp only [List.length_append,List.length_singleton] at h1
    have e:i=l.length:=by omega
    subst e
    rw [List.getElem_append_right (Nat.le_refl _),List.getElem_append_right (by rw [h.1];exact Nat.le_refl _)]
    simp only [h.1,Nat.sub_self,List.getElem_cons_zero]
    exact hu.subB hS
theorem RVs.one {base:Nat} {v:Value} {w:World} {vs:List Value} {l:List (List UInt8)} (h:RVs base v w vs l):∀ u∈vs,u.oneCell'=true:=fun u hu=>by
  obtain ⟨i,hi,rfl⟩:=List.getElem_of_mem hu
  exact RBs.one (h.2 i (by rw [← h.1];exact hi) hi)
theorem own_blk_lt {w:World} {base:Nat} {e:TypeId} {k n:Nat} {v:Value} {xs:List Value} (h:w.ownsRow base e k v n xs):∀ g,some g=v.ownBlock→g<w.heap.size:=fun g hg=>by
  rcases h.2 with ⟨rfl,_⟩ | ⟨g',cap,cur,rfl,_,hh,_⟩
  · cases hg
  · injection hg with hg
    subst hg
    exact (Array.getElem?_eq_some_iff.1 hh).1
theorem own_ge {w:World} {base:Nat} {e:TypeId} {k n:Nat} {v:Value} {xs:List Value} (h:w.ownsRow base e k v n xs):∀ g,some g=v.ownBlock→base≤g:=fun g hg=>by
  rcases h.2 with ⟨rfl,_⟩ | ⟨g',cap,cur,rfl,hb,_⟩
  · cases hg
  · injection hg with hg
    subst hg
    exact hb
end Go.Proofs.YtihgmaoghbnnaaaDoor

namespace Go.Proofs.YtihgmaoghbnnaaaDoor
open Go.RowKit

/-! the order of names -/
abbrev ltS (a b:List UInt8):Bool:=Op.bytesLess a b
theorem u8_tri (a b:UInt8):a<b∨a=b∨b<a:=by
  rcases Nat.lt_trichotomy a.toNat b.toNat with h | h | h
  · exact .inl h
  · exact .inr (.inl (UInt8.toNat_inj.1 h))
  · exact .inr (.inr h)
theorem lt_cons {a b:UInt8} {x y:List UInt8}:ltS (a::x) (b::y)=true↔a<b∨a=b∧ltS x y=true:=by
  simp [ltS,Op.bytesLess]
theorem lt_irr:∀ a:List UInt8,ltS a a=false
  | []=>rfl
  | a::x=>by
    have h:=lt_irr x
    simp only [ltS] at h
    have:¬ a<a:=fun q=>Nat.lt_irrefl _ q
    simp [ltS,Op.bytesLess,h,this]
theorem lt_trans:∀ {a b c:List UInt8},ltS a b=true→ltS b c=true→ltS a c=true
  | _,_,[],_,h=>by simp [ltS,Op.bytesLess] at h
  | _,[],_::_,h,_=>by simp [ltS,Op.bytesLess] at h
  | [],_::_,_::_,_,_=>by simp [ltS,Op.bytesLess]
  | a::x,b::y,c::z,h,k=>by
    have h1:=lt_cons.1 h
    have k1:=lt_cons.1 k
    clear h k
    rcases h1 with h | ⟨rfl,h⟩ <;> rcases k1 with k | ⟨rfl,k⟩
    · exact lt_cons.2 (.inl (Nat.lt_trans h k))
    · exact lt_cons.2 (.inl h)
    · exact lt_cons.2 (.inl k)
    · exact lt_cons.2 (.inr ⟨rfl,lt_trans h k⟩)
theorem lt_conn:∀ {a b:List UInt8},ltS a b=false→ltS b a=false→a=b
  | [],[],_,_=>rfl
  | [],_::_,h,_=>by simp [ltS,Op.bytesLess] at h
  | _::_,[],_,h=>by simp [ltS,Op.bytesLess] at h
  | a::x,b::y,h,k=>by
    have h1:¬ (a<b∨a=b∧ltS x y=true):=fun q=>by rw [lt_cons.2 q] at h;cases h
    have k1:¬ (b<a∨b=a∧ltS y x=true):=fun q=>by rw [lt_cons.2 q] at k;cases k
    rcases u8_tri a b with q | q | q
    · exact absurd (.inl q) h1
    · subst q
      rw [lt_conn (a:=x) (b:=y) (by cases e:ltS x y <;> simp_all) (by cases e:ltS y x <;> simp_all)]
    · exact absurd (.inl q) k1
theorem lt_asym {a b:List UInt8} (h:ltS a b=true):ltS b a=false:=by
  cases k:ltS b a
  · rfl
  · have:=lt_trans h k;rw [lt_irr] at this;cases this
/-! items and changes -/
structure It where
  name:List UInt8
  data:List UInt8
deriving DecidableEq
structure Cg where
  name:List UInt8
  data:List UInt8
  gone:Bool
deriving DecidableEq
instance:Inhabited It:=⟨⟨[],[]⟩⟩
instance:Inhabited Cg:=⟨⟨[],[],false⟩⟩
def okN (s:List UInt8):Prop:=1≤s.length∧s.length≤64
instance (s:List UInt8):Decidable (okN s):=inferInstanceAs (Decidable (_∧_))
/-- the i-th name is permitted, and greater than the one before it -/
def nameAt (l:List (List UInt8)) (i:Nat):Prop:=okN (l.getD i [])∧(0<i→ltS (l.getD (i - 1) []) (l.getD i [])=true)
instance (l:List (List UInt8)) (i:Nat):Decidable (nameAt l i):=inferInstanceAs (Decidable (_∧_))
def named (l:List (List UInt8)):Prop:=∀ i,i<l.length→nameAt l i
instance (l:List (List UInt8)):Decidable (named l):=inferInstanceAs (Decidable (∀ i,i<l.length→nameAt l i))
/-- strictly increasing -/
def Srt (l:List (List UInt8)):Prop:=l.Pairwise fun a b=>ltS a b=true
theorem Srt.cons {a:List UInt8} {l:List (List UInt8)}:Srt (a::l)↔(∀ b∈l,ltS a b=true)∧Srt l:=List.pairwise_cons
theorem named_srt {l:List (List UInt8)} (h:named l):Srt l:=by
  rw [Srt,List.pairwise_iff_getElem]
  have key:∀ d i,i+d+1<l.length→ltS (l.getD i []) (l.getD (i+d+1) [])=true:=by
    intro d
    induction d with
    | zero=>intro i hi;have:=(h (i+1) hi).2 (by omega);simpa using this
    | succ d ih=>intro i hi;have h1:=ih i (by omega);have h2:=(h (i+(d+1)+1) hi).2 (by omega);exact lt_trans h1 (by simpa [Nat.add_assoc] using h2)
  intro i j hi hj hij
  have:=key (j - i - 1) i (by omega)
  rw [show i+(j - i - 1)+1=j by omega,List.getD_eq_getElem?_getD,List.getD_eq_getElem?_getD,List.getElem?_eq_getElem hi,List.getElem?_eq_getElem hj] at this
  exact this
theorem named_of {l:List (List UInt8)} (h:Srt l) (ho:∀ s∈l,okN s):named l:=by
  intro i hi
  rw [Srt,List.pairwise_iff_getElem] at h
  refine ⟨?_,fun h0=>?_⟩
  · rw [List.getD_eq_getElem?_getD,List.getElem?_eq_getElem hi];exact ho _ (List.getElem_mem hi)
  · rw [List.getD_eq_getElem?_getD,List.getD_eq_getElem?_getD,List.getElem?_eq_getElem hi,List.getElem?_eq_getElem (show i - 1<l.length by omega)]
    exact h (i - 1) i (by omega) hi (by omega)
theorem named_ok {l:List (List UInt8)} (h:named l):∀ s∈l,okN s:=by
  intro s hs
  obtain ⟨i,hi,rfl⟩:=List.getElem_of_mem hs
  have:=(h i hi).1
  rwa [List.getD_eq_getElem?_getD,List.getElem?_eq_getElem hi] at this
def itNames (l:List It):List (List UInt8):=l.map (·.name)
def cgNames (l:List Cg):List (List UInt8):=l.map (·.name)
def checkE (l:List It):Int:=if 65536<l.length then 2 else if named (itNames l) then 0 else 400
def fullC (c:Cg):Prop:=c.gone=true∧0<c.data.length
instance (c:Cg):Decidable (fullC c):=inferInstanceAs (Decidable (_∧_))
def validC (l:List Cg):Prop:=l.length≤65536∧named (cgNames l)∧∀ c∈l,¬ fullC c
instance (l:List Cg):Decidable (validC l):=inferInstanceAs (Decidable (_∧_∧∀ c∈l,¬ fullC c))

/-! two ordered lists, gone through at once -/
def mrg {α β:Type} (na:α→List UInt8) (nb:β→List UInt8):List α→List β→List (Option α × Option β)
  | [],[]=>[]
  | x::a,[]=>(some x,none)::mrg na nb a []
  | [],y::b=>(none,some y)::mrg na nb [] b
  | x::a,y::b=>if ltS (na x) (nb y) then (some x,none)::mrg na nb a (y::b) else if ltS (nb y) (na x) then (none,some y)::mrg na nb (x::a) b else (some x,some y)::mrg na nb a b
termination_by a b=>a.length+b.length
/-- what a step of Diff appends -/
def dstep:Option It × Option It→List Cg
  | (some x,none)=>[⟨x.name,[],true⟩]
  | (none,some y)=>[⟨y.name,y.data,false⟩]
  | (some x,some y)=>if x.data=y.data then [] else [⟨y.name,y.data,false⟩]
  | (none,none)=>[]
/-- what a step of Apply appends -/
def astep:Option It × Option Cg→List It
  | (some x,none)=>[x]
  | (_,some y)=>if y.gone then [] else [⟨y.name,y.data⟩]
  | (none,none)=>[]
/-- and whether it is in order -/
def aok:Option It × Option Cg→Bool
  | (some x,some y)=>y.gone||!decide (x.data=y.data)
  | (none,some y)=>!y.gone
  | (_,none)=>true
def diffL (a b:List It):List Cg:=(mrg It.name It.name a b).flatMap dstep
def appL (a:List It) (l:List Cg):List It:=((mrg It.name Cg.name a l).flatMap fun p=>if aok p then astep p else [])
def appOk (a:List It) (l:List Cg):Bool:=(mrg It.name Cg.name a l).all aok
theorem mrg_mem {α β:Type} {na:α→List UInt8} {nb:β→List UInt8} (a:List α) (b:List β):∀ p∈mrg na nb a b,(∀ x,p.1=some x→x∈a)∧(∀ y,p.2=some y→y∈b)∧(p.1=none→p.2≠none):=by
  fun_induction mrg na nb a b with
  | case1=>intro p hp;cases hp
  | case2 x a ih =>
    intro p hp
    rcases List.mem_cons.1 hp with rfl | hp
    · simp
    · have:=ih p hp;exact ⟨fun z hz=>List.mem_cons_of_mem _ (this.1 z hz),this.2⟩
  | case3 y b ih =>
    intro p hp
    rcases List.mem_cons.1 hp with rfl | hp
    · simp
    · have:=ih p hp;exact ⟨this.1,fun z hz=>List.mem_cons_of_mem _ (this.2.1 z hz),this.2.2⟩
  | case4 x a y b h ih =>
    intro p hp
    rcases List.mem_cons.1 hp with rfl | hp
    · simp
    · have:=ih p hp;exact ⟨fun z hz=>List.mem_cons_of_mem _ (this.1 z hz),this.2⟩
  | case5 x a y b h k ih =>
    intro p hp
    rcases List.mem_cons.1 hp with rfl | hp
    · simp
    · have:=ih p hp;exact ⟨this.1,fun z hz=>List.mem_cons_of_mem _ (this.2.1 z hz),this.2.2⟩
  | case6 x a y b h k ih =>
    intro p hp
    rcases List.mem_cons.1 hp with rfl | hp
    · simp
    · have:=ih p hp;exact ⟨fun z hz=>List.mem_cons_of_mem _ (this.1 z hz),fun z hz=>List.mem_cons_of_mem _ (this.2.1 z hz),this.2.2⟩
theorem mrg_len {α β:Type} {na:α→List UInt8} {nb:β→List UInt8} (a:List α) (b:List β):(mrg na nb a b).length≤a.length+b.length:=by
  fun_induction mrg na nb a b <;> simp_all <;> omega
theorem mrg_l0 {α β:Type} {na:α→List UInt8} {nb:β→List UInt8} {a:List α} {b:List β} {x:α} (hx:a[0]?=some x) (hb:b.length=0):mrg na nb a b=((a.take 1).head?,(b.take 0).head?)::mrg na nb (a.drop 1) (b.drop 0):=by
  obtain rfl:=List.eq_nil_of_length_eq_zero hb
  cases a with
  | nil=>simp at hx
  | cons y a=>rw [mrg];rfl
theorem mrg_0r {α β:Type} {na:α→List UInt8} {nb:β→List UInt8} {a:List α} {b:List β} {y:β} (hy:b[0]?=some y) (ha:a.length=0):mrg na nb a b=((a.take 0).head?,(b.take 1).head?)::mrg na nb (a.drop 0) (b.drop 1):=by
  obtain rfl:=List.eq_nil_of_length_eq_zero ha
  cases b with
  | nil=>simp at hy
  | cons y b=>rw [mrg];rfl
theorem mrg_lt {α β:Type} {na:α→List UInt8} {nb:β→List UInt8} {a:List α} {b:List β} {x:α} {y:β} (hx:a[0]?=some x) (hy:b[0]?=some y) (h:ltS (na x) (nb y)=true):mrg na nb a b=((a.take 1).head?,(b.take 0).head?)::mrg na nb (a.drop 1) (b.drop 0):=by
  cases a with
  | nil=>simp at hx
  | cons x' a=>cases b with
    | nil=>simp at hy
    | cons y' b=>simp at hx hy;subst hx;subst hy;rw [mrg,if_pos h];rfl
theorem mrg_gt {α β:Type} {na:α→List UInt8} {nb:β→List UInt8} {a:List α} {b:List β} {x:α} {y:β} (hx:a[0]?=some x) (hy:b[0]?=some y) (h:ltS (na x) (nb y)=false) (k:ltS (nb y) (na x)=true):mrg na nb a b=((a.take 0).head?,(b.take 1).head?)::mrg na nb (a.drop 0) (b.drop 1):=by
  cases a with
  | nil=>simp at hx
  | cons x' a=>cases b with
    | nil=>simp at hy
    | cons y' b=>simp at hx hy;subst hx;subst hy;rw [mrg,if_neg (by rw [h];decide),if_pos k];rfl
theorem mrg_eq {α β:Type} {na:α→List UInt8} {nb:β→List UInt8} {a:List α} {b:List β} {x:α} {y:β} (hx:a[0]?=some x) (hy:b[0]?=some y) (h:ltS (na x) (nb y)=false) (k:ltS (nb y) (na x)=false):mrg na nb a b=((a.take 1).head?,(b.take 1).head?)::mrg na nb (a.drop 1) (b.drop 1):=by
  cases a with
  | nil=>simp at hx
  | cons x' a=>cases b with
    | nil=>simp at hy
    | cons y' b=>simp at hx hy;subst hx;subst hy;rw [mrg,if_neg (by rw [h];decide),if_neg (by rw [k];decide)];rfl
theorem mrg_nil {α β:Type} {na:α→List UInt8} {nb:β→List UInt8} {a:List α} {b:List β} (ha:a.length=0) (hb:b.length=0):mrg na nb a b=[]:=by
  obtain rfl:=List.eq_nil_of_length_eq_zero ha
  obtain rfl:=List.eq_nil_of_length_eq_zero hb
  rw [mrg]
theorem mrg_room {γ:Type} {ps M m m':List γ} {p:γ} {N:Nat} (h:ps++m=M) (e:m=p::m') (hN:M.length≤N):ps.length<N:=by
  have:=congrArg List.length h
  rw [e,List.length_append,List.length_cons] at this
  omega
theorem dstep_len (p:Option It × Option It):(dstep p).length≤1:=by
  rcases p with ⟨_ | x,_ | y⟩ <;> simp [dstep]
  split <;> simp
theorem astep_len (p:Option It × Option Cg):(if aok p then astep p else []).length≤1:=by
  split
  · rcases p with ⟨_ | x,_ | y⟩ <;> simp [astep] <;> split <;> simp
  · simp
theorem flat_len {α β:Type} {f:α→List β} (h:∀ x,(f x).length≤1):∀ l:List α,(l.flatMap f).length≤l.length
  | []=>by simp
  | x::l=>by have h1:=flat_len h l;have h2:=h x;rw [List.flatMap_cons,List.length_append,List.length_cons];omega
theorem diff_len (a b:List It):(diffL a b).length≤a.length+b.length:=Nat.le_trans (flat_len dstep_len _) (mrg_len a b)
/-- each change of a difference is the name of an item that there was, or an item that there is -/
theorem diff_mem {a b:List It} {c:Cg} (h:c∈diffL a b):(∃ x∈a,c=⟨x.name,[],true⟩)∨∃ y∈b,c=⟨y.name,y.data,false⟩:=by
  obtain ⟨p,hp,hc⟩:=List.mem_flatMap.1 h
  obtain ⟨h1,h2,-⟩:=mrg_mem a b p hp
  rcases p with ⟨_ | x,_ | y⟩ <;> simp [dstep] at hc
  · exact .inr ⟨y,h2 y rfl,hc⟩
  · exact .inl ⟨x,h1 x rfl,hc⟩
  · exact .inr ⟨y,h2 y rfl,hc.2⟩
theorem diff_full {a b:List It}:∀ c∈diffL a b,¬ fullC c:=by
  intro c hc ⟨hg,hd⟩
  rcases diff_mem hc with ⟨x,-,rfl⟩ | ⟨y,-,rfl⟩
  · simp at hd
  · cases hg
theorem diffL_cons {a b:List It}:diffL a b=(match a,b with
  | [],[]=>[]
  | x::a',[]=>⟨x.name,[],true⟩::diffL a' []
  | [],y::b'=>⟨y.name,y.data,false⟩::diffL [] b'
  | x::a',y::b'=>if ltS x.name y.name then ⟨x.name,[],true⟩::diffL a' (y::b') else if ltS y.name x.name then ⟨y.name,y.data,false⟩::diffL (x::a') b' else if x.data=y.data then diffL a' b' else ⟨y.name,y.data,false⟩::diffL a' b'):=by
  unfold diffL
  split
  · simp [mrg]
  · simp [mrg,dstep]
  · simp [mrg,dstep]
  · rw [mrg]
    split
    · simp [dstep]
    · split
      · simp [dstep]
      · split <;> simp_all [dstep]
theorem it_srt {x:It} {l:List It}:Srt (itNames (x::l))↔(∀ b∈l,ltS x.name b.name=true)∧Srt (itNames l):=by
  rw [itNames,List.map_cons,Srt.cons];simp [itNames]
theorem cg_srt {x:Cg} {l:List Cg}:Srt (cgNames (x::l))↔(∀ b∈l,ltS x.name b.name=true)∧Srt (cgNames l):=by
  rw [cgNames,List.map_cons,Srt.cons];simp [cgNames]
theorem diff_above {s:List UInt8} {a b:List It} (ha:∀ x∈a,ltS s x.name=true) (hb:∀ x∈b,ltS s x.name=true):∀ c∈diffL a b,ltS s c.name=true:=by
  intro c hc
  rcases diff_mem hc with ⟨x,hx,rfl⟩ | ⟨y,hy,rfl⟩
  · exact ha x hx
  · exact hb y hy
/-- a difference is ordered -/
theorem diff_srt:∀ (n:Nat) (a b:List It),a.length+b.length≤n→Srt (itNames a)→Srt (itNames b)→Srt (cgNames (diffL a b))
  | 0,a,b,hn,_,_=>by
    obtain rfl:a=[]:=List.eq_nil_of_length_eq_zero (by omega)
    obtain rfl:b=[]:=List.eq_nil_of_length_eq_zero (by omega)
    rw [diffL_cons];exact List.Pairwise.nil
  | n+1,a,b,hn,ha,hb=>by
    rw [diffL_cons]
    split
    · exact List.Pairwise.nil
    · rename_i x a'
      obtain ⟨h1,h2⟩:=it_srt.1 ha
      exact cg_srt.2 ⟨diff_above h1 (fun _ h=>absurd h (by simp)),diff_srt n a' [] (by simp at hn ⊢;omega) h2 hb⟩
    · rename_i y b'
      obtain ⟨h1,h2⟩:=it_srt.1 hb
      exact cg_srt.2 ⟨diff_above (fun _ h=>absurd h (by simp)) h1,diff_srt n [] b' (by simp at hn ⊢;omega) ha h2⟩
    · rename_i x a' y b'
      obtain ⟨h1,h2⟩:=it_srt.1 ha
      obtain ⟨h3,h4⟩:=it_srt.1 hb
      simp only [List.length_cons] at hn
      split
      · rename_i h
        refine cg_srt.2 ⟨diff_above h1 (fun z hz=>?_),diff_srt n a' (y::b') (by simp;omega) h2 hb⟩
        rcases List.mem_cons.1 hz with rfl | hz
        · exact h
        · exact lt_trans h (h3 z hz)
      · split
        · rename_i h
          refine cg_srt.2 ⟨diff_above (fun z hz=>?_) h3,diff_srt n (x::a') b' (by simp;omega) ha h4⟩
          rcases List.mem_cons.1 hz with rfl | hz
          · exact h
          · exact lt_trans h (h1 z hz)
        · rename_i k1 k2
          have e:x.name=y.name:=lt_conn (by simpa using k1) (by simpa using k2)
          split
          · exact diff_srt n a' b' (by omega) h2 h4
          · exact cg_srt.2 ⟨diff_above (fun z hz=>by rw [← e];exact h1 z hz) h3,diff_srt n a' b' (by omega) h2 h4⟩
/-- the difference of two good lists is valid -/
theorem diff_valid {a b:List It} (ha:named (itNames a)) (hb:named (itNames b)) (hl:a.length+b.length≤65536):validC (diffL a b):=by
  refine ⟨Nat.le_trans (diff_len a b) hl,named_of (diff_srt _ a b (Nat.le_refl _) (named_srt ha) (named_srt hb)) fun s hs=>?_,diff_full⟩
  obtain ⟨c,hc,rfl⟩:=List.mem_map.1 hs
  rcases diff_mem hc with ⟨x,hx,rfl⟩ | ⟨y,hy,rfl⟩
  · exact named_ok ha _ (List.mem_map.2 ⟨x,hx,rfl⟩)
  · exact named_ok hb _ (List.mem_map.2 ⟨y,hy,rfl⟩)
theorem app_cons {a:List It} {l:List Cg}:appL a l=(match a,l with
  | [],[]=>[]
  | x::a',[]=>x::appL a' []
  | [],y::l'=>(if y.gone then [] else [⟨y.name,y.data⟩])++appL [] l'
  | x::a',y::l'=>if ltS x.name y.name then x::appL a' (y::l') else if ltS y.name x.name then (if y.gone then [] else [⟨y.name,y.data⟩])++appL (x::a') l' else (if y.gone||decide (x.data=y.data) then [] else [⟨y.name,y.data⟩])++appL a' l')
  ∧ appOk a l=(match a,l with
  | [],[]=>true
  | _::a',[]=>appOk a' []
  | [],y::l'=>!y.gone&&appOk [] l'
  | x::a',y::l'=>if ltS x.name y.name then appOk a' (y::l') else if ltS y.name x.name then !y.gone&&appOk (x::a') l' else (y.gone||!decide (x.data=y.data))&&appOk a' l'):=by
  unfold appL appOk
  split
  · simp [mrg]
  · simp [mrg,astep,aok]
  · rename_i y l';cases hg:y.gone <;> simp [mrg,astep,aok,hg]
  · rename_i x a' y l'
    rw [mrg]
    split
    · simp [astep,aok]
    · split
      · cases hg:y.gone <;> simp [astep,aok,hg]
      · cases hg:y.gone <;> by_cases hd:x.data=y.data <;> simp [astep,aok,hg,hd]
/-- a difference applies, and leads to the other list -/
theorem app_diff:∀ (n:Nat) (a b:List It),a.length+b.length≤n→Srt (itNames a)→Srt (itNames b)→appL a (diffL a b)=b∧appOk a (diffL a b)=true
  | 0,a,b,hn,_,_=>by
    obtain rfl:a=[]:=List.eq_nil_of_length_eq_zero (by omega)
    obtain rfl:b=[]:=List.eq_nil_of_length_eq_zero (by omega)
    rw [diffL_cons];simp [appL,appOk,mrg]
  | n+1,a,b,hn,ha,hb=>by
    rw [diffL_cons]
    have same:∀ (x:It) (a' b':List It),(∀ z∈a',ltS x.name z.name=true)→(∀ z∈b',ltS x.name z.name=true)→appL a' (diffL a' b')=b'→appOk a' (diffL a' b')=true→appL (x::a') (diffL a' b')=x::b'∧appOk (x::a') (diffL a' b')=true:=by
      intro x a' b' h1 h2 h3 h4
      have h5:=diff_above h1 h2
      cases hd:diffL a' b' with
      | nil=>rw [hd] at h3 h4;rw [app_cons.1,app_cons.2];exact ⟨by simp only [h3],h4⟩
      | cons c l =>
        rw [hd] at h3 h4 h5
        have h6:=h5 c (List.mem_cons_self ..)
        rw [app_cons.1,app_cons.2]
        simp only [h6,if_true,h3,h4];simp
    split
    · simp [appL,appOk,mrg]
    · rename_i x a'
      obtain ⟨h1,h2⟩:=it_srt.1 ha
      have ih:=app_diff n a' [] (by simp at hn ⊢;omega) h2 hb
      rw [app_cons.1,app_cons.2]
      simp [lt_irr,ih.1,ih.2]
    · rename_i y b'
      obtain ⟨h1,h2⟩:=it_srt.1 hb
      have ih:=app_diff n [] b' (by simp at hn ⊢;omega) ha h2
      rw [app_cons.1,app_cons.2]
      simp [ih.1,ih.2]
    · rename_i x a' y b'
      obtain ⟨h1,h2⟩:=it_srt.1 ha
      obtain ⟨h3,h4⟩:=it_srt.1 hb
      simp only [List.length_cons] at hn
      split
      · rename_i h
        have ih:=app_diff n a' (y::b') (by simp;omega) h2 hb
        rw [app_cons.1,app_cons.2]
        simp [lt_irr,ih.1,ih.2]
      · split
        · rename_i h0 h
          have ih:=app_diff n (x::a') b' (by simp;omega) ha h4
          rw [app_cons.1,app_cons.2]
          have h0':ltS x.name y.name=false:=by simpa using h0
          simp only [h0',h]
          simp [ih.1,ih.2]
        · rename_i k1 k2
          have e:x.name=y.name:=lt_conn (by simpa using k1) (by simpa using k2)
          have ih:=app_diff n a' b' (by omega) h2 h4
          split
          · rename_i hd
            have:=same x a' b' h1 (fun z hz=>by rw [e];exact h3 z hz) ih.1 ih.2
            have exy:x=y:=by cases x;cases y;simp_all
            rw [this.1,this.2,exy];exact ⟨rfl,rfl⟩
          · rename_i hd
            rw [app_cons.1,app_cons.2]
            have e1:ltS x.name y.name=false:=by rw [e];exact lt_irr _
            have e2:ltS y.name x.name=false:=by rw [e];exact lt_irr _
            simp only [e1,e2]
            simp [ih.1,ih.2,hd]

end Go.Proofs.YtihgmaoghbnnaaaDoor

namespace Go.Proofs.YtihgmaoghbnnaaaDoor

/-! BLAKE2s, plain. -/
def iv:List UInt32:=[0x6a09e667,0xbb67ae85,0x3c6ef372,0xa54ff53a,0x510e527f,0x9b05688c,0x1f83d9ab,0x5be0cd19]
def perms:List (List Nat):=[
  [0,1,2,3,4,5,6,7,8,9,10,11,12,13,14,15],
  [14,10,4,8,9,15,13,6,1,12,0,2,11,7,5,3],
  [11,8,12,0,5,2,15,13,10,14,3,6,7,1,9,4],
  [7,9,3,1,13,12,11,14,2,6,5,10,4,0,15,8],
  [9,0,5,7,2,4,10,15,14,1,11,12,6,8,3,13],
  [2,12,6,10,0,11,8,3,4,13,7,5,15,14,1,9],
  [12,5,1,15,14,13,4,10,0,7,6,3,9,2,8,11],
  [13,11,7,14,12,1,3,9,5,0,15,4,8,6,2,10],
  [6,15,14,9,11,3,0,8,12,2,13,7,1,4,10,5],
  [10,2,8,4,7,6,1,5,15,11,9,14,3,12,13,0]]
/-- rotation to the right -/
def ror (v:UInt32) (n:Nat):UInt32:=v >>> UInt32.ofNat n ||| v <<< UInt32.ofNat (32 - n)
structure Four where (a b c d:UInt32)
def mix4 (a b c d x y:UInt32):Four :=
  let a:=a+b+x
  let d:=ror (d^^^a) 16
  let c:=c+d
  let b:=ror (b^^^c) 12
  let a:=a+b+y
  let d:=ror (d^^^a) 8
  let c:=c+d
  let b:=ror (b^^^c) 7
  ⟨a,b,c,d⟩
def put4 (v:List UInt32) (i j k l:Nat) (r:Four):List UInt32:=(((v.set i r.a).set j r.b).set k r.c).set l r.d
def at_ (v:List UInt32) (i:Nat):UInt32:=v.getD i 0
def mixv (v:List UInt32) (i j k l:Nat) (x y:UInt32):List UInt32:=put4 v i j k l (mix4 (at_ v i) (at_ v j) (at_ v k) (at_ v l) x y)
/-- the i-th of the eight mixings of a round -/
def mixAt (m:List UInt32) (s:List Nat) (v:List UInt32) (i:Nat):List UInt32 :=
  let x:=at_ m (s.getD (2*i) 0)
  let y:=at_ m (s.getD (2*i+1) 0)
  if i<4 then mixv v i (4+i) (8+i) (12+i) x y
  else let j:=i % 4;mixv v j (4+(j+1) % 4) (8+(j+2) % 4) (12+(j+3) % 4) x y
def round (m:List UInt32) (v:List UInt32) (s:List Nat):List UInt32:=(List.range 8).foldl (mixAt m s) v
def word (b:List UInt8) (m:List UInt32) (i:Nat):List UInt32:=m.set (i / 4) (at_ m (i / 4) ||| (b.getD i 0).toUInt32 <<< UInt32.ofNat (8*(i % 4)))
def words (b:List UInt8):List UInt32:=(List.range b.length).foldl (word b) (List.replicate 16 0)
def begin_ (h:List UInt32) (n:UInt64) (last:Bool):List UInt32 :=
  let v:=h++iv
  let v:=v.set 12 (at_ v 12^^^n.toUInt32)
  let v:=v.set 13 (at_ v 13^^^(n >>> 32).toUInt32)
  if last then v.set 14 (~~~ (at_ v 14)) else v
def close_ (v:List UInt32) (h:List UInt32) (i:Nat):List UInt32:=h.set i (at_ h i^^^at_ v i^^^at_ v (8+i))
def absorb (h:List UInt32) (b:List UInt8) (n:UInt64) (last:Bool):List UInt32 :=
  let v:=perms.foldl (round (words b)) (begin_ h n last)
  (List.range 8).foldl (close_ v) h
def first:List UInt32:=iv.set 0 (0x6a09e667^^^0x01010020)
def outByte (h:List UInt32) (i:Nat):UInt8:=(at_ h (i / 4) >>> UInt32.ofNat (8*(i % 4))).toUInt8
def out (h:List UInt32):List UInt8:=(List.range 32).map (outByte h)
def feed (h:List UInt32) (n:Nat) (b:List UInt8):List UInt32 :=
  if b.length≤64 then absorb h b (UInt64.ofNat (n+b.length)) true
  else feed (absorb h (b.take 64) (UInt64.ofNat (n+64)) false) (n+64) (b.drop 64)
termination_by b.length
decreasing_by simp;omega
def bsum (b:List UInt8):List UInt8:=out (feed first 0 b)

end Go.Proofs.YtihgmaoghbnnaaaDoor

namespace Go.Proofs.YtihgmaoghbnnaaaDoor
open Go.RowKit

variable {S S':Nat→Prop}

set_option maxRecDepth 100000 in
set_option maxHeartbeats 1000000 in
theorem rot16_any (x:UInt32) (w:World) :
  Calls Tryd.prog 90 #[.int .u32 (x.toNat:Nat),.int .i64 (-16)] w (fun e w'=>e=.returned (.int .u32 ((ror x 16).toNat:Nat))∧Ext w w'):=by
 refine calls_enter Tryd.func90 rfl rfl rfl fun _ hF=>?_
 refine wr fun K1 hK1=>?_
 refine hF.xv (.int .u32 0)<|fun _ F3=>?_;clear hF
 refine wpList_nil (hK1 _ _ ?_);clear hK1
 refine wr fun K4 hK4=>?_
 refine F3.xm rfl<|Xw (.int .u64 18446744073709551600) (fun F=>rn_convW Tryd.underlying3 Tryd.underlying95 (F.get rfl) (by decide +kernel:IntKind.wrap .u64 (-16)=18446744073709551600))<|Xw (.int .u64 16) (fun F=>rn_bin (v:=.int .u64 16) (F.get rfl) rfl guard_int (by kernel_rfl))<|Xa rfl<|fun _ F12=>?_;clear F3
 refine wpList_nil (hK4 _ _ ?_);clear hK4
 refine wr fun K13 hK13=>?_
 refine F12.xm rfl<|Xm rfl<|Xw (.int .u32 ((x <<< UInt32.ofNat 16).toNat:Nat)) (fun F=>rn_shl32 (a:=x) (n:=16) (F.get rfl) (F.get rfl) (by omega))<|Xm rfl<|Xm rfl<|Xw (.int .u64 16) (fun F=>rn_bin (v:=.int .u64 16) rfl (F.get rfl) guard_int (by kernel_rfl))<|Xw (.int .u32 ((x >>> UInt32.ofNat 16).toNat:Nat)) (fun F=>rn_shr32 (a:=x) (n:=16) (F.get rfl) (F.get rfl) (by omega))<|Xw (.int .u32 (((x <<< UInt32.ofNat 16) ||| (x >>> UInt32.ofNat 16)).toNat:Nat)) (fun F=>rn_or32 (a:=(x <<< UInt32.ofNat 16)) (b:=(x >>> UInt32.ofNat 16)) (F.get rfl) (F.get rfl))<|Xa rfl<|fun _ F31=>?_;clear F12
 refine wpList_nil (hK13 _ _ ?_);clear hK13
 have F32:=F31.k [0,1,4,5];clear F31
 refine wp_ret ?_
 refine ret1 F32 rfl rfl ?_
 exact ⟨congrArg (fun (z:UInt32)=>Ending.returned (.int .u32 (z.toNat:Nat))) (UInt32.or_comm _ _),Ext.refl _⟩

set_option maxRecDepth 100000 in
set_option maxHeartbeats 1000000 in
theorem rot12_any (x:UInt32) (w:World) :
  Calls Tryd.prog 90 #[.int .u32 (x.toNat:Nat),.int .i64 (-12)] w (fun e w'=>e=.returned (.int .u32 ((ror x 12).toNat:Nat))∧Ext w w'):=by
 refine calls_enter Tryd.func90 rfl rfl rfl fun _ hF=>?_
 refine wr fun K1 hK1=>?_
 refine hF.xv (.int .u32 0)<|fun _ F3=>?_;clear hF
 refine wpList_nil (hK1 _ _ ?_);clear hK1
 refine wr fun K4 hK4=>?_
 refine F3.xm rfl<|Xw (.int .u64 18446744073709551604) (fun F=>rn_convW Tryd.underlying3 Tryd.underlying95 (F.get rfl) (by decide +kernel:IntKind.wrap .u64 (-12)=18446744073709551604))<|Xw (.int .u64 20) (fun F=>rn_bin (v:=.int .u64 20) (F.get rfl) rfl guard_int (by kernel_rfl))<|Xa rfl<|fun _ F12=>?_;clear F3
 refine wpList_nil (hK4 _ _ ?_);clear hK4
 refine wr fun K13 hK13=>?_
 refine F12.xm rfl<|Xm rfl<|Xw (.int .u32 ((x <<< UInt32.ofNat 20).toNat:Nat)) (fun F=>rn_shl32 (a:=x) (n:=20) (F.get rfl) (F.get rfl) (by omega))<|Xm rfl<|Xm rfl<|Xw (.int .u64 12) (fun F=>rn_bin (v:=.int .u64 12) rfl (F.get rfl) guard_int (by kernel_rfl))<|Xw (.int .u32 ((x >>> UInt32.ofNat 12).toNat:Nat)) (fun F=>rn_shr32 (a:=x) (n:=12) (F.get rfl) (F.get rfl) (by omega))<|Xw (.int .u32 (((x <<< UInt32.ofNat 20) ||| (x >>> UInt32.ofNat 12)).toNat:Nat)) (fun F=>rn_or32 (a:=(x <<< UInt32.ofNat 20)) (b:=(x >>> UInt32.ofNat 12)) (F.get rfl) (F.get rfl))<|Xa rfl<|fun _ F31=>?_;clear F12
 refine wpList_nil (hK13 _ _ ?_);clear hK13
 have F32:=F31.k [0,1,4,5];clear F31
 refine wp_ret ?_
 refine ret1 F32 rfl rfl ?_
 exact ⟨congrArg (fun (z:UInt32)=>Ending.returned (.int .u32 (z.toNat:Nat))) (UInt32.or_comm _ _),Ext.refl _⟩

set_option maxRecDepth 100000 in
set_option maxHeartbeats 1000000 in
theorem rot8_any (x:UInt32) (w:World) :
  Calls Tryd.prog 90 #[.int .u32 (x.toNat:Nat),.int .i64 (-8)] w (fun e w'=>e=.returned (.int .u32 ((ror x 8).toNat:Nat))∧Ext w w'):=by
 refine calls_enter Tryd.func90 rfl rfl rfl fun _ hF=>?_
 refine wr fun K1 hK1=>?_
 refine hF.xv (.int .u32 0)<|fun _ F3=>?_;clear hF
 refine wpList_nil (hK1 _ _ ?_);clear hK1
 refine wr fun K4 hK4=>?_
 refine F3.xm rfl<|Xw (.int .u64 18446744073709551608) (fun F=>rn_convW Tryd.underlying3 Tryd.underlying95 (F.get rfl) (by decide +kernel:IntKind.wrap .u64 (-8)=18446744073709551608))<|Xw (.int .u64 24) (fun F=>rn_bin (v:=.int .u64 24) (F.get rfl) rfl guard_int (by kernel_rfl))<|Xa rfl<|fun _ F12=>?_;clear F3
 refine wpList_nil (hK4 _ _ ?_);clear hK4
 refine wr fun K13 hK13=>?_
 refine F12.xm rfl<|Xm rfl<|Xw (.int .u32 ((x <<< UInt32.ofNat 24).toNat:Nat)) (fun F=>rn_shl32 (a:=x) (n:=24) (F.get rfl) (F.get rfl) (by omega))<|Xm rfl<|Xm rfl<|Xw (.int .u64 8) (fun F=>rn_bin (v:=.int .u64 8) rfl (F.get rfl) guard_int (by kernel_rfl))<|Xw (.int .u32 ((x >>> UInt32.ofNat 8).toNat:Nat)) (fun F=>rn_shr32 (a:=x) (n:=8) (F.get rfl) (F.get rfl) (by omega))<|Xw (.int .u32 (((x <<< UInt32.ofNat 24) ||| (x >>> UInt32.ofNat 8)).toNat:Nat)) (fun F=>rn_or32 (a:=(x <<< UInt32.ofNat 24)) (b:=(x >>> UInt32.ofNat 8)) (F.get rfl) (F.get rfl))<|Xa rfl<|fun _ F31=>?_;clear F12
 refine wpList_nil (hK13 _ _ ?_);clear hK13
 have F32:=F31.k [0,1,4,5];clear F31
 refine wp_ret ?_
 refine ret1 F32 rfl rfl ?_
 exact ⟨congrArg (fun (z:UInt32)=>Ending.returned (.int .u32 (z.toNat:Nat))) (UInt32.or_comm _ _),Ext.refl _⟩

set_option maxRecDepth 100000 in
set_option maxHeartbeats 1000000 in
theorem rot7_any (x:UInt32) (w:World) :
  Calls Tryd.prog 90 #[.int .u32 (x.toNat:Nat),.int .i64 (-7)] w (fun e w'=>e=.returned (.int .u32 ((ror x 7).toNat:Nat))∧Ext w w'):=by
 refine calls_enter Tryd.func90 rfl rfl rfl fun _ hF=>?_
 refine wr fun K1 hK1=>?_
 refine hF.xv (.int .u32 0)<|fun _ F3=>?_;clear hF
 refine wpList_nil (hK1 _ _ ?_);clear hK1
 refine wr fun K4 hK4=>?_
 refine F3.xm rfl<|Xw (.int .u64 18446744073709551609) (fun F=>rn_convW Tryd.underlying3 Tryd.underlying95 (F.get rfl) (by decide +kernel:IntKind.wrap .u64 (-7)=18446744073709551609))<|Xw (.int .u64 25) (fun F=>rn_bin (v:=.int .u64 25) (F.get rfl) rfl guard_int (by kernel_rfl))<|Xa rfl<|fun _ F12=>?_;clear F3
 refine wpList_nil (hK4 _ _ ?_);clear hK4
 refine wr fun K13 hK13=>?_
 refine F12.xm rfl<|Xm rfl<|Xw (.int .u32 ((x <<< UInt32.ofNat 25).toNat:Nat)) (fun F=>rn_shl32 (a:=x) (n:=25) (F.get rfl) (F.get rfl) (by omega))<|Xm rfl<|Xm rfl<|Xw (.int .u64 7) (fun F=>rn_bin (v:=.int .u64 7) rfl (F.get rfl) guard_int (by kernel_rfl))<|Xw (.int .u32 ((x >>> UInt32.ofNat 7).toNat:Nat)) (fun F=>rn_shr32 (a:=x) (n:=7) (F.get rfl) (F.get rfl) (by omega))<|Xw (.int .u32 (((x <<< UInt32.ofNat 25) ||| (x >>> UInt32.ofNat 7)).toNat:Nat)) (fun F=>rn_or32 (a:=(x <<< UInt32.ofNat 25)) (b:=(x >>> UInt32.ofNat 7)) (F.get rfl) (F.get rfl))<|Xa rfl<|fun _ F31=>?_;clear F12
 refine wpList_nil (hK13 _ _ ?_);clear hK13
 have F32:=F31.k [0,1,4,5];clear F31
 refine wp_ret ?_
 refine ret1 F32 rfl rfl ?_
 exact ⟨congrArg (fun (z:UInt32)=>Ending.returned (.int .u32 (z.toNat:Nat))) (UInt32.or_comm _ _),Ext.refl _⟩

end Go.Proofs.YtihgmaoghbnnaaaDoor

namespace Go.Proofs.YtihgmaoghbnnaaaDoor
open Go.RowKit

variable {S S':Nat→Prop}

def mixSeq (v:List UInt32) (a b c d:Nat) (x y:UInt32):List UInt32 :=
 let v1:=v.set a (v.getD a 0+(v.getD b 0+x))
 let v2:=v1.set d (ror (v1.getD d 0^^^v1.getD a 0) 16)
 let v3:=v2.set c (v2.getD c 0+v2.getD d 0)
 let v4:=v3.set b (ror (v3.getD b 0^^^v3.getD c 0) 12)
 let v5:=v4.set a (v4.getD a 0+(v4.getD b 0+y))
 let v6:=v5.set d (ror (v5.getD d 0^^^v5.getD a 0) 8)
 let v7:=v6.set c (v6.getD c 0+v6.getD d 0)
 v7.set b (ror (v7.getD b 0^^^v7.getD c 0) 7)
theorem mix_chain {v v1 v2 v3 v4 v5 v6 v7 v8:List UInt32} {a b c d:Nat} {x y:UInt32} (e1:v1=v.set a (v.getD a 0+(v.getD b 0+x))) (e2:v2=v1.set d (ror (v1.getD d 0^^^v1.getD a 0) 16)) (e3:v3=v2.set c (v2.getD c 0+v2.getD d 0)) (e4:v4=v3.set b (ror (v3.getD b 0^^^v3.getD c 0) 12))
  (e5:v5=v4.set a (v4.getD a 0+(v4.getD b 0+y))) (e6:v6=v5.set d (ror (v5.getD d 0^^^v5.getD a 0) 8)) (e7:v7=v6.set c (v6.getD c 0+v6.getD d 0)) (e8:v8=v7.set b (ror (v7.getD b 0^^^v7.getD c 0) 7)):v8=mixSeq v a b c d x y:=by
 subst e1 e2 e3 e4 e5 e6 e7 e8;rfl

set_option maxRecDepth 100000 in
set_option maxHeartbeats 1000000 in
theorem mix_any (g:Nat) (v:List UInt32) (ia ib ic id_:Nat) (x y:UInt32) (w:World) (hb:Blk w g 147 (u32Vals v)) (h16:v.length=16) (ha:ia<16) (hb':ib<16) (hc:ic<16) (hd:id_<16) :
  Calls Tryd.prog 89 #[.pointer (some ⟨g,0,none⟩),.int .i64 (ia:Nat),.int .i64 (ib:Nat),.int .i64 (ic:Nat),.int .i64 (id_:Nat),.int .u32 (x.toNat:Nat),.int .u32 (y.toNat:Nat)] w (fun e w'=>e=.returned (.tuple #[])∧Blk w' g 147 (u32Vals (mixSeq v ia ib ic id_ x y))∧w.grownBy w' (some g)):=by
 refine calls_enter Tryd.func89 rfl rfl rfl fun _ hF=>?_
 refine wp_seq_k fun K1 hK1=>?_
 have hx3:∃ W,w.drew=W∧Ext w W:=⟨_,rfl,(Ext.refl _).drew⟩
 obtain ⟨w2,e4,hx3⟩:=hx3
 have z5:=hx3.size
 refine any_start (fun W=>Ext w2 W∧Blk W g 147 (u32Vals v)) (fun i=>i==15) 16 (.replicate 16 false) rfl rfl rfl ?_
 rw [e4];clear e4
 refine hF.ym 0 rfl<|Ym 1 rfl<|Yv 2 (vp g) rfl<|Yw 3 (.pointer (some ⟨g,0+ia,none⟩)) rfl (fun F W=>rn_indexArr Tryd.underlying147 inf140 (F.get rfl) (F.get rfl) (by omega:(0:Int)≤(ia:Nat)) (by omega:((ia:Nat):Int)<((16:Nat):Int)))<|fun _ F13=>?_;clear hF
 have b15:=(hb.ext hx3)
 have hS14:Ext w2 w2∧Blk w2 g 147 (u32Vals v):=⟨(Ext.refl w2),b15⟩
 refine F13.ys 4 (.int .u32 ((v.getD ia 0).toNat:Nat)) rfl hS14 (fun F W hW=>rl F rfl (blk_word hW.2 (by omega) (by have:=(show List.length v=_ from h16);omega)))<|Ym 5 rfl<|Ym 6 rfl<|Yv 7 (vp g) rfl<|Yw 8 (.pointer (some ⟨g,0+ib,none⟩)) rfl (fun F W=>rn_indexArr Tryd.underlying147 inf140 (F.get rfl) (F.get rfl) (by omega:(0:Int)≤(ib:Nat)) (by omega:((ib:Nat):Int)<((16:Nat):Int)))<|Ys 9 (.int .u32 ((v.getD ib 0).toNat:Nat)) rfl hS14 (fun F W hW=>rl F rfl (blk_word hW.2 (by omega) (by have:=(show List.length v=_ from h16);omega)))<|Ym 10 rfl<|Yw 11 (.int .u32 (((v.getD ib 0)+x).toNat:Nat)) rfl (fun F W=>rn_add32 (a:=(v.getD ib 0)) (b:=x) (F.get rfl) (F.get rfl))<|Yw 12 (.int .u32 (((v.getD ia 0)+((v.getD ib 0)+x)).toNat:Nat)) rfl (fun F W=>rn_add32 (a:=(v.getD ia 0)) (b:=((v.getD ib 0)+x)) (F.get rfl) (F.get rfl))<|Yv 13 (vp g) rfl<|Yw 14 (.pointer (some ⟨g,0+ia,none⟩)) rfl (fun F W=>rn_indexArr Tryd.underlying147 inf140 (F.get rfl) (F.get rfl) (by omega:(0:Int)≤(ia:Nat)) (by omega:((ia:Nat):Int)<((16:Nat):Int)))<|fun _ F37=>?_;clear F13
 refine ao 15 rfl ?_
 refine o_store1 (new:=(u32Vals (v.set ia ((v.getD ia 0)+((v.getD ib 0)+x))))) F37 rfl rfl rfl rfl (F37.get rfl) (F37.get rfl) b15 inf140 (by rw [u32Vals_len h16];omega) rfl (u32Vals_set (by omega)) ?_
 intro w38 b39 hg40;have z41:=hg40.size
 obtain ⟨v42,e43⟩:∃ z,z=v.set ia ((v.getD ia 0)+((v.getD ib 0)+x)):=⟨_,rfl⟩
 have hl44:v42.length=16:=by rw [e43,List.length_set];exact h16
 rw [← e43] at b39
 refine ⟨fun h=>absurd h (by decide),?_⟩
 refine nn (hK1 _ _ ?_);clear hK1
 have F45:=F37.k [0,1,2,3,4,5,6];clear F37
 refine wp_seq_k fun K46 hK46=>?_
 have hx48:∃ W,w38.drew=W∧Ext w38 W:=⟨_,rfl,(Ext.refl _).drew⟩
 obtain ⟨w47,e49,hx48⟩:=hx48
 have z50:=hx48.size
 refine any_start (fun W=>Ext w47 W∧Blk W g 147 (u32Vals v42)) (fun i=>i==16) 17 (.replicate 17 false) rfl rfl rfl ?_
 rw [e49];clear e49
 refine F45.ym 0 rfl<|Ym 1 rfl<|Ym 2 rfl<|Ym 3 rfl<|Yv 4 (vp g) rfl<|Yw 5 (.pointer (some ⟨g,0+id_,none⟩)) rfl (fun F W=>rn_indexArr Tryd.underlying147 inf140 (F.get rfl) (F.get rfl) (by omega:(0:Int)≤(id_:Nat)) (by omega:((id_:Nat):Int)<((16:Nat):Int)))<|fun _ F62=>?_;clear F45
 have b64:=(b39.ext hx48)
 have hS63:Ext w47 w47∧Blk w47 g 147 (u32Vals v42):=⟨(Ext.refl w47),b64⟩
 refine F62.ys 6 (.int .u32 ((v42.getD id_ 0).toNat:Nat)) rfl hS63 (fun F W hW=>rl F rfl (blk_word hW.2 (by omega) (by have:=(show List.length v42=_ from hl44);omega)))<|Ym 7 rfl<|Ym 8 rfl<|Yv 9 (vp g) rfl<|Yw 10 (.pointer (some ⟨g,0+ia,none⟩)) rfl (fun F W=>rn_indexArr Tryd.underlying147 inf140 (F.get rfl) (F.get rfl) (by omega:(0:Int)≤(ia:Nat)) (by omega:((ia:Nat):Int)<((16:Nat):Int)))<|Ys 11 (.int .u32 ((v42.getD ia 0).toNat:Nat)) rfl hS63 (fun F W hW=>rl F rfl (blk_word hW.2 (by omega) (by have:=(show List.length v42=_ from hl44);omega)))<|Yw 12 (.int .u32 (((v42.getD id_ 0)^^^(v42.getD ia 0)).toNat:Nat)) rfl (fun F W=>rn_xor32 (a:=(v42.getD id_ 0)) (b:=(v42.getD ia 0)) (F.get rfl) (F.get rfl))<|Yv 14 (vp g) rfl<|fun _ F80=>?_;clear F62
 refine ao 13 rfl ?_
 refine F80.oc (rot16_any ((v42.getD id_ 0)^^^(v42.getD ia 0)) _) ?_
 rintro _ w81 ⟨rfl,hx82⟩
 refine ⟨_,rfl,?_⟩;intro a83 F84;clear F80;have z85:=hx82.size
 have b86:=(b64.ext hx82)
 refine ⟨fun _ _=>⟨((Ext.refl w47).trans hx82),b86⟩,?_⟩
 refine F84.yw 15 (.pointer (some ⟨g,0+id_,none⟩)) rfl (fun F W=>rn_indexArr Tryd.underlying147 inf140 (F.get rfl) (F.get rfl) (by omega:(0:Int)≤(id_:Nat)) (by omega:((id_:Nat):Int)<((16:Nat):Int)))<|fun _ F88=>?_;clear F84
 refine ao 16 rfl ?_
 refine o_store1 (new:=(u32Vals (v42.set id_ (ror ((v42.getD id_ 0)^^^(v42.getD ia 0)) 16)))) F88 rfl rfl rfl rfl (F88.get rfl) (F88.get rfl) b86 inf140 (by rw [u32Vals_len hl44];omega) rfl (u32Vals_set (by omega)) ?_
 intro w89 b90 hg91;have z92:=hg91.size
 obtain ⟨v93,e94⟩:∃ z,z=v42.set id_ (ror ((v42.getD id_ 0)^^^(v42.getD ia 0)) 16):=⟨_,rfl⟩
 have hl95:v93.length=16:=by rw [e94,List.length_set];exact hl44
 rw [← e94] at b90
 refine ⟨fun h=>absurd h (by decide),?_⟩
 refine nn (hK46 _ _ ?_);clear hK46
 have F96:=F88.k [0,1,2,3,4,5,6];clear F88
 refine wp_seq_k fun K97 hK97=>?_
 have hx99:∃ W,w89.drew=W∧Ext w89 W:=⟨_,rfl,(Ext.refl _).drew⟩
 obtain ⟨w98,e100,hx99⟩:=hx99
 have z101:=hx99.size
 refine any_start (fun W=>Ext w98 W∧Blk W g 147 (u32Vals v93)) (fun i=>i==13) 14 (.replicate 14 false) rfl rfl rfl ?_
 rw [e100];clear e100
 refine F96.ym 0 rfl<|Ym 1 rfl<|Yv 2 (vp g) rfl<|Yw 3 (.pointer (some ⟨g,0+ic,none⟩)) rfl (fun F W=>rn_indexArr Tryd.underlying147 inf140 (F.get rfl) (F.get rfl) (by omega:(0:Int)≤(ic:Nat)) (by omega:((ic:Nat):Int)<((16:Nat):Int)))<|fun _ F109=>?_;clear F96
 have b111:=(b90.ext hx99)
 have hS110:Ext w98 w98∧Blk w98 g 147 (u32Vals v93):=⟨(Ext.refl w98),b111⟩
 refine F109.ys 4 (.int .u32 ((v93.getD ic 0).toNat:Nat)) rfl hS110 (fun F W hW=>rl F rfl (blk_word hW.2 (by omega) (by have:=(show List.length v93=_ from hl95);omega)))<|Ym 5 rfl<|Ym 6 rfl<|Yv 7 (vp g) rfl<|Yw 8 (.pointer (some ⟨g,0+id_,none⟩)) rfl (fun F W=>rn_indexArr Tryd.underlying147 inf140 (F.get rfl) (F.get rfl) (by omega:(0:Int)≤(id_:Nat)) (by omega:((id_:Nat):Int)<((16:Nat):Int)))<|Ys 9 (.int .u32 ((v93.getD id_ 0).toNat:Nat)) rfl hS110 (fun F W hW=>rl F rfl (blk_word hW.2 (by omega) (by have:=(show List.length v93=_ from hl95);omega)))<|Yw 10 (.int .u32 (((v93.getD ic 0)+(v93.getD id_ 0)).toNat:Nat)) rfl (fun F W=>rn_add32 (a:=(v93.getD ic 0)) (b:=(v93.getD id_ 0)) (F.get rfl) (F.get rfl))<|Yv 11 (vp g) rfl<|Yw 12 (.pointer (some ⟨g,0+ic,none⟩)) rfl (fun F W=>rn_indexArr Tryd.underlying147 inf140 (F.get rfl) (F.get rfl) (by omega:(0:Int)≤(ic:Nat)) (by omega:((ic:Nat):Int)<((16:Nat):Int)))<|fun _ F129=>?_;clear F109
 refine ao 13 rfl ?_
 refine o_store1 (new:=(u32Vals (v93.set ic ((v93.getD ic 0)+(v93.getD id_ 0))))) F129 rfl rfl rfl rfl (F129.get rfl) (F129.get rfl) b111 inf140 (by rw [u32Vals_len hl95];omega) rfl (u32Vals_set (by omega)) ?_
 intro w130 b131 hg132;have z133:=hg132.size
 obtain ⟨v134,e135⟩:∃ z,z=v93.set ic ((v93.getD ic 0)+(v93.getD id_ 0)):=⟨_,rfl⟩
 have hl136:v134.length=16:=by rw [e135,List.length_set];exact hl95
 rw [← e135] at b131
 refine ⟨fun h=>absurd h (by decide),?_⟩
 refine nn (hK97 _ _ ?_);clear hK97
 have F137:=F129.k [0,1,2,3,4,5,6];clear F129
 refine wp_seq_k fun K138 hK138=>?_
 have hx140:∃ W,w130.drew=W∧Ext w130 W:=⟨_,rfl,(Ext.refl _).drew⟩
 obtain ⟨w139,e141,hx140⟩:=hx140
 have z142:=hx140.size
 refine any_start (fun W=>Ext w139 W∧Blk W g 147 (u32Vals v134)) (fun i=>i==16) 17 (.replicate 17 false) rfl rfl rfl ?_
 rw [e141];clear e141
 refine F137.ym 0 rfl<|Ym 1 rfl<|Ym 2 rfl<|Ym 3 rfl<|Yv 4 (vp g) rfl<|Yw 5 (.pointer (some ⟨g,0+ib,none⟩)) rfl (fun F W=>rn_indexArr Tryd.underlying147 inf140 (F.get rfl) (F.get rfl) (by omega:(0:Int)≤(ib:Nat)) (by omega:((ib:Nat):Int)<((16:Nat):Int)))<|fun _ F154=>?_;clear F137
 have b156:=(b131.ext hx140)
 have hS155:Ext w139 w139∧Blk w139 g 147 (u32Vals v134):=⟨(Ext.refl w139),b156⟩
 refine F154.ys 6 (.int .u32 ((v134.getD ib 0).toNat:Nat)) rfl hS155 (fun F W hW=>rl F rfl (blk_word hW.2 (by omega) (by have:=(show List.length v134=_ from hl136);omega)))<|Ym 7 rfl<|Ym 8 rfl<|Yv 9 (vp g) rfl<|Yw 10 (.pointer (some ⟨g,0+ic,none⟩)) rfl (fun F W=>rn_indexArr Tryd.underlying147 inf140 (F.get rfl) (F.get rfl) (by omega:(0:Int)≤(ic:Nat)) (by omega:((ic:Nat):Int)<((16:Nat):Int)))<|Ys 11 (.int .u32 ((v134.getD ic 0).toNat:Nat)) rfl hS155 (fun F W hW=>rl F rfl (blk_word hW.2 (by omega) (by have:=(show List.length v134=_ from hl136);omega)))<|Yw 12 (.int .u32 (((v134.getD ib 0)^^^(v134.getD ic 0)).toNat:Nat)) rfl (fun F W=>rn_xor32 (a:=(v134.getD ib 0)) (b:=(v134.getD ic 0)) (F.get rfl) (F.get rfl))<|Yv 14 (vp g) rfl<|fun _ F172=>?_;clear F154
 refine ao 13 rfl ?_
 refine F172.oc (rot12_any ((v134.getD ib 0)^^^(v134.getD ic 0)) _) ?_
 rintro _ w173 ⟨rfl,hx174⟩
 refine ⟨_,rfl,?_⟩;intro a175 F176;clear F172;have z177:=hx174.size
 have b178:=(b156.ext hx174)
 refine ⟨fun _ _=>⟨((Ext.refl w139).trans hx174),b178⟩,?_⟩
 refine F176.yw 15 (.pointer (some ⟨g,0+ib,none⟩)) rfl (fun F W=>rn_indexArr Tryd.underlying147 inf140 (F.get rfl) (F.get rfl) (by omega:(0:Int)≤(ib:Nat)) (by omega:((ib:Nat):Int)<((16:Nat):Int)))<|fun _ F180=>?_;clear F176
 refine ao 16 rfl ?_
 refine o_store1 (new:=(u32Vals (v134.set ib (ror ((v134.getD ib 0)^^^(v134.getD ic 0)) 12)))) F180 rfl rfl rfl rfl (F180.get rfl) (F180.get rfl) b178 inf140 (by rw [u32Vals_len hl136];omega) rfl (u32Vals_set (by omega)) ?_
 intro w181 b182 hg183;have z184:=hg183.size
 obtain ⟨v185,e186⟩:∃ z,z=v134.set ib (ror ((v134.getD ib 0)^^^(v134.getD ic 0)) 12):=⟨_,rfl⟩
 have hl187:v185.length=16:=by rw [e186,List.length_set];exact hl136
 rw [← e186] at b182
 refine ⟨fun h=>absurd h (by decide),?_⟩
 refine nn (hK138 _ _ ?_);clear hK138
 have F188:=F180.k [0,1,2,3,4,5,6];clear F180
 refine wp_seq_k fun K189 hK189=>?_
 have hx191:∃ W,w181.drew=W∧Ext w181 W:=⟨_,rfl,(Ext.refl _).drew⟩
 obtain ⟨w190,e192,hx191⟩:=hx191
 have z193:=hx191.size
 refine any_start (fun W=>Ext w190 W∧Blk W g 147 (u32Vals v185)) (fun i=>i==15) 16 (.replicate 16 false) rfl rfl rfl ?_
 rw [e192];clear e192
 refine F188.ym 0 rfl<|Ym 1 rfl<|Yv 2 (vp g) rfl<|Yw 3 (.pointer (some ⟨g,0+ia,none⟩)) rfl (fun F W=>rn_indexArr Tryd.underlying147 inf140 (F.get rfl) (F.get rfl) (by omega:(0:Int)≤(ia:Nat)) (by omega:((ia:Nat):Int)<((16:Nat):Int)))<|fun _ F201=>?_;clear F188
 have b203:=(b182.ext hx191)
 have hS202:Ext w190 w190∧Blk w190 g 147 (u32Vals v185):=⟨(Ext.refl w190),b203⟩
 refine F201.ys 4 (.int .u32 ((v185.getD ia 0).toNat:Nat)) rfl hS202 (fun F W hW=>rl F rfl (blk_word hW.2 (by omega) (by have:=(show List.length v185=_ from hl187);omega)))<|Ym 5 rfl<|Ym 6 rfl<|Yv 7 (vp g) rfl<|Yw 8 (.pointer (some ⟨g,0+ib,none⟩)) rfl (fun F W=>rn_indexArr Tryd.underlying147 inf140 (F.get rfl) (F.get rfl) (by omega:(0:Int)≤(ib:Nat)) (by omega:((ib:Nat):Int)<((16:Nat):Int)))<|Ys 9 (.int .u32 ((v185.getD ib 0).toNat:Nat)) rfl hS202 (fun F W hW=>rl F rfl (blk_word hW.2 (by omega) (by have:=(show List.length v185=_ from hl187);omega)))<|Ym 10 rfl<|Yw 11 (.int .u32 (((v185.getD ib 0)+y).toNat:Nat)) rfl (fun F W=>rn_add32 (a:=(v185.getD ib 0)) (b:=y) (F.get rfl) (F.get rfl))<|Yw 12 (.int .u32 (((v185.getD ia 0)+((v185.getD ib 0)+y)).toNat:Nat)) rfl (fun F W=>rn_add32 (a:=(v185.getD ia 0)) (b:=((v185.getD ib 0)+y)) (F.get rfl) (F.get rfl))<|Yv 13 (vp g) rfl<|Yw 14 (.pointer (some ⟨g,0+ia,none⟩)) rfl (fun F W=>rn_indexArr Tryd.underlying147 inf140 (F.get rfl) (F.get rfl) (by omega:(0:Int)≤(ia:Nat)) (by omega:((ia:Nat):Int)<((16:Nat):Int)))<|fun _ F225=>?_;clear F201
 refine ao 15 rfl ?_
 refine o_store1 (new:=(u32Vals (v185.set ia ((v185.getD ia 0)+((v185.getD ib 0)+y))))) F225 rfl rfl rfl rfl (F225.get rfl) (F225.get rfl) b203 inf140 (by rw [u32Vals_len hl187];omega) rfl (u32Vals_set (by omega)) ?_
 intro w226 b227 hg228;have z229:=hg228.size
 obtain ⟨v230,e231⟩:∃ z,z=v185.set ia ((v185.getD ia 0)+((v185.getD ib 0)+y)):=⟨_,rfl⟩
 have hl232:v230.length=16:=by rw [e231,List.length_set];exact hl187
 rw [← e231] at b227
 refine ⟨fun h=>absurd h (by decide),?_⟩
 refine nn (hK189 _ _ ?_);clear hK189
 have F233:=F225.k [0,1,2,3,4,5,6];clear F225
 refine wp_seq_k fun K234 hK234=>?_
 have hx236:∃ W,w226.drew=W∧Ext w226 W:=⟨_,rfl,(Ext.refl _).drew⟩
 obtain ⟨w235,e237,hx236⟩:=hx236
 have z238:=hx236.size
 refine any_start (fun W=>Ext w235 W∧Blk W g 147 (u32Vals v230)) (fun i=>i==16) 17 (.replicate 17 false) rfl rfl rfl ?_
 rw [e237];clear e237
 refine F233.ym 0 rfl<|Ym 1 rfl<|Ym 2 rfl<|Ym 3 rfl<|Yv 4 (vp g) rfl<|Yw 5 (.pointer (some ⟨g,0+id_,none⟩)) rfl (fun F W=>rn_indexArr Tryd.underlying147 inf140 (F.get rfl) (F.get rfl) (by omega:(0:Int)≤(id_:Nat)) (by omega:((id_:Nat):Int)<((16:Nat):Int)))<|fun _ F250=>?_;clear F233
 have b252:=(b227.ext hx236)
 have hS251:Ext w235 w235∧Blk w235 g 147 (u32Vals v230):=⟨(Ext.refl w235),b252⟩
 refine F250.ys 6 (.int .u32 ((v230.getD id_ 0).toNat:Nat)) rfl hS251 (fun F W hW=>rl F rfl (blk_word hW.2 (by omega) (by have:=(show List.length v230=_ from hl232);omega)))<|Ym 7 rfl<|Ym 8 rfl<|Yv 9 (vp g) rfl<|Yw 10 (.pointer (some ⟨g,0+ia,none⟩)) rfl (fun F W=>rn_indexArr Tryd.underlying147 inf140 (F.get rfl) (F.get rfl) (by omega:(0:Int)≤(ia:Nat)) (by omega:((ia:Nat):Int)<((16:Nat):Int)))<|Ys 11 (.int .u32 ((v230.getD ia 0).toNat:Nat)) rfl hS251 (fun F W hW=>rl F rfl (blk_word hW.2 (by omega) (by have:=(show List.length v230=_ from hl232);omega)))<|Yw 12 (.int .u32 (((v230.getD id_ 0)^^^(v230.getD ia 0)).toNat:Nat)) rfl (fun F W=>rn_xor32 (a:=(v230.getD id_ 0)) (b:=(v230.getD ia 0)) (F.get rfl) (F.get rfl))<|Yv 14 (vp g) rfl<|fun _ F268=>?_;clear F250
 refine ao 13 rfl ?_
 refine F268.oc (rot8_any ((v230.getD id_ 0)^^^(v230.getD ia 0)) _) ?_
 rintro _ w269 ⟨rfl,hx270⟩
 refine ⟨_,rfl,?_⟩;intro a271 F272;clear F268;have z273:=hx270.size
 have b274:=(b252.ext hx270)
 refine ⟨fun _ _=>⟨((Ext.refl w235).trans hx270),b274⟩,?_⟩
 refine F272.yw 15 (.pointer (some ⟨g,0+id_,none⟩)) rfl (fun F W=>rn_indexArr Tryd.underlying147 inf140 (F.get rfl) (F.get rfl) (by omega:(0:Int)≤(id_:Nat)) (by omega:((id_:Nat):Int)<((16:Nat):Int)))<|fun _ F276=>?_;clear F272
 refine ao 16 rfl ?_
 refine o_store1 (new:=(u32Vals (v230.set id_ (ror ((v230.getD id_ 0)^^^(v230.getD ia 0)) 8)))) F276 rfl rfl rfl rfl (F276.get rfl) (F276.get rfl) b274 inf140 (by rw [u32Vals_len hl232];omega) rfl (u32Vals_set (by omega)) ?_
 intro w277 b278 hg279;have z280:=hg279.size
 obtain ⟨v281,e282⟩:∃ z,z=v230.set id_ (ror ((v230.getD id_ 0)^^^(v230.getD ia 0)) 8):=⟨_,rfl⟩
 have hl283:v281.length=16:=by rw [e282,List.length_set];exact hl232
 rw [← e282] at b278
 refine ⟨fun h=>absurd h (by decide),?_⟩
 refine nn (hK234 _ _ ?_);clear hK234
 have F284:=F276.k [0,1,2,3,4,5,6];clear F276
 refine wp_seq_k fun K285 hK285=>?_
 have hx287:∃ W,w277.drew=W∧Ext w277 W:=⟨_,rfl,(Ext.refl _).drew⟩
 obtain ⟨w286,e288,hx287⟩:=hx287
 have z289:=hx287.size
 refine any_start (fun W=>Ext w286 W∧Blk W g 147 (u32Vals v281)) (fun i=>i==13) 14 (.replicate 14 false) rfl rfl rfl ?_
 rw [e288];clear e288
 refine F284.ym 0 rfl<|Ym 1 rfl<|Yv 2 (vp g) rfl<|Yw 3 (.pointer (some ⟨g,0+ic,none⟩)) rfl (fun F W=>rn_indexArr Tryd.underlying147 inf140 (F.get rfl) (F.get rfl) (by omega:(0:Int)≤(ic:Nat)) (by omega:((ic:Nat):Int)<((16:Nat):Int)))<|fun _ F297=>?_;clear F284
 have b299:=(b278.ext hx287)
 have hS298:Ext w286 w286∧Blk w286 g 147 (u32Vals v281):=⟨(Ext.refl w286),b299⟩
 refine F297.ys 4 (.int .u32 ((v281.getD ic 0).toNat:Nat)) rfl hS298 (fun F W hW=>rl F rfl (blk_word hW.2 (by omega) (by have:=(show List.length v281=_ from hl283);omega)))<|Ym 5 rfl<|Ym 6 rfl<|Yv 7 (vp g) rfl<|Yw 8 (.pointer (some ⟨g,0+id_,none⟩)) rfl (fun F W=>rn_indexArr Tryd.underlying147 inf140 (F.get rfl) (F.get rfl) (by omega:(0:Int)≤(id_:Nat)) (by omega:((id_:Nat):Int)<((16:Nat):Int)))<|Ys 9 (.int .u32 ((v281.getD id_ 0).toNat:Nat)) rfl hS298 (fun F W hW=>rl F rfl (blk_word hW.2 (by omega) (by have:=(show List.length v281=_ from hl283);omega)))<|Yw 10 (.int .u32 (((v281.getD ic 0)+(v281.getD id_ 0)).toNat:Nat)) rfl (fun F W=>rn_add32 (a:=(v281.getD ic 0)) (b:=(v281.getD id_ 0)) (F.get rfl) (F.get rfl))<|Yv 11 (vp g) rfl<|Yw 12 (.pointer (some ⟨g,0+ic,none⟩)) rfl (fun F W=>rn_indexArr Tryd.underlying147 inf140 (F.get rfl) (F.get rfl) (by omega:(0:Int)≤(ic:Nat)) (by omega:((ic:Nat):Int)<((16:Nat):Int)))<|fun _ F317=>?_;clear F297
 refine ao 13 rfl ?_
 refine o_store1 (new:=(u32Vals (v281.set ic ((v281.getD ic 0)+(v281.getD id_ 0))))) F317 rfl rfl rfl rfl (F317.get rfl) (F317.get rfl) b299 inf140 (by rw [u32Vals_len hl283];omega) rfl (u32Vals_set (by omega)) ?_
 intro w318 b319 hg320;have z321:=hg320.size
 obtain ⟨v322,e323⟩:∃ z,z=v281.set ic ((v281.getD ic 0)+(v281.getD id_ 0)):=⟨_,rfl⟩
 have hl324:v322.length=16:=by rw [e323,List.length_set];exact hl283
 rw [← e323] at b319
 refine ⟨fun h=>absurd h (by decide),?_⟩
 refine nn (hK285 _ _ ?_);clear hK285
 have F325:=F317.k [0,1,2,3,4,5,6];clear F317
 have hx327:∃ W,w318.drew=W∧Ext w318 W:=⟨_,rfl,(Ext.refl _).drew⟩
 obtain ⟨w326,e328,hx327⟩:=hx327
 have z329:=hx327.size
 refine any_start (fun W=>Ext w326 W∧Blk W g 147 (u32Vals v322)) (fun i=>i==16) 17 (.replicate 17 false) rfl rfl rfl ?_
 rw [e328];clear e328
 refine F325.ym 0 rfl<|Ym 1 rfl<|Ym 2 rfl<|Ym 3 rfl<|Yv 4 (vp g) rfl<|Yw 5 (.pointer (some ⟨g,0+ib,none⟩)) rfl (fun F W=>rn_indexArr Tryd.underlying147 inf140 (F.get rfl) (F.get rfl) (by omega:(0:Int)≤(ib:Nat)) (by omega:((ib:Nat):Int)<((16:Nat):Int)))<|fun _ F341=>?_;clear F325
 have b343:=(b319.ext hx327)
 have hS342:Ext w326 w326∧Blk w326 g 147 (u32Vals v322):=⟨(Ext.refl w326),b343⟩
 refine F341.ys 6 (.int .u32 ((v322.getD ib 0).toNat:Nat)) rfl hS342 (fun F W hW=>rl F rfl (blk_word hW.2 (by omega) (by have:=(show List.length v322=_ from hl324);omega)))<|Ym 7 rfl<|Ym 8 rfl<|Yv 9 (vp g) rfl<|Yw 10 (.pointer (some ⟨g,0+ic,none⟩)) rfl (fun F W=>rn_indexArr Tryd.underlying147 inf140 (F.get rfl) (F.get rfl) (by omega:(0:Int)≤(ic:Nat)) (by omega:((ic:Nat):Int)<((16:Nat):Int)))<|Ys 11 (.int .u32 ((v322.getD ic 0).toNat:Nat)) rfl hS342 (fun F W hW=>rl F rfl (blk_word hW.2 (by omega) (by have:=(show List.length v322=_ from hl324);omega)))<|Yw 12 (.int .u32 (((v322.getD ib 0)^^^(v322.getD ic 0)).toNat:Nat)) rfl (fun F W=>rn_xor32 (a:=(v322.getD ib 0)) (b:=(v322.getD ic 0)) (F.get rfl) (F.get rfl))<|Yv 14 (vp g) rfl<|fun _ F359=>?_;clear F341
 refine ao 13 rfl ?_
 refine F359.oc (rot7_any ((v322.getD ib 0)^^^(v322.getD ic 0)) _) ?_
 rintro _ w360 ⟨rfl,hx361⟩
 refine ⟨_,rfl,?_⟩;intro a362 F363;clear F359;have z364:=hx361.size
 have b365:=(b343.ext hx361)
 refine ⟨fun _ _=>⟨((Ext.refl w326).trans hx361),b365⟩,?_⟩
 refine F363.yw 15 (.pointer (some ⟨g,0+ib,none⟩)) rfl (fun F W=>rn_indexArr Tryd.underlying147 inf140 (F.get rfl) (F.get rfl) (by omega:(0:Int)≤(ib:Nat)) (by omega:((ib:Nat):Int)<((16:Nat):Int)))<|fun _ F367=>?_;clear F363
 refine ao 16 rfl ?_
 refine o_store1 (new:=(u32Vals (v322.set ib (ror ((v322.getD ib 0)^^^(v322.getD ic 0)) 7)))) F367 rfl rfl rfl rfl (F367.get rfl) (F367.get rfl) b365 inf140 (by rw [u32Vals_len hl324];omega) rfl (u32Vals_set (by omega)) ?_
 intro w368 b369 hg370;have z371:=hg370.size
 obtain ⟨v372,e373⟩:∃ z,z=v322.set ib (ror ((v322.getD ib 0)^^^(v322.getD ic 0)) 7):=⟨_,rfl⟩
 have hl374:v372.length=16:=by rw [e373,List.length_set];exact hl324
 rw [← e373] at b369
 refine ⟨fun h=>absurd h (by decide),?_⟩
 refine nn ?_
 refine ret0 F367 rfl ?_
 exact ⟨rfl,(mix_chain e43 e94 e135 e186 e231 e282 e323 e373) ▸ b369,(grow_set (grow_ext (grow_ext (grow_set (grow_ext (grow_set (grow_ext (grow_ext (grow_set (grow_ext (grow_set (grow_ext (grow_ext (grow_set (grow_ext (grow_set (grow_ext (grow_ext (grow_set (grow_ext (grow_refl w g) hx3) hg40) hx48) hx82) hg91) hx99) hg132) hx140) hx174) hg183) hx191) hg228) hx236) hx270) hg279) hx287) hg320) hx327) hx361) hg370)⟩

end Go.Proofs.YtihgmaoghbnnaaaDoor

namespace Go.Proofs.YtihgmaoghbnnaaaDoor

theorem getD_setU {l:List UInt32} {i j:Nat} {x:UInt32} (h:i≠j):(l.set i x).getD j 0=l.getD j 0:=by
 simp [List.getD_eq_getElem?_getD,h]
theorem add_assoc32 (a b c:UInt32):a+(b+c)=a+b+c:=(UInt32.add_assoc a b c).symm

theorem mixSeq_eq {v:List UInt32} {a b c d:Nat} {x y:UInt32} (ha:a<v.length) (hb:b<v.length) (hc:c<v.length) (hd:d<v.length) (hab:a≠b) (hac:a≠c) (had:a≠d) (hbc:b≠c) (hbd:b≠d) (hcd:c≠d) :
  mixSeq v a b c d x y=mixv v a b c d x y:=by
 apply List.ext_getElem
 ·simp [mixSeq,mixv,put4]
 ·intro n h1 h2
  have e:∀ l:List UInt32,∀ h:n<l.length,l[n]=l.getD n 0:=fun l h=>by simp [List.getD_eq_getElem?_getD,List.getElem?_eq_getElem h]
  rw [e _ h1,e _ h2]
  unfold mixSeq mixv put4 mix4 at_
  dsimp only
  have hba:=hab.symm
  have hca:=hac.symm
  have hda:=had.symm
  have hcb:=hbc.symm
  have hdb:=hbd.symm
  have hdc:=hcd.symm
  by_cases h3:n=a
  ·subst h3;simp [ha,hb,hc,hd,hab,hac,had,hbc,hbd,hcd,hba,hca,hda,hcb,hdb,hdc,add_assoc32]
  ·by_cases h4:n=b
   ·subst h4;simp [ha,hb,hc,hd,hab,hac,had,hbc,hbd,hcd,hba,hca,hda,hcb,hdb,hdc,add_assoc32]
   ·by_cases h5:n=c
    ·subst h5;simp [ha,hb,hc,hd,hab,hac,had,hbc,hbd,hcd,hba,hca,hda,hcb,hdb,hdc,add_assoc32]
    ·by_cases h6:n=d
     ·subst h6;simp [ha,hb,hc,hd,hab,hac,had,hbc,hbd,hcd,hba,hca,hda,hcb,hdb,hdc,add_assoc32]
     ·rw [getD_setU (Ne.symm h4),getD_setU (Ne.symm h5),getD_setU (Ne.symm h6),getD_setU (Ne.symm h3),getD_setU (Ne.symm h4),getD_setU (Ne.symm h5),getD_setU (Ne.symm h6),getD_setU (Ne.symm h3),getD_setU (Ne.symm h6),getD_setU (Ne.symm h5),getD_setU (Ne.symm h4),getD_setU (Ne.symm h3)]

end Go.Proofs.YtihgmaoghbnnaaaDoor

namespace Go.Proofs.YtihgmaoghbnnaaaDoor
open Go.RowKit

theorem foldl_range {α:Type} (f:α→Nat→α) (a:α) (k:Nat):(List.range (k+1)).foldl f a=f ((List.range k).foldl f a) k:=by
  rw [List.range_succ,List.foldl_append];rfl
theorem foldl_len {α:Type} {f:List UInt32→α→List UInt32} {n:Nat} (hf:∀ v i,v.length=n→(f v i).length=n):∀ (l:List α) (v:List UInt32),v.length=n→(l.foldl f v).length=n
  | [],_,h=>h
  | x::l,v,h=>foldl_len hf l (f v x) (hf v x h)

theorem mixSeq_len (v:List UInt32) (a b c d:Nat) (x y:UInt32):(mixSeq v a b c d x y).length=v.length:=by simp [mixSeq]

def wordsTo (b:List UInt8) (k:Nat):List UInt32:=(List.range k).foldl (word b) (List.replicate 16 0)
theorem wordsTo_len (b:List UInt8) (k:Nat):(wordsTo b k).length=16:=foldl_len (fun v i h=>by simp [word,h]) _ _ (by simp)
theorem wordsTo_step {b:List UInt8} {k:Nat} {m v:List UInt32} (hm:m=wordsTo b k) (hv:v=m.set (k / 4) (m.getD (k / 4) 0 ||| (b.getD k 0).toUInt32 <<< UInt32.ofNat (8*(k % 4)))):v=wordsTo b (k+1):=by
  rw [hv,hm,wordsTo,wordsTo,foldl_range];rfl
theorem words_eq {b:List UInt8} {m:List UInt32} {k:Nat} (hm:m=wordsTo b k) (hk:k=b.length):m=words b:=by rw [hm,hk];rfl

def permB:List UInt8:=perms.flatten.map UInt8.ofNat
theorem permB_len:permB.length=160:=by decide +kernel
def permRow (r:Nat):List Nat:=perms.getD r []
theorem perm_row_all:∀ r<10,∀ j<16,(((permB.drop (r*16)).take 16).getD j 0).toNat=(permRow r).getD j 0∧(permRow r).getD j 0<16:=by decide +kernel
theorem perm_row {r:Nat} (hr:r<10) {j:Nat} (hj:j<16):(((permB.drop (r*16)).take 16).getD j 0).toNat=(permRow r).getD j 0:=(perm_row_all r hr j hj).1
theorem perm_lt {r:Nat} (hr:r<10) {j:Nat} (hj:j<16):(((permB.drop (r*16)).take 16).getD j 0).toNat<16:=by rw [perm_row hr hj];exact (perm_row_all r hr j hj).2

theorem mixv_len {v:List UInt32} {a b c d:Nat} {x y:UInt32} (h:v.length=16):(mixv v a b c d x y).length=16:=by simp [mixv,put4,h]
theorem mixAt_len (m:List UInt32) (s:List Nat) {v:List UInt32} (i:Nat) (h:v.length=16):(mixAt m s v i).length=16:=by
  unfold mixAt
  dsimp only
  split <;> exact mixv_len h
def mixTo (m:List UInt32) (s:List Nat) (v:List UInt32) (k:Nat):List UInt32:=(List.range k).foldl (mixAt m s) v
theorem mixTo_len {m:List UInt32} {s:List Nat} {v:List UInt32} {k:Nat} (h:v.length=16):(mixTo m s v k).length=16:=foldl_len (fun _ i h=>mixAt_len m s i h) _ _ h
theorem mixTo_step1 {m:List UInt32} {r:Nat} {v0 v v':List UInt32} {k:Nat} (hr:r<10) (hk:k<4) (h0:v0.length=16) (hv:v=mixTo m (permRow r) v0 k)
    (he:v'=mixSeq v k (4+k) (8+k) (12+k) (m.getD (((permB.drop (r*16)).take 16).getD (2*k) 0).toNat 0) (m.getD (((permB.drop (r*16)).take 16).getD ((2*k)+1) 0).toNat 0)):v'=mixTo m (permRow r) v0 (k+1):=by
  have hl:v.length=16:=by rw [hv];exact mixTo_len h0
  rw [mixTo,foldl_range,← mixTo,← hv,he,mixSeq_eq (by omega) (by omega) (by omega) (by omega) (by omega) (by omega) (by omega) (by omega) (by omega) (by omega),perm_row hr (by omega),perm_row hr (by omega)]
  simp [mixAt,hk,at_]
theorem mixTo_step2 {m:List UInt32} {r:Nat} {v0 v v':List UInt32} {k:Nat} (hr:r<10) (hk:k<4) (h0:v0.length=16) (hv:v=mixTo m (permRow r) v0 (4+k))
    (he:v'=mixSeq v k (4+((k+1) % 4)) (8+((k+2) % 4)) (12+((k+3) % 4)) (m.getD (((permB.drop (r*16)).take 16).getD (8+(2*k)) 0).toNat 0) (m.getD (((permB.drop (r*16)).take 16).getD (9+(2*k)) 0).toNat 0)):v'=mixTo m (permRow r) v0 (4+(k+1)):=by
  have hl:v.length=16:=by rw [hv];exact mixTo_len h0
  rw [← Nat.add_assoc,mixTo,foldl_range,← mixTo,← hv,he,mixSeq_eq (by omega) (by omega) (by omega) (by omega) (by omega) (by omega) (by omega) (by omega) (by omega) (by omega),perm_row hr (by omega),perm_row hr (by omega)]
  have h1:¬ (4+k<4):=by omega
  have h2:(4+k) % 4=k:=by omega
  simp only [mixAt,h1,if_false,h2,at_]
  rw [show 2*(4+k)=8+2*k from by omega,show 8+2*k+1=9+2*k from by omega]
def roundTo (m v:List UInt32) (r:Nat):List UInt32:=(perms.take r).foldl (round m) v
theorem round_len {m v:List UInt32} {s:List Nat} (h:v.length=16):(round m v s).length=16:=mixTo_len h
theorem roundTo_len {m v:List UInt32} {r:Nat} (h:v.length=16):(roundTo m v r).length=16:=foldl_len (fun _ s h=>round_len (s:=s) h) _ _ h
theorem roundTo_step {m v0 v v':List UInt32} {r:Nat} (hr:r<10) (hv:v=roundTo m v0 r) (he:v'=mixTo m (permRow r) v 8):v'=roundTo m v0 (r+1):=by
  have hl:perms.length=10:=rfl
  have hlt:r<perms.length:=by rw [hl];exact hr
  have hg:permRow r=perms[r]:=by unfold permRow;rw [List.getD_eq_getElem?_getD,List.getElem?_eq_getElem hlt,Option.getD_some]
  rw [roundTo,List.take_succ_eq_append_getElem hlt,List.foldl_append,← roundTo,← hv,he,hg,List.foldl_cons,List.foldl_nil,round,mixTo]
def closeTo (v h:List UInt32) (k:Nat):List UInt32:=(List.range k).foldl (close_ v) h
theorem closeTo_len {v h:List UInt32} {k:Nat} (hh:h.length=8):(closeTo v h k).length=8:=foldl_len (fun _ i h=>by simp [close_,h]) _ _ hh
theorem closeTo_step {v h0 h h':List UInt32} {k:Nat} (hh:h=closeTo v h0 k) (he:h'=h.set k (h.getD k 0^^^(v.getD k 0^^^v.getD (8+k) 0))):h'=closeTo v h0 (k+1):=by
  rw [he,hh,closeTo,closeTo,foldl_range,← closeTo,close_,at_,at_,at_,UInt32.xor_assoc]
theorem absorb_len {h:List UInt32} {b:List UInt8} {n:UInt64} {last:Bool} (hh:h.length=8):(absorb h b n last).length=8:=closeTo_len hh
theorem absorb_eq {h h' v:List UInt32} {b:List UInt8} {n:UInt64} {last:Bool} (hv:v=roundTo (words b) (begin_ h n last) 10) (hh:h'=closeTo v h 8):h'=absorb h b n last:=by rw [hh,hv];rfl
theorem begin_true {h:List UInt32} {n:UInt64}:((((h++iv).set 12 ((h++iv).getD 12 0^^^n.toUInt32)).set 13 (((h++iv).set 12 ((h++iv).getD 12 0^^^n.toUInt32)).getD 13 0^^^(n >>> UInt64.ofNat 32).toUInt32)).set 14 (~~~ ((((h++iv).set 12 ((h++iv).getD 12 0^^^n.toUInt32)).set 13 (((h++iv).set 12 ((h++iv).getD 12 0^^^n.toUInt32)).getD 13 0^^^(n >>> UInt64.ofNat 32).toUInt32)).getD 14 0)))=begin_ h n true:=rfl
theorem begin_false {h:List UInt32} {n:UInt64}:(((h++iv).set 12 ((h++iv).getD 12 0^^^n.toUInt32)).set 13 (((h++iv).set 12 ((h++iv).getD 12 0^^^n.toUInt32)).getD 13 0^^^(n >>> UInt64.ofNat 32).toUInt32))=begin_ h n false:=rfl
theorem iv_len:iv.length=8:=rfl
theorem hiv_len {h:List UInt32} (hh:h.length=8):(h++iv).length=16:=by simp [hh,iv]
theorem h8_len {h:List UInt32} (hh:h.length=8):(h++List.replicate 8 0).length=16:=by simp [hh]
theorem copy1 {h:List UInt32} (hh:h.length=8):splice (u32Vals (List.replicate 16 0)) 0 ((u32Vals h).take (min 8 8))=u32Vals (h++List.replicate 8 0):=by
  have hl:(u32Vals h).length=8:=u32Vals_len hh
  rw [show min 8 8=8 from rfl,List.take_of_length_le (by omega)]
  simp [splice,hh,u32Vals]
theorem copy2 {h:List UInt32} (hh:h.length=8):splice (u32Vals (h++List.replicate 8 0)) 8 ((u32Vals iv).take (min 8 8))=u32Vals (h++iv):=by
  have hl:(u32Vals h).length=8:=u32Vals_len hh
  rw [show min 8 8=8 from rfl,List.take_of_length_le (by decide)]
  simp [splice,hh,u32Vals,iv,List.drop_append]

/-- The package variables are as_ they are written. -/
structure Glob (w:World):Prop where
  a:Cel w 1 (some ⟨0,0,none⟩) 8 (u32Vals iv)
  b:Cel w 1 (some ⟨1,0,none⟩) 160 (byteVals permB)
theorem Glob.ext {w w':World} (h:Glob w) (e:Ext w w'):Glob w':=⟨h.a.ext e,h.b.ext e⟩
theorem Glob.at0 {w:World} (h:Glob w) (j:Nat) (v:Value) (hv:(u32Vals iv)[j]?=some v):w.cell? ⟨0,0+j,none⟩=some v:=by
  obtain ⟨b,off,hA,_,hx⟩:=h.a.2.2 (by omega)
  cases hA
  exact hx j v hv
theorem Glob.at1 {w:World} (h:Glob w) (j:Nat) (v:Value) (hv:(byteVals permB)[j]?=some v):w.cell? ⟨1,0+j,none⟩=some v:=by
  obtain ⟨b,off,hA,_,hx⟩:=h.b.2.2 (by omega)
  cases hA
  exact hx j v hv

end Go.Proofs.YtihgmaoghbnnaaaDoor

namespace Go.Proofs.YtihgmaoghbnnaaaDoor
open Go.RowKit

variable {S S':Nat→Prop}

theorem El148:El Tryd.prog 148 140 (.int .u32 0) 1 4:=⟨Tryd.underlying148,by kernel_rfl,rfl,by decide⟩

set_option maxRecDepth 100000 in
set_option maxHeartbeats 1000000 in
theorem absorb_any (g:Nat) (h:List UInt32) (A:Option Addr) (c:Nat) (b:List UInt8) (n:UInt64) (last:Bool) (w:World) (hb:Blk w g 141 (u32Vals h)) (hh:h.length=8) (hf:Fl S w 1 (vl A b.length c) b.length (byteVals b)) (h64:b.length≤64) (hG:Glob w) :
  Calls Tryd.prog 86 #[.pointer (some ⟨g,0,none⟩),.slice A b.length c,.int .u64 (n.toNat:Nat),.bool last] w (fun e w'=>e=.returned (.tuple #[])∧Blk w' g 141 (u32Vals (absorb h b n last))∧w.grownBy w' (some g)):=by
 refine calls_enter Tryd.func86 rfl rfl rfl fun _ hF=>?_
 have hlt:=hb.lt
 refine wr fun K1 hK1=>?_
 refine hF.xz (u32Vals (List.replicate 16 0)) 147 fun g2 w3 _ F9 z6 z7 b4 hx5=>?_;clear hF
 refine F9.xz (u32Vals (List.replicate 16 0)) 147 fun g10 w11 _ F17 z14 z15 b12 hx13=>?_;clear F9
 refine wpList_nil (hK1 _ _ ?_);clear hK1
 refine wp_seq_k fun K18 hK18=>?_
 refine wr fun K19 hK19=>?_
 refine F17.xm rfl<|Xv (vi (b.length:Nat))<|Xv (vi 0)<|fun _ F25=>?_;clear F17
 refine wpList_nil (hK19 _ _ ?_);clear hK19
 refine wp_block ?_
 have b26:=((hb.ext hx5).ext hx13)
 have b27:=(b4.ext hx13)
 refine wp_loop (fun a' W=>∃ (k:Nat) (m:List UInt32),Sl 149 [(0,(vp g)),(1,(vl A b.length c)),(2,(.int .u64 (n.toNat:Nat))),(3,(.bool last)),(8,(vp g2)),(9,(vp g10)),(18,(vl A b.length c)),(19,(vi (b.length:Nat))),(20,(vi (k:Nat)))] a'∧k≤b.length∧m=wordsTo b k∧Ext w W∧Blk W g 141 (u32Vals h)∧Blk W g2 147 (u32Vals m)∧Blk W g10 147 (u32Vals (List.replicate 16 0))) (fun a' _=>b.length - (intOf (a'.eval (.tmp 20))).toNat) ⟨0,(List.replicate 16 0),F25.j,(by omega),rfl,(((Ext.refl w).trans hx5).trans hx13),b26,b27,b12⟩ ?_
 clear F25
 rintro a28 w29 ⟨k,m,F30,hp32,hp33,hx31,b34,b35,b36⟩
 have hL37:=F30
 have z38:=hx31.size
 have z39:=b34.lt
 have z40:=b35.lt
 have z41:=b36.lt
 have hm:m.length=16:=by rw [hp33];exact wordsTo_len _ _
 refine wr fun K42 hK42=>?_
 refine F30.xv (.bool (decide (((k:Nat):Int)<((b.length:Nat):Int))))<|fun _ F44=>?_;clear F30
 refine wpList_nil (hK42 _ _ ?_);clear hK42
 refine wp_seq_k fun K45 hK45=>?_
 by_cases hc46:((k:Nat):Int)<((b.length:Nat):Int)
 ·skip
  refine F44.ct ?_
  refine wp_skip ?_
  refine hK45 _ _ ?_;clear hK45
  refine wp_seq_k fun K47 hK47=>?_
  refine wp_block ?_
  refine wr fun K48 hK48=>?_
  refine F44.xm rfl<|fun _ F50=>?_;clear F44
  have d54:=(hf.ext hx31)
  obtain ⟨b51,o52,hA53,-⟩:=Fl.at d54 (by omega)
  refine F50.xw (.pointer (some ⟨b51,o52+k,none⟩)) (fun F=>rn_index1 Tryd.underlying52 inf5 ((F.get rfl).trans (by rw [hA53])) (F.get rfl) (by omega:(0:Int)≤(k:Nat)) (by omega:((k:Nat):Int)<((b.length:Nat):Int)))<|Xw (.int .u8 ((b.getD k 0).toNat:Nat)) (fun F=>rl F rfl (Fl.cellAt d54 hA53 (byteVals_at (i:=k) (by omega))))<|Xa rfl<|Xa rfl<|fun _ F62=>?_;clear F50
  refine wpList_nil (hK48 _ _ ?_);clear hK48
  have hx64:∃ W,w29.drew=W∧Ext w29 W:=⟨_,rfl,(Ext.refl _).drew⟩
  obtain ⟨w63,e65,hx64⟩:=hx64
  have z66:=hx64.size
  refine any_start (fun W=>Ext w63 W∧Blk W g2 147 (u32Vals m)) (fun i=>i==12) 13 (.replicate 13 false) rfl rfl rfl ?_
  rw [e65];clear e65
  refine F62.ym 0 rfl<|Yw 1 (vi (k / 4:Nat)) rfl (fun F W=>rn_quoN (a:=k) (b:=4) (F.get rfl) rfl (by omega) (by omega))<|Yw 2 (.pointer (some ⟨g2,0+(k / 4),none⟩)) rfl (fun F W=>rn_indexArr Tryd.underlying147 inf140 (F.get rfl) (F.get rfl) (by omega:(0:Int)≤(k / 4:Nat)) (by omega:((k / 4:Nat):Int)<((16:Nat):Int)))<|fun _ F72=>?_;clear F62
  have b74:=(b35.ext hx64)
  have hS73:Ext w63 w63∧Blk w63 g2 147 (u32Vals m):=⟨(Ext.refl w63),b74⟩
  refine F72.ys 3 (.int .u32 ((m.getD (k / 4) 0).toNat:Nat)) rfl hS73 (fun F W hW=>rl F rfl (blk_word hW.2 (by omega) (by have:=(show List.length m=_ from hm);omega)))<|Ym 4 rfl<|Ys 5 (.int .u32 (((b.getD k 0).toUInt32).toNat:Nat)) rfl hS73 (fun F W hW=>rn_convW Tryd.underlying5 Tryd.underlying140 (F.get rfl) (cv8_32 (b.getD k 0)))<|Ym 6 rfl<|Yw 7 (vi (k % 4:Nat)) rfl (fun F W=>rn_remN (a:=k) (b:=4) (F.get rfl) rfl (by omega))<|Yw 8 (vi (8*(k % 4):Nat)) rfl (fun F W=>rn_mulN (a:=8) (b:=k % 4) rfl (F.get rfl) (by omega))<|Yw 9 (.int .u32 ((((b.getD k 0).toUInt32) <<< UInt32.ofNat (8*(k % 4))).toNat:Nat)) rfl (fun F W=>rn_shl32 (a:=((b.getD k 0).toUInt32)) (n:=(8*(k % 4))) (F.get rfl) (F.get rfl) (by omega))<|Yw 10 (.int .u32 (((m.getD (k / 4) 0) ||| (((b.getD k 0).toUInt32) <<< UInt32.ofNat (8*(k % 4)))).toNat:Nat)) rfl (fun F W=>rn_or32 (a:=(m.getD (k / 4) 0)) (b:=(((b.getD k 0).toUInt32) <<< UInt32.ofNat (8*(k % 4)))) (F.get rfl) (F.get rfl))<|Yw 11 (.pointer (some ⟨g2,0+(k / 4),none⟩)) rfl (fun F W=>rn_indexArr Tryd.underlying147 inf140 (F.get rfl) (F.get rfl) (by omega:(0:Int)≤(k / 4:Nat)) (by omega:((k / 4:Nat):Int)<((16:Nat):Int)))<|fun _ F92=>?_;clear F72
  refine ao 12 rfl ?_
  refine o_store1 (new:=(u32Vals (m.set (k / 4) ((m.getD (k / 4) 0) ||| (((b.getD k 0).toUInt32) <<< UInt32.ofNat (8*(k % 4))))))) F92 rfl rfl rfl rfl (F92.get rfl) (F92.get rfl) b74 inf140 (by rw [u32Vals_len hm];omega) rfl (u32Vals_set (by omega)) ?_
  intro w93 b94 hg95;have z96:=hg95.size
  refine ⟨fun h=>absurd h (by decide),?_⟩
  refine nn (hK47 _ _ ?_);clear hK47
  have F97:=F92.k [0,1,2,3,8,9,18,19,20,21,10,11];clear F92
  refine wp_region_lit ?_
  refine F97.xv (vi (k+1:Nat))<|Xm rfl<|fun _ F101=>?_;clear F97
  refine wpList_nil ?_
  obtain ⟨v102,e103⟩:∃ z,z=m.set (k / 4) ((m.getD (k / 4) 0) ||| (((b.getD k 0).toUInt32) <<< UInt32.ofNat (8*(k % 4)))):=⟨_,rfl⟩
  have hl104:v102.length=16:=(congrArg List.length e103).trans (show List.length (m.set (k / 4) ((m.getD (k / 4) 0) ||| (((b.getD k 0).toUInt32) <<< UInt32.ofNat (8*(k % 4)))))=_ from List.length_set.trans hm)
  rw [← e103] at b94
  have b105:=((b34.ext hx64).gn hg95)
  have b106:=((b36.ext hx64).gn hg95)
  refine ⟨⟨k+1,v102,F101.j,(by omega),(wordsTo_step hp33 e103),((((Ext.refl w).trans hx31).trans hx64).gn hg95),b105,b94,b106⟩,?_⟩
  rw [F101.get (t:=20) rfl,hL37.get (t:=20) rfl];simp [intOf];omega
 refine F44.cf ?_
 refine wp_exit ?_
 refine exit_then ?_
 refine exit_then ?_
 refine exit_here ?_
 refine hK18 _ _ ?_;clear hK18
 refine wp_seq_k fun K107 hK107=>?_
 have hx109:∃ W,w29.drew=W∧Ext w29 W:=⟨_,rfl,(Ext.refl _).drew⟩
 obtain ⟨w108,e110,hx109⟩:=hx109
 have z111:=hx109.size
 refine any_start (fun W=>Ext w108 W∧Blk W g10 147 (u32Vals (List.replicate 16 0))∧Blk W g 141 (u32Vals h)) (fun i=>i==4) 5 (.replicate 5 false) rfl rfl rfl ?_
 rw [e110];clear e110
 refine F44.yw 0 (vl (some ⟨g10,0,none⟩) 8 16) rfl (fun F W=>rn_arrHi Tryd.underlying147 inf140 (F.get rfl) rfl (by omega:(0:Int)≤8) (by omega:(8:Int)≤((16:Nat):Int)))<|Ym 1 rfl<|Yv 2 (vp g) rfl<|Yw 3 (vl (some ⟨g,0,none⟩) 8 8) rfl (fun F W=>rn_arrAll Tryd.underlying141 inf140 (F.get rfl))<|fun _ F119=>?_;clear F44
 refine ao 4 rfl ?_
 have b120:=(b36.ext hx109)
 have b121:=(b34.ext hx109)
 refine o_copy (new:=u32Vals (h++List.replicate 8 0)) (n:=8) (El148) F119 rfl rfl rfl rfl rfl (F119.get rfl) (F119.get rfl) b120 (b121.cel (by rw [u32Vals_len hh]) (u32Vals_one _)) (by rw [u32Vals_len (show List.length (List.replicate 16 0)=_ from List.length_replicate)];omega) (copy1 hh) (by omega) ?_
 intro w122 a125 F126 b123 hg124;clear F119;have z127:=hg124.size
 refine ⟨fun h=>absurd h (by decide),?_⟩
 refine nn (hK107 _ _ ?_);clear hK107
 have F128:=F126.k [0,1,2,3,8,9,18,19,20,21];clear F126
 refine wp_seq_k fun K129 hK129=>?_
 have hx131:∃ W,w122.drew=W∧Ext w122 W:=⟨_,rfl,(Ext.refl _).drew⟩
 obtain ⟨w130,e132,hx131⟩:=hx131
 have z133:=hx131.size
 refine any_start (fun W=>Ext w130 W∧Blk W g10 147 (u32Vals (h++List.replicate 8 0))) (fun i=>i==2) 3 (.replicate 3 false) rfl rfl rfl ?_
 rw [e132];clear e132
 refine F128.yw 0 (vl (some ⟨g10,8,none⟩) 8 8) rfl (fun F W=>rn_arrLo (l:=8) Tryd.underlying147 inf140 (F.get rfl) rfl (by omega))<|Yw 1 (vl (some ⟨0,0,none⟩) 8 8) rfl (fun F W=>rn_arrAll Tryd.underlying141 inf140 rfl)<|fun _ F137=>?_;clear F128
 refine ao 2 rfl ?_
 have b138:=(b123.ext hx131)
 refine o_copy (new:=u32Vals (h++iv)) (n:=8) (El148) F137 rfl rfl rfl rfl rfl (F137.get rfl) (F137.get rfl) b138 (hG.ext (((((Ext.refl w).trans hx31).trans hx109).gn hg124).trans hx131)).a (by rw [u32Vals_len (h8_len hh)];omega) (copy2 hh) (by omega) ?_
 intro w139 a142 F143 b140 hg141;clear F137;have z144:=hg141.size
 refine ⟨fun h=>absurd h (by decide),?_⟩
 refine nn (hK129 _ _ ?_);clear hK129
 refine wr fun K145 hK145=>?_
 refine F143.xw (.pointer (some ⟨g10,0+12,none⟩)) (fun F=>rn_indexArr Tryd.underlying147 inf140 (F.get rfl) rfl (by omega:(0:Int)≤12) (by omega:(12:Int)<((16:Nat):Int)))<|Xw (.int .u32 (((h++iv).getD 12 0).toNat:Nat)) (fun F=>rl F rfl (blk_word b140 (by omega) (by have:=(show List.length (h++iv)=_ from (hiv_len hh));omega)))<|Xm rfl<|Xw (.int .u32 (n.toUInt32.toNat:Nat)) (fun F=>rn_convW Tryd.underlying135 Tryd.underlying140 (F.get rfl) (cv64_32 n))<|Xw (.int .u32 ((((h++iv).getD 12 0)^^^n.toUInt32).toNat:Nat)) (fun F=>rn_xor32 (a:=((h++iv).getD 12 0)) (b:=n.toUInt32) (F.get rfl) (F.get rfl))<|Xw (.pointer (some ⟨g10,0+12,none⟩)) (fun F=>rn_indexArr Tryd.underlying147 inf140 (F.get rfl) rfl (by omega:(0:Int)≤12) (by omega:(12:Int)<((16:Nat):Int)))<|fun _ F157=>?_;clear F143
 refine wpl_op (i:=6) rfl (o_store1 (new:=(u32Vals ((h++iv).set 12 (((h++iv).getD 12 0)^^^n.toUInt32)))) F157 rfl rfl rfl rfl (F157.get rfl) (F157.get rfl) b140 inf140 (by rw [u32Vals_len (hiv_len hh)];omega) rfl (u32Vals_set (by omega)) ?_)
 intro w158 b159 hg160;have z161:=hg160.size
 refine wpList_nil (hK145 _ _ ?_);clear hK145
 have F162:=F157.k [0,1,2,3,8,9,18,19,20,21];clear F157
 refine wr fun K163 hK163=>?_
 refine F162.xw (.pointer (some ⟨g10,0+13,none⟩)) (fun F=>rn_indexArr Tryd.underlying147 inf140 (F.get rfl) rfl (by omega:(0:Int)≤13) (by omega:(13:Int)<((16:Nat):Int)))<|Xw (.int .u32 ((((h++iv).set 12 (((h++iv).getD 12 0)^^^n.toUInt32)).getD 13 0).toNat:Nat)) (fun F=>rl F rfl (blk_word b159 (by omega) (by have:=(show List.length ((h++iv).set 12 (((h++iv).getD 12 0)^^^n.toUInt32))=_ from (show List.length ((h++iv).set 12 (((h++iv).getD 12 0)^^^n.toUInt32))=_ from List.length_set.trans (hiv_len hh)));omega)))<|Xm rfl<|Xw (.int .u64 ((n >>> UInt64.ofNat 32).toNat:Nat)) (fun F=>rn_shr64 (a:=n) (n:=32) (F.get rfl) rfl (by omega))<|Xw (.int .u32 (((n >>> UInt64.ofNat 32).toUInt32).toNat:Nat)) (fun F=>rn_convW Tryd.underlying135 Tryd.underlying140 (F.get rfl) (cv64_32 (n >>> UInt64.ofNat 32)))<|Xw (.int .u32 (((((h++iv).set 12 (((h++iv).getD 12 0)^^^n.toUInt32)).getD 13 0)^^^((n >>> UInt64.ofNat 32).toUInt32)).toNat:Nat)) (fun F=>rn_xor32 (a:=(((h++iv).set 12 (((h++iv).getD 12 0)^^^n.toUInt32)).getD 13 0)) (b:=((n >>> UInt64.ofNat 32).toUInt32)) (F.get rfl) (F.get rfl))<|Xw (.pointer (some ⟨g10,0+13,none⟩)) (fun F=>rn_indexArr Tryd.underlying147 inf140 (F.get rfl) rfl (by omega:(0:Int)≤13) (by omega:(13:Int)<((16:Nat):Int)))<|fun _ F177=>?_;clear F162
 refine wpl_op (i:=7) rfl (o_store1 (new:=(u32Vals (((h++iv).set 12 (((h++iv).getD 12 0)^^^n.toUInt32)).set 13 ((((h++iv).set 12 (((h++iv).getD 12 0)^^^n.toUInt32)).getD 13 0)^^^((n >>> UInt64.ofNat 32).toUInt32))))) F177 rfl rfl rfl rfl (F177.get rfl) (F177.get rfl) b159 inf140 (by rw [u32Vals_len (show List.length ((h++iv).set 12 (((h++iv).getD 12 0)^^^n.toUInt32))=_ from List.length_set.trans (hiv_len hh))];omega) rfl (u32Vals_set (by omega)) ?_)
 intro w178 b179 hg180;have z181:=hg180.size
 refine wpList_nil (hK163 _ _ ?_);clear hK163
 have F182:=F177.k [0,1,2,3,8,9,18,19,20,21];clear F177
 refine wp_seq_k fun K183 hK183=>?_
 refine wr fun K184 hK184=>?_
 refine F182.xm rfl<|fun _ F186=>?_;clear F182
 refine wpList_nil (hK184 _ _ ?_);clear hK184
 rcases Bool.eq_false_or_eq_true last with hc187 | hc187
 ·skip
  refine F186.ct ?_
  refine wp_region_lit ?_
  refine F186.xw (.pointer (some ⟨g10,0+14,none⟩)) (fun F=>rn_indexArr Tryd.underlying147 inf140 (F.get rfl) rfl (by omega:(0:Int)≤14) (by omega:(14:Int)<((16:Nat):Int)))<|Xw (.int .u32 (((((h++iv).set 12 (((h++iv).getD 12 0)^^^n.toUInt32)).set 13 ((((h++iv).set 12 (((h++iv).getD 12 0)^^^n.toUInt32)).getD 13 0)^^^((n >>> UInt64.ofNat 32).toUInt32))).getD 14 0).toNat:Nat)) (fun F=>rl F rfl (blk_word b179 (by omega) (by have:=(show List.length (((h++iv).set 12 (((h++iv).getD 12 0)^^^n.toUInt32)).set 13 ((((h++iv).set 12 (((h++iv).getD 12 0)^^^n.toUInt32)).getD 13 0)^^^((n >>> UInt64.ofNat 32).toUInt32)))=_ from (show List.length (((h++iv).set 12 (((h++iv).getD 12 0)^^^n.toUInt32)).set 13 ((((h++iv).set 12 (((h++iv).getD 12 0)^^^n.toUInt32)).getD 13 0)^^^((n >>> UInt64.ofNat 32).toUInt32)))=_ from List.length_set.trans (show List.length ((h++iv).set 12 (((h++iv).getD 12 0)^^^n.toUInt32))=_ from List.length_set.trans (hiv_len hh))));omega)))<|Xw (.int .u32 ((~~~ ((((h++iv).set 12 (((h++iv).getD 12 0)^^^n.toUInt32)).set 13 ((((h++iv).set 12 (((h++iv).getD 12 0)^^^n.toUInt32)).getD 13 0)^^^((n >>> UInt64.ofNat 32).toUInt32))).getD 14 0)).toNat:Nat)) (fun F=>rn_not32 (a:=((((h++iv).set 12 (((h++iv).getD 12 0)^^^n.toUInt32)).set 13 ((((h++iv).set 12 (((h++iv).getD 12 0)^^^n.toUInt32)).getD 13 0)^^^((n >>> UInt64.ofNat 32).toUInt32))).getD 14 0)) (F.get rfl))<|Xw (.pointer (some ⟨g10,0+14,none⟩)) (fun F=>rn_indexArr Tryd.underlying147 inf140 (F.get rfl) rfl (by omega:(0:Int)≤14) (by omega:(14:Int)<((16:Nat):Int)))<|fun _ F195=>?_;clear F186
  refine wpl_op (i:=4) rfl (o_store1 (new:=(u32Vals ((((h++iv).set 12 (((h++iv).getD 12 0)^^^n.toUInt32)).set 13 ((((h++iv).set 12 (((h++iv).getD 12 0)^^^n.toUInt32)).getD 13 0)^^^((n >>> UInt64.ofNat 32).toUInt32))).set 14 (~~~ ((((h++iv).set 12 (((h++iv).getD 12 0)^^^n.toUInt32)).set 13 ((((h++iv).set 12 (((h++iv).getD 12 0)^^^n.toUInt32)).getD 13 0)^^^((n >>> UInt64.ofNat 32).toUInt32))).getD 14 0))))) F195 rfl rfl rfl rfl (F195.get rfl) (F195.get rfl) b179 inf140 (by rw [u32Vals_len (show List.length (((h++iv).set 12 (((h++iv).getD 12 0)^^^n.toUInt32)).set 13 ((((h++iv).set 12 (((h++iv).getD 12 0)^^^n.toUInt32)).getD 13 0)^^^((n >>> UInt64.ofNat 32).toUInt32)))=_ from List.length_set.trans (show List.length ((h++iv).set 12 (((h++iv).getD 12 0)^^^n.toUInt32))=_ from List.length_set.trans (hiv_len hh)))];omega) rfl (u32Vals_set (by omega)) ?_)
  intro w196 b197 hg198;have z199:=hg198.size
  refine wpList_nil (hK183 _ _ ?_);clear hK183
  have F200:=F195.k [0,1,2,3,8,9,18,19,20,21,59];clear F195
  refine wr fun K201 hK201=>?_
  refine F200.xw (.func (.func 89) #[(vp g10)] #[]) (fun F=>rn_makeFunc (args1 (F.get rfl)) (args0))<|Xa rfl<|fun _ F205=>?_;clear F200
  refine wpList_nil (hK201 _ _ ?_);clear hK201
  refine wp_seq_k fun K206 hK206=>?_
  refine wr fun K207 hK207=>?_
  refine F205.xw (.agg (byteVals permB).toArray) (fun F=>rn_loadN (cs:=byteVals permB) rfl Tryd.underlying151 rfl (sk inf151 (byteVals_len permB_len)) (fun j v hv=>(hG.ext (((((((((Ext.refl w).trans hx31).trans hx109).gn hg124).trans hx131).gn hg141).gn hg160).gn hg180).gn hg198)).at1 j v hv))<|Xv (vi 0)<|fun _ F211=>?_;clear F205
  refine wpList_nil (hK207 _ _ ?_);clear hK207
  refine wp_block ?_
  have hmw:m=words b:=words_eq hp33 (by omega)
  obtain ⟨v212,e213⟩:∃ z,z=(((h++iv).set 12 (((h++iv).getD 12 0)^^^n.toUInt32)).set 13 ((((h++iv).set 12 (((h++iv).getD 12 0)^^^n.toUInt32)).getD 13 0)^^^((n >>> UInt64.ofNat 32).toUInt32))).set 14 (~~~ ((((h++iv).set 12 (((h++iv).getD 12 0)^^^n.toUInt32)).set 13 ((((h++iv).set 12 (((h++iv).getD 12 0)^^^n.toUInt32)).getD 13 0)^^^((n >>> UInt64.ofNat 32).toUInt32))).getD 14 0)):=⟨_,rfl⟩
  have hl214:v212.length=16:=(congrArg List.length e213).trans (show List.length ((((h++iv).set 12 (((h++iv).getD 12 0)^^^n.toUInt32)).set 13 ((((h++iv).set 12 (((h++iv).getD 12 0)^^^n.toUInt32)).getD 13 0)^^^((n >>> UInt64.ofNat 32).toUInt32))).set 14 (~~~ ((((h++iv).set 12 (((h++iv).getD 12 0)^^^n.toUInt32)).set 13 ((((h++iv).set 12 (((h++iv).getD 12 0)^^^n.toUInt32)).getD 13 0)^^^((n >>> UInt64.ofNat 32).toUInt32))).getD 14 0)))=_ from List.length_set.trans (show List.length (((h++iv).set 12 (((h++iv).getD 12 0)^^^n.toUInt32)).set 13 ((((h++iv).set 12 (((h++iv).getD 12 0)^^^n.toUInt32)).getD 13 0)^^^((n >>> UInt64.ofNat 32).toUInt32)))=_ from List.length_set.trans (show List.length ((h++iv).set 12 (((h++iv).getD 12 0)^^^n.toUInt32))=_ from List.length_set.trans (hiv_len hh))))
  rw [← e213] at b197
  have hv0:v212=begin_ h n last:=by rw [e213,hc187];exact begin_true
  have b215:=((((((b121.gn hg124).ext hx131).gn hg141).gn hg160).gn hg180).gn hg198)
  have b216:=(((((((b35.ext hx109).gn hg124).ext hx131).gn hg141).gn hg160).gn hg180).gn hg198)
  refine wp_loop (fun a' W=>∃ (r:Nat) (v:List UInt32),Sl 149 [(0,(vp g)),(1,(vl A b.length c)),(2,(.int .u64 (n.toNat:Nat))),(3,(.bool last)),(8,(vp g2)),(9,(vp g10)),(18,(vl A b.length c)),(19,(vi (b.length:Nat))),(20,(vi (k:Nat))),(21,(.bool (decide (((k:Nat):Int)<((b.length:Nat):Int))))),(59,(.bool last)),(12,(.func (.func 89) #[(vp g10)] #[])),(65,(.agg (byteVals permB).toArray)),(66,(vi (r:Nat)))] a'∧r≤10∧v=roundTo m v212 r∧Ext w W∧Blk W g 141 (u32Vals h)∧Blk W g2 147 (u32Vals m)∧Blk W g10 147 (u32Vals v)) (fun a' _=>10 - (intOf (a'.eval (.tmp 66))).toNat) ⟨0,v212,F211.j,(by omega),rfl,(((((((((Ext.refl w).trans hx31).trans hx109).gn hg124).trans hx131).gn hg141).gn hg160).gn hg180).gn hg198),b215,b216,b197⟩ ?_
  clear F211
  rintro a217 w218 ⟨r,v,F219,hp221,hp222,hx220,b223,b224,b225⟩
  have hL226:=F219
  have z227:=hx220.size
  have z228:=b223.lt
  have z229:=b224.lt
  have z230:=b225.lt
  have hvl:v.length=16:=by rw [hp222];exact roundTo_len hl214
  refine wr fun K231 hK231=>?_
  refine F219.xv (.bool (decide (((r:Nat):Int)<(10:Int))))<|fun _ F233=>?_;clear F219
  refine wpList_nil (hK231 _ _ ?_);clear hK231
  refine wp_seq_k fun K234 hK234=>?_
  by_cases hc235:((r:Nat):Int)<(10:Int)
  ·skip
   refine F233.ct ?_
   refine wp_skip ?_
   refine hK234 _ _ ?_;clear hK234
   refine wp_seq_k fun K236 hK236=>?_
   refine wp_block ?_
   refine wr fun K237 hK237=>?_
   refine F233.xw (.agg (byteVals ((permB.drop (r*16)).take 16)).toArray) (fun F=>(rn_indexAA Tryd.underlying151 Tryd.underlying150 rfl inf150 (F.get rfl) (F.get rfl) (by omega:(0:Int)≤(r:Nat)) (by omega:((r:Nat):Int)<((10:Nat):Int))).trans (congrArg (fun v=>Result.ok (Next.value (Value.agg v)) _) (bytes_part _ _ _)))<|fun _ F239=>?_;clear F233
   refine F239.xz (byteVals (List.replicate 16 0)) 150 fun g240 w241 _ F247 z244 z245 b242 hx243=>?_;clear F239
   refine F247.xs rfl b242 (fun w248 b249 hg250=>?_) (hk:=byteVals_len (len_part (i:=r) (k:=16) permB_len (by omega))) (hl:=byteVals_len (show List.length (List.replicate 16 0)=_ from List.length_replicate));have z251:=hg250.size
   refine wpList_nil (hK237 _ _ ?_);clear hK237
   refine wp_seq_k fun K252 hK252=>?_
   refine wr fun K253 hK253=>?_
   refine F247.xv (vi 0)<|fun _ F255=>?_;clear F247
   refine wpList_nil (hK253 _ _ ?_);clear hK253
   refine wp_block ?_
   have b256:=((b223.ext hx243).gn hg250)
   have b257:=((b224.ext hx243).gn hg250)
   have b258:=((b225.ext hx243).gn hg250)
   refine wp_loop (fun a' W=>∃ (k1:Nat) (v1:List UInt32),Sl 149 [(0,(vp g)),(1,(vl A b.length c)),(2,(.int .u64 (n.toNat:Nat))),(3,(.bool last)),(8,(vp g2)),(9,(vp g10)),(18,(vl A b.length c)),(19,(vi (b.length:Nat))),(20,(vi (k:Nat))),(21,(.bool (decide (((k:Nat):Int)<((b.length:Nat):Int))))),(59,(.bool last)),(12,(.func (.func 89) #[(vp g10)] #[])),(65,(.agg (byteVals permB).toArray)),(66,(vi (r:Nat))),(67,(.bool (decide (((r:Nat):Int)<(10:Int))))),(14,(vp g240)),(69,(vi (k1:Nat)))] a'∧k1≤4∧v1=mixTo m (permRow r) v (k1)∧Ext w W∧Blk W g 141 (u32Vals h)∧Blk W g2 147 (u32Vals m)∧Blk W g10 147 (u32Vals v1)∧Blk W g240 150 (byteVals ((permB.drop (r*16)).take 16))) (fun a' _=>4 - (intOf (a'.eval (.tmp 69))).toNat) ⟨0,v,F255.j,(by omega),rfl,((((Ext.refl w).trans hx220).trans hx243).gn hg250),b256,b257,b258,b249⟩ ?_
   clear F255
   rintro a259 w260 ⟨k1,v1,F261,hp263,hp264,hx262,b265,b266,b267,b268⟩
   have hL269:=F261
   have z270:=hx262.size
   have z271:=b265.lt
   have z272:=b266.lt
   have z273:=b267.lt
   have z274:=b268.lt
   have hlv1:v1.length=16:=by rw [hp264];exact mixTo_len hvl
   refine wr fun K275 hK275=>?_
   refine F261.xv (.bool (decide (((k1:Nat):Int)<(4:Int))))<|fun _ F277=>?_;clear F261
   refine wpList_nil (hK275 _ _ ?_);clear hK275
   refine wp_seq_k fun K278 hK278=>?_
   by_cases hc279:((k1:Nat):Int)<(4:Int)
   ·skip
    refine F277.ct ?_
    refine wp_skip ?_
    refine hK278 _ _ ?_;clear hK278
    refine wp_seq_k fun K280 hK280=>?_
    refine wp_block ?_
    refine wr fun K281 hK281=>?_
    refine F277.xm rfl<|Xa rfl<|fun _ F285=>?_;clear F277
    refine wpList_nil (hK281 _ _ ?_);clear hK281
    have z286:=perm_lt (r:=r) (by omega) (j:=2*k1) (by omega)
    have z287:=perm_lt (r:=r) (by omega) (j:=(2*k1)+1) (by omega)
    have hx289:∃ W,w260.drew=W∧Ext w260 W:=⟨_,rfl,(Ext.refl _).drew⟩
    obtain ⟨w288,e290,hx289⟩:=hx289
    have z291:=hx289.size
    refine any_start (fun W=>True∧Blk W g240 150 (byteVals ((permB.drop (r*16)).take 16))∧Blk W g2 147 (u32Vals m)) (fun i=>false) 22 (.replicate 22 false) rfl rfl rfl ?_
    rw [e290];clear e290
    refine F285.ym 0 rfl<|Ym 1 rfl<|Ym 2 rfl<|Yw 3 (vi (4+k1:Nat)) rfl (fun F W=>rn_addN (a:=4) (b:=k1) rfl (F.get rfl) (by omega))<|Ym 4 rfl<|Yw 5 (vi (8+k1:Nat)) rfl (fun F W=>rn_addN (a:=8) (b:=k1) rfl (F.get rfl) (by omega))<|Ym 6 rfl<|Yw 7 (vi (12+k1:Nat)) rfl (fun F W=>rn_addN (a:=12) (b:=k1) rfl (F.get rfl) (by omega))<|Ym 8 rfl<|Yw 9 (vi (2*k1:Nat)) rfl (fun F W=>rn_mulN (a:=2) (b:=k1) rfl (F.get rfl) (by omega))<|Yw 10 (.pointer (some ⟨g240,0+(2*k1),none⟩)) rfl (fun F W=>rn_indexArr Tryd.underlying150 inf5 (F.get rfl) (F.get rfl) (by omega:(0:Int)≤(2*k1:Nat)) (by omega:((2*k1:Nat):Int)<((16:Nat):Int)))<|fun _ F313=>?_;clear F285
    have b315:=(b268.ext hx289)
    have b316:=(b266.ext hx289)
    have hS314:True∧Blk w288 g240 150 (byteVals ((permB.drop (r*16)).take 16))∧Blk w288 g2 147 (u32Vals m):=⟨trivial,b315,b316⟩
    refine F313.ys 11 (.int .u8 ((((permB.drop (r*16)).take 16).getD (2*k1) 0).toNat:Nat)) rfl hS314 (fun F W hW=>rl F rfl (blk_byte hW.2.1 (by omega) (by have:=(show List.length ((permB.drop (r*16)).take 16)=_ from (len_part (i:=r) (k:=16) permB_len (by omega)));omega)))<|Yw 12 (.pointer (some ⟨g2,0+((((permB.drop (r*16)).take 16).getD (2*k1) 0).toNat),none⟩)) rfl (fun F W=>rn_indexArr Tryd.underlying147 inf140 (F.get rfl) (F.get rfl) (by omega:(0:Int)≤((((permB.drop (r*16)).take 16).getD (2*k1) 0).toNat:Nat)) (by omega:(((((permB.drop (r*16)).take 16).getD (2*k1) 0).toNat:Nat):Int)<((16:Nat):Int)))<|Ys 13 (.int .u32 ((m.getD ((((permB.drop (r*16)).take 16).getD (2*k1) 0).toNat) 0).toNat:Nat)) rfl hS314 (fun F W hW=>rl F rfl (blk_word hW.2.2 (by omega) (by have:=(show List.length m=_ from hm);omega)))<|Ym 14 rfl<|Yw 15 (vi (2*k1:Nat)) rfl (fun F W=>rn_mulN (a:=2) (b:=k1) rfl (F.get rfl) (by omega))<|Yv 16 (vi ((2*k1)+1:Nat)) rfl<|Yw 17 (.pointer (some ⟨g240,0+((2*k1)+1),none⟩)) rfl (fun F W=>rn_indexArr Tryd.underlying150 inf5 (F.get rfl) (F.get rfl) (by omega:(0:Int)≤((2*k1)+1:Nat)) (by omega:(((2*k1)+1:Nat):Int)<((16:Nat):Int)))<|Ys 18 (.int .u8 ((((permB.drop (r*16)).take 16).getD ((2*k1)+1) 0).toNat:Nat)) rfl hS314 (fun F W hW=>rl F rfl (blk_byte hW.2.1 (by omega) (by have:=(show List.length ((permB.drop (r*16)).take 16)=_ from (len_part (i:=r) (k:=16) permB_len (by omega)));omega)))<|Yw 19 (.pointer (some ⟨g2,0+((((permB.drop (r*16)).take 16).getD ((2*k1)+1) 0).toNat),none⟩)) rfl (fun F W=>rn_indexArr Tryd.underlying147 inf140 (F.get rfl) (F.get rfl) (by omega:(0:Int)≤((((permB.drop (r*16)).take 16).getD ((2*k1)+1) 0).toNat:Nat)) (by omega:(((((permB.drop (r*16)).take 16).getD ((2*k1)+1) 0).toNat:Nat):Int)<((16:Nat):Int)))<|Ys 20 (.int .u32 ((m.getD ((((permB.drop (r*16)).take 16).getD ((2*k1)+1) 0).toNat) 0).toNat:Nat)) rfl hS314 (fun F W hW=>rl F rfl (blk_word hW.2.2 (by omega) (by have:=(show List.length m=_ from hm);omega)))<|fun _ F336=>?_;clear F313
    refine ao 21 rfl ?_
    have b337:=(b267.ext hx289)
    refine o_call F336 rfl rfl rfl rfl (rn_callv (F336.get rfl) (args1_6 (F336.get rfl) (F336.get rfl) (F336.get rfl) (F336.get rfl) (F336.get rfl) (F336.get rfl)) (by kernel_rfl)) (mix_any g10 v1 k1 (4+k1) (8+k1) (12+k1) (m.getD ((((permB.drop (r*16)).take 16).getD (2*k1) 0).toNat) 0) (m.getD ((((permB.drop (r*16)).take 16).getD ((2*k1)+1) 0).toNat) 0) _ b337 hlv1 (by omega) (by omega) (by omega) (by omega)) ?_
    rintro _ w338 ⟨rfl,b339,hg340⟩
    refine ⟨_,rfl,?_⟩;intro a341 F342;clear F336;have z343:=hg340.size
    have b344:=(b315.gn hg340)
    have b345:=(b316.gn hg340)
    refine ⟨fun _ _=>⟨trivial,b344,b345⟩,?_⟩
    refine nn (hK280 _ _ ?_);clear hK280
    have F346:=F342.k [0,1,2,3,8,9,18,19,20,21,59,12,65,66,67,14,69,70,15];clear F342
    refine wp_region_lit ?_
    refine F346.xv (vi (k1+1:Nat))<|Xm rfl<|fun _ F350=>?_;clear F346
    refine wpList_nil ?_
    obtain ⟨v351,e352⟩:∃ z,z=mixSeq v1 k1 (4+k1) (8+k1) (12+k1) (m.getD ((((permB.drop (r*16)).take 16).getD (2*k1) 0).toNat) 0) (m.getD ((((permB.drop (r*16)).take 16).getD ((2*k1)+1) 0).toNat) 0):=⟨_,rfl⟩
    have hl353:v351.length=16:=(congrArg List.length e352).trans ((mixSeq_len _ _ _ _ _ _ _).trans hlv1)
    rw [← e352] at b339
    have b354:=((b265.ext hx289).gn hg340)
    refine ⟨⟨k1+1,v351,F350.j,(by omega),(mixTo_step1 (by omega) (by omega) hvl hp264 e352),((((Ext.refl w).trans hx262).trans hx289).gn hg340),b354,b345,b339,b344⟩,?_⟩
    rw [F350.get (t:=69) rfl,hL269.get (t:=69) rfl];simp [intOf];omega
   refine F277.cf ?_
   refine wp_exit ?_
   refine exit_then ?_
   refine exit_then ?_
   refine exit_here ?_
   refine hK252 _ _ ?_;clear hK252
   refine wr fun K355 hK355=>?_
   refine F277.xv (vi 0)<|fun _ F357=>?_;clear F277
   refine wpList_nil (hK355 _ _ ?_);clear hK355
   refine wp_block ?_
   have hi4:v1=mixTo m (permRow r) v (4+0):=by rw [hp264,show k1=4+0 from by omega]
   refine wp_loop (fun a' W=>∃ (k2:Nat) (v2:List UInt32),Sl 149 [(0,(vp g)),(1,(vl A b.length c)),(2,(.int .u64 (n.toNat:Nat))),(3,(.bool last)),(8,(vp g2)),(9,(vp g10)),(18,(vl A b.length c)),(19,(vi (b.length:Nat))),(20,(vi (k:Nat))),(21,(.bool (decide (((k:Nat):Int)<((b.length:Nat):Int))))),(59,(.bool last)),(12,(.func (.func 89) #[(vp g10)] #[])),(65,(.agg (byteVals permB).toArray)),(66,(vi (r:Nat))),(67,(.bool (decide (((r:Nat):Int)<(10:Int))))),(14,(vp g240)),(69,(vi (k1:Nat))),(70,(.bool (decide (((k1:Nat):Int)<(4:Int))))),(95,(vi (k2:Nat)))] a'∧k2≤4∧v2=mixTo m (permRow r) v (4+k2)∧Ext w W∧Blk W g 141 (u32Vals h)∧Blk W g2 147 (u32Vals m)∧Blk W g10 147 (u32Vals v2)∧Blk W g240 150 (byteVals ((permB.drop (r*16)).take 16))) (fun a' _=>4 - (intOf (a'.eval (.tmp 95))).toNat) ⟨0,v1,F357.j,(by omega),hi4,((Ext.refl w).trans hx262),b265,b266,b267,b268⟩ ?_
   clear F357
   rintro a358 w359 ⟨k2,v2,F360,hp362,hp363,hx361,b364,b365,b366,b367⟩
   have hL368:=F360
   have z369:=hx361.size
   have z370:=b364.lt
   have z371:=b365.lt
   have z372:=b366.lt
   have z373:=b367.lt
   have hlv2:v2.length=16:=by rw [hp363];exact mixTo_len hvl
   refine wr fun K374 hK374=>?_
   refine F360.xv (.bool (decide (((k2:Nat):Int)<(4:Int))))<|fun _ F376=>?_;clear F360
   refine wpList_nil (hK374 _ _ ?_);clear hK374
   refine wp_seq_k fun K377 hK377=>?_
   by_cases hc378:((k2:Nat):Int)<(4:Int)
   ·skip
    refine F376.ct ?_
    refine wp_skip ?_
    refine hK377 _ _ ?_;clear hK377
    refine wp_seq_k fun K379 hK379=>?_
    refine wp_block ?_
    refine wr fun K380 hK380=>?_
    refine F376.xm rfl<|Xa rfl<|fun _ F384=>?_;clear F376
    refine wpList_nil (hK380 _ _ ?_);clear hK380
    have z385:=perm_lt (r:=r) (by omega) (j:=8+(2*k2)) (by omega)
    have z386:=perm_lt (r:=r) (by omega) (j:=9+(2*k2)) (by omega)
    have hx388:∃ W,w359.drew=W∧Ext w359 W:=⟨_,rfl,(Ext.refl _).drew⟩
    obtain ⟨w387,e389,hx388⟩:=hx388
    have z390:=hx388.size
    refine any_start (fun W=>True∧Blk W g240 150 (byteVals ((permB.drop (r*16)).take 16))∧Blk W g2 147 (u32Vals m)) (fun i=>false) 29 (.replicate 29 false) rfl rfl rfl ?_
    rw [e389];clear e389
    refine F384.ym 0 rfl<|Ym 1 rfl<|Ym 2 rfl<|Yv 3 (vi (k2+1:Nat)) rfl<|Yw 4 (vi ((k2+1) % 4:Nat)) rfl (fun F W=>rn_remN (a:=k2+1) (b:=4) (F.get rfl) rfl (by omega))<|Yw 5 (vi (4+((k2+1) % 4):Nat)) rfl (fun F W=>rn_addN (a:=4) (b:=(k2+1) % 4) rfl (F.get rfl) (by omega))<|Ym 6 rfl<|Yv 7 (vi (k2+2:Nat)) rfl<|Yw 8 (vi ((k2+2) % 4:Nat)) rfl (fun F W=>rn_remN (a:=k2+2) (b:=4) (F.get rfl) rfl (by omega))<|Yw 9 (vi (8+((k2+2) % 4):Nat)) rfl (fun F W=>rn_addN (a:=8) (b:=(k2+2) % 4) rfl (F.get rfl) (by omega))<|Ym 10 rfl<|Yv 11 (vi (k2+3:Nat)) rfl<|Yw 12 (vi ((k2+3) % 4:Nat)) rfl (fun F W=>rn_remN (a:=k2+3) (b:=4) (F.get rfl) rfl (by omega))<|Yw 13 (vi (12+((k2+3) % 4):Nat)) rfl (fun F W=>rn_addN (a:=12) (b:=(k2+3) % 4) rfl (F.get rfl) (by omega))<|Ym 14 rfl<|Yw 15 (vi (2*k2:Nat)) rfl (fun F W=>rn_mulN (a:=2) (b:=k2) rfl (F.get rfl) (by omega))<|Yw 16 (vi (8+(2*k2):Nat)) rfl (fun F W=>rn_addN (a:=8) (b:=2*k2) rfl (F.get rfl) (by omega))<|Yw 17 (.pointer (some ⟨g240,0+(8+(2*k2)),none⟩)) rfl (fun F W=>rn_indexArr Tryd.underlying150 inf5 (F.get rfl) (F.get rfl) (by omega:(0:Int)≤(8+(2*k2):Nat)) (by omega:((8+(2*k2):Nat):Int)<((16:Nat):Int)))<|fun _ F426=>?_;clear F384
    have b428:=(b367.ext hx388)
    have b429:=(b365.ext hx388)
    have hS427:True∧Blk w387 g240 150 (byteVals ((permB.drop (r*16)).take 16))∧Blk w387 g2 147 (u32Vals m):=⟨trivial,b428,b429⟩
    refine F426.ys 18 (.int .u8 ((((permB.drop (r*16)).take 16).getD (8+(2*k2)) 0).toNat:Nat)) rfl hS427 (fun F W hW=>rl F rfl (blk_byte hW.2.1 (by omega) (by have:=(show List.length ((permB.drop (r*16)).take 16)=_ from (len_part (i:=r) (k:=16) permB_len (by omega)));omega)))<|Yw 19 (.pointer (some ⟨g2,0+((((permB.drop (r*16)).take 16).getD (8+(2*k2)) 0).toNat),none⟩)) rfl (fun F W=>rn_indexArr Tryd.underlying147 inf140 (F.get rfl) (F.get rfl) (by omega:(0:Int)≤((((permB.drop (r*16)).take 16).getD (8+(2*k2)) 0).toNat:Nat)) (by omega:(((((permB.drop (r*16)).take 16).getD (8+(2*k2)) 0).toNat:Nat):Int)<((16:Nat):Int)))<|Ys 20 (.int .u32 ((m.getD ((((permB.drop (r*16)).take 16).getD (8+(2*k2)) 0).toNat) 0).toNat:Nat)) rfl hS427 (fun F W hW=>rl F rfl (blk_word hW.2.2 (by omega) (by have:=(show List.length m=_ from hm);omega)))<|Ym 21 rfl<|Yw 22 (vi (2*k2:Nat)) rfl (fun F W=>rn_mulN (a:=2) (b:=k2) rfl (F.get rfl) (by omega))<|Yw 23 (vi (9+(2*k2):Nat)) rfl (fun F W=>rn_addN (a:=9) (b:=2*k2) rfl (F.get rfl) (by omega))<|Yw 24 (.pointer (some ⟨g240,0+(9+(2*k2)),none⟩)) rfl (fun F W=>rn_indexArr Tryd.underlying150 inf5 (F.get rfl) (F.get rfl) (by omega:(0:Int)≤(9+(2*k2):Nat)) (by omega:((9+(2*k2):Nat):Int)<((16:Nat):Int)))<|Ys 25 (.int .u8 ((((permB.drop (r*16)).take 16).getD (9+(2*k2)) 0).toNat:Nat)) rfl hS427 (fun F W hW=>rl F rfl (blk_byte hW.2.1 (by omega) (by have:=(show List.length ((permB.drop (r*16)).take 16)=_ from (len_part (i:=r) (k:=16) permB_len (by omega)));omega)))<|Yw 26 (.pointer (some ⟨g2,0+((((permB.drop (r*16)).take 16).getD (9+(2*k2)) 0).toNat),none⟩)) rfl (fun F W=>rn_indexArr Tryd.underlying147 inf140 (F.get rfl) (F.get rfl) (by omega:(0:Int)≤((((permB.drop (r*16)).take 16).getD (9+(2*k2)) 0).toNat:Nat)) (by omega:(((((permB.drop (r*16)).take 16).getD (9+(2*k2)) 0).toNat:Nat):Int)<((16:Nat):Int)))<|Ys 27 (.int .u32 ((m.getD ((((permB.drop (r*16)).take 16).getD (9+(2*k2)) 0).toNat) 0).toNat:Nat)) rfl hS427 (fun F W hW=>rl F rfl (blk_word hW.2.2 (by omega) (by have:=(show List.length m=_ from hm);omega)))<|fun _ F449=>?_;clear F426
    refine ao 28 rfl ?_
    have b450:=(b366.ext hx388)
    refine o_call F449 rfl rfl rfl rfl (rn_callv (F449.get rfl) (args1_6 (F449.get rfl) (F449.get rfl) (F449.get rfl) (F449.get rfl) (F449.get rfl) (F449.get rfl)) (by kernel_rfl)) (mix_any g10 v2 k2 (4+((k2+1) % 4)) (8+((k2+2) % 4)) (12+((k2+3) % 4)) (m.getD ((((permB.drop (r*16)).take 16).getD (8+(2*k2)) 0).toNat) 0) (m.getD ((((permB.drop (r*16)).take 16).getD (9+(2*k2)) 0).toNat) 0) _ b450 hlv2 (by omega) (by omega) (by omega) (by omega)) ?_
    rintro _ w451 ⟨rfl,b452,hg453⟩
    refine ⟨_,rfl,?_⟩;intro a454 F455;clear F449;have z456:=hg453.size
    have b457:=(b428.gn hg453)
    have b458:=(b429.gn hg453)
    refine ⟨fun _ _=>⟨trivial,b457,b458⟩,?_⟩
    refine nn (hK379 _ _ ?_);clear hK379
    have F459:=F455.k [0,1,2,3,8,9,18,19,20,21,59,12,65,66,67,14,69,70,95,96,16];clear F455
    refine wp_region_lit ?_
    refine F459.xv (vi (k2+1:Nat))<|Xm rfl<|fun _ F463=>?_;clear F459
    refine wpList_nil ?_
    obtain ⟨v464,e465⟩:∃ z,z=mixSeq v2 k2 (4+((k2+1) % 4)) (8+((k2+2) % 4)) (12+((k2+3) % 4)) (m.getD ((((permB.drop (r*16)).take 16).getD (8+(2*k2)) 0).toNat) 0) (m.getD ((((permB.drop (r*16)).take 16).getD (9+(2*k2)) 0).toNat) 0):=⟨_,rfl⟩
    have hl466:v464.length=16:=(congrArg List.length e465).trans ((mixSeq_len _ _ _ _ _ _ _).trans hlv2)
    rw [← e465] at b452
    have b467:=((b364.ext hx388).gn hg453)
    refine ⟨⟨k2+1,v464,F463.j,(by omega),(mixTo_step2 (by omega) (by omega) hvl hp363 e465),((((Ext.refl w).trans hx361).trans hx388).gn hg453),b467,b458,b452,b457⟩,?_⟩
    rw [F463.get (t:=95) rfl,hL368.get (t:=95) rfl];simp [intOf];omega
   have hv8:v2=mixTo m (permRow r) v 8:=by rw [hp363,show 4+k2=8 from by omega]
   refine F376.cf ?_
   refine wp_exit ?_
   refine exit_then ?_
   refine exit_then ?_
   refine exit_here ?_
   refine hK236 _ _ ?_;clear hK236
   refine wp_region_lit ?_
   refine F376.xv (vi (r+1:Nat))<|Xm rfl<|fun _ F471=>?_;clear F376
   refine wpList_nil ?_
   refine ⟨⟨r+1,v2,F471.j,(by omega),(roundTo_step (by omega) hp222 hv8),((Ext.refl w).trans hx361),b364,b365,b366⟩,?_⟩
   rw [F471.get (t:=66) rfl,hL226.get (t:=66) rfl];simp [intOf];omega
  refine F233.cf ?_
  refine wp_exit ?_
  refine exit_then ?_
  refine exit_then ?_
  refine exit_here ?_
  refine hK206 _ _ ?_;clear hK206
  refine wr fun K472 hK472=>?_
  refine F233.xv (vi 0)<|fun _ F474=>?_;clear F233
  refine wpList_nil (hK472 _ _ ?_);clear hK472
  refine wp_block ?_
  have hv10:v=roundTo (words b) (begin_ h n last) 10:=by rw [hp222,hv0,hmw,show r=10 from by omega]
  refine wp_loop (fun a' W=>∃ (k5:Nat) (hh2:List UInt32),Sl 149 [(0,(vp g)),(1,(vl A b.length c)),(2,(.int .u64 (n.toNat:Nat))),(3,(.bool last)),(8,(vp g2)),(9,(vp g10)),(18,(vl A b.length c)),(19,(vi (b.length:Nat))),(20,(vi (k:Nat))),(21,(.bool (decide (((k:Nat):Int)<((b.length:Nat):Int))))),(59,(.bool last)),(12,(.func (.func 89) #[(vp g10)] #[])),(65,(.agg (byteVals permB).toArray)),(66,(vi (r:Nat))),(67,(.bool (decide (((r:Nat):Int)<(10:Int))))),(129,(vi (k5:Nat)))] a'∧k5≤8∧hh2=closeTo v h k5∧w.grownBy W (some g)∧Blk W g 141 (u32Vals hh2)∧Blk W g10 147 (u32Vals v)) (fun a' _=>8 - (intOf (a'.eval (.tmp 129))).toNat) ⟨0,h,F474.j,(by omega),rfl,(grow_ext (grow_refl w g) hx220),b223,b225⟩ ?_
  clear F474
  rintro a475 w476 ⟨k5,hh2,F477,hp479,hp480,hx478,b481,b482⟩
  have hL483:=F477
  have z484:=hx478.size
  have z485:=b481.lt
  have z486:=b482.lt
  have hhl:hh2.length=8:=by rw [hp480];exact closeTo_len hh
  refine wr fun K487 hK487=>?_
  refine F477.xv (.bool (decide (((k5:Nat):Int)<(8:Int))))<|fun _ F489=>?_;clear F477
  refine wpList_nil (hK487 _ _ ?_);clear hK487
  refine wp_seq_k fun K490 hK490=>?_
  by_cases hc491:((k5:Nat):Int)<(8:Int)
  ·skip
   refine F489.ct ?_
   refine wp_skip ?_
   refine hK490 _ _ ?_;clear hK490
   refine wp_seq_k fun K492 hK492=>?_
   refine wp_block ?_
   refine wr fun K493 hK493=>?_
   refine F489.xm rfl<|Xa rfl<|fun _ F497=>?_;clear F489
   refine wpList_nil (hK493 _ _ ?_);clear hK493
   have hx499:∃ W,w476.drew=W∧Ext w476 W:=⟨_,rfl,(Ext.refl _).drew⟩
   obtain ⟨w498,e500,hx499⟩:=hx499
   have z501:=hx499.size
   refine any_start (fun W=>Ext w498 W∧Blk W g 141 (u32Vals hh2)∧Blk W g10 147 (u32Vals v)) (fun i=>i==16) 17 (.replicate 17 false) rfl rfl rfl ?_
   rw [e500];clear e500
   refine F497.ym 0 rfl<|Ym 1 rfl<|Yv 2 (vp g) rfl<|Yw 3 (.pointer (some ⟨g,0+k5,none⟩)) rfl (fun F W=>rn_indexArr Tryd.underlying141 inf140 (F.get rfl) (F.get rfl) (by omega:(0:Int)≤(k5:Nat)) (by omega:((k5:Nat):Int)<((8:Nat):Int)))<|fun _ F509=>?_;clear F497
   have b511:=(b481.ext hx499)
   have b512:=(b482.ext hx499)
   have hS510:Ext w498 w498∧Blk w498 g 141 (u32Vals hh2)∧Blk w498 g10 147 (u32Vals v):=⟨(Ext.refl w498),b511,b512⟩
   refine F509.ys 4 (.int .u32 ((hh2.getD k5 0).toNat:Nat)) rfl hS510 (fun F W hW=>rl F rfl (blk_word hW.2.1 (by omega) (by have:=(show List.length hh2=_ from hhl);omega)))<|Ym 5 rfl<|Yw 6 (.pointer (some ⟨g10,0+k5,none⟩)) rfl (fun F W=>rn_indexArr Tryd.underlying147 inf140 (F.get rfl) (F.get rfl) (by omega:(0:Int)≤(k5:Nat)) (by omega:((k5:Nat):Int)<((16:Nat):Int)))<|Ys 7 (.int .u32 ((v.getD k5 0).toNat:Nat)) rfl hS510 (fun F W hW=>rl F rfl (blk_word hW.2.2 (by omega) (by have:=(show List.length v=_ from hvl);omega)))<|Ym 8 rfl<|Yw 9 (vi (8+k5:Nat)) rfl (fun F W=>rn_addN (a:=8) (b:=k5) rfl (F.get rfl) (by omega))<|Yw 10 (.pointer (some ⟨g10,0+(8+k5),none⟩)) rfl (fun F W=>rn_indexArr Tryd.underlying147 inf140 (F.get rfl) (F.get rfl) (by omega:(0:Int)≤(8+k5:Nat)) (by omega:((8+k5:Nat):Int)<((16:Nat):Int)))<|Ys 11 (.int .u32 ((v.getD (8+k5) 0).toNat:Nat)) rfl hS510 (fun F W hW=>rl F rfl (blk_word hW.2.2 (by omega) (by have:=(show List.length v=_ from hvl);omega)))<|Yw 12 (.int .u32 (((v.getD k5 0)^^^(v.getD (8+k5) 0)).toNat:Nat)) rfl (fun F W=>rn_xor32 (a:=(v.getD k5 0)) (b:=(v.getD (8+k5) 0)) (F.get rfl) (F.get rfl))<|Yw 13 (.int .u32 (((hh2.getD k5 0)^^^((v.getD k5 0)^^^(v.getD (8+k5) 0))).toNat:Nat)) rfl (fun F W=>rn_xor32 (a:=(hh2.getD k5 0)) (b:=((v.getD k5 0)^^^(v.getD (8+k5) 0))) (F.get rfl) (F.get rfl))<|Yv 14 (vp g) rfl<|Yw 15 (.pointer (some ⟨g,0+k5,none⟩)) rfl (fun F W=>rn_indexArr Tryd.underlying141 inf140 (F.get rfl) (F.get rfl) (by omega:(0:Int)≤(k5:Nat)) (by omega:((k5:Nat):Int)<((8:Nat):Int)))<|fun _ F536=>?_;clear F509
   refine ao 16 rfl ?_
   refine o_store1 (new:=(u32Vals (hh2.set k5 ((hh2.getD k5 0)^^^((v.getD k5 0)^^^(v.getD (8+k5) 0)))))) F536 rfl rfl rfl rfl (F536.get rfl) (F536.get rfl) b511 inf140 (by rw [u32Vals_len hhl];omega) rfl (u32Vals_set (by omega)) ?_
   intro w537 b538 hg539;have z540:=hg539.size
   refine ⟨fun h=>absurd h (by decide),?_⟩
   refine nn (hK492 _ _ ?_);clear hK492
   have F541:=F536.k [0,1,2,3,8,9,18,19,20,21,59,12,65,66,67,129,130,17];clear F536
   refine wp_region_lit ?_
   refine F541.xv (vi (k5+1:Nat))<|Xm rfl<|fun _ F545=>?_;clear F541
   refine wpList_nil ?_
   obtain ⟨v546,e547⟩:∃ z,z=hh2.set k5 ((hh2.getD k5 0)^^^((v.getD k5 0)^^^(v.getD (8+k5) 0))):=⟨_,rfl⟩
   have hl548:v546.length=8:=(congrArg List.length e547).trans (show List.length (hh2.set k5 ((hh2.getD k5 0)^^^((v.getD k5 0)^^^(v.getD (8+k5) 0))))=_ from List.length_set.trans hhl)
   rw [← e547] at b538
   have b549:=(b512.gn hg539)
   refine ⟨⟨k5+1,v546,F545.j,(by omega),(closeTo_step hp480 e547),(grow_set (grow_ext (grow_set (grow_refl w g) hx478) hx499) hg539),b538,b549⟩,?_⟩
   rw [F545.get (t:=129) rfl,hL483.get (t:=129) rfl];simp [intOf];omega
  refine F489.cf ?_
  refine wp_exit ?_
  refine exit_then ?_
  refine exit_then ?_
  refine exit_here ?_
  refine ret0 F489 rfl ?_
  have hk8:k5=8:=by omega
  subst hk8
  exact ⟨rfl,(absorb_eq hv10 hp480) ▸ b481,(grow_set (grow_refl w g) hx478)⟩
 refine F186.cf ?_
 refine wp_skip ?_
 refine hK183 _ _ ?_;clear hK183
 refine wr fun K550 hK550=>?_
 refine F186.xw (.func (.func 89) #[(vp g10)] #[]) (fun F=>rn_makeFunc (args1 (F.get rfl)) (args0))<|Xa rfl<|fun _ F554=>?_;clear F186
 refine wpList_nil (hK550 _ _ ?_);clear hK550
 refine wp_seq_k fun K555 hK555=>?_
 refine wr fun K556 hK556=>?_
 refine F554.xw (.agg (byteVals permB).toArray) (fun F=>rn_loadN (cs:=byteVals permB) rfl Tryd.underlying151 rfl (sk inf151 (byteVals_len permB_len)) (fun j v hv=>(hG.ext ((((((((Ext.refl w).trans hx31).trans hx109).gn hg124).trans hx131).gn hg141).gn hg160).gn hg180)).at1 j v hv))<|Xv (vi 0)<|fun _ F560=>?_;clear F554
 refine wpList_nil (hK556 _ _ ?_);clear hK556
 refine wp_block ?_
 have hmw:m=words b:=words_eq hp33 (by omega)
 obtain ⟨v561,e562⟩:∃ z,z=((h++iv).set 12 (((h++iv).getD 12 0)^^^n.toUInt32)).set 13 ((((h++iv).set 12 (((h++iv).getD 12 0)^^^n.toUInt32)).getD 13 0)^^^((n >>> UInt64.ofNat 32).toUInt32)):=⟨_,rfl⟩
 have hl563:v561.length=16:=(congrArg List.length e562).trans (show List.length (((h++iv).set 12 (((h++iv).getD 12 0)^^^n.toUInt32)).set 13 ((((h++iv).set 12 (((h++iv).getD 12 0)^^^n.toUInt32)).getD 13 0)^^^((n >>> UInt64.ofNat 32).toUInt32)))=_ from List.length_set.trans (show List.length ((h++iv).set 12 (((h++iv).getD 12 0)^^^n.toUInt32))=_ from List.length_set.trans (hiv_len hh)))
 rw [← e562] at b179
 have hv0:v561=begin_ h n last:=by rw [e562,hc187];exact begin_false
 have b564:=(((((b121.gn hg124).ext hx131).gn hg141).gn hg160).gn hg180)
 have b565:=((((((b35.ext hx109).gn hg124).ext hx131).gn hg141).gn hg160).gn hg180)
 refine wp_loop (fun a' W=>∃ (r:Nat) (v:List UInt32),Sl 149 [(0,(vp g)),(1,(vl A b.length c)),(2,(.int .u64 (n.toNat:Nat))),(3,(.bool last)),(8,(vp g2)),(9,(vp g10)),(18,(vl A b.length c)),(19,(vi (b.length:Nat))),(20,(vi (k:Nat))),(21,(.bool (decide (((k:Nat):Int)<((b.length:Nat):Int))))),(59,(.bool last)),(12,(.func (.func 89) #[(vp g10)] #[])),(65,(.agg (byteVals permB).toArray)),(66,(vi (r:Nat)))] a'∧r≤10∧v=roundTo m v561 r∧Ext w W∧Blk W g 141 (u32Vals h)∧Blk W g2 147 (u32Vals m)∧Blk W g10 147 (u32Vals v)) (fun a' _=>10 - (intOf (a'.eval (.tmp 66))).toNat) ⟨0,v561,F560.j,(by omega),rfl,((((((((Ext.refl w).trans hx31).trans hx109).gn hg124).trans hx131).gn hg141).gn hg160).gn hg180),b564,b565,b179⟩ ?_
 clear F560
 rintro a566 w567 ⟨r,v,F568,hp570,hp571,hx569,b572,b573,b574⟩
 have hL575:=F568
 have z576:=hx569.size
 have z577:=b572.lt
 have z578:=b573.lt
 have z579:=b574.lt
 have hvl:v.length=16:=by rw [hp571];exact roundTo_len hl563
 refine wr fun K580 hK580=>?_
 refine F568.xv (.bool (decide (((r:Nat):Int)<(10:Int))))<|fun _ F582=>?_;clear F568
 refine wpList_nil (hK580 _ _ ?_);clear hK580
 refine wp_seq_k fun K583 hK583=>?_
 by_cases hc584:((r:Nat):Int)<(10:Int)
 ·skip
  refine F582.ct ?_
  refine wp_skip ?_
  refine hK583 _ _ ?_;clear hK583
  refine wp_seq_k fun K585 hK585=>?_
  refine wp_block ?_
  refine wr fun K586 hK586=>?_
  refine F582.xw (.agg (byteVals ((permB.drop (r*16)).take 16)).toArray) (fun F=>(rn_indexAA Tryd.underlying151 Tryd.underlying150 rfl inf150 (F.get rfl) (F.get rfl) (by omega:(0:Int)≤(r:Nat)) (by omega:((r:Nat):Int)<((10:Nat):Int))).trans (congrArg (fun v=>Result.ok (Next.value (Value.agg v)) _) (bytes_part _ _ _)))<|fun _ F588=>?_;clear F582
  refine F588.xz (byteVals (List.replicate 16 0)) 150 fun g589 w590 _ F596 z593 z594 b591 hx592=>?_;clear F588
  refine F596.xs rfl b591 (fun w597 b598 hg599=>?_) (hk:=byteVals_len (len_part (i:=r) (k:=16) permB_len (by omega))) (hl:=byteVals_len (show List.length (List.replicate 16 0)=_ from List.length_replicate));have z600:=hg599.size
  refine wpList_nil (hK586 _ _ ?_);clear hK586
  refine wp_seq_k fun K601 hK601=>?_
  refine wr fun K602 hK602=>?_
  refine F596.xv (vi 0)<|fun _ F604=>?_;clear F596
  refine wpList_nil (hK602 _ _ ?_);clear hK602
  refine wp_block ?_
  have b605:=((b572.ext hx592).gn hg599)
  have b606:=((b573.ext hx592).gn hg599)
  have b607:=((b574.ext hx592).gn hg599)
  refine wp_loop (fun a' W=>∃ (k1:Nat) (v1:List UInt32),Sl 149 [(0,(vp g)),(1,(vl A b.length c)),(2,(.int .u64 (n.toNat:Nat))),(3,(.bool last)),(8,(vp g2)),(9,(vp g10)),(18,(vl A b.length c)),(19,(vi (b.length:Nat))),(20,(vi (k:Nat))),(21,(.bool (decide (((k:Nat):Int)<((b.length:Nat):Int))))),(59,(.bool last)),(12,(.func (.func 89) #[(vp g10)] #[])),(65,(.agg (byteVals permB).toArray)),(66,(vi (r:Nat))),(67,(.bool (decide (((r:Nat):Int)<(10:Int))))),(14,(vp g589)),(69,(vi (k1:Nat)))] a'∧k1≤4∧v1=mixTo m (permRow r) v (k1)∧Ext w W∧Blk W g 141 (u32Vals h)∧Blk W g2 147 (u32Vals m)∧Blk W g10 147 (u32Vals v1)∧Blk W g589 150 (byteVals ((permB.drop (r*16)).take 16))) (fun a' _=>4 - (intOf (a'.eval (.tmp 69))).toNat) ⟨0,v,F604.j,(by omega),rfl,((((Ext.refl w).trans hx569).trans hx592).gn hg599),b605,b606,b607,b598⟩ ?_
  clear F604
  rintro a608 w609 ⟨k1,v1,F610,hp612,hp613,hx611,b614,b615,b616,b617⟩
  have hL618:=F610
  have z619:=hx611.size
  have z620:=b614.lt
  have z621:=b615.lt
  have z622:=b616.lt
  have z623:=b617.lt
  have hlv1:v1.length=16:=by rw [hp613];exact mixTo_len hvl
  refine wr fun K624 hK624=>?_
  refine F610.xv (.bool (decide (((k1:Nat):Int)<(4:Int))))<|fun _ F626=>?_;clear F610
  refine wpList_nil (hK624 _ _ ?_);clear hK624
  refine wp_seq_k fun K627 hK627=>?_
  by_cases hc628:((k1:Nat):Int)<(4:Int)
  ·skip
   refine F626.ct ?_
   refine wp_skip ?_
   refine hK627 _ _ ?_;clear hK627
   refine wp_seq_k fun K629 hK629=>?_
   refine wp_block ?_
   refine wr fun K630 hK630=>?_
   refine F626.xm rfl<|Xa rfl<|fun _ F634=>?_;clear F626
   refine wpList_nil (hK630 _ _ ?_);clear hK630
   have z635:=perm_lt (r:=r) (by omega) (j:=2*k1) (by omega)
   have z636:=perm_lt (r:=r) (by omega) (j:=(2*k1)+1) (by omega)
   have hx638:∃ W,w609.drew=W∧Ext w609 W:=⟨_,rfl,(Ext.refl _).drew⟩
   obtain ⟨w637,e639,hx638⟩:=hx638
   have z640:=hx638.size
   refine any_start (fun W=>True∧Blk W g589 150 (byteVals ((permB.drop (r*16)).take 16))∧Blk W g2 147 (u32Vals m)) (fun i=>false) 22 (.replicate 22 false) rfl rfl rfl ?_
   rw [e639];clear e639
   refine F634.ym 0 rfl<|Ym 1 rfl<|Ym 2 rfl<|Yw 3 (vi (4+k1:Nat)) rfl (fun F W=>rn_addN (a:=4) (b:=k1) rfl (F.get rfl) (by omega))<|Ym 4 rfl<|Yw 5 (vi (8+k1:Nat)) rfl (fun F W=>rn_addN (a:=8) (b:=k1) rfl (F.get rfl) (by omega))<|Ym 6 rfl<|Yw 7 (vi (12+k1:Nat)) rfl (fun F W=>rn_addN (a:=12) (b:=k1) rfl (F.get rfl) (by omega))<|Ym 8 rfl<|Yw 9 (vi (2*k1:Nat)) rfl (fun F W=>rn_mulN (a:=2) (b:=k1) rfl (F.get rfl) (by omega))<|Yw 10 (.pointer (some ⟨g589,0+(2*k1),none⟩)) rfl (fun F W=>rn_indexArr Tryd.underlying150 inf5 (F.get rfl) (F.get rfl) (by omega:(0:Int)≤(2*k1:Nat)) (by omega:((2*k1:Nat):Int)<((16:Nat):Int)))<|fun _ F662=>?_;clear F634
   have b664:=(b617.ext hx638)
   have b665:=(b615.ext hx638)
   have hS663:True∧Blk w637 g589 150 (byteVals ((permB.drop (r*16)).take 16))∧Blk w637 g2 147 (u32Vals m):=⟨trivial,b664,b665⟩
   refine F662.ys 11 (.int .u8 ((((permB.drop (r*16)).take 16).getD (2*k1) 0).toNat:Nat)) rfl hS663 (fun F W hW=>rl F rfl (blk_byte hW.2.1 (by omega) (by have:=(show List.length ((permB.drop (r*16)).take 16)=_ from (len_part (i:=r) (k:=16) permB_len (by omega)));omega)))<|Yw 12 (.pointer (some ⟨g2,0+((((permB.drop (r*16)).take 16).getD (2*k1) 0).toNat),none⟩)) rfl (fun F W=>rn_indexArr Tryd.underlying147 inf140 (F.get rfl) (F.get rfl) (by omega:(0:Int)≤((((permB.drop (r*16)).take 16).getD (2*k1) 0).toNat:Nat)) (by omega:(((((permB.drop (r*16)).take 16).getD (2*k1) 0).toNat:Nat):Int)<((16:Nat):Int)))<|Ys 13 (.int .u32 ((m.getD ((((permB.drop (r*16)).take 16).getD (2*k1) 0).toNat) 0).toNat:Nat)) rfl hS663 (fun F W hW=>rl F rfl (blk_word hW.2.2 (by omega) (by have:=(show List.length m=_ from hm);omega)))<|Ym 14 rfl<|Yw 15 (vi (2*k1:Nat)) rfl (fun F W=>rn_mulN (a:=2) (b:=k1) rfl (F.get rfl) (by omega))<|Yv 16 (vi ((2*k1)+1:Nat)) rfl<|Yw 17 (.pointer (some ⟨g589,0+((2*k1)+1),none⟩)) rfl (fun F W=>rn_indexArr Tryd.underlying150 inf5 (F.get rfl) (F.get rfl) (by omega:(0:Int)≤((2*k1)+1:Nat)) (by omega:(((2*k1)+1:Nat):Int)<((16:Nat):Int)))<|Ys 18 (.int .u8 ((((permB.drop (r*16)).take 16).getD ((2*k1)+1) 0).toNat:Nat)) rfl hS663 (fun F W hW=>rl F rfl (blk_byte hW.2.1 (by omega) (by have:=(show List.length ((permB.drop (r*16)).take 16)=_ from (len_part (i:=r) (k:=16) permB_len (by omega)));omega)))<|Yw 19 (.pointer (some ⟨g2,0+((((permB.drop (r*16)).take 16).getD ((2*k1)+1) 0).toNat),none⟩)) rfl (fun F W=>rn_indexArr Tryd.underlying147 inf140 (F.get rfl) (F.get rfl) (by omega:(0:Int)≤((((permB.drop (r*16)).take 16).getD ((2*k1)+1) 0).toNat:Nat)) (by omega:(((((permB.drop (r*16)).take 16).getD ((2*k1)+1) 0).toNat:Nat):Int)<((16:Nat):Int)))<|Ys 20 (.int .u32 ((m.getD ((((permB.drop (r*16)).take 16).getD ((2*k1)+1) 0).toNat) 0).toNat:Nat)) rfl hS663 (fun F W hW=>rl F rfl (blk_word hW.2.2 (by omega) (by have:=(show List.length m=_ from hm);omega)))<|fun _ F685=>?_;clear F662
   refine ao 21 rfl ?_
   have b686:=(b616.ext hx638)
   refine o_call F685 rfl rfl rfl rfl (rn_callv (F685.get rfl) (args1_6 (F685.get rfl) (F685.get rfl) (F685.get rfl) (F685.get rfl) (F685.get rfl) (F685.get rfl)) (by kernel_rfl)) (mix_any g10 v1 k1 (4+k1) (8+k1) (12+k1) (m.getD ((((permB.drop (r*16)).take 16).getD (2*k1) 0).toNat) 0) (m.getD ((((permB.drop (r*16)).take 16).getD ((2*k1)+1) 0).toNat) 0) _ b686 hlv1 (by omega) (by omega) (by omega) (by omega)) ?_
   rintro _ w687 ⟨rfl,b688,hg689⟩
   refine ⟨_,rfl,?_⟩;intro a690 F691;clear F685;have z692:=hg689.size
   have b693:=(b664.gn hg689)
   have b694:=(b665.gn hg689)
   refine ⟨fun _ _=>⟨trivial,b693,b694⟩,?_⟩
   refine nn (hK629 _ _ ?_);clear hK629
   have F695:=F691.k [0,1,2,3,8,9,18,19,20,21,59,12,65,66,67,14,69,70,15];clear F691
   refine wp_region_lit ?_
   refine F695.xv (vi (k1+1:Nat))<|Xm rfl<|fun _ F699=>?_;clear F695
   refine wpList_nil ?_
   obtain ⟨v700,e701⟩:∃ z,z=mixSeq v1 k1 (4+k1) (8+k1) (12+k1) (m.getD ((((permB.drop (r*16)).take 16).getD (2*k1) 0).toNat) 0) (m.getD ((((permB.drop (r*16)).take 16).getD ((2*k1)+1) 0).toNat) 0):=⟨_,rfl⟩
   have hl702:v700.length=16:=(congrArg List.length e701).trans ((mixSeq_len _ _ _ _ _ _ _).trans hlv1)
   rw [← e701] at b688
   have b703:=((b614.ext hx638).gn hg689)
   refine ⟨⟨k1+1,v700,F699.j,(by omega),(mixTo_step1 (by omega) (by omega) hvl hp613 e701),((((Ext.refl w).trans hx611).trans hx638).gn hg689),b703,b694,b688,b693⟩,?_⟩
   rw [F699.get (t:=69) rfl,hL618.get (t:=69) rfl];simp [intOf];omega
  refine F626.cf ?_
  refine wp_exit ?_
  refine exit_then ?_
  refine exit_then ?_
  refine exit_here ?_
  refine hK601 _ _ ?_;clear hK601
  refine wr fun K704 hK704=>?_
  refine F626.xv (vi 0)<|fun _ F706=>?_;clear F626
  refine wpList_nil (hK704 _ _ ?_);clear hK704
  refine wp_block ?_
  have hi4:v1=mixTo m (permRow r) v (4+0):=by rw [hp613,show k1=4+0 from by omega]
  refine wp_loop (fun a' W=>∃ (k2:Nat) (v2:List UInt32),Sl 149 [(0,(vp g)),(1,(vl A b.length c)),(2,(.int .u64 (n.toNat:Nat))),(3,(.bool last)),(8,(vp g2)),(9,(vp g10)),(18,(vl A b.length c)),(19,(vi (b.length:Nat))),(20,(vi (k:Nat))),(21,(.bool (decide (((k:Nat):Int)<((b.length:Nat):Int))))),(59,(.bool last)),(12,(.func (.func 89) #[(vp g10)] #[])),(65,(.agg (byteVals permB).toArray)),(66,(vi (r:Nat))),(67,(.bool (decide (((r:Nat):Int)<(10:Int))))),(14,(vp g589)),(69,(vi (k1:Nat))),(70,(.bool (decide (((k1:Nat):Int)<(4:Int))))),(95,(vi (k2:Nat)))] a'∧k2≤4∧v2=mixTo m (permRow r) v (4+k2)∧Ext w W∧Blk W g 141 (u32Vals h)∧Blk W g2 147 (u32Vals m)∧Blk W g10 147 (u32Vals v2)∧Blk W g589 150 (byteVals ((permB.drop (r*16)).take 16))) (fun a' _=>4 - (intOf (a'.eval (.tmp 95))).toNat) ⟨0,v1,F706.j,(by omega),hi4,((Ext.refl w).trans hx611),b614,b615,b616,b617⟩ ?_
  clear F706
  rintro a707 w708 ⟨k2,v2,F709,hp711,hp712,hx710,b713,b714,b715,b716⟩
  have hL717:=F709
  have z718:=hx710.size
  have z719:=b713.lt
  have z720:=b714.lt
  have z721:=b715.lt
  have z722:=b716.lt
  have hlv2:v2.length=16:=by rw [hp712];exact mixTo_len hvl
  refine wr fun K723 hK723=>?_
  refine F709.xv (.bool (decide (((k2:Nat):Int)<(4:Int))))<|fun _ F725=>?_;clear F709
  refine wpList_nil (hK723 _ _ ?_);clear hK723
  refine wp_seq_k fun K726 hK726=>?_
  by_cases hc727:((k2:Nat):Int)<(4:Int)
  ·skip
   refine F725.ct ?_
   refine wp_skip ?_
   refine hK726 _ _ ?_;clear hK726
   refine wp_seq_k fun K728 hK728=>?_
   refine wp_block ?_
   refine wr fun K729 hK729=>?_
   refine F725.xm rfl<|Xa rfl<|fun _ F733=>?_;clear F725
   refine wpList_nil (hK729 _ _ ?_);clear hK729
   have z734:=perm_lt (r:=r) (by omega) (j:=8+(2*k2)) (by omega)
   have z735:=perm_lt (r:=r) (by omega) (j:=9+(2*k2)) (by omega)
   have hx737:∃ W,w708.drew=W∧Ext w708 W:=⟨_,rfl,(Ext.refl _).drew⟩
   obtain ⟨w736,e738,hx737⟩:=hx737
   have z739:=hx737.size
   refine any_start (fun W=>True∧Blk W g589 150 (byteVals ((permB.drop (r*16)).take 16))∧Blk W g2 147 (u32Vals m)) (fun i=>false) 29 (.replicate 29 false) rfl rfl rfl ?_
   rw [e738];clear e738
   refine F733.ym 0 rfl<|Ym 1 rfl<|Ym 2 rfl<|Yv 3 (vi (k2+1:Nat)) rfl<|Yw 4 (vi ((k2+1) % 4:Nat)) rfl (fun F W=>rn_remN (a:=k2+1) (b:=4) (F.get rfl) rfl (by omega))<|Yw 5 (vi (4+((k2+1) % 4):Nat)) rfl (fun F W=>rn_addN (a:=4) (b:=(k2+1) % 4) rfl (F.get rfl) (by omega))<|Ym 6 rfl<|Yv 7 (vi (k2+2:Nat)) rfl<|Yw 8 (vi ((k2+2) % 4:Nat)) rfl (fun F W=>rn_remN (a:=k2+2) (b:=4) (F.get rfl) rfl (by omega))<|Yw 9 (vi (8+((k2+2) % 4):Nat)) rfl (fun F W=>rn_addN (a:=8) (b:=(k2+2) % 4) rfl (F.get rfl) (by omega))<|Ym 10 rfl<|Yv 11 (vi (k2+3:Nat)) rfl<|Yw 12 (vi ((k2+3) % 4:Nat)) rfl (fun F W=>rn_remN (a:=k2+3) (b:=4) (F.get rfl) rfl (by omega))<|Yw 13 (vi (12+((k2+3) % 4):Nat)) rfl (fun F W=>rn_addN (a:=12) (b:=(k2+3) % 4) rfl (F.get rfl) (by omega))<|Ym 14 rfl<|Yw 15 (vi (2*k2:Nat)) rfl (fun F W=>rn_mulN (a:=2) (b:=k2) rfl (F.get rfl) (by omega))<|Yw 16 (vi (8+(2*k2):Nat)) rfl (fun F W=>rn_addN (a:=8) (b:=2*k2) rfl (F.get rfl) (by omega))<|Yw 17 (.pointer (some ⟨g589,0+(8+(2*k2)),none⟩)) rfl (fun F W=>rn_indexArr Tryd.underlying150 inf5 (F.get rfl) (F.get rfl) (by omega:(0:Int)≤(8+(2*k2):Nat)) (by omega:((8+(2*k2):Nat):Int)<((16:Nat):Int)))<|fun _ F775=>?_;clear F733
   have b777:=(b716.ext hx737)
   have b778:=(b714.ext hx737)
   have hS776:True∧Blk w736 g589 150 (byteVals ((permB.drop (r*16)).take 16))∧Blk w736 g2 147 (u32Vals m):=⟨trivial,b777,b778⟩
   refine F775.ys 18 (.int .u8 ((((permB.drop (r*16)).take 16).getD (8+(2*k2)) 0).toNat:Nat)) rfl hS776 (fun F W hW=>rl F rfl (blk_byte hW.2.1 (by omega) (by have:=(show List.length ((permB.drop (r*16)).take 16)=_ from (len_part (i:=r) (k:=16) permB_len (by omega)));omega)))<|Yw 19 (.pointer (some ⟨g2,0+((((permB.drop (r*16)).take 16).getD (8+(2*k2)) 0).toNat),none⟩)) rfl (fun F W=>rn_indexArr Tryd.underlying147 inf140 (F.get rfl) (F.get rfl) (by omega:(0:Int)≤((((permB.drop (r*16)).take 16).getD (8+(2*k2)) 0).toNat:Nat)) (by omega:(((((permB.drop (r*16)).take 16).getD (8+(2*k2)) 0).toNat:Nat):Int)<((16:Nat):Int)))<|Ys 20 (.int .u32 ((m.getD ((((permB.drop (r*16)).take 16).getD (8+(2*k2)) 0).toNat) 0).toNat:Nat)) rfl hS776 (fun F W hW=>rl F rfl (blk_word hW.2.2 (by omega) (by have:=(show List.length m=_ from hm);omega)))<|Ym 21 rfl<|Yw 22 (vi (2*k2:Nat)) rfl (fun F W=>rn_mulN (a:=2) (b:=k2) rfl (F.get rfl) (by omega))<|Yw 23 (vi (9+(2*k2):Nat)) rfl (fun F W=>rn_addN (a:=9) (b:=2*k2) rfl (F.get rfl) (by omega))<|Yw 24 (.pointer (some ⟨g589,0+(9+(2*k2)),none⟩)) rfl (fun F W=>rn_indexArr Tryd.underlying150 inf5 (F.get rfl) (F.get rfl) (by omega:(0:Int)≤(9+(2*k2):Nat)) (by omega:((9+(2*k2):Nat):Int)<((16:Nat):Int)))<|Ys 25 (.int .u8 ((((permB.drop (r*16)).take 16).getD (9+(2*k2)) 0).toNat:Nat)) rfl hS776 (fun F W hW=>rl F rfl (blk_byte hW.2.1 (by omega) (by have:=(show List.length ((permB.drop (r*16)).take 16)=_ from (len_part (i:=r) (k:=16) permB_len (by omega)));omega)))<|Yw 26 (.pointer (some ⟨g2,0+((((permB.drop (r*16)).take 16).getD (9+(2*k2)) 0).toNat),none⟩)) rfl (fun F W=>rn_indexArr Tryd.underlying147 inf140 (F.get rfl) (F.get rfl) (by omega:(0:Int)≤((((permB.drop (r*16)).take 16).getD (9+(2*k2)) 0).toNat:Nat)) (by omega:(((((permB.drop (r*16)).take 16).getD (9+(2*k2)) 0).toNat:Nat):Int)<((16:Nat):Int)))<|Ys 27 (.int .u32 ((m.getD ((((permB.drop (r*16)).take 16).getD (9+(2*k2)) 0).toNat) 0).toNat:Nat)) rfl hS776 (fun F W hW=>rl F rfl (blk_word hW.2.2 (by omega) (by have:=(show List.length m=_ from hm);omega)))<|fun _ F798=>?_;clear F775
   refine ao 28 rfl ?_
   have b799:=(b715.ext hx737)
   refine o_call F798 rfl rfl rfl rfl (rn_callv (F798.get rfl) (args1_6 (F798.get rfl) (F798.get rfl) (F798.get rfl) (F798.get rfl) (F798.get rfl) (F798.get rfl)) (by kernel_rfl)) (mix_any g10 v2 k2 (4+((k2+1) % 4)) (8+((k2+2) % 4)) (12+((k2+3) % 4)) (m.getD ((((permB.drop (r*16)).take 16).getD (8+(2*k2)) 0).toNat) 0) (m.getD ((((permB.drop (r*16)).take 16).getD (9+(2*k2)) 0).toNat) 0) _ b799 hlv2 (by omega) (by omega) (by omega) (by omega)) ?_
   rintro _ w800 ⟨rfl,b801,hg802⟩
   refine ⟨_,rfl,?_⟩;intro a803 F804;clear F798;have z805:=hg802.size
   have b806:=(b777.gn hg802)
   have b807:=(b778.gn hg802)
   refine ⟨fun _ _=>⟨trivial,b806,b807⟩,?_⟩
   refine nn (hK728 _ _ ?_);clear hK728
   have F808:=F804.k [0,1,2,3,8,9,18,19,20,21,59,12,65,66,67,14,69,70,95,96,16];clear F804
   refine wp_region_lit ?_
   refine F808.xv (vi (k2+1:Nat))<|Xm rfl<|fun _ F812=>?_;clear F808
   refine wpList_nil ?_
   obtain ⟨v813,e814⟩:∃ z,z=mixSeq v2 k2 (4+((k2+1) % 4)) (8+((k2+2) % 4)) (12+((k2+3) % 4)) (m.getD ((((permB.drop (r*16)).take 16).getD (8+(2*k2)) 0).toNat) 0) (m.getD ((((permB.drop (r*16)).take 16).getD (9+(2*k2)) 0).toNat) 0):=⟨_,rfl⟩
   have hl815:v813.length=16:=(congrArg List.length e814).trans ((mixSeq_len _ _ _ _ _ _ _).trans hlv2)
   rw [← e814] at b801
   have b816:=((b713.ext hx737).gn hg802)
   refine ⟨⟨k2+1,v813,F812.j,(by omega),(mixTo_step2 (by omega) (by omega) hvl hp712 e814),((((Ext.refl w).trans hx710).trans hx737).gn hg802),b816,b807,b801,b806⟩,?_⟩
   rw [F812.get (t:=95) rfl,hL717.get (t:=95) rfl];simp [intOf];omega
  have hv8:v2=mixTo m (permRow r) v 8:=by rw [hp712,show 4+k2=8 from by omega]
  refine F725.cf ?_
  refine wp_exit ?_
  refine exit_then ?_
  refine exit_then ?_
  refine exit_here ?_
  refine hK585 _ _ ?_;clear hK585
  refine wp_region_lit ?_
  refine F725.xv (vi (r+1:Nat))<|Xm rfl<|fun _ F820=>?_;clear F725
  refine wpList_nil ?_
  refine ⟨⟨r+1,v2,F820.j,(by omega),(roundTo_step (by omega) hp571 hv8),((Ext.refl w).trans hx710),b713,b714,b715⟩,?_⟩
  rw [F820.get (t:=66) rfl,hL575.get (t:=66) rfl];simp [intOf];omega
 refine F582.cf ?_
 refine wp_exit ?_
 refine exit_then ?_
 refine exit_then ?_
 refine exit_here ?_
 refine hK555 _ _ ?_;clear hK555
 refine wr fun K821 hK821=>?_
 refine F582.xv (vi 0)<|fun _ F823=>?_;clear F582
 refine wpList_nil (hK821 _ _ ?_);clear hK821
 refine wp_block ?_
 have hv10:v=roundTo (words b) (begin_ h n last) 10:=by rw [hp571,hv0,hmw,show r=10 from by omega]
 refine wp_loop (fun a' W=>∃ (k5:Nat) (hh2:List UInt32),Sl 149 [(0,(vp g)),(1,(vl A b.length c)),(2,(.int .u64 (n.toNat:Nat))),(3,(.bool last)),(8,(vp g2)),(9,(vp g10)),(18,(vl A b.length c)),(19,(vi (b.length:Nat))),(20,(vi (k:Nat))),(21,(.bool (decide (((k:Nat):Int)<((b.length:Nat):Int))))),(59,(.bool last)),(12,(.func (.func 89) #[(vp g10)] #[])),(65,(.agg (byteVals permB).toArray)),(66,(vi (r:Nat))),(67,(.bool (decide (((r:Nat):Int)<(10:Int))))),(129,(vi (k5:Nat)))] a'∧k5≤8∧hh2=closeTo v h k5∧w.grownBy W (some g)∧Blk W g 141 (u32Vals hh2)∧Blk W g10 147 (u32Vals v)) (fun a' _=>8 - (intOf (a'.eval (.tmp 129))).toNat) ⟨0,h,F823.j,(by omega),rfl,(grow_ext (grow_refl w g) hx569),b572,b574⟩ ?_
 clear F823
 rintro a824 w825 ⟨k5,hh2,F826,hp828,hp829,hx827,b830,b831⟩
 have hL832:=F826
 have z833:=hx827.size
 have z834:=b830.lt
 have z835:=b831.lt
 have hhl:hh2.length=8:=by rw [hp829];exact closeTo_len hh
 refine wr fun K836 hK836=>?_
 refine F826.xv (.bool (decide (((k5:Nat):Int)<(8:Int))))<|fun _ F838=>?_;clear F826
 refine wpList_nil (hK836 _ _ ?_);clear hK836
 refine wp_seq_k fun K839 hK839=>?_
 by_cases hc840:((k5:Nat):Int)<(8:Int)
 ·skip
  refine F838.ct ?_
  refine wp_skip ?_
  refine hK839 _ _ ?_;clear hK839
  refine wp_seq_k fun K841 hK841=>?_
  refine wp_block ?_
  refine wr fun K842 hK842=>?_
  refine F838.xm rfl<|Xa rfl<|fun _ F846=>?_;clear F838
  refine wpList_nil (hK842 _ _ ?_);clear hK842
  have hx848:∃ W,w825.drew=W∧Ext w825 W:=⟨_,rfl,(Ext.refl _).drew⟩
  obtain ⟨w847,e849,hx848⟩:=hx848
  have z850:=hx848.size
  refine any_start (fun W=>Ext w847 W∧Blk W g 141 (u32Vals hh2)∧Blk W g10 147 (u32Vals v)) (fun i=>i==16) 17 (.replicate 17 false) rfl rfl rfl ?_
  rw [e849];clear e849
  refine F846.ym 0 rfl<|Ym 1 rfl<|Yv 2 (vp g) rfl<|Yw 3 (.pointer (some ⟨g,0+k5,none⟩)) rfl (fun F W=>rn_indexArr Tryd.underlying141 inf140 (F.get rfl) (F.get rfl) (by omega:(0:Int)≤(k5:Nat)) (by omega:((k5:Nat):Int)<((8:Nat):Int)))<|fun _ F858=>?_;clear F846
  have b860:=(b830.ext hx848)
  have b861:=(b831.ext hx848)
  have hS859:Ext w847 w847∧Blk w847 g 141 (u32Vals hh2)∧Blk w847 g10 147 (u32Vals v):=⟨(Ext.refl w847),b860,b861⟩
  refine F858.ys 4 (.int .u32 ((hh2.getD k5 0).toNat:Nat)) rfl hS859 (fun F W hW=>rl F rfl (blk_word hW.2.1 (by omega) (by have:=(show List.length hh2=_ from hhl);omega)))<|Ym 5 rfl<|Yw 6 (.pointer (some ⟨g10,0+k5,none⟩)) rfl (fun F W=>rn_indexArr Tryd.underlying147 inf140 (F.get rfl) (F.get rfl) (by omega:(0:Int)≤(k5:Nat)) (by omega:((k5:Nat):Int)<((16:Nat):Int)))<|Ys 7 (.int .u32 ((v.getD k5 0).toNat:Nat)) rfl hS859 (fun F W hW=>rl F rfl (blk_word hW.2.2 (by omega) (by have:=(show List.length v=_ from hvl);omega)))<|Ym 8 rfl<|Yw 9 (vi (8+k5:Nat)) rfl (fun F W=>rn_addN (a:=8) (b:=k5) rfl (F.get rfl) (by omega))<|Yw 10 (.pointer (some ⟨g10,0+(8+k5),none⟩)) rfl (fun F W=>rn_indexArr Tryd.underlying147 inf140 (F.get rfl) (F.get rfl) (by omega:(0:Int)≤(8+k5:Nat)) (by omega:((8+k5:Nat):Int)<((16:Nat):Int)))<|Ys 11 (.int .u32 ((v.getD (8+k5) 0).toNat:Nat)) rfl hS859 (fun F W hW=>rl F rfl (blk_word hW.2.2 (by omega) (by have:=(show List.length v=_ from hvl);omega)))<|Yw 12 (.int .u32 (((v.getD k5 0)^^^(v.getD (8+k5) 0)).toNat:Nat)) rfl (fun F W=>rn_xor32 (a:=(v.getD k5 0)) (b:=(v.getD (8+k5) 0)) (F.get rfl) (F.get rfl))<|Yw 13 (.int .u32 (((hh2.getD k5 0)^^^((v.getD k5 0)^^^(v.getD (8+k5) 0))).toNat:Nat)) rfl (fun F W=>rn_xor32 (a:=(hh2.getD k5 0)) (b:=((v.getD k5 0)^^^(v.getD (8+k5) 0))) (F.get rfl) (F.get rfl))<|Yv 14 (vp g) rfl<|Yw 15 (.pointer (some ⟨g,0+k5,none⟩)) rfl (fun F W=>rn_indexArr Tryd.underlying141 inf140 (F.get rfl) (F.get rfl) (by omega:(0:Int)≤(k5:Nat)) (by omega:((k5:Nat):Int)<((8:Nat):Int)))<|fun _ F885=>?_;clear F858
  refine ao 16 rfl ?_
  refine o_store1 (new:=(u32Vals (hh2.set k5 ((hh2.getD k5 0)^^^((v.getD k5 0)^^^(v.getD (8+k5) 0)))))) F885 rfl rfl rfl rfl (F885.get rfl) (F885.get rfl) b860 inf140 (by rw [u32Vals_len hhl];omega) rfl (u32Vals_set (by omega)) ?_
  intro w886 b887 hg888;have z889:=hg888.size
  refine ⟨fun h=>absurd h (by decide),?_⟩
  refine nn (hK841 _ _ ?_);clear hK841
  have F890:=F885.k [0,1,2,3,8,9,18,19,20,21,59,12,65,66,67,129,130,17];clear F885
  refine wp_region_lit ?_
  refine F890.xv (vi (k5+1:Nat))<|Xm rfl<|fun _ F894=>?_;clear F890
  refine wpList_nil ?_
  obtain ⟨v895,e896⟩:∃ z,z=hh2.set k5 ((hh2.getD k5 0)^^^((v.getD k5 0)^^^(v.getD (8+k5) 0))):=⟨_,rfl⟩
  have hl897:v895.length=8:=(congrArg List.length e896).trans (show List.length (hh2.set k5 ((hh2.getD k5 0)^^^((v.getD k5 0)^^^(v.getD (8+k5) 0))))=_ from List.length_set.trans hhl)
  rw [← e896] at b887
  have b898:=(b861.gn hg888)
  refine ⟨⟨k5+1,v895,F894.j,(by omega),(closeTo_step hp829 e896),(grow_set (grow_ext (grow_set (grow_refl w g) hx827) hx848) hg888),b887,b898⟩,?_⟩
  rw [F894.get (t:=129) rfl,hL832.get (t:=129) rfl];simp [intOf];omega
 refine F838.cf ?_
 refine wp_exit ?_
 refine exit_then ?_
 refine exit_then ?_
 refine exit_here ?_
 refine ret0 F838 rfl ?_
 have hk8:k5=8:=by omega
 subst hk8
 exact ⟨rfl,(absorb_eq hv10 hp829) ▸ b830,(grow_set (grow_refl w g) hx827)⟩

end Go.Proofs.YtihgmaoghbnnaaaDoor

namespace Go.Proofs.YtihgmaoghbnnaaaDoor
open Go.RowKit

variable {S S':Nat→Prop}

theorem El52:El Tryd.prog 52 5 (.int .u8 0) 1 1:=⟨Tryd.underlying52,by kernel_rfl,rfl,by decide⟩
theorem El26:El Tryd.prog 26 24 (.agg #[(.int .u8 0),(.int .u8 0),(.int .u8 0),(.int .u8 0),(.int .u8 0),(.int .u8 0),(.int .u8 0),(.int .u8 0),(.int .u8 0),(.int .u8 0),(.int .u8 0),(.int .u8 0),(.int .u8 0),(.int .u8 0),(.int .u8 0),(.int .u8 0),(.int .u8 0),(.int .u8 0),(.int .u8 0),(.int .u8 0),(.int .u8 0),(.int .u8 0),(.int .u8 0),(.int .u8 0),(.int .u8 0),(.int .u8 0),(.int .u8 0),(.int .u8 0),(.int .u8 0),(.int .u8 0),(.int .u8 0),(.int .u8 0)]) 32 32:=⟨Tryd.underlying26,by kernel_rfl,rfl,by decide⟩
theorem El136:El Tryd.prog 136 4 (.bool false) 1 1:=⟨Tryd.underlying136,by kernel_rfl,rfl,by decide⟩
end Go.Proofs.YtihgmaoghbnnaaaDoor
