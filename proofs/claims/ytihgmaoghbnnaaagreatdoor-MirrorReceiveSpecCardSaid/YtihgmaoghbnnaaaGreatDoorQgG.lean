/- Several texts in one: MrT, SealM, MrV, NrE, NrF, NrG, NrH, NrI. -/
import Derived.Test.YtihgmaoghbnnaaaGreatDoorProg
import Derived.Test.YtihgmaoghbnnaaaGreatDoorQgF
import Derived.KernelRfl
import Derived.Test.YtihgmaoghbnnaaaGreatDoorQgA
import Derived.Test.YtihgmaoghbnnaaaGreatDoorQgB
import Derived.Test.YtihgmaoghbnnaaaGreatDoorQgD
set_option linter.unusedVariables false
set_option linter.unusedSimpArgs false
set_option maxRecDepth 100000
set_option maxHeartbeats 1000000
namespace Go.Proofs.YtihgmaoghbnnaaaGreatDoor
open Go.RowKit
variable {c y:Cg} {f g:Fo} {r:Int} {l:List Cg} {a:List It} {s:List UInt8} {i k m n n1 n2 n3:Nat} {S S' S1 S2 S3:Nat→Prop} {α:Type} {e o p u u1 u2 u3 v:Value} {x:Vr}
theorem check_asc (h:checkFE f=0):f.many≤4096∧1≤f.many∧0≤f.no∧f.no≤4096∧f.early.length≤64∧checkE f.items=0∧asc (f.no+1) f.early∧firstE (verifyE f.pub f.many) f.early=0:=by
 unfold checkFE at h
 split at h
 ·cases h
 ·split at h
  ·cases h
  ·split at h
   ·rename_i h1;exact absurd h h1
   ·split at h
    ·cases h
    ·split at h
     ·cases h
     ·split at h
      ·cases h
      ·rename_i h1 h2 h3 h4 h5 h6
       exact ⟨by omega,by omega,by omega,by omega,by omega,Decidable.not_not.1 h3,Decidable.not_not.1 h6,h⟩
theorem first_zero {g:Vr→Int}:∀ {l:List Vr},firstE g l=0→∀ x∈l,g x=0
 | [],_,x,hx=>absurd hx (by simp)
 | y::l,h,x,hx=>by
  unfold firstE at h
  split at h
  ·rename_i h1;exact absurd h h1
  ·rename_i h1
   rcases List.mem_cons.1 hx with rfl | hx
   ·exact Decidable.not_not.1 h1
   ·exact first_zero h x hx
theorem verify_zero {pub:List UInt8} {many:Int} {v:Vr} (h:verifyE pub many v=0):1≤v.no∧v.no≤4096∧validC v.chs∧v.sg.index=v.no - 1∧verifyF pub many v.msg v.sg=true:=by
 unfold verifyE at h
 split at h
 ·cases h
 ·split at h
  ·cases h
  ·split at h
   ·cases h
   ·rename_i h1 h2 h3
    refine ⟨by omega,by omega,Decidable.not_not.1 h2,Decidable.not_not.1 (fun q=>h3 (.inl q)),?_⟩
    cases hv:verifyF pub many v.msg v.sg
    ·exact absurd (.inr hv) h3
    ·rfl
theorem early_no (h:checkFE f=0) {x:Vr} (hx:x∈f.early):1≤x.no∧x.no≤4096:=by
 have:=verify_zero (first_zero (check_asc h).2.2.2.2.2.2.2 x hx)
 exact ⟨this.1,this.2.1⟩
theorem below_le (t:Int) (l:List Vr):below t l≤l.length:=by
 unfold below;exact (List.takeWhile_prefix _).length_le
theorem stepF_early (g:Fo) (x:Vr) (l:List Vr):stepF ⟨g.pub,g.many,g.no,g.items,l⟩ x={ stepF g x with early:=l }:=by
 unfold stepF
 by_cases h:fits g x
 ·have h':fits ⟨g.pub,g.many,g.no,g.items,l⟩ x:=h
  rw [if_pos h,if_pos h']
 ·have h':¬ fits ⟨g.pub,g.many,g.no,g.items,l⟩ x:=h
  rw [if_neg h,if_neg h']
theorem drain_early:∀ (l:List Vr) (g:Fo) (z:List Vr),drain { g with early:=z } l=drain g l
 | [],_,_=>rfl
 | x::l,g,z=>by
  unfold drain
  by_cases h:x.no=g.no+1
  ·rw [if_pos h,if_pos h,stepF_early g x z,drain_early l]
  ·rw [if_neg h,if_neg h]
theorem drain_step (hx:g.early[0]?=some x) (h:x.no=g.no+1):drain (stepF ⟨g.pub,g.many,g.no,g.items,g.early.drop 1⟩ x) (g.early.drop 1)=drain g g.early:=by
 cases he:g.early with
 | nil=>rw [he] at hx;simp at hx
 | cons y l =>
  rw [he] at hx;simp at hx;subst hx
  rw [stepF_early,drain_early]
  show drain (stepF g y) l=drain g (y::l)
  rw [drain,if_pos h]
theorem drain_end (h:∀ x,g.early[0]?=some x→x.no≠g.no+1):drain g g.early=g:=by
 cases he:g.early with
 | nil=>cases g;simp only at he;subst he;rfl
 | cons y l=>rw [drain,if_neg (h y (by rw [he];rfl)),← he]
theorem stepF_facts (g:Fo) (x:Vr):(stepF g x).pub=g.pub∧(stepF g x).many=g.many∧(stepF g x).early=g.early∧((stepF g x).no=g.no∨(stepF g x).no=x.no):=by
 unfold stepF;split
 ·exact ⟨rfl,rfl,rfl,.inr rfl⟩
 ·exact ⟨rfl,rfl,rfl,.inl rfl⟩
theorem stepF_sm (ha:∀ y∈g.items,y.data.length≤4294967296) (hl:∀ y∈x.chs,y.data.length≤4294967296):∀ y∈(stepF g x).items,y.data.length≤4294967296:=by
 unfold stepF;split
 ·rename_i h
  intro y hy
  have e:applyV g.items x.chs=appL g.items x.chs:=if_pos h.1
  exact applyV_sm ha hl y (by rw [e];exact hy)
 ·exact ha
def lenCell (W:World) (b o:Nat):Nat:=match W.cell? ⟨b,o,none⟩ with
 | some (Value.slice _ n _)=>n
 | _=>0
theorem lenCell_of {W:World} {b o c:Nat} {A:Option Addr} (h:W.cell? ⟨b,o,none⟩=some (vl A n c)):lenCell W b o=n:=by unfold lenCell;rw [h]
def Fz (S:Nat→Prop) (w:World) (p q r x:Nat):Prop:=Fr S w x∧x≠p∧x≠q∧x≠r
theorem flat3 {l:List Vr} {v:Vr}:([l.take n,[v],l.drop n]:List (List Vr)).flatten=l.take n++[v]++l.drop n:=by simp
theorem receive_any (FA:Option Addr) (fa:Nat) (FE:Option Addr) (fe:Nat) (C:Option Addr) (cc:Nat) (O:Option Addr) (oc:Nat) (E:Option Addr) (ec:Nat) (P:Option Addr) (pc:Nat) (f:Fo) (v:Vr) (w:World) (hf:RFo S w (vl FA f.items.length fa) (vl FE f.early.length fe) f) (hv:RVp S w (vl C v.chs.length cc) (vl O v.sg.op.length oc) (vl E v.sg.cl.length ec) (vl P v.sg.path.length pc) v) (hdi:∀ x∈f.items,x.data.length≤4294967296) (hde:∀ v∈f.early,∀ x∈v.chs,x.data.length≤4294967296) (hdv:∀ x∈v.chs,x.data.length≤4294967296) (hG:Glob w) :
  Calls Tryz.prog 17 #[(ag (dg f.pub [(vi f.many),(vi f.no),(vl FA f.items.length fa),(vl FE f.early.length fe)])),(ag ((vi v.no)::dg v.state [(vl C v.chs.length cc),(vi v.sg.index),(vl O v.sg.op.length oc),(vl E v.sg.cl.length ec),(vl P v.sg.path.length pc)]))] w (fun en w'=>∃ c' e',en=.returned (.tuple #[ag (fcs (recF f v).pub (recF f v).many (recF f v).no c' e'),.int .i64 (recE f v)])∧RFo (Fr S w) w' c' e' (recF f v)∧Ext w w'):=by
 have hfc:=RFo.subB (S':=Clip S w) hf (fun _ hb hs=>⟨hs,hb⟩)
 obtain ⟨-,hfc1,hfc2⟩:=RLs.at hfc.items;obtain ⟨-,hfc3,hfc4⟩:=RLs.at hfc.early
 have hvc:=RVp.subB (S':=Clip S w) hv (fun _ hb hs=>⟨hs,hb⟩)
 obtain ⟨-,hvc1,hvc2⟩:=RLs.at hvc.chs;have hvc3:=(Fl.cel hvc.sg.op).2.1;have hvc4:=(Fl.cel hvc.sg.cl).2.1;have hvc5:=(Fl.cel hvc.sg.path).2.1
 have hsub:∀ x∈f.early,x∈f.early:=fun _ h=>h
 refine calls_enter Tryz.func17 rfl rfl rfl fun _ hF=>wr fun K1 aU=>hF.xb rfl fun G w3 _ F9 z6 z7 b4 aj=>F9.xb rfl fun J aj _ aj aF aF bn aF=>aj.xz fz 48 fun U aj _ aF aj aj ae aj=>aF.xv (vi 0) fun _ aF=>wn aU<|wp_seq_k fun aU bp=>wr fun aU bq=>have a3:=b4.ux aj;aF.xw (ag (dg f.pub [(vi f.many),(vi f.no),(vl FA f.items.length fa),(vl FE f.early.length fe)])) (fun F=>rb F rfl a3 (hk:=len_dig hfc.pub)) fun _ aF=>have aU:=(RLs.ux rIt hfc.items aj);have a8:=(RLs.ux rVr hfc.early aj);aF.xe (fcheck_at f _ (⟨hfc.pub,RLs.sub rIt aU (fun b hb=>⟨.inl hb.1,by have h8:=hb.2;omega,by have h8:=hb.2;omega,by have h8:=hb.2;omega⟩),RLs.sub rVr a8 (fun b hb=>⟨.inl hb.1,by have h8:=hb.2;omega,by have h8:=hb.2;omega,by have h8:=hb.2;omega⟩)⟩:RFo (Fz S w G J U) _ _ _ f) hdi hde (hG.ext eX)) fun aj aj aF _ aF=>aF.xa rfl fun _ aF=>wn bq<|wr fun aU aU=>aF.xm rfl<|Xv (vd (((checkFE f):Int)≠(0:Int))) fun _ aF=>wn aU ?_
 by_cases Z:((checkFE f):Int)≠(0:Int)
 ·refine aF.ct<|wr fun D J=>have G:=(ae.ext aj);aF.xw (ag fz) (fun F=>rb F rfl G)<|Xm rfl fun _ D=>D.xs rfl G (fun G I G=>have U:=G.size;D.xa rfl fun _ D=>wn J<|have G:=D.k [0,1,2,3,4,5,6,14];wp_ret<|ret_then ?_)
  refine retC1 G rfl rfl rfl I uu48 rfl (sk inf48 (len_dig zero32_len)) ?_
  have hE:recE f v=(checkFE f):=if_pos Z
  have D:recF f v=foNil:=if_pos (by rw [hE];exact Z)
  rw [D,hE]
  exact ⟨_,_,rfl,foNil_at _,eX⟩
 have hck:checkFE f=0:=Decidable.not_not.1 Z
 obtain ⟨aU,aU,aU,aU,aU,aU,bC,aU⟩:=check_asc hck
 refine aF.cf<|wp_skip<|bp _ _<|wp_seq_k fun aU bw=>wr fun aU bx=>aF.xv (vp G) fun _ aF=>have aU:=(a3.ext aj);aF.xw (.agg (byteVals f.pub).toArray) (fun F=>rn_loadN (cs:=byteVals f.pub) (F.get rfl) uu29 rfl (sk inf29 (byteVals_len hfc.pub)) (Blk.part (A:=[]) (M:=byteVals f.pub) (B:=[(vi f.many),(vi f.no),(vl FA f.items.length fa),(vl FE f.early.length fe)]) aU (by simp) rfl))<|Xv (vq G 32)<|Xw (vi f.many) (fun F=>rl F rfl ((aU.rule.1 32).trans ((at_app (k:=0) (byteVals_len hfc.pub)).trans rfl))) fun _ aF=>have a8:=bn.ux aj;aF.xw (ag ((vi v.no)::dg v.state [(vl C v.chs.length cc),(vi v.sg.index),(vl O v.sg.op.length oc),(vl E v.sg.cl.length ec),(vl P v.sg.path.length pc)])) (fun F=>rb F rfl a8 (hk:=len_dig1 hvc.st)) fun _ aF=>have a3:=(RLs.ux rCg hvc.chs aj);have bn:=(hvc.sg.op.ux aj);have bp:=(hvc.sg.cl.ux aj);have bq:=(hvc.sg.path.ux aj);aF.xe (verifyv_at f.pub f.many v _ (⟨hvc.st,RLs.sub (S':=fun _=>True) rCg a3 fun _ _=>trivial,⟨Fl.any bn,Fl.any bp,Fl.any bq,hvc.sg.o32,hvc.sg.c32,hvc.sg.p32⟩⟩:RVp (fun _=>True) _ _ _ _ _ v) hfc.pub hdv (hG.ext eX)) fun aj aF aj _ aj=>aj.xa rfl fun _ aj=>wn bx<|have a3:=aj.k [0,1,2,3,4,5,6,14,7];wr fun aj bn=>a3.xm rfl<|Xv (vd (((verifyE f.pub f.many v):Int)≠(0:Int))) fun _ aj=>wn bn ?_
 by_cases ab:((verifyE f.pub f.many v):Int)≠(0:Int)
 ·refine aj.ct<|wr fun D I=>have G:=ae.ux aF;aj.xw (ag fz) (fun F=>rb F rfl G)<|Xm rfl fun _ D=>D.xs rfl G (fun G G J=>have U:=J.size;D.xa rfl fun _ D=>wn I<|wp_ret<|ret_then ?_)
  refine retC1 D rfl rfl rfl G uu48 rfl (sk inf48 (len_dig zero32_len)) ?_
  have hE:recE f v=(verifyE f.pub f.many v):=(if_neg Z).trans (if_pos ab)
  have D:recF f v=foNil:=if_pos (by rw [hE];exact ab)
  rw [D,hE]
  exact ⟨_,_,rfl,foNil_at _,eX⟩
 have hvz:verifyE f.pub f.many v=0:=Decidable.not_not.1 ab
 obtain ⟨a3,a3,a3,a3,-⟩:=verify_zero hvz
 refine aj.cf<|wp_skip<|bw _ _<|wr fun a3 bn=>aj.xv (vq G 35) fun _ aj=>have a3:=(aU.ext aF);aj.xw (vl FE f.early.length fe) (fun F=>rl F rfl ((a3.rule.1 35).trans ((at_app (k:=3) (byteVals_len hfc.pub)).trans rfl)))<|Xv (vp J) fun _ aj=>have aU:=(a8.ext aF);aj.xw (vi v.no) (fun F=>rl F rfl ((aU.rule.1 0).trans rfl)) fun _ aj=>have a8:=(RLs.ux rVr hfc.early aF);have aF:=below_le v.no f.early;aj.xE (c:=bsearch_at (v:=(vl FE f.early.length fe)) f.early v.no _ a8 (up_of_asc bC) (by omega)) (k:=fun aj aa aj _ aj=>aj.xm rfl<|Xv (vi (below v.no f.early:Nat))<|Xv (vd (∃ w∈f.early,w.no=v.no))<|Xa rfl<|Xa rfl fun _ aj=>wn bn<|have a8:=aj.k [0,1,2,3,4,5,6,14,7,24,8,9];wp_seq_k fun aj bn=>wr fun aj aF=>a8.xm rfl<|Xm rfl fun _ aj=>?_)
 by_cases az:∃ w∈f.early,w.no=v.no
 ·refine aj.xu<|Xu<|Xu<|Xu<|Xu<|Xv (.bool true) fun _ G=>wn aF<|have D:=G.k [0,1,2,3,4,5,6,14,7,24,8,9,42];D.ct<|wr fun G I=>have G:=ae.ux aa;D.xw (ag fz) (fun F=>rb F rfl G) fun _ D=>D.xs rfl G (fun G G J=>have U:=J.size;D.xv (vi 420) fun _ D=>wn I<|wp_ret<|ret_then ?_)
  refine retC1 D rfl rfl rfl G uu48 rfl (sk inf48 (len_dig zero32_len)) ?_
  have hE:recE f v=420:=(if_neg Z).trans ((if_neg ab).trans ( if_pos (.inl az)))
  have D:recF f v=foNil:=if_pos (by rw [hE];decide)
  rw [D,hE]
  exact ⟨_,_,rfl,foNil_at _,eX⟩
 refine aj.xg (vp J) fun _ aj=>have aB:=(aU.ext aa);aj.xgw (vi v.no) (fun F=>rl F rfl ((aB.rule.1 0).trans rfl))<|Xg (vq G 33) fun _ aj=>have au:=(a3.ext aa);aj.xgw (vi f.no) (fun F=>rl F rfl ((au.rule.1 33).trans ((at_app (k:=1) (byteVals_len hfc.pub)).trans rfl)))<|Xg (vd ((v.no:Int)≤(f.no:Int)))<|Xv (vd ((v.no:Int)≤(f.no:Int))) fun _ aU=>wn aF ?_
 have aj:=aU.k [0,1,2,3,4,5,6,14,7,24,8,9,42]
 by_cases aF:(v.no:Int)≤(f.no:Int)
 ·refine aj.ct<|wr fun D I=>have G:=ae.ux aa;aj.xw (ag fz) (fun F=>rb F rfl G) fun _ D=>D.xs rfl G (fun G G J=>have U:=J.size;D.xv (vi 420) fun _ D=>wn I<|wp_ret<|ret_then ?_)
  refine retC1 D rfl rfl rfl G uu48 rfl (sk inf48 (len_dig zero32_len)) ?_
  have hE:recE f v=420:=(if_neg Z).trans ((if_neg ab).trans ( if_pos (.inr (by omega))))
  have D:recF f v=foNil:=if_pos (by rw [hE];decide)
  rw [D,hE]
  exact ⟨_,_,rfl,foNil_at _,eX⟩
 refine aj.cf<|wp_skip<|bn _ _<|wp_seq_k fun aF bt=>wr fun aF aF=>aj.xv (vp J)<|Xw (vi v.no) (fun F=>rl F rfl ((aB.rule.1 0).trans rfl))<|Xv (vq G 33)<|Xw (vi f.no) (fun F=>rl F rfl ((au.rule.1 33).trans ((at_app (k:=1) (byteVals_len hfc.pub)).trans rfl)))<|Xv (vi (f.no+1))<|Xv (vd ((f.no+1:Int)<(v.no:Int))) fun _ aj=>wn aF ?_
 have aD:=aj.k [0,1,2,3,4,5,6,14,7,24,8,9,42,49]
 by_cases aj:(f.no+1:Int)<(v.no:Int)
 ·refine aD.ct<|wp_seq_k fun D D=>wr fun I ac=>aD.xv (vq G 35)<|Xw (vl FE f.early.length fe) (fun F=>rl F rfl ((au.rule.1 35).trans ((at_app (k:=3) (byteVals_len hfc.pub)).trans rfl)))<|Xv (vi f.early.length)<|Xv (vd ((f.early.length:Int)=(64:Int))) fun _ I=>wn ac ?_
  by_cases ac:(f.early.length:Int)=(64:Int)
  ·refine I.ct<|wr fun D J=>have G:=ae.ux aa;I.xw (ag fz) (fun F=>rb F rfl G) fun _ D=>D.xs rfl G (fun G I G=>have U:=G.size;D.xv (vi 2) fun _ D=>wn J<|have G:=D.k [0,1,2,3,4,5,6,14,7,24,8,9,42,49,53];wp_ret<|ret_then<|ret_then ?_)
   refine retC1 G rfl rfl rfl I uu48 rfl (sk inf48 (len_dig zero32_len)) ?_
   have hE:recE f v=2:=(if_neg Z).trans ((if_neg ab).trans ( (if_neg (fun q=>q.elim (fun h=>az h) (fun h=>by omega))).trans ((if_pos (by omega)).trans (if_pos (by omega)))))
   have D:recF f v=foNil:=if_pos (by rw [hE];decide)
   rw [D,hE]
   exact ⟨_,_,rfl,foNil_at _,eX⟩
  refine I.cf<|wp_skip<|D _ _<|wp_seq_k fun D ax=>sX (fun D W=>Ext D W∧Blk W G 48 (dg f.pub [(vi f.many),(vi f.no),(vl FA f.items.length fa),(vl FE f.early.length fe)])∧Blk W J 34 ((vi v.no)::dg v.state [(vl C v.chs.length cc),(vi v.sg.index),(vl O v.sg.op.length oc),(vl E v.sg.cl.length ec),(vl P v.sg.path.length pc)])) (fun i=>i==13) 14 fun D ac ai=>I.yv 0 (vq G 35) rfl fun _ ak=>have ai:=(au.ext ac);have aj:=(aB.ext ac);have I:Ext D D∧Blk D G 48 (dg f.pub [(vi f.many),(vi f.no),(vl FA f.items.length fa),(vl FE f.early.length fe)])∧Blk D J 34 ((vi v.no)::dg v.state [(vl C v.chs.length cc),(vi v.sg.index),(vl O v.sg.op.length oc),(vl E v.sg.cl.length ec),(vl P v.sg.path.length pc)]):=⟨(Ext.refl D),ai,aj⟩;ak.ys 1 (vl FE f.early.length fe) rfl I (fun F W hW=>rl F rfl ((hW.2.1.rule.1 35).trans ((at_app (k:=3) (byteVals_len hfc.pub)).trans rfl)))<|Ym 2 rfl<|Yw 3 (vl FE (below v.no f.early) fe) rfl (fun F W=>rn_sliceHi uu25 inf34 (F.get rfl) (F.get rfl) (by omega:(0:Int)≤(below v.no f.early:Nat)) (by omega:((below v.no f.early:Nat):Int)≤(fe:Int)))<|Ys 4 (ag ((vi v.no)::dg v.state [(vl C v.chs.length cc),(vi v.sg.index),(vl O v.sg.op.length oc),(vl E v.sg.cl.length ec),(vl P v.sg.path.length pc)])) rfl I (fun F W hW=>rb F rfl hW.2.2 (hk:=len_dig1 hvc.st))<|Yv 6 (vq G 35) rfl<|Ys 7 (vl FE f.early.length fe) rfl I (fun F W hW=>rl F rfl ((hW.2.1.rule.1 35).trans ((at_app (k:=3) (byteVals_len hfc.pub)).trans rfl)))<|Ym 8 rfl<|Yw 9 (vl (cutA FE fe (below v.no f.early) 38) (f.early.length - (below v.no f.early)) (fe - (below v.no f.early))) rfl (fun F W=>rn_cutLo (l:=(below v.no f.early)) uu25 inf34 (F.get rfl) (F.get rfl) (by omega)) fun _ D=>ao 5 rfl<|D.on (fun g=>(vl (some ⟨g,0,none⟩) 1 1)) ((vi v.no)::dg v.state [(vl C v.chs.length cc),(vi v.sg.index),(vl O v.sg.op.length oc),(vl E v.sg.cl.length ec),(vl P v.sg.path.length pc)]) 34 rfl (fun F=>rn_buildSlice (parts1 (F.get rfl)) (build_wholeE (vs:=[(ag ((vi v.no)::dg v.state [(vl C v.chs.length cc),(vi v.sg.index),(vl O v.sg.op.length oc),(vl E v.sg.cl.length ec),(vl P v.sg.path.length pc)]))]) El25 rfl rfl (fun D hz0=>by rw [List.mem_singleton.1 hz0];exact (show List.length ((vi v.no)::dg v.state [(vl C v.chs.length cc),(vi v.sg.index),(vl O v.sg.op.length oc),(vl E v.sg.cl.length ec),(vl P v.sg.path.length pc)])=38 from (by simp [byteVals_len hvc.st]))) (by decide) (by decide) (by simp [Value.cells]))) fun ac aC _ I D D ak D=>?_
  have aq:=RLs.ux rCg hvc.chs D
  have ar:=hvc.sg.op.ux D
  have av:=hvc.sg.cl.ux D
  have aw:=hvc.sg.path.ux D
  have aA:RLs RVr 38 (Fz S w G J U) aC (vl (some ⟨ac,0,none⟩) 1 1) [v]:=RLs.one ak (show List.length ((vi v.no)::dg v.state [(vl C v.chs.length cc),(vi v.sg.index),(vl O v.sg.op.length oc),(vl E v.sg.cl.length ec),(vl P v.sg.path.length pc)])=38 from (by simp [byteVals_len hvc.st])) (one_cons rfl (one_app (byteVals_one _) (one_cons rfl (one_cons rfl (one_cons rfl (one_cons rfl (one_cons rfl one_nil))))))) ⟨.inr (by omega),by omega,by omega,by omega⟩ ⟨_,_,_,_,rfl,(⟨hvc.st,RLs.sub rCg aq (fun b hb=>⟨.inl hb.1,by have h8:=hb.2;omega,by have h8:=hb.2;omega,by have h8:=hb.2;omega⟩),⟨Fl.sub ar (fun b hb=>⟨.inl hb.1,by have h8:=hb.2;omega,by have h8:=hb.2;omega,by have h8:=hb.2;omega⟩),Fl.sub av (fun b hb=>⟨.inl hb.1,by have h8:=hb.2;omega,by have h8:=hb.2;omega,by have h8:=hb.2;omega⟩),Fl.sub aw (fun b hb=>⟨.inl hb.1,by have h8:=hb.2;omega,by have h8:=hb.2;omega,by have h8:=hb.2;omega⟩),hvc.sg.o32,hvc.sg.c32,hvc.sg.p32⟩⟩:RVp (Fz S w G J U) _ _ _ _ _ v)⟩
  have ak:=ai.ext D
  have ai:=aj.ext D
  refine ⟨fun _ _=>⟨eX,ak,ai⟩,?_⟩
  refine ao 10 rfl (I.on (fun g=>(vl (some ⟨g,0,none⟩) 3 3)) [(vl FE (below v.no f.early) fe),(vl (some ⟨ac,0,none⟩) 1 1),(vl (cutA FE fe (below v.no f.early) 38) (f.early.length - (below v.no f.early)) (fe - (below v.no f.early)))] 25 rfl (fun F=>rn_buildSlice (parts3 (F.get rfl) (F.get rfl) (F.get rfl)) (by kernel_rfl)) fun D D _ aq I I aj I=>?_)
  have al:=ak.ext I
  have am:=ai.ext I
  refine ⟨fun _ _=>⟨eX,al,am⟩,?_⟩
  refine ao 11 rfl<|have ai:=(RLs.ux rVr hfc.early I);have ak:=(RLs.ext rVr aA I);have I:RLs RVr 38 (Clip (Fz S w G J U) D) D (vl FE (below v.no f.early) fe) (f.early.take (below v.no f.early)):=RLs.clip rVr (RLs.sub rVr (RLs.take ai (by omega:(below v.no f.early)≤f.early.length)) (fun b hb=>⟨.inl hb.1,by have h8:=hb.2;omega,by have h8:=hb.2;omega,by have h8:=hb.2;omega⟩));have ar:RLs RVr 38 (Clip (Fz S w G J U) D) D (vl (some ⟨ac,0,none⟩) 1 1) ([v]):=RLs.clip rVr (RLs.sub rVr ak (fun b hb=>hb));have ac:RLs RVr 38 (Clip (Fz S w G J U) D) D (vl (cutA FE fe (below v.no f.early) 38) (f.early.length - (below v.no f.early)) (fe - (below v.no f.early))) (f.early.drop (below v.no f.early)):=RLs.clip rVr (RLs.sub rVr (RLs.cut ai (by omega:(below v.no f.early)≤f.early.length)) (fun b hb=>⟨.inl hb.1,by have h8:=hb.2;omega,by have h8:=hb.2;omega,by have h8:=hb.2;omega⟩));aq.oC (c:=concatv_at ([f.early.take (below v.no f.early),[v],f.early.drop (below v.no f.early)]:List (List Vr)) _ (vs_three aj I ar ac ⟨⟨.inr (by omega),by omega,by omega,by omega⟩,aj.lt⟩) (fun b hb=>hb.2) (by simp;omega)) (k:= ?_)
  rintro _ aE ⟨V,Y,rfl,ay,ah⟩
  refine ⟨_,rfl,?_⟩;intro D D;have I:=ah.size
  have aa:RLs RVr 38 (Fz S w G J U) aE (vl V (([f.early.take (below v.no f.early),[v],f.early.drop (below v.no f.early)]:List (List Vr)).flatten.length) Y) ([f.early.take (below v.no f.early),[v],f.early.drop (below v.no f.early)]:List (List Vr)).flatten:=RLs.sub rVr ay (fun b hb=>hb.elim (fun h=>h.1) (fun h=>⟨.inr (by omega),by omega,by omega,by omega⟩))
  obtain ⟨-,I,I⟩:=RLs.at aa
  have I:=al.ext ah
  have ac:=am.ext ah
  refine ⟨fun _ _=>⟨eX,I,ac⟩,?_⟩
  refine D.yv 12 (vq G 35) rfl fun _ D=>ao 13 rfl<|o_store1 (new:=(dg f.pub [(vi f.many),(vi f.no),(vl FA f.items.length fa),(vl V (([f.early.take (below v.no f.early),[v],f.early.drop (below v.no f.early)]:List (List Vr)).flatten.length) Y)])) D rfl rfl rfl rfl (D.get rfl) (D.get rfl) I inf25 (le_mid (x:=36) (b:=1) (y:=1) (by simp [byteVals_len hfc.pub]) rfl (by decide)) rfl (set_app (k:=3) (byteVals_len hfc.pub)) fun I ah I=>?_;have ac:=I.size
  refine ⟨fun h=>absurd h (by decide),?_⟩
  refine nK ax<|have ac:=D.k [0,1,2,3,4,5,6,14,7,24,8,9,42,49,53];wr fun D ai=>ac.xw (ag (dg f.pub [(vi f.many),(vi f.no),(vl FA f.items.length fa),(vl V (([f.early.take (below v.no f.early),[v],f.early.drop (below v.no f.early)]:List (List Vr)).flatten.length) Y)])) (fun F=>rb F rfl ah (hk:=len_dig hfc.pub)) fun _ D=>?_
  have V:=ae.ug I
  refine D.xs rfl V (fun I V I=>?_) (hk:=len_dig hfc.pub);have Y:=I.size
  refine D.xv (vi 0) fun _ D=>wn ai<|wp_ret<|ret_then ?_
  refine retC1 D rfl rfl rfl V uu48 rfl (sk inf48 (len_dig hfc.pub)) ?_
  have hE:recE f v=0:=(if_neg Z).trans ((if_neg ab).trans ( (if_neg (fun q=>q.elim (fun h=>az h) (fun h=>by omega))).trans ((if_pos (by omega)).trans (if_neg (by omega)))))
  have D:recF f v=⟨f.pub,f.many,f.no,f.items,([f.early.take (below v.no f.early),[v],f.early.drop (below v.no f.early)]:List (List Vr)).flatten⟩:=(if_neg (fun q=>q hE)).trans ((if_pos (by omega)).trans (by rw [flat3]))
  rw [D,hE]
  have D:=RLs.ug rIt hfc.items I
  have V:=RLs.ug rVr aa I
  exact ⟨_,_,rfl,RFo.subB (⟨hfc.pub,RLs.sub rIt D (fun b hb=>⟨.inl hb.1,by have h8:=hb.2;omega,by have h8:=hb.2;omega,by have h8:=hb.2;omega⟩),RLs.sub rVr V (fun b hb=>hb)⟩:RFo (Fz S w G J U) _ _ _ (⟨f.pub,f.many,f.no,f.items,([f.early.take (below v.no f.early),[v],f.early.drop (below v.no f.early)]:List (List Vr)).flatten⟩:Fo)) (fun b _ hb=>hb.1),eX⟩
 refine aD.cf<|wp_skip<|bt _ _<|wr fun aj bu=>aD.xw (ag (dg f.pub [(vi f.many),(vi f.no),(vl FA f.items.length fa),(vl FE f.early.length fe)])) (fun F=>rb F rfl au (hk:=len_dig hfc.pub))<|Xw (ag ((vi v.no)::dg v.state [(vl C v.chs.length cc),(vi v.sg.index),(vl O v.sg.op.length oc),(vl E v.sg.cl.length ec),(vl P v.sg.path.length pc)])) (fun F=>rb F rfl aB (hk:=len_dig1 hvc.st)) fun _ aj=>have aD:=(RLs.ux rIt hfc.items aa);have aF:=(RLs.ux rVr hfc.early aa);have aU:=(RLs.ux rCg hvc.chs aa);have a3:=(hvc.sg.op.ux aa);have a8:=(hvc.sg.cl.ux aa);have bn:=(hvc.sg.path.ux aa);aj.xc (mapply_at (S:=(Fz S w G J U)) f v _ (⟨hfc.pub,RLs.sub rIt aD (fun b hb=>⟨.inl hb.1,by have h8:=hb.2;omega,by have h8:=hb.2;omega,by have h8:=hb.2;omega⟩),RLs.sub rVr aF (fun b hb=>⟨.inl hb.1,by have h8:=hb.2;omega,by have h8:=hb.2;omega,by have h8:=hb.2;omega⟩)⟩:RFo (Fz S w G J U) _ _ _ f) (⟨hvc.st,RLs.sub rCg aU (fun b hb=>⟨.inl hb.1,by have h8:=hb.2;omega,by have h8:=hb.2;omega,by have h8:=hb.2;omega⟩),⟨Fl.sub a3 (fun b hb=>⟨.inl hb.1,by have h8:=hb.2;omega,by have h8:=hb.2;omega,by have h8:=hb.2;omega⟩),Fl.sub a8 (fun b hb=>⟨.inl hb.1,by have h8:=hb.2;omega,by have h8:=hb.2;omega,by have h8:=hb.2;omega⟩),Fl.sub bn (fun b hb=>⟨.inl hb.1,by have h8:=hb.2;omega,by have h8:=hb.2;omega,by have h8:=hb.2;omega⟩),hvc.sg.o32,hvc.sg.c32,hvc.sg.p32⟩⟩:RVp (Fz S w G J U) _ _ _ _ _ v) hdi hdv (hG.ext eX)) ?_
 obtain ⟨Y,aL⟩:∃ z,z=stepF f v:=⟨_,rfl⟩
 rw [← aL]
 rintro _ aa ⟨aa,aa,rfl,aX,bi⟩
 obtain ⟨aQ,aV,rfl,aa,aa⟩:=RLs.form aX.items;obtain ⟨aR,aW,rfl,aa,aa⟩:=RLs.form aX.early
 have aa:=RFo.subB (S':=(Fz S w G J U)) aX (fun b _ hb=>hb.elim (fun h=>h) (fun h=>⟨.inr (by omega),by omega,by omega,by omega⟩))
 refine ⟨_,rfl,?_⟩;intro aj aj;have aD:=bi.size
 refine aj.xm rfl<|Xv (ag (dg Y.pub [(vi Y.many),(vi Y.no),(vl aQ Y.items.length aV),(vl aR Y.early.length aW)]))<|Xv (vd (fits f v))<|fun _ aj=>?_
 have aD:=au.ext bi
 refine aj.xs rfl aD (fun aX aF aA=>?_) (hk:=len_dig aa.pub) (hl:=len_dig hfc.pub);have au:=aA.size
 refine aj.xa rfl fun _ aj=>wn bu<|have au:=aj.k [0,1,2,3,4,5,6,14,7,24,8,9,42,49,10];wp_seq_k fun aj aj=>wr fun aD aD=>au.xm rfl<|Xw (.bool (!(decide (fits f v)))) (fun F=>rn_not' (F.get rfl) rfl) fun _ aE=>wn aD ?_
 by_cases aZ:fits f v
 ·refine aE.cf<|wp_skip<|aj _ _<|wp_seq_k fun aj bb=>wp_block ?_
  have hsf0:=stepF_facts f v;rw [← aL] at hsf0;obtain ⟨aj,aj,aD,aj⟩:=hsf0
  have aj:=RLs.ug rIt aa.items aA
  have au:=RLs.ug rVr aa.early aA
  have aU:=aB.ug aA
  have aB:=ae.ug aA
  refine wp_loop (fun a' W=>∃ (g:Fo) (GA:Option Addr) (ga:Nat) (GE:Option Addr) (ge:Nat) (u:Vr) (TA:Option Addr) (ta:Nat) (TO:Option Addr) (to:Nat) (TE:Option Addr) (te:Nat) (TP:Option Addr) (tp:Nat),Sl 108 [(0,(ag (dg f.pub [(vi f.many),(vi f.no),(vl FA f.items.length fa),(vl FE f.early.length fe)]))),(1,(ag ((vi v.no)::dg v.state [(vl C v.chs.length cc),(vi v.sg.index),(vl O v.sg.op.length oc),(vl E v.sg.cl.length ec),(vl P v.sg.path.length pc)]))),(2,(vp G)),(3,(vp J)),(4,(vp U)),(5,(vi 0)),(6,(vi (checkFE f))),(14,(vd (((checkFE f):Int)≠(0:Int)))),(7,(vi (verifyE f.pub f.many v))),(24,(vd (((verifyE f.pub f.many v):Int)≠(0:Int)))),(8,(vi (below v.no f.early:Nat))),(9,(vd (∃ w∈f.early,w.no=v.no))),(42,(vd ((v.no:Int)≤(f.no:Int)))),(49,(vd ((f.no+1:Int)<(v.no:Int)))),(10,(vd (fits f v))),(76,(.bool (!(decide (fits f v)))))] a'∧drain g g.early=drain (stepF f v) f.early∧(0≤g.no∧g.no≤4096)∧((∀ y∈g.items,y.data.length≤4294967296))∧((∀ x∈g.early,x∈f.early))∧u.state.length=32∧Ext w W∧Blk W G 48 (dg g.pub [(vi g.many),(vi g.no),(vl GA g.items.length ga),(vl GE g.early.length ge)])∧Blk W J 34 ((vi u.no)::dg u.state [(vl TA u.chs.length ta),(vi u.sg.index),(vl TO u.sg.op.length to),(vl TE u.sg.cl.length te),(vl TP u.sg.path.length tp)])∧Blk W U 48 fz∧RLs RIt 2 (Fz S w G J U) W (vl aQ Y.items.length aV) Y.items∧RLs RVr 38 (Fz S w G J U) W (vl aR Y.early.length aW) Y.early∧RFo (Fz S w G J U) W (vl GA g.items.length ga) (vl GE g.early.length ge) g∧aX.heap.size≤W.heap.size) (fun _ W'=>lenCell W' G 35) ⟨Y,aQ,aV,aR,aW,v,C,cc,O,oc,E,ec,P,pc,aE.j,(by rw [aD,aL]),⟨by omega,by omega⟩,(by rw [aL];exact stepF_sm hdi hdv),(by rw [aD];exact fun _ h=>h),hvc.st,eX,aF,aU,aB,aj,au,(⟨aa.pub,RLs.sub rIt aj (fun b hb=>hb),RLs.sub rVr au (fun b hb=>hb)⟩:RFo (Fz S w G J U) _ _ _ Y),(Nat.le_refl _)⟩ ?_
  rintro Y Y ⟨g,GA,ga,GE,ge,u,TA,ta,TO,to,TE,te,TP,tp,Y,aN,aa,aa,aj,au,aB,aH,a4,aC,bg,bh,I,aD⟩
  have aD:=Y
  have aD:=aB.size
  have aB:=aH.lt
  have aB:=a4.lt
  have aB:=aC.lt
  obtain ⟨-,aB,aB⟩:=RLs.at I.items;obtain ⟨-,aB,aB⟩:=RLs.at I.early
  have hul:u.state.length=32:=au
  have hgi:=aa;have hsub:=aj
  have hge:∀ v∈g.early,∀ x∈v.chs,x.data.length≤4294967296:=fun v h=>hde v (hsub v h)
  refine wp_seq_k fun aa bv=>wp_seq_k fun aa bc=>sX (fun ak W=>Ext ak W∧Blk W G 48 (dg g.pub [(vi g.many),(vi g.no),(vl GA g.items.length ga),(vl GE g.early.length ge)])) (fun i=>false) 15 fun ak aP aa=>Y.yv 0 (vq G 35) rfl fun _ Y=>have aI:=(aH.ext aP);have aK:Ext ak ak∧Blk ak G 48 (dg g.pub [(vi g.many),(vi g.no),(vl GA g.items.length ga),(vl GE g.early.length ge)]):=⟨(Ext.refl ak),aI⟩;Y.ys 1 (vl GE g.early.length ge) rfl aK (fun F W hW=>rl F rfl ((hW.2.rule.1 35).trans ((at_app (k:=3) (byteVals_len I.pub)).trans rfl)))<|Yv 2 (vi g.early.length) rfl<|Yv 3 (vd ((0:Int)<(g.early.length:Int))) rfl<|Ym 4 rfl fun _ a2=>?_
  by_cases Y:(0:Int)<(g.early.length:Int)
  ·refine a2.yg 5 (vq G 35) rfl<|Ysg 6 (vl GE g.early.length ge) rfl aK (fun F W hW=>rl F rfl ((hW.2.rule.1 35).trans ((at_app (k:=3) (byteVals_len I.pub)).trans rfl)))<|fun _ bl=>?_
   have Y:=RLs.ext rVr I.early aP
   obtain ⟨a5,bk,D,aa,br,ac,aa,bz,bD⟩:=RLs.get Y (by omega:0<g.early.length)
   obtain ⟨Y,Y,Y,Y,rfl,aO⟩:=bD
   obtain ⟨Y,Y,rfl,Y,Y⟩:=RLs.form aO.chs
   obtain ⟨Y,Y,rfl,Y,Y⟩:=Fl.form aO.sg.op
   obtain ⟨Y,Y,rfl,Y,Y⟩:=Fl.form aO.sg.cl
   obtain ⟨Y,Y,rfl,Y,Y⟩:=Fl.form aO.sg.path
   refine bl.ygw 7 (vq a5 (bk+0*38)) rfl (fun F W=>rn_indexE uu25 inf34 ((F.get rfl).trans (by rw [br])) rfl (by omega:(0:Int)≤0) (by omega:(0:Int)<(g.early.length:Int)) (by omega))<|Yg 8 (vq a5 (bk+0*38)) rfl<|Ysg 9 (vi D.no) rfl aK (fun F W hW=>rl F rfl ((fun j u hu=>Ext.keep ((Ext.refl ak).trans hW.1) (bz j u hu)) 0 _ rfl))<|Yg 10 (vq G 33) rfl<|Ysg 11 (vi g.no) rfl aK (fun F W hW=>rl F rfl ((hW.2.rule.1 33).trans ((at_app (k:=1) (byteVals_len I.pub)).trans rfl)))<|Yg 12 (vi (g.no+1)) rfl<|Yg 13 (vd ((D.no:Int)=(g.no+1:Int))) rfl<|Yv 14 (vd ((D.no:Int)=(g.no+1:Int))) rfl fun _ Y=>nK bc ?_
   have aG:=Y.k [0,1,2,3,4,5,6,14,7,24,8,9,42,49,10,76,92]
   by_cases Y:(D.no:Int)=(g.no+1:Int)
   ·refine aG.ct<|wp_skip<|bv _ _<|wp_block<|wp_seq_k fun Y bd=>sX (fun ai W=>Ext ai W∧Blk W G 48 (dg g.pub [(vi g.many),(vi g.no),(vl GA g.items.length ga),(vl GE g.early.length ge)])∧Blk W J 34 ((vi u.no)::dg u.state [(vl TA u.chs.length ta),(vi u.sg.index),(vl TO u.sg.op.length to),(vl TE u.sg.cl.length te),(vl TP u.sg.path.length tp)])) (fun i=>i==7||i==9) 10 fun ai Y aa=>aG.yv 0 (vq G 35) rfl fun _ aa=>have aJ:=(aI.ext Y);have aT:=a4.ux Y;have bf:Ext ai ai∧Blk ai G 48 (dg g.pub [(vi g.many),(vi g.no),(vl GA g.items.length ga),(vl GE g.early.length ge)])∧Blk ai J 34 ((vi u.no)::dg u.state [(vl TA u.chs.length ta),(vi u.sg.index),(vl TO u.sg.op.length to),(vl TE u.sg.cl.length te),(vl TP u.sg.path.length tp)]):=⟨(Ext.refl ai),aJ,aT⟩;aa.ys 1 (vl GE g.early.length ge) rfl bf (fun F W hW=>rl F rfl ((hW.2.1.rule.1 35).trans ((at_app (k:=3) (byteVals_len I.pub)).trans rfl))) fun _ bm=>?_
    have aa:=RLs.ux rVr I.early Y
    obtain ⟨bo,bF,bG,Y,bs,bB,Y,bA,bE⟩:=RLs.get aa (by omega:0<g.early.length)
    obtain rfl:D=bG:=Option.some.inj (ac.symm.trans bB)
    obtain ⟨Y,Y,Y,Y,rfl,V⟩:=bE
    obtain ⟨al,av,rfl,Y,Y⟩:=RLs.form V.chs
    obtain ⟨am,aw,rfl,Y,Y⟩:=Fl.form V.sg.op
    obtain ⟨aq,ax,rfl,Y,Y⟩:=Fl.form V.sg.cl
    obtain ⟨ar,ay,rfl,Y,Y⟩:=Fl.form V.sg.path
    refine bm.yw 2 (vq bo (bF+0*38)) rfl (fun F W=>rn_indexE uu25 inf34 ((F.get rfl).trans (by rw [bs])) rfl (by omega:(0:Int)≤0) (by omega:(0:Int)<(g.early.length:Int)) (by omega))<|Ys 3 (ag ((vi D.no)::dg D.state [(vl al D.chs.length av),(vi D.sg.index),(vl am D.sg.op.length aw),(vl aq D.sg.cl.length ax),(vl ar D.sg.path.length ay)])) rfl bf (fun F W hW=>rn_loadN (cs:=((vi D.no)::dg D.state [(vl al D.chs.length av),(vi D.sg.index),(vl am D.sg.op.length aw),(vl aq D.sg.cl.length ax),(vl ar D.sg.path.length ay)])) (F.get rfl) uu34 rfl (sk inf34 (len_dig1 V.st)) (fun j u hu=>Ext.keep ((Ext.refl ai).trans hW.1) (bA j u hu)))<|Yv 4 (vq G 35) rfl<|fun _ aS=>?_
    refine any_two (i:=5) (k:=7) (by decide +kernel) rfl rfl ?_ ?_
    ·refine aS.ow (vl GE g.early.length ge) rfl (fun F=>rl F rfl ((aJ.rule.1 35).trans ((at_app (k:=3) (byteVals_len I.pub)).trans rfl))) fun _ Y=>ap<|Y.yv 6 (vl (cutA GE ge 1 38) (g.early.length - 1) (ge - 1)) rfl fun _ Y=>?_
     refine ao 7 rfl (Y.os rfl aT (fun aa aj ai=>an ?_) (hk:=len_dig1 V.st) (hl:=len_dig1 hul));have aa:=ai.size
     refine Y.yv 8 (vq G 35) rfl fun _ aa=>ao 9 rfl<|have Y:=(aJ.gn ai);o_store1 (new:=(dg g.pub [(vi g.many),(vi g.no),(vl GA g.items.length ga),(vl (cutA GE ge 1 38) (g.early.length - 1) (ge - 1))])) aa rfl rfl rfl rfl (aa.get rfl) (aa.get rfl) Y inf25 (le_mid (x:=36) (b:=1) (y:=1) (by simp [byteVals_len I.pub]) rfl (by decide)) rfl (set_app (k:=3) (byteVals_len I.pub)) fun Y a6 Y=>?_;have ai:=Y.size
     refine ⟨fun h=>absurd h (by decide),?_⟩
     refine nK bd<|have ai:=aa.k [0,1,2,3,4,5,6,14,7,24,8,9,42,49,10,76,92];wp_region_lit<|ai.xw (ag (dg g.pub [(vi g.many),(vi g.no),(vl GA g.items.length ga),(vl (cutA GE ge 1 38) (g.early.length - 1) (ge - 1))])) (fun F=>rb F rfl a6 (hk:=len_dig I.pub)) fun _ aa=>have a7:=(aj.gn Y);aa.xw (ag ((vi D.no)::dg D.state [(vl al D.chs.length av),(vi D.sg.index),(vl am D.sg.op.length aw),(vl aq D.sg.cl.length ax),(vl ar D.sg.path.length ay)])) (fun F=>rb F rfl a7 (hk:=len_dig1 V.st)) fun _ aa=>have ai:=(RLs.ug rIt I.items Y);have aj:=(RLs.ug rVr I.early Y);have ak:=(RLs.ug rCg V.chs Y);have au:=(V.sg.op.ug Y);have aB:=(V.sg.cl.ug Y);have aD:=(V.sg.path.ug Y);aa.xC (c:=mapply_at (S:=(Fz S w G J U)) (⟨g.pub,g.many,g.no,g.items,g.early.drop 1⟩:Fo) D _ (⟨I.pub,RLs.sub rIt ai (fun b hb=>hb),RLs.sub rVr (RLs.cut aj (by omega:1≤g.early.length)) (fun b hb=>hb)⟩:RFo (Fz S w G J U) _ _ _ (⟨g.pub,g.many,g.no,g.items,g.early.drop 1⟩:Fo)) (⟨V.st,RLs.sub rCg ak (fun b hb=>hb),⟨Fl.sub au (fun b hb=>hb),Fl.sub aB (fun b hb=>hb),Fl.sub aD (fun b hb=>hb),V.sg.o32,V.sg.c32,V.sg.p32⟩⟩:RVp (Fz S w G J U) _ _ _ _ _ D) hgi (hde D (hsub D (List.mem_of_getElem? ac))) (hG.ext eX)) (k:= ?_)
     obtain ⟨ah,aM⟩:∃ z,z=stepF (⟨g.pub,g.many,g.no,g.items,g.early.drop 1⟩:Fo) D:=⟨_,rfl⟩
     rw [← aM]
     rintro _ Y ⟨Y,Y,rfl,aY,bj⟩
     obtain ⟨a0,a9,rfl,Y,Y⟩:=RLs.form aY.items;obtain ⟨a1,ba,rfl,Y,Y⟩:=RLs.form aY.early
     have Z:=RFo.subB (S':=(Fz S w G J U)) aY (fun b _ hb=>hb.elim (fun h=>h) (fun h=>⟨.inr (by omega),by omega,by omega,by omega⟩))
     refine ⟨_,rfl,?_⟩;intro Y Y;have aa:=bj.size
     refine Y.xm rfl<|Xv (ag (dg ah.pub [(vi ah.many),(vi ah.no),(vl a0 ah.items.length a9),(vl a1 ah.early.length ba)]))<|Xv (vd (fits (⟨g.pub,g.many,g.no,g.items,g.early.drop 1⟩:Fo) D))<|fun _ ab=>?_
     have Y:=a6.ext bj
     refine ab.xs rfl Y (fun Y ae Y=>?_) (hk:=len_dig Z.pub) (hl:=len_dig I.pub);have aa:=Y.size
     refine wpList_nil ?_
     have hsf:=stepF_facts (⟨g.pub,g.many,g.no,g.items,g.early.drop 1⟩:Fo) D
     rw [← aM] at hsf;simp only at hsf
     obtain ⟨hs1,hs2,hs3,hs4⟩:=hsf
     have hxe:=early_no hck (hsub D (List.mem_of_getElem? ac))
     have aa:D.no=g.no+1:=by omega
     have ak:=RLs.ug rIt bg Y
     have au:=RLs.ug rVr bh Y
     have az:=RLs.ug rIt Z.items Y
     have aA:=RLs.ug rVr Z.early Y
     have ai:=a7.ug Y
     have aj:=aC.ug Y
     refine ⟨⟨ah,a0,a9,a1,ba,D,al,av,am,aw,aq,ax,ar,ay,ab.j,(by rw [show ah.early=g.early.drop 1 from hs3,aM];exact (drain_step ac aa).trans aN),⟨by omega,by omega⟩,(by rw [aM];exact stepF_sm hgi (hde D (hsub D (List.mem_of_getElem? ac)))),(by rw [hs3];exact fun x h=>hsub x (List.mem_of_mem_drop h)),V.st,eX,ae,ai,aj,ak,au,(⟨Z.pub,RLs.sub rIt az (fun b hb=>hb),RLs.sub rVr aA (fun b hb=>hb)⟩:RFo (Fz S w G J U) _ _ _ ah),(by omega)⟩,?_⟩
     rw [lenCell_of ((ae.rule.1 35).trans ((at_app (k:=3) (byteVals_len Z.pub)).trans rfl)),lenCell_of ((aH.rule.1 35).trans ((at_app (k:=3) (byteVals_len I.pub)).trans rfl))];have h5:=congrArg List.length hs3;simp only [List.length_drop] at h5;omega
    refine aS.os rfl aT (fun Y aj aa=>an ?_) (hk:=len_dig1 V.st) (hl:=len_dig1 hul);have Y:=aa.size
    have Y:=aJ.gn aa
    refine ao 5 rfl<|aS.ow (vl GE g.early.length ge) rfl (fun F=>rl F rfl ((Y.rule.1 35).trans ((at_app (k:=3) (byteVals_len I.pub)).trans rfl))) fun _ aa=>ap<|aa.yv 6 (vl (cutA GE ge 1 38) (g.early.length - 1) (ge - 1)) rfl<|Yv 8 (vq G 35) rfl fun _ aa=>ao 9 rfl<|o_store1 (new:=(dg g.pub [(vi g.many),(vi g.no),(vl GA g.items.length ga),(vl (cutA GE ge 1 38) (g.early.length - 1) (ge - 1))])) aa rfl rfl rfl rfl (aa.get rfl) (aa.get rfl) Y inf25 (le_mid (x:=36) (b:=1) (y:=1) (by simp [byteVals_len I.pub]) rfl (by decide)) rfl (set_app (k:=3) (byteVals_len I.pub)) fun Y a6 Y=>?_;have ai:=Y.size
    refine ⟨fun h=>absurd h (by decide),?_⟩
    refine nK bd<|have ai:=aa.k [0,1,2,3,4,5,6,14,7,24,8,9,42,49,10,76,92];wp_region_lit<|ai.xw (ag (dg g.pub [(vi g.many),(vi g.no),(vl GA g.items.length ga),(vl (cutA GE ge 1 38) (g.early.length - 1) (ge - 1))])) (fun F=>rb F rfl a6 (hk:=len_dig I.pub)) fun _ aa=>have a7:=(aj.gn Y);aa.xw (ag ((vi D.no)::dg D.state [(vl al D.chs.length av),(vi D.sg.index),(vl am D.sg.op.length aw),(vl aq D.sg.cl.length ax),(vl ar D.sg.path.length ay)])) (fun F=>rb F rfl a7 (hk:=len_dig1 V.st)) fun _ aa=>have ai:=(RLs.ug rIt I.items Y);have aj:=(RLs.ug rVr I.early Y);have ak:=(RLs.ug rCg V.chs Y);have au:=(V.sg.op.ug Y);have aB:=(V.sg.cl.ug Y);have aD:=(V.sg.path.ug Y);aa.xC (c:=mapply_at (S:=(Fz S w G J U)) (⟨g.pub,g.many,g.no,g.items,g.early.drop 1⟩:Fo) D _ (⟨I.pub,RLs.sub rIt ai (fun b hb=>hb),RLs.sub rVr (RLs.cut aj (by omega:1≤g.early.length)) (fun b hb=>hb)⟩:RFo (Fz S w G J U) _ _ _ (⟨g.pub,g.many,g.no,g.items,g.early.drop 1⟩:Fo)) (⟨V.st,RLs.sub rCg ak (fun b hb=>hb),⟨Fl.sub au (fun b hb=>hb),Fl.sub aB (fun b hb=>hb),Fl.sub aD (fun b hb=>hb),V.sg.o32,V.sg.c32,V.sg.p32⟩⟩:RVp (Fz S w G J U) _ _ _ _ _ D) hgi (hde D (hsub D (List.mem_of_getElem? ac))) (hG.ext eX)) (k:= ?_)
    obtain ⟨ah,aM⟩:∃ z,z=stepF (⟨g.pub,g.many,g.no,g.items,g.early.drop 1⟩:Fo) D:=⟨_,rfl⟩
    rw [← aM]
    rintro _ Y ⟨Y,Y,rfl,aY,bj⟩
    obtain ⟨a0,a9,rfl,Y,Y⟩:=RLs.form aY.items;obtain ⟨a1,ba,rfl,Y,Y⟩:=RLs.form aY.early
    have Z:=RFo.subB (S':=(Fz S w G J U)) aY (fun b _ hb=>hb.elim (fun h=>h) (fun h=>⟨.inr (by omega),by omega,by omega,by omega⟩))
    refine ⟨_,rfl,?_⟩;intro Y Y;have aa:=bj.size
    refine Y.xm rfl<|Xv (ag (dg ah.pub [(vi ah.many),(vi ah.no),(vl a0 ah.items.length a9),(vl a1 ah.early.length ba)]))<|Xv (vd (fits (⟨g.pub,g.many,g.no,g.items,g.early.drop 1⟩:Fo) D))<|fun _ ab=>?_
    have Y:=a6.ext bj
    refine ab.xs rfl Y (fun Y ae Y=>?_) (hk:=len_dig Z.pub) (hl:=len_dig I.pub);have aa:=Y.size
    refine wpList_nil ?_
    have hsf:=stepF_facts (⟨g.pub,g.many,g.no,g.items,g.early.drop 1⟩:Fo) D
    rw [← aM] at hsf;simp only at hsf
    obtain ⟨hs1,hs2,hs3,hs4⟩:=hsf
    have hxe:=early_no hck (hsub D (List.mem_of_getElem? ac))
    have aa:D.no=g.no+1:=by omega
    have ak:=RLs.ug rIt bg Y
    have au:=RLs.ug rVr bh Y
    have az:=RLs.ug rIt Z.items Y
    have aA:=RLs.ug rVr Z.early Y
    have ai:=a7.ug Y
    have aj:=aC.ug Y
    refine ⟨⟨ah,a0,a9,a1,ba,D,al,av,am,aw,aq,ax,ar,ay,ab.j,(by rw [show ah.early=g.early.drop 1 from hs3,aM];exact (drain_step ac aa).trans aN),⟨by omega,by omega⟩,(by rw [aM];exact stepF_sm hgi (hde D (hsub D (List.mem_of_getElem? ac)))),(by rw [hs3];exact fun x h=>hsub x (List.mem_of_mem_drop h)),V.st,eX,ae,ai,aj,ak,au,(⟨Z.pub,RLs.sub rIt az (fun b hb=>hb),RLs.sub rVr aA (fun b hb=>hb)⟩:RFo (Fz S w G J U) _ _ _ ah),(by omega)⟩,?_⟩
    rw [lenCell_of ((ae.rule.1 35).trans ((at_app (k:=3) (byteVals_len Z.pub)).trans rfl)),lenCell_of ((aH.rule.1 35).trans ((at_app (k:=3) (byteVals_len I.pub)).trans rfl))];have h5:=congrArg List.length hs3;simp only [List.length_drop] at h5;omega
   refine aG.cf<|wp_exit<|exit_then<|exit_then<|exit_here<|bb _ _<|wr fun D aa=>aG.xw (ag (dg g.pub [(vi g.many),(vi g.no),(vl GA g.items.length ga),(vl GE g.early.length ge)])) (fun F=>rb F rfl aI (hk:=len_dig I.pub)) fun _ D=>?_
   have Y:=aC.ext aP
   refine D.xs rfl Y (fun Y Y V=>?_) (hk:=len_dig I.pub);have ah:=V.size
   refine D.xv (vi 0) fun _ D=>wn aa<|wp_ret ?_
   refine retC1 D rfl rfl rfl Y uu48 rfl (sk inf48 (len_dig I.pub)) ?_
   have hE:recE f v=0:=(if_neg Z).trans ((if_neg ab).trans ( (if_neg (fun q=>q.elim (fun h=>az h) (fun h=>by omega))).trans ((if_neg (by omega)).trans (if_pos aZ))))
   have hend:drain g g.early=g:=drain_end (fun x hx=>by rw [ac] at hx;injection hx with hx;subst hx;omega)
   have D:recF f v=g:=(if_neg (fun q=>q hE)).trans ((if_neg (by omega)).trans (by rw [← aN];exact hend))
   rw [D,hE]
   have D:=RLs.ug rIt I.items V
   have Y:=RLs.ug rVr I.early V
   exact ⟨_,_,rfl,RFo.subB (⟨I.pub,RLs.sub rIt D (fun b hb=>hb),RLs.sub rVr Y (fun b hb=>hb)⟩:RFo (Fz S w G J U) _ _ _ g) (fun b _ hb=>hb.1),eX⟩
  refine a2.yu 5 rfl<|Yu 6 rfl<|Yu 7 rfl<|Yu 8 rfl<|Yu 9 rfl<|Yu 10 rfl<|Yu 11 rfl<|Yu 12 rfl<|Yu 13 rfl<|Yv 14 (.bool false) rfl fun _ V=>nK bc<|have D:=V.k [0,1,2,3,4,5,6,14,7,24,8,9,42,49,10,76,92];D.cf<|wp_exit<|exit_then<|exit_then<|exit_here<|bb _ _<|wr fun V aa=>D.xw (ag (dg g.pub [(vi g.many),(vi g.no),(vl GA g.items.length ga),(vl GE g.early.length ge)])) (fun F=>rb F rfl aI (hk:=len_dig I.pub)) fun _ D=>?_
  have V:=aC.ext aP
  refine D.xs rfl V (fun V Y V=>?_) (hk:=len_dig I.pub);have ac:=V.size
  refine D.xv (vi 0) fun _ D=>wn aa<|wp_ret ?_
  refine retC1 D rfl rfl rfl Y uu48 rfl (sk inf48 (len_dig I.pub)) ?_
  have hE:recE f v=0:=(if_neg Z).trans ((if_neg ab).trans ( (if_neg (fun q=>q.elim (fun h=>az h) (fun h=>by omega))).trans ((if_neg (by omega)).trans (if_pos aZ))))
  have hend:drain g g.early=g:=drain_end (fun x hx=>by have:=(List.getElem?_eq_some_iff.1 hx).1;omega)
  have D:recF f v=g:=(if_neg (fun q=>q hE)).trans ((if_neg (by omega)).trans (by rw [← aN];exact hend))
  rw [D,hE]
  have D:=RLs.ug rIt I.items V
  have Y:=RLs.ug rVr I.early V
  exact ⟨_,_,rfl,RFo.subB (⟨I.pub,RLs.sub rIt D (fun b hb=>hb),RLs.sub rVr Y (fun b hb=>hb)⟩:RFo (Fz S w G J U) _ _ _ g) (fun b _ hb=>hb.1),eX⟩
 refine aE.ct<|wr fun D I=>have G:=ae.ug aA;aE.xw (ag fz) (fun F=>rb F rfl G) fun _ D=>D.xs rfl G (fun G G J=>have U:=J.size;D.xv (vi 400) fun _ D=>wn I<|wp_ret<|ret_then ?_)
 refine retC1 D rfl rfl rfl G uu48 rfl (sk inf48 (len_dig zero32_len)) ?_
 have hE:recE f v=400:=(if_neg Z).trans ((if_neg ab).trans ( (if_neg (fun q=>q.elim (fun h=>az h) (fun h=>by omega))).trans ((if_neg (by omega)).trans (if_neg aZ))))
 have D:recF f v=foNil:=if_pos (by rw [hE];decide)
 rw [D,hE]
 exact ⟨_,_,rfl,foNil_at _,eX⟩
theorem receive_at {c c1 o1 e1 p1:Value} (f:Fo) (v:Vr) (w:World) (hf:RFo S w c e f) (hv:RVp S w c1 o1 e1 p1 v) (hdi:∀ x∈f.items,x.data.length≤4294967296) (hde:∀ v∈f.early,∀ x∈v.chs,x.data.length≤4294967296) (hdv:∀ x∈v.chs,x.data.length≤4294967296) (hG:Glob w) :
  Calls Tryz.prog 17 #[ag (fcs f.pub f.many f.no c e),ag (vcs v.no v.state c1 v.sg.index o1 e1 p1)] w (fun en w'=>∃ c' e',en=.returned (.tuple #[ag (fcs (recF f v).pub (recF f v).many (recF f v).no c' e'),.int .i64 (recE f v)])∧RFo (Fr S w) w' c' e' (recF f v)∧Ext w w'):=by
 obtain ⟨FA,fa,rfl,_⟩:=RLs.form hf.items
 obtain ⟨FE,fe,rfl,_⟩:=RLs.form hf.early
 obtain ⟨C,cc,rfl,_⟩:=RLs.form hv.chs
 obtain ⟨O,oc,rfl,_⟩:=Fl.form hv.sg.op
 obtain ⟨E,ec,rfl,_⟩:=Fl.form hv.sg.cl
 obtain ⟨P,pc,rfl,_⟩:=Fl.form hv.sg.path
 exact receive_any FA fa FE fe C cc O oc E ec P pc f v w hf hv hdi hde hdv hG
theorem rverify_at (root:List UInt8) (n:Int) (msg:List UInt8) (sg:Sg) (w:World) (hd:root.length=32) (hm:Fl S w 1 v m (byteVals msg)) (ho:Fl S1 w 32 u1 n1 (digVals sg.op)) (he:Fl S2 w 32 u2 n2 (digVals sg.cl)) (hp:Fl S3 w 32 u3 n3 (digVals sg.path)) (h32o:All32 sg.op) (h32c:All32 sg.cl) (h32p:All32 sg.path) :
  Calls Tryz.prog 40 #[.agg (byteVals root).toArray,.int .i64 n,v,.agg #[.int .i64 sg.index,u1,u2,u3]] w (fun e w'=>e=.returned (.bool (verifyF root n msg sg))∧Ext w w'):=by
 have h1:=hm.blen
 have h2:=Fl.dlen ho h32o
 have h3:=Fl.dlen he h32c
 have h4:=Fl.dlen hp h32p
 subst h1 h2 h3 h4
 obtain ⟨B,cb,rfl,_⟩:=hm.form
 obtain ⟨O,oc,rfl,_⟩:=ho.form
 obtain ⟨C,ec,rfl,_⟩:=he.form
 obtain ⟨P,pc,rfl,_⟩:=hp.form
 exact rverify_any (S:=fun _=>True) root n B cb msg sg.index O oc sg.op C ec sg.cl P pc sg.path w hd (hm.sub fun _ _=>trivial) (ho.sub fun _ _=>trivial) (he.sub fun _ _=>trivial) (hp.sub fun _ _=>trivial) h32o h32c h32p
theorem sames_at {v1 v2 v3:Value} {m1 m2 m3:Nat} {T1 T2 T3:Nat→Prop} (x y:Sg) (w:World) (h1:Fl S1 w 32 u1 n1 (digVals x.op)) (h2:Fl S2 w 32 u2 n2 (digVals x.cl)) (h3:Fl S3 w 32 u3 n3 (digVals x.path)) (a1:All32 x.op) (a2:All32 x.cl) (a3:All32 x.path) (g1:Fl T1 w 32 v1 m1 (digVals y.op)) (g2:Fl T2 w 32 v2 m2 (digVals y.cl)) (g3:Fl T3 w 32 v3 m3 (digVals y.path)) (b1:All32 y.op) (b2:All32 y.cl) (b3:All32 y.path) :
  Calls Tryz.prog 38 #[.agg #[.int .i64 x.index,u1,u2,u3],.agg #[.int .i64 y.index,v1,v2,v3]] w (fun e w'=>e=.returned (.bool (sameS x y))∧Ext w w'):=by
 have Y:=Fl.dlen h1 a1
 have Z:=Fl.dlen h2 a2
 have e3:=Fl.dlen h3 a3
 have e4:=Fl.dlen g1 b1
 have e5:=Fl.dlen g2 b2
 have e6:=Fl.dlen g3 b3
 subst Y Z e3 e4 e5 e6
 obtain ⟨C,I,rfl,_⟩:=h1.form
 obtain ⟨D,J,rfl,_⟩:=h2.form
 obtain ⟨G,M,rfl,_⟩:=h3.form
 obtain ⟨B1,O,rfl,_⟩:=g1.form
 obtain ⟨B2,U,rfl,_⟩:=g2.form
 obtain ⟨B3,V,rfl,_⟩:=g3.form
 have t:∀ {S:Nat→Prop} {v n l},Fl S w 32 v n l→Fl (fun _=>True) w 32 v n l:=fun h=>h.sub fun _ _=>trivial
 exact sames_any (S:=fun _=>True) (S2:=fun _=>True) C D G I J M x B1 B2 B3 O U V y w (t h1) a1 (t h2) a2 (t h3) a3 (t g1) b1 (t g2) b2 (t g3) b3
def fewIt (x:It):Prop:=x.name.length≤100∧x.data.length≤300
instance (x:It):Decidable (fewIt x):=inferInstanceAs (Decidable (_∧_))
def fewI (l:List It):Prop:=l.length≤12∧∀ x∈l,fewIt x
instance (l:List It):Decidable (fewI l):=inferInstanceAs (Decidable (_∧∀ x∈l,fewIt x))
def fewCg (x:Cg):Prop:=x.name.length≤100∧x.data.length≤300
instance (x:Cg):Decidable (fewCg x):=inferInstanceAs (Decidable (_∧_))
def fewC (l:List Cg):Prop:=l.length≤12∧∀ x∈l,fewCg x
instance (l:List Cg):Decidable (fewC l):=inferInstanceAs (Decidable (_∧∀ x∈l,fewCg x))
def fewV (v:Vr):Prop:=((fewC v.chs∧v.sg.op.length≤70)∧v.sg.cl.length≤70)∧v.sg.path.length≤20
instance (v:Vr):Decidable (fewV v):=inferInstanceAs (Decidable (((_∧_)∧_)∧_))
theorem few_yes {p:α→Prop} {l:List α} (h:∀ j,j<k→∀ x,l[j]?=some x→p x) (hk:l.length≤k):∀ x∈l,p x:=fun c hc=>by
 obtain ⟨i,hi,rfl⟩:=List.getElem_of_mem hc
 exact h i (by omega) _ (List.getElem?_eq_getElem hi)
theorem few_at {p:α→Prop} {l:List α} {x:α} (hx:l[k]?=some x) (h:p x):∀ y,l[k]?=some y→p y:=fun y hy=>by rw [hx] at hy;injection hy with hy;subst hy;exact h
theorem len_few {p q:Prop} [Decidable p] [Decidable q] (hq:q↔n≤12∧p) (hp:p):decide ((n:Int)≤(12:Int))=decide q:=decide_eq_decide.2 ⟨fun h=>hq.2 ⟨by omega,hp⟩,fun h=>by have:=(hq.1 h).1;omega⟩
theorem same_yes {a b:List α} (hl:a.length=b.length) (h:∀ j,j<k→a[j]?=b[j]?) (hk:a.length≤k):a=b:=by
 refine List.ext_getElem? fun i=>?_
 by_cases hi:i<k
 ·exact h i hi
 ·rw [List.getElem?_eq_none (by omega),List.getElem?_eq_none (by omega)]
theorem same_no {a b:List α} {x y:α} (hx:a[k]?=some x) (hy:b[k]?=some y) (h:x≠y):a≠b:=fun e=>h (by rw [e,hy] at hx;injection hx with hx;exact hx.symm)
theorem it_eq {x y:It} (h1:x.name=y.name) (h2:x.data=y.data):x=y:=by cases x;cases y;simp_all
theorem cg_eq {x:Cg} (h0:x.gone=y.gone) (h1:x.name=y.name) (h2:x.data=y.data):x=y:=by cases x;cases y;simp_all
theorem few40_any (A:Option Addr) (c:Nat) (l:List It) (w:World) (h:RLs RIt 2 S w (vl A l.length c) l) :
  Calls Tryz.prog 7 #[.slice A l.length c] w (fun e w'=>e=.returned (.bool (decide (fewI l)))∧Ext w w'):=by
 have hc:RLs RIt 2 (Clip S w) w (vl A l.length c) l:=RLs.clip rIt h
 obtain ⟨-,hck,hcm⟩:=RLs.at h
 refine calls_enter Tryz.func7 rfl rfl rfl fun _ M=>wr fun Z Z=>M.xv (.bool false) fun _ M=>wn Z<|wp_seq_k fun Z ai=>wr fun Z Z=>M.xv (vi 0) fun _ M=>wn Z<|wp_block<|wp_loop (fun a' W=>∃ (k:Nat),Sl 29 [(0,(vl A l.length c)),(2,(.bool false)),(3,(vi k))] a'∧k≤l.length∧(∀ j,j<k→∀ x,l[j]?=some x→fewIt x)∧Ext w W∧w.heap.size≤W.heap.size) (fun a' _=>l.length - (intOf (a'.eval (.tmp 3))).toNat) ⟨0,M.j,(by omega),(fun j hj=>absurd hj (by omega)),(Ext.refl w),(Nat.le_refl _)⟩ ?_
 rintro M M ⟨k,M,Z,Y,Z,ae⟩
 have aj:=M
 have ae:=Z.size
 refine wp_seq_k fun ae ae=>wr fun ag ag=>M.xm rfl<|Xm rfl<|Xv (vi l.length)<|Xv (vd ((k:Int)<(l.length:Int))) fun _ D=>wn ag ?_
 by_cases M:(k:Int)<(l.length:Int)
 ·refine D.ct<|wp_skip<|ae _ _<|wp_seq_k fun M ah=>wp_block<|wr fun M U=>D.xm rfl<|Xm rfl fun _ ab=>?_
  have M:=RLs.ext rIt hc Z
  obtain ⟨G,I,C,Z,O,J,Z,V,al⟩:=RLs.get M (by omega:k<l.length)
  obtain ⟨aa,ac,rfl,ak⟩:=al
  have D:=(Fl.cel ak).2.1
  refine ab.xw (vq G (I+k*2)) (fun F=>rn_indexE uu26 inf61 ((F.get rfl).trans (by rw [O])) (F.get rfl) (zl _) (il (by omega:k<l.length)) (by omega))<|Xv (vq G (I+k*2))<|Xw (strOf C.name) (fun F=>rl F rfl (V 0 _ rfl))<|Xw (vi C.name.length) (fun F=>rn_lenS uu9 (F.get rfl))<|Xv (vd ((100:Int)<(C.name.length:Int)))<|Xm rfl<|fun _ D=>?_
  by_cases M:(100:Int)<(C.name.length:Int)
  ·exact D.xu<|Xu<|Xu<|Xu<|Xu<|Xu<|Xu<|Xv (.bool true) fun _ G=>wn U<|have D:=G.k [0,2,3,7,25];D.ct<|wr fun G G=>D.xv (.bool false) fun _ D=>wn G<|wp_ret<|ret_block<|ret_then<|ret_then<|ret_block<|ret_then<|ret1 D rfl rfl<|⟨ret_bool (decide_eq_false (fun q:fewI l=>by have h1:=q.2 C (List.mem_of_getElem? J);have h2:=h1.1;have h3:=h1.2;omega)).symm,eX⟩
  refine D.xg (vl A l.length c)<|Xg (vi k)<|Xgw (vq G (I+k*2)) (fun F=>rn_indexE uu26 inf61 ((F.get rfl).trans (by rw [O])) (F.get rfl) (zl _) (il (by omega:k<l.length)) (by omega))<|Xg (vq G (I+k*2+1))<|Xgw (vl aa C.data.length ac) (fun F=>rl F rfl (V 1 _ rfl))<|Xg (vi C.data.length)<|Xg (vd ((300:Int)<(C.data.length:Int)))<|Xv (vd ((300:Int)<(C.data.length:Int))) fun _ G=>wn U ?_
  have D:=G.k [0,2,3,7,25]
  by_cases G:(300:Int)<(C.data.length:Int)
  ·exact D.ct<|wr fun G G=>D.xv (.bool false) fun _ D=>wn G<|wp_ret<|ret_block<|ret_then<|ret_then<|ret_block<|ret_then<|ret1 D rfl rfl<|⟨ret_bool (decide_eq_false (fun q:fewI l=>by have h1:=q.2 C (List.mem_of_getElem? J);have h2:=h1.1;have h3:=h1.2;omega)).symm,eX⟩
  refine D.cf<|wp_skip<|ah _ _<|wp_region_lit<|D.xm rfl<|Xv (vi (k+1:Nat))<|Xa rfl fun _ D=>wpList_nil ?_
  refine ⟨⟨(k+1),D.j,(by omega),(all_succ Y (few_at J (show fewIt C from ⟨by omega,by omega⟩))),eX,(by omega)⟩,?_⟩
  rw [D.get (t:=3) rfl,aj.get (t:=3) rfl];simp [intOf] <;> omega
 exact D.cf<|wp_exit<|exit_then<|exit_then<|exit_here<|ai _ _<|wr fun C G=>D.xm rfl<|Xv (vi l.length)<|Xv (vd ((l.length:Int)≤(12:Int)))<|Xa rfl fun _ C=>wn G<|have D:=C.k [0,2,3,7];wp_ret<|ret1 D rfl rfl<|⟨ret_bool (len_few (q:=fewI l) Iff.rfl (few_yes Y (by omega))),eX⟩
theorem few40_at (l:List It) (w:World) (h:RLs RIt 2 S w v l) :
  Calls Tryz.prog 7 #[v] w (fun e w'=>e=.returned (.bool (decide (fewI l)))∧Ext w w'):=by
 obtain ⟨A,c,rfl,_⟩:=h.form
 exact few40_any A c l w h
theorem fewc_any (A:Option Addr) (c:Nat) (l:List Cg) (w:World) (h:RLs RCg 3 S w (vl A l.length c) l) :
  Calls Tryz.prog 8 #[.slice A l.length c] w (fun e w'=>e=.returned (.bool (decide (fewC l)))∧Ext w w'):=by
 have hc:RLs RCg 3 (Clip S w) w (vl A l.length c) l:=RLs.clip rCg h
 obtain ⟨-,hck,hcm⟩:=RLs.at h
 refine calls_enter Tryz.func8 rfl rfl rfl fun _ J=>wr fun Z Z=>J.xv (.bool false) fun _ J=>wn Z<|wp_seq_k fun Z aj=>wr fun Z Z=>J.xv (vi 0) fun _ J=>wn Z<|wp_block<|wp_loop (fun a' W=>∃ (k:Nat),Sl 21 [(0,(vl A l.length c)),(2,(.bool false)),(3,(vi k))] a'∧k≤l.length∧(∀ j,j<k→∀ x,l[j]?=some x→fewCg x)∧Ext w W∧w.heap.size≤W.heap.size) (fun a' _=>l.length - (intOf (a'.eval (.tmp 3))).toNat) ⟨0,J.j,(by omega),(fun j hj=>absurd hj (by omega)),(Ext.refl w),(Nat.le_refl _)⟩ ?_
 rintro J J ⟨k,J,Z,Y,Z,ae⟩
 have ak:=J
 have ae:=Z.size
 refine wp_seq_k fun ae ae=>wr fun ag ag=>J.xm rfl<|Xm rfl<|Xv (vi l.length)<|Xv (vd ((k:Int)<(l.length:Int))) fun _ G=>wn ag ?_
 by_cases J:(k:Int)<(l.length:Int)
 ·refine G.ct<|wp_skip<|ae _ _<|wp_seq_k fun J ah=>wp_block<|wr fun J ai=>G.xm rfl<|Xm rfl fun _ ab=>?_
  have J:=RLs.ext rCg hc Z
  obtain ⟨O,aa,C,Z,ac,V,Z,al,am⟩:=RLs.get J (by omega:k<l.length)
  obtain ⟨D,I,rfl,U⟩:=am
  have G:=(Fl.cel U).2.1
  refine ab.xw (vq O (aa+k*3)) (fun F=>rn_indexE uu27 inf66 ((F.get rfl).trans (by rw [ac])) (F.get rfl) (zl _) (il (by omega:k<l.length)) (by omega))<|Xv (vq O (aa+k*3))<|Xw (.agg #[(strOf C.name),(vl D C.data.length I)]) (fun F=>rn_loadN (cs:=[(strOf C.name),(vl D C.data.length I)]) (F.get rfl) uu61 rfl inf61 (cells_part (A:=[]) (M:=[(strOf C.name),(vl D C.data.length I)]) (B:=[(.bool C.gone)]) al (by simp) rfl)) fun _ G=>G.xn (fun g=>(vl (some ⟨g,0,none⟩) 1 1)) [(strOf C.name),(vl D C.data.length I)] 61 (fun F=>rn_buildSlice (parts1 (F.get rfl)) (by kernel_rfl)) fun J D _ D G G G O=>have I:=(U.ext O);D.xe (few40_at (v:=(vl (some ⟨J,0,none⟩) 1 1)) [⟨C.name,C.data⟩] _ (RLs.one (S:=fun _=>True) (R:=RIt) G rfl (one_cons rfl (one_cons rfl one_nil)) trivial ⟨_,_,rfl,Fl.any I⟩)) fun D D D _ D=>D.xw (.bool (!(decide (fewI [⟨C.name,C.data⟩])))) (fun F=>rn_not' (F.get rfl) rfl) fun _ G=>wn ai ?_
  have D:=G.k [0,2,3,7,17]
  by_cases G:fewI [⟨C.name,C.data⟩]
  ·refine D.cf<|wp_skip<|ah _ _<|wp_region_lit<|D.xm rfl<|Xv (vi (k+1:Nat))<|Xa rfl fun _ D=>wpList_nil ?_
   refine ⟨⟨(k+1),D.j,(by omega),(all_succ Y (few_at V (show fewCg C from G.2 _ (List.mem_singleton.2 rfl)))),eX,(by omega)⟩,?_⟩
   rw [D.get (t:=3) rfl,ak.get (t:=3) rfl];simp [intOf] <;> omega
  exact D.ct<|wr fun I I=>D.xv (.bool false) fun _ D=>wn I<|wp_ret<|ret_block<|ret_then<|ret_then<|ret_block<|ret_then<|ret1 D rfl rfl<|⟨ret_bool (decide_eq_false (fun q:fewC l=>G ⟨by simp,fun y hy=>by rw [List.mem_singleton.1 hy];exact q.2 C (List.mem_of_getElem? V)⟩)).symm,eX⟩
 exact G.cf<|wp_exit<|exit_then<|exit_then<|exit_here<|aj _ _<|wr fun C D=>G.xm rfl<|Xv (vi l.length)<|Xv (vd ((l.length:Int)≤(12:Int)))<|Xa rfl fun _ C=>wn D<|have D:=C.k [0,2,3,7];wp_ret<|ret1 D rfl rfl<|⟨ret_bool (len_few (q:=fewC l) Iff.rfl (few_yes Y (by omega))),eX⟩
theorem fewc_at (l:List Cg) (w:World) (h:RLs RCg 3 S w v l) :
  Calls Tryz.prog 8 #[v] w (fun e w'=>e=.returned (.bool (decide (fewC l)))∧Ext w w'):=by
 obtain ⟨A,c,rfl,_⟩:=h.form
 exact fewc_any A c l w h
theorem fewv_any (C:Option Addr) (cc:Nat) (O:Option Addr) (oc:Nat) (E:Option Addr) (ec:Nat) (P:Option Addr) (pc:Nat) (v:Vr) (w:World) (h:RVp S w (vl C v.chs.length cc) (vl O v.sg.op.length oc) (vl E v.sg.cl.length ec) (vl P v.sg.path.length pc) v) :
  Calls Tryz.prog 9 #[(ag ((vi v.no)::dg v.state [(vl C v.chs.length cc),(vi v.sg.index),(vl O v.sg.op.length oc),(vl E v.sg.cl.length ec),(vl P v.sg.path.length pc)]))] w (fun en w'=>en=.returned (.bool (decide (fewV v)))∧Ext w w'):=by
 have hc:=RVp.subB (S':=Clip S w) h (fun _ hb hs=>⟨hs,hb⟩)
 obtain ⟨-,D,D⟩:=RLs.at hc.chs;have D:=(Fl.cel hc.sg.op).2.1;have D:=(Fl.cel hc.sg.cl).2.1;have D:=(Fl.cel hc.sg.path).2.1
 refine calls_enter Tryz.func9 rfl rfl rfl fun _ D=>wr fun G J=>D.xb rfl fun D G _ G I I M U=>G.xv (.bool false) fun _ I=>wn J<|wr fun G G=>I.xv (vq D 33)<|Xw (vl C v.chs.length cc) (fun F=>rl F rfl ((M.rule.1 33).trans ((at_app (k:=0) (byteVals_len hc.st)).trans rfl))) fun _ I=>have J:=(RLs.ext rCg hc.chs U);I.xe (fewc_at (v:=(vl C v.chs.length cc)) v.chs _ J) fun I V I _ I=>I.xm rfl fun _ J=>?_
 by_cases I:fewC v.chs
 ·refine J.xg (vq D 34)<|Xg (vq D 35) fun _ U=>have J:=(M.ext V);U.xgw (vl O v.sg.op.length oc) (fun F=>rl F rfl ((J.rule.1 35).trans ((at_app (k:=2) (byteVals_len hc.st)).trans rfl)))<|Xg (vi v.sg.op.length)<|Xg (vd ((v.sg.op.length:Int)≤(70:Int)))<|Xv (vd ((v.sg.op.length:Int)≤(70:Int)))<|Xm rfl fun _ M=>?_
  by_cases U:(v.sg.op.length:Int)≤(70:Int)
  ·refine M.xg (vq D 34)<|Xg (vq D 36)<|Xgw (vl E v.sg.cl.length ec) (fun F=>rl F rfl ((J.rule.1 36).trans ((at_app (k:=3) (byteVals_len hc.st)).trans rfl)))<|Xg (vi v.sg.cl.length)<|Xg (vd ((v.sg.cl.length:Int)≤(70:Int)))<|Xv (vd ((v.sg.cl.length:Int)≤(70:Int)))<|Xm rfl<|fun _ M=>?_
   by_cases U:(v.sg.cl.length:Int)≤(70:Int)
   ·exact M.xg (vq D 34)<|Xg (vq D 37)<|Xgw (vl P v.sg.path.length pc) (fun F=>rl F rfl ((J.rule.1 37).trans ((at_app (k:=4) (byteVals_len hc.st)).trans rfl)))<|Xg (vi v.sg.path.length)<|Xg (vd ((v.sg.path.length:Int)≤(20:Int)))<|Xv (vd ((v.sg.path.length:Int)≤(20:Int)))<|Xa rfl fun _ D=>wn G<|have G:=D.k [0,1,2];wp_ret<|ret1 G rfl rfl<|have h9:=I;⟨ret_bool (show decide ((v.sg.path.length:Int)≤(20:Int))=decide (fewV v) from decide_eq_decide.2 ⟨fun h=>⟨⟨⟨h9,by omega⟩,by omega⟩,by omega⟩,fun q=>by obtain ⟨⟨⟨-,q1⟩,q2⟩,q3⟩:=q;omega⟩),eX⟩
   exact M.xu<|Xu<|Xu<|Xu<|Xu<|Xv (.bool false)<|Xa rfl fun _ D=>wn G<|have G:=D.k [0,1,2];wp_ret<|ret1 G rfl rfl<|have h9:=I;⟨ret_bool (decide_eq_false (fun q:fewV v=>by obtain ⟨⟨⟨-,q1⟩,q2⟩,q3⟩:=q;omega)).symm,eX⟩
  exact M.xu<|Xu<|Xu<|Xu<|Xu<|Xv (.bool false)<|Xm rfl<|Xu<|Xu<|Xu<|Xu<|Xu<|Xv (.bool false)<|Xa rfl fun _ D=>wn G<|have G:=D.k [0,1,2];wp_ret<|ret1 G rfl rfl<|have h9:=I;⟨ret_bool (decide_eq_false (fun q:fewV v=>by obtain ⟨⟨⟨-,q1⟩,q2⟩,q3⟩:=q;omega)).symm,eX⟩
 exact J.xu<|Xu<|Xu<|Xu<|Xu<|Xv (.bool false)<|Xm rfl<|Xu<|Xu<|Xu<|Xu<|Xu<|Xv (.bool false)<|Xm rfl<|Xu<|Xu<|Xu<|Xu<|Xu<|Xv (.bool false)<|Xa rfl fun _ D=>wn G<|have G:=D.k [0,1,2];wp_ret<|ret1 G rfl rfl<|have h9:=I;⟨ret_bool (decide_eq_false (fun q:fewV v=>by exact h9 q.1.1.1)).symm,eX⟩
theorem fewv_at {c:Value} (v:Vr) (w:World) (h:RVp S w c o e p v) :
  Calls Tryz.prog 9 #[ag (vcs v.no v.state c v.sg.index o e p)] w (fun en w'=>en=.returned (.bool (decide (fewV v)))∧Ext w w'):=by
 obtain ⟨C,cc,rfl,_⟩:=RLs.form h.chs
 obtain ⟨O,oc,rfl,_⟩:=Fl.form h.sg.op
 obtain ⟨E,ec,rfl,_⟩:=Fl.form h.sg.cl
 obtain ⟨P,pc,rfl,_⟩:=Fl.form h.sg.path
 exact fewv_any C cc O oc E ec P pc v w h
theorem same40_any (A:Option Addr) (c:Nat) (a:List It) (B:Option Addr) (d:Nat) (b:List It) (w:World) (h1:RLs RIt 2 S w (vl A a.length c) a) (h2:RLs RIt 2 S w (vl B b.length d) b) :
  Calls Tryz.prog 47 #[.slice A a.length c,.slice B b.length d] w (fun e w'=>e=.returned (.bool (decide (a=b)))∧Ext w w'):=by
 have h1c:RLs RIt 2 (Clip S w) w (vl A a.length c) a:=RLs.clip rIt h1
 obtain ⟨-,h1ck,h1cm⟩:=RLs.at h1
 have h2c:RLs RIt 2 (Clip S w) w (vl B b.length d) b:=RLs.clip rIt h2
 obtain ⟨-,h2ck,h2cm⟩:=RLs.at h2
 refine calls_enter Tryz.func47 rfl rfl rfl fun _ J=>wr fun K1 ar=>J.xv (.bool false) fun _ J=>wn ar<|wp_seq_k fun K4 az=>wr fun K5 aB=>J.xm rfl<|Xv (vi a.length)<|Xm rfl<|Xv (vi b.length)<|Xv (vd ((a.length:Int)≠(b.length:Int))) fun _ ar=>wn aB ?_
 have J:=ar.k [0,1,4,10]
 by_cases ar:(a.length:Int)≠(b.length:Int)
 ·exact J.ct<|wr fun C D=>J.xv (.bool false) fun _ C=>wn D<|wp_ret<|ret_then<|ret1 C rfl rfl<|⟨ret_bool (decide_eq_false (fun q=>by have h9:=congrArg List.length q;omega)).symm,(Ext.refl w)⟩
 refine J.cf<|wp_skip<|az _ _<|wp_seq_k fun ar ay=>wr fun ar ar=>J.xv (vi 0) fun _ J=>wn ar<|wp_block<|wp_loop (fun a' W=>∃ (k:Nat),Sl 43 [(0,(vl A a.length c)),(1,(vl B b.length d)),(4,(.bool false)),(10,(vd ((a.length:Int)≠(b.length:Int)))),(5,(vi k))] a'∧k≤a.length∧(∀ j,j<k→a[j]?=b[j]?)∧Ext w W∧w.heap.size≤W.heap.size) (fun a' _=>a.length - (intOf (a'.eval (.tmp 5))).toNat) ⟨0,J.j,(by omega),(fun j hj=>absurd hj (by omega)),(Ext.refl w),(Nat.le_refl _)⟩ ?_
 rintro J J ⟨k,J,ar,ak,ar,az⟩
 have aC:=J
 have az:=ar.size
 refine wp_seq_k fun ar ar=>wr fun az az=>J.xm rfl<|Xm rfl<|Xv (vi a.length)<|Xv (vd ((k:Int)<(a.length:Int))) fun _ M=>wn az ?_
 by_cases J:(k:Int)<(a.length:Int)
 ·refine M.ct<|wp_skip<|ar _ _<|wp_seq_k fun J aA=>wp_block<|wp_seq_k fun J ae=>sX (fun C W=>Ext C W) (fun i=>false) 26 fun C al J=>M.ym 0 rfl<|Ym 1 rfl fun _ au=>?_
  have J:=RLs.ux rIt h1c al
  obtain ⟨O,V,D,ar,ab,Z,ar,ag,aD⟩:=RLs.get J (by omega:k<a.length)
  obtain ⟨am,aw,rfl,ai⟩:=aD
  have J:=(Fl.cel ai).2.1
  refine au.yw 2 (vq O (V+k*2)) rfl (fun F W=>rn_indexE uu26 inf61 ((F.get rfl).trans (by rw [ab])) (F.get rfl) (zl _) (il (by omega:k<a.length)) (by omega))<|Yv 3 (vq O (V+k*2)) rfl fun _ J=>have I:Ex C C:=Ext.refl C;J.ys 4 (strOf D.name) rfl I (fun F W hW=>rl F rfl ((fun j u hu=>Ext.keep ((Ext.refl C).trans hW) (ag j u hu)) 0 _ rfl))<|Ym 5 rfl<|Ym 6 rfl fun _ av=>?_
  have J:=RLs.ux rIt h2c al
  obtain ⟨U,Y,G,al,ac,aa,al,ah,aE⟩:=RLs.get J (by omega:k<b.length)
  obtain ⟨aq,ax,rfl,aj⟩:=aE
  have J:=(Fl.cel aj).2.1
  refine av.yw 7 (vq U (Y+k*2)) rfl (fun F W=>rn_indexE uu26 inf61 ((F.get rfl).trans (by rw [ac])) (F.get rfl) (zl _) (il (by omega:k<b.length)) (by omega))<|Yv 8 (vq U (Y+k*2)) rfl<|Ys 9 (strOf G.name) rfl I (fun F W hW=>rl F rfl ((fun j u hu=>Ext.keep ((Ext.refl C).trans hW) (ah j u hu)) 0 _ rfl))<|Yw 10 (.bool (!decide (D.name=G.name))) rfl (fun F W=>rn_nes (F.get rfl) (F.get rfl) rfl)<|Ym 11 rfl<|fun _ J=>?_
  by_cases M:D.name=G.name
  ·refine J.yg 12 (vl A a.length c) rfl<|Yg 13 (vi k) rfl<|Ygw 14 (vq O (V+k*2)) rfl (fun F W=>rn_indexE uu26 inf61 ((F.get rfl).trans (by rw [ab])) (F.get rfl) (zl _) (il (by omega:k<a.length)) (by omega))<|Yg 15 (vq O (V+k*2+1)) rfl<|Ysg 16 (vl am D.data.length aw) rfl I (fun F W hW=>rl F rfl ((fun j u hu=>Ext.keep ((Ext.refl C).trans hW) (ag j u hu)) 1 _ rfl))<|Ysg 17 (strOf D.data) rfl I (fun F W hW=>rn_str (F.get rfl) (Fl.rbs (ai.ext hW)) uu22 uu5 uu9)<|Yg 18 (vl B b.length d) rfl<|Yg 19 (vi k) rfl<|Ygw 20 (vq U (Y+k*2)) rfl (fun F W=>rn_indexE uu26 inf61 ((F.get rfl).trans (by rw [ac])) (F.get rfl) (zl _) (il (by omega:k<b.length)) (by omega))<|Yg 21 (vq U (Y+k*2+1)) rfl<|Ysg 22 (vl aq G.data.length ax) rfl I (fun F W hW=>rl F rfl ((fun j u hu=>Ext.keep ((Ext.refl C).trans hW) (ah j u hu)) 1 _ rfl))<|Ysg 23 (strOf G.data) rfl I (fun F W hW=>rn_str (F.get rfl) (Fl.rbs (aj.ext hW)) uu22 uu5 uu9)<|Ygw 24 (.bool (!decide (D.data=G.data))) rfl (fun F W=>rn_nes (F.get rfl) (F.get rfl) rfl)<|Yv 25 (.bool (!decide (D.data=G.data))) rfl fun _ I=>nK ae ?_
   have C:=I.k [0,1,4,10,5,14,42]
   by_cases I:D.data=G.data
   ·refine C.cf<|wp_skip<|aA _ _<|wp_region_lit<|C.xm rfl<|Xv (vi (k+1:Nat))<|Xa rfl fun _ C=>wpList_nil ?_
    refine ⟨⟨(k+1),C.j,(by omega),(all_succ ak (by rw [Z,aa,it_eq M I])),eX,(by omega)⟩,?_⟩
    rw [C.get (t:=5) rfl,aC.get (t:=5) rfl];simp [intOf] <;> omega
   exact C.ct<|wr fun D D=>C.xv (.bool false) fun _ C=>wn D<|wp_ret<|ret_block<|ret_then<|ret_then<|ret_block<|ret_then<|ret1 C rfl rfl<|⟨ret_bool (decide_eq_false (same_no Z aa (fun q=>I (congrArg (·.data) q)))).symm,eX⟩
  exact J.yu 12 rfl<|Yu 13 rfl<|Yu 14 rfl<|Yu 15 rfl<|Yu 16 rfl<|Yu 17 rfl<|Yu 18 rfl<|Yu 19 rfl<|Yu 20 rfl<|Yu 21 rfl<|Yu 22 rfl<|Yu 23 rfl<|Yu 24 rfl<|Yv 25 (.bool true) rfl fun _ D=>nK ae<|have C:=D.k [0,1,4,10,5,14,42];C.ct<|wr fun D D=>C.xv (.bool false) fun _ C=>wn D<|wp_ret<|ret_block<|ret_then<|ret_then<|ret_block<|ret_then<|ret1 C rfl rfl<|⟨ret_bool (decide_eq_false (same_no Z aa (fun q=>M (congrArg (·.name) q)))).symm,eX⟩
 exact M.cf<|wp_exit<|exit_then<|exit_then<|exit_here<|ay _ _<|wr fun C D=>M.xv (.bool true) fun _ C=>wn D<|wp_ret<|ret1 C rfl rfl<|⟨ret_bool (decide_eq_true (same_yes (by omega) ak (by omega))).symm,eX⟩
theorem same40_at (a b:List It) (w:World) (h1:RLs RIt 2 S1 w u a) (h2:RLs RIt 2 S2 w v b) :
  Calls Tryz.prog 47 #[u,v] w (fun e w'=>e=.returned (.bool (decide (a=b)))∧Ext w w'):=by
 obtain ⟨A,c,rfl,_⟩:=h1.form
 obtain ⟨B,d,rfl,_⟩:=h2.form
 exact same40_any (S:=fun _=>True) A c a B d b w (h1.sub rIt fun _ _=>trivial) (h2.sub rIt fun _ _=>trivial)
theorem samec_any (A:Option Addr) (c:Nat) (a:List Cg) (B:Option Addr) (d:Nat) (b:List Cg) (w:World) (h1:RLs RCg 3 S w (vl A a.length c) a) (h2:RLs RCg 3 S w (vl B b.length d) b) :
  Calls Tryz.prog 37 #[.slice A a.length c,.slice B b.length d] w (fun e w'=>e=.returned (.bool (decide (a=b)))∧Ext w w'):=by
 have h1c:RLs RCg 3 (Clip S w) w (vl A a.length c) a:=RLs.clip rCg h1
 obtain ⟨-,h1ck,h1cm⟩:=RLs.at h1
 have h2c:RLs RCg 3 (Clip S w) w (vl B b.length d) b:=RLs.clip rCg h2
 obtain ⟨-,h2ck,h2cm⟩:=RLs.at h2
 refine calls_enter Tryz.func37 rfl rfl rfl fun _ hF=>wr fun K1 ai=>hF.xv (.bool false) fun _ F3=>wn ai<|wp_seq_k fun K4 aI=>wr fun K5 ai=>F3.xm rfl<|Xv (vi a.length)<|Xm rfl<|Xv (vi b.length)<|Xv (vd ((a.length:Int)≠(b.length:Int))) fun _ aB=>wn ai ?_
 have ai:=aB.k [0,1,4,10]
 by_cases aB:(a.length:Int)≠(b.length:Int)
 ·exact ai.ct<|wr fun C D=>ai.xv (.bool false) fun _ C=>wn D<|wp_ret<|ret_then<|ret1 C rfl rfl<|⟨ret_bool (decide_eq_false (fun q=>by have h9:=congrArg List.length q;omega)).symm,(Ext.refl w)⟩
 refine ai.cf<|wp_skip<|aI _ _<|wp_seq_k fun aB aG=>wr fun aB aB=>ai.xv (vi 0) fun _ ai=>wn aB<|wp_block<|wp_loop (fun a' W=>∃ (k:Nat),Sl 60 [(0,(vl A a.length c)),(1,(vl B b.length d)),(4,(.bool false)),(10,(vd ((a.length:Int)≠(b.length:Int)))),(5,(vi k))] a'∧k≤a.length∧(∀ j,j<k→a[j]?=b[j]?)∧Ext w W∧w.heap.size≤W.heap.size) (fun a' _=>a.length - (intOf (a'.eval (.tmp 5))).toNat) ⟨0,ai.j,(by omega),(fun j hj=>absurd hj (by omega)),(Ext.refl w),(Nat.le_refl _)⟩ ?_
 rintro ai ai ⟨k,ai,aB,aq,aB,aI⟩
 have az:=ai
 have aI:=aB.size
 refine wp_seq_k fun aB aB=>wr fun aI aI=>ai.xm rfl<|Xm rfl<|Xv (vi a.length)<|Xv (vd ((k:Int)<(a.length:Int))) fun _ aj=>wn aI ?_
 by_cases ai:(k:Int)<(a.length:Int)
 ·refine aj.ct<|wp_skip<|aB _ _<|wp_seq_k fun ai ay=>wp_block<|wp_seq_k fun ai aa=>sX (fun G W=>Ext G W) (fun i=>false) 43 fun G aA ai=>aj.ym 0 rfl<|Ym 1 rfl fun _ aE=>?_
  have ai:=RLs.ux rCg h1c aA
  obtain ⟨I,O,D,aB,ab,Y,aB,ag,aJ⟩:=RLs.get ai (by omega:k<a.length)
  obtain ⟨ar,aw,rfl,al⟩:=aJ
  have ai:=(Fl.cel al).2.1
  refine aE.yw 2 (vq I (O+k*3)) rfl (fun F W=>rn_indexE uu27 inf66 ((F.get rfl).trans (by rw [ab])) (F.get rfl) (zl _) (il (by omega:k<a.length)) (by omega))<|Yv 3 (vq I (O+k*3+2)) rfl fun _ ai=>have M:Ex G G:=Ext.refl G;ai.ys 4 (.bool D.gone) rfl M (fun F W hW=>rl F rfl ((fun j u hu=>Ext.keep ((Ext.refl G).trans hW) (ag j u hu)) 2 _ rfl))<|Ym 5 rfl<|Ym 6 rfl fun _ aF=>?_
  have ai:=RLs.ux rCg h2c aA
  obtain ⟨J,U,C,aA,ac,Z,aA,ah,aK⟩:=RLs.get ai (by omega:k<b.length)
  obtain ⟨au,ax,rfl,am⟩:=aK
  have ai:=(Fl.cel am).2.1
  refine aF.yw 7 (vq J (U+k*3)) rfl (fun F W=>rn_indexE uu27 inf66 ((F.get rfl).trans (by rw [ac])) (F.get rfl) (zl _) (il (by omega:k<b.length)) (by omega))<|Yv 8 (vq J (U+k*3+2)) rfl<|Ys 9 (.bool C.gone) rfl M (fun F W hW=>rl F rfl ((fun j u hu=>Ext.keep ((Ext.refl G).trans hW) (ah j u hu)) 2 _ rfl))<|fun _ ak=>?_
  rcases Bool.eq_false_or_eq_true D.gone with V | V
  ·rcases Bool.eq_false_or_eq_true C.gone with ae | ae
   ·refine ak.yw 10 (.bool false) rfl (fun F W=>rn_neB uu4 (F.get rfl) (F.get rfl) (show _=true from V) (show _=true from ae) rfl)<|Ym 11 rfl<|Yg 12 (vl A a.length c) rfl<|Yg 13 (vi k) rfl<|Ygw 14 (vq I (O+k*3)) rfl (fun F W=>rn_indexE uu27 inf66 ((F.get rfl).trans (by rw [ab])) (F.get rfl) (zl _) (il (by omega:k<a.length)) (by omega))<|Yg 15 (vq I (O+k*3)) rfl<|Yg 16 (vq I (O+k*3)) rfl<|Ysg 17 (strOf D.name) rfl M (fun F W hW=>rl F rfl ((fun j u hu=>Ext.keep ((Ext.refl G).trans hW) (ag j u hu)) 0 _ rfl))<|Yg 18 (vl B b.length d) rfl<|Yg 19 (vi k) rfl<|Ygw 20 (vq J (U+k*3)) rfl (fun F W=>rn_indexE uu27 inf66 ((F.get rfl).trans (by rw [ac])) (F.get rfl) (zl _) (il (by omega:k<b.length)) (by omega))<|Yg 21 (vq J (U+k*3)) rfl<|Yg 22 (vq J (U+k*3)) rfl<|Ysg 23 (strOf C.name) rfl M (fun F W hW=>rl F rfl ((fun j u hu=>Ext.keep ((Ext.refl G).trans hW) (ah j u hu)) 0 _ rfl))<|Ygw 24 (.bool (!decide (D.name=C.name))) rfl (fun F W=>rn_nes (F.get rfl) (F.get rfl) rfl)<|Yv 25 (.bool (!decide (D.name=C.name))) rfl<|Ym 26 rfl<|fun _ ai=>?_
    by_cases aj:D.name=C.name
    ·refine ai.yg 27 (vl A a.length c) rfl<|Yg 28 (vi k) rfl<|Ygw 29 (vq I (O+k*3)) rfl (fun F W=>rn_indexE uu27 inf66 ((F.get rfl).trans (by rw [ab])) (F.get rfl) (zl _) (il (by omega:k<a.length)) (by omega))<|Yg 30 (vq I (O+k*3)) rfl<|Yg 31 (vq I (O+k*3+1)) rfl<|Ysg 32 (vl ar D.data.length aw) rfl M (fun F W hW=>rl F rfl ((fun j u hu=>Ext.keep ((Ext.refl G).trans hW) (ag j u hu)) 1 _ rfl))<|Ysg 33 (strOf D.data) rfl M (fun F W hW=>rn_str (F.get rfl) (Fl.rbs (al.ext hW)) uu22 uu5 uu9)<|Yg 34 (vl B b.length d) rfl<|Yg 35 (vi k) rfl<|Ygw 36 (vq J (U+k*3)) rfl (fun F W=>rn_indexE uu27 inf66 ((F.get rfl).trans (by rw [ac])) (F.get rfl) (zl _) (il (by omega:k<b.length)) (by omega))<|Yg 37 (vq J (U+k*3)) rfl<|Yg 38 (vq J (U+k*3+1)) rfl<|Ysg 39 (vl au C.data.length ax) rfl M (fun F W hW=>rl F rfl ((fun j u hu=>Ext.keep ((Ext.refl G).trans hW) (ah j u hu)) 1 _ rfl))<|Ysg 40 (strOf C.data) rfl M (fun F W hW=>rn_str (F.get rfl) (Fl.rbs (am.ext hW)) uu22 uu5 uu9)<|Ygw 41 (.bool (!decide (D.data=C.data))) rfl (fun F W=>rn_nes (F.get rfl) (F.get rfl) rfl)<|Yv 42 (.bool (!decide (D.data=C.data))) rfl fun _ I=>nK aa ?_
     have G:=I.k [0,1,4,10,5,14,59]
     by_cases I:D.data=C.data
     ·refine G.cf<|wp_skip<|ay _ _<|wp_region_lit<|G.xm rfl<|Xv (vi (k+1:Nat))<|Xa rfl fun _ C=>wpList_nil ?_
      refine ⟨⟨(k+1),C.j,(by omega),(all_succ aq (by rw [Y,Z,cg_eq (V.trans (Eq.symm ae)) aj I])),eX,(by omega)⟩,?_⟩
      rw [C.get (t:=5) rfl,az.get (t:=5) rfl];simp [intOf] <;> omega
     exact G.ct<|wr fun C D=>G.xv (.bool false) fun _ C=>wn D<|wp_ret<|ret_block<|ret_then<|ret_then<|ret_block<|ret_then<|ret1 C rfl rfl<|⟨ret_bool (decide_eq_false (same_no Y Z (fun q=>I (congrArg (·.data) q)))).symm,eX⟩
    exact ai.yu 27 rfl<|Yu 28 rfl<|Yu 29 rfl<|Yu 30 rfl<|Yu 31 rfl<|Yu 32 rfl<|Yu 33 rfl<|Yu 34 rfl<|Yu 35 rfl<|Yu 36 rfl<|Yu 37 rfl<|Yu 38 rfl<|Yu 39 rfl<|Yu 40 rfl<|Yu 41 rfl<|Yv 42 (.bool true) rfl fun _ D=>nK aa<|have C:=D.k [0,1,4,10,5,14,59];C.ct<|wr fun D D=>C.xv (.bool false) fun _ C=>wn D<|wp_ret<|ret_block<|ret_then<|ret_then<|ret_block<|ret_then<|ret1 C rfl rfl<|⟨ret_bool (decide_eq_false (same_no Y Z (fun q=>aj (congrArg (·.name) q)))).symm,eX⟩
   exact ak.yw 10 (.bool true) rfl (fun F W=>rn_neB uu4 (F.get rfl) (F.get rfl) (show _=true from V) (show _=false from ae) rfl)<|Ym 11 rfl<|Yu 12 rfl<|Yu 13 rfl<|Yu 14 rfl<|Yu 15 rfl<|Yu 16 rfl<|Yu 17 rfl<|Yu 18 rfl<|Yu 19 rfl<|Yu 20 rfl<|Yu 21 rfl<|Yu 22 rfl<|Yu 23 rfl<|Yu 24 rfl<|Yv 25 (.bool true) rfl<|Ym 26 rfl<|Yu 27 rfl<|Yu 28 rfl<|Yu 29 rfl<|Yu 30 rfl<|Yu 31 rfl<|Yu 32 rfl<|Yu 33 rfl<|Yu 34 rfl<|Yu 35 rfl<|Yu 36 rfl<|Yu 37 rfl<|Yu 38 rfl<|Yu 39 rfl<|Yu 40 rfl<|Yu 41 rfl<|Yv 42 (.bool true) rfl fun _ aC=>nK aa<|have av:=aC.k [0,1,4,10,5,14,59];av.ct<|wr fun ai aH=>av.xv (.bool false) fun _ aD=>wn aH<|wp_ret<|ret_block<|ret_then<|ret_then<|ret_block<|ret_then<|ret1 aD rfl rfl<|⟨ret_bool (decide_eq_false (same_no Y Z (fun q=>by have h8:=V;have h9:=ae;rw [q] at h8;rw [h9] at h8;cases h8))).symm,eX⟩
  rcases Bool.eq_false_or_eq_true C.gone with ae | ae
  ·exact ak.yw 10 (.bool true) rfl (fun F W=>rn_neB uu4 (F.get rfl) (F.get rfl) (show _=false from V) (show _=true from ae) rfl)<|Ym 11 rfl<|Yu 12 rfl<|Yu 13 rfl<|Yu 14 rfl<|Yu 15 rfl<|Yu 16 rfl<|Yu 17 rfl<|Yu 18 rfl<|Yu 19 rfl<|Yu 20 rfl<|Yu 21 rfl<|Yu 22 rfl<|Yu 23 rfl<|Yu 24 rfl<|Yv 25 (.bool true) rfl<|Ym 26 rfl<|Yu 27 rfl<|Yu 28 rfl<|Yu 29 rfl<|Yu 30 rfl<|Yu 31 rfl<|Yu 32 rfl<|Yu 33 rfl<|Yu 34 rfl<|Yu 35 rfl<|Yu 36 rfl<|Yu 37 rfl<|Yu 38 rfl<|Yu 39 rfl<|Yu 40 rfl<|Yu 41 rfl<|Yv 42 (.bool true) rfl fun _ aC=>nK aa<|have av:=aC.k [0,1,4,10,5,14,59];av.ct<|wr fun ai aH=>av.xv (.bool false) fun _ aD=>wn aH<|wp_ret<|ret_block<|ret_then<|ret_then<|ret_block<|ret_then<|ret1 aD rfl rfl<|⟨ret_bool (decide_eq_false (same_no Y Z (fun q=>by have h8:=V;have h9:=ae;rw [q] at h8;rw [h9] at h8;cases h8))).symm,eX⟩
  refine ak.yw 10 (.bool false) rfl (fun F W=>rn_neB uu4 (F.get rfl) (F.get rfl) (show _=false from V) (show _=false from ae) rfl)<|Ym 11 rfl<|Yg 12 (vl A a.length c) rfl<|Yg 13 (vi k) rfl<|Ygw 14 (vq I (O+k*3)) rfl (fun F W=>rn_indexE uu27 inf66 ((F.get rfl).trans (by rw [ab])) (F.get rfl) (zl _) (il (by omega:k<a.length)) (by omega))<|Yg 15 (vq I (O+k*3)) rfl<|Yg 16 (vq I (O+k*3)) rfl<|Ysg 17 (strOf D.name) rfl M (fun F W hW=>rl F rfl ((fun j u hu=>Ext.keep ((Ext.refl G).trans hW) (ag j u hu)) 0 _ rfl))<|Yg 18 (vl B b.length d) rfl<|Yg 19 (vi k) rfl<|Ygw 20 (vq J (U+k*3)) rfl (fun F W=>rn_indexE uu27 inf66 ((F.get rfl).trans (by rw [ac])) (F.get rfl) (zl _) (il (by omega:k<b.length)) (by omega))<|Yg 21 (vq J (U+k*3)) rfl<|Yg 22 (vq J (U+k*3)) rfl<|Ysg 23 (strOf C.name) rfl M (fun F W hW=>rl F rfl ((fun j u hu=>Ext.keep ((Ext.refl G).trans hW) (ah j u hu)) 0 _ rfl))<|Ygw 24 (.bool (!decide (D.name=C.name))) rfl (fun F W=>rn_nes (F.get rfl) (F.get rfl) rfl)<|Yv 25 (.bool (!decide (D.name=C.name))) rfl<|Ym 26 rfl<|fun _ ai=>?_
  by_cases aj:D.name=C.name
  ·refine ai.yg 27 (vl A a.length c) rfl<|Yg 28 (vi k) rfl<|Ygw 29 (vq I (O+k*3)) rfl (fun F W=>rn_indexE uu27 inf66 ((F.get rfl).trans (by rw [ab])) (F.get rfl) (zl _) (il (by omega:k<a.length)) (by omega))<|Yg 30 (vq I (O+k*3)) rfl<|Yg 31 (vq I (O+k*3+1)) rfl<|Ysg 32 (vl ar D.data.length aw) rfl M (fun F W hW=>rl F rfl ((fun j u hu=>Ext.keep ((Ext.refl G).trans hW) (ag j u hu)) 1 _ rfl))<|Ysg 33 (strOf D.data) rfl M (fun F W hW=>rn_str (F.get rfl) (Fl.rbs (al.ext hW)) uu22 uu5 uu9)<|Yg 34 (vl B b.length d) rfl<|Yg 35 (vi k) rfl<|Ygw 36 (vq J (U+k*3)) rfl (fun F W=>rn_indexE uu27 inf66 ((F.get rfl).trans (by rw [ac])) (F.get rfl) (zl _) (il (by omega:k<b.length)) (by omega))<|Yg 37 (vq J (U+k*3)) rfl<|Yg 38 (vq J (U+k*3+1)) rfl<|Ysg 39 (vl au C.data.length ax) rfl M (fun F W hW=>rl F rfl ((fun j u hu=>Ext.keep ((Ext.refl G).trans hW) (ah j u hu)) 1 _ rfl))<|Ysg 40 (strOf C.data) rfl M (fun F W hW=>rn_str (F.get rfl) (Fl.rbs (am.ext hW)) uu22 uu5 uu9)<|Ygw 41 (.bool (!decide (D.data=C.data))) rfl (fun F W=>rn_nes (F.get rfl) (F.get rfl) rfl)<|Yv 42 (.bool (!decide (D.data=C.data))) rfl fun _ I=>nK aa ?_
   have G:=I.k [0,1,4,10,5,14,59]
   by_cases I:D.data=C.data
   ·refine G.cf<|wp_skip<|ay _ _<|wp_region_lit<|G.xm rfl<|Xv (vi (k+1:Nat))<|Xa rfl fun _ C=>wpList_nil ?_
    refine ⟨⟨(k+1),C.j,(by omega),(all_succ aq (by rw [Y,Z,cg_eq (V.trans (Eq.symm ae)) aj I])),eX,(by omega)⟩,?_⟩
    rw [C.get (t:=5) rfl,az.get (t:=5) rfl];simp [intOf] <;> omega
   exact G.ct<|wr fun C D=>G.xv (.bool false) fun _ C=>wn D<|wp_ret<|ret_block<|ret_then<|ret_then<|ret_block<|ret_then<|ret1 C rfl rfl<|⟨ret_bool (decide_eq_false (same_no Y Z (fun q=>I (congrArg (·.data) q)))).symm,eX⟩
  exact ai.yu 27 rfl<|Yu 28 rfl<|Yu 29 rfl<|Yu 30 rfl<|Yu 31 rfl<|Yu 32 rfl<|Yu 33 rfl<|Yu 34 rfl<|Yu 35 rfl<|Yu 36 rfl<|Yu 37 rfl<|Yu 38 rfl<|Yu 39 rfl<|Yu 40 rfl<|Yu 41 rfl<|Yv 42 (.bool true) rfl fun _ D=>nK aa<|have C:=D.k [0,1,4,10,5,14,59];C.ct<|wr fun D D=>C.xv (.bool false) fun _ C=>wn D<|wp_ret<|ret_block<|ret_then<|ret_then<|ret_block<|ret_then<|ret1 C rfl rfl<|⟨ret_bool (decide_eq_false (same_no Y Z (fun q=>aj (congrArg (·.name) q)))).symm,eX⟩
 exact aj.cf<|wp_exit<|exit_then<|exit_then<|exit_here<|aG _ _<|wr fun C D=>aj.xv (.bool true) fun _ C=>wn D<|wp_ret<|ret1 C rfl rfl<|⟨ret_bool (decide_eq_true (same_yes (by omega) aq (by omega))).symm,eX⟩
theorem samec_at (a b:List Cg) (w:World) (h1:RLs RCg 3 S1 w u a) (h2:RLs RCg 3 S2 w v b) :
  Calls Tryz.prog 37 #[u,v] w (fun e w'=>e=.returned (.bool (decide (a=b)))∧Ext w w'):=by
 obtain ⟨A,c,rfl,_⟩:=h1.form
 obtain ⟨B,d,rfl,_⟩:=h2.form
 exact samec_any (S:=fun _=>True) A c a B d b w (h1.sub rCg fun _ _=>trivial) (h2.sub rCg fun _ _=>trivial)
theorem rfind_any (A:Option Addr) (c:Nat) (l:List It) (s:List UInt8) (w:World) (h:RLs RIt 2 S w (vl A l.length c) l) (hl:l.length≤4294967296) :
  Calls Tryz.prog 115 #[.slice A l.length c,strOf s] w (fun e w'=>∃ r,e=.returned (vi r)∧r=findI l s∧Ext w w'):=by
 have hc:RLs RIt 2 (Clip S w) w (vl A l.length c) l:=RLs.clip rIt h
 obtain ⟨-,hck,hcm⟩:=RLs.at h
 refine calls_enter Tryz.func115 rfl rfl rfl fun _ D=>wr fun V V=>D.xv (vi 0) fun _ D=>wn V<|wp_seq_k fun V ah=>wr fun V V=>D.xv (vi 0) fun _ D=>wn V<|wp_block<|wp_loop (fun a' W=>∃ (k:Nat),Sl 20 [(0,(vl A l.length c)),(1,(strOf s)),(4,(vi 0)),(5,(vi k))] a'∧k≤l.length∧(∀ j,j<k→∀ x,l[j]?=some x→x.name≠s)∧Ext w W∧w.heap.size≤W.heap.size) (fun a' _=>l.length - (intOf (a'.eval (.tmp 5))).toNat) ⟨0,D.j,(by omega),(fun j hj=>absurd hj (by omega)),(Ext.refl w),(Nat.le_refl _)⟩ ?_
 rintro D D ⟨k,D,V,G,V,ab⟩
 have ai:=D
 have ab:=V.size
 refine wp_seq_k fun ab ab=>wr fun ac ac=>D.xm rfl<|Xm rfl<|Xv (vi l.length)<|Xv (vd ((k:Int)<(l.length:Int))) fun _ C=>wn ac ?_
 by_cases D:(k:Int)<(l.length:Int)
 ·refine C.ct<|wp_skip<|ab _ _<|wp_seq_k fun D ae=>wp_block<|wr fun D ag=>C.xm rfl<|Xm rfl fun _ Z=>?_
  have D:=RLs.ext rIt hc V
  obtain ⟨M,Y,I,V,aa,U,V,aj,al⟩:=RLs.get D (by omega:k<l.length)
  obtain ⟨D,D,rfl,ak⟩:=al
  have D:=(Fl.cel ak).2.1
  refine Z.xw (vq M (Y+k*2)) (fun F=>rn_indexE uu26 inf61 ((F.get rfl).trans (by rw [aa])) (F.get rfl) (zl _) (il (by omega:k<l.length)) (by omega))<|Xv (vq M (Y+k*2))<|Xw (strOf I.name) (fun F=>rl F rfl (aj 0 _ rfl))<|Xm rfl<|Xw (vd (I.name=s)) (fun F=>rn_eqs (F.get rfl) (F.get rfl) rfl) fun _ M=>wn ag ?_
  have D:=M.k [0,1,4,5,9,18]
  by_cases O:I.name=s
  ·exact D.ct<|wr fun C I=>D.xm rfl<|Xa rfl fun _ C=>wn I<|wp_ret<|ret_block<|ret_then<|ret_then<|ret_block<|ret_then<|ret1 C rfl rfl<|⟨_,rfl,(find_yes U O G).symm,eX⟩
  refine D.cf<|wp_skip<|ae _ _<|wp_region_lit<|D.xm rfl<|Xv (vi (k+1:Nat))<|Xa rfl fun _ J=>wpList_nil ?_
  refine ⟨⟨(k+1),J.j,(by omega),(all_succ G (fun y hy=>by rw [U] at hy;injection hy with hy;subst hy;exact O)),eX,(by omega)⟩,?_⟩
  rw [J.get (t:=5) rfl,ai.get (t:=5) rfl];simp [intOf] <;> omega
 exact C.cf<|wp_exit<|exit_then<|exit_then<|exit_here<|ah _ _<|wr fun D D=>C.xv (vi (-1)) fun _ C=>wn D<|wp_ret<|ret1 C rfl rfl<|⟨_,rfl,(find_no (fun j hj=>G j (by omega))).symm,eX⟩
theorem rfind_at (l:List It) (s:List UInt8) (w:World) (h:RLs RIt 2 S w v l) (hl:l.length≤4294967296):Calls Tryz.prog 115 #[v,strOf s] w (fun e w'=>∃ r,e=.returned (vi r)∧r=findI l s∧Ext w w'):=by
 obtain ⟨A,c,rfl,_⟩:=h.form
 exact rfind_any A c l s w h hl
theorem rcontains_any (A:Option Addr) (c:Nat) (l:List It) (B:Option Addr) (d:Nat) (x:It) (w:World) (h:RLs RIt 2 S w (vl A l.length c) l) (hx:Fl S w 1 (vl B x.data.length d) x.data.length (byteVals x.data)) (hs:Srt (itNames l)) (hl:l.length≤4294967296) :
  Calls Tryz.prog 116 #[.slice A l.length c,(.agg #[(strOf x.name),(vl B x.data.length d)])] w (fun e w'=>e=.returned (.bool (decide (x∈l)))∧Ext w w'):=by
 have hc:RLs RIt 2 (Clip S w) w (vl A l.length c) l:=RLs.clip rIt h
 obtain ⟨-,hck,hcm⟩:=RLs.at h
 have hxc:Fl (Clip S w) w 1 (vl B x.data.length d) x.data.length (byteVals x.data):=hx.clip;have hxm:=(Fl.cel hx).2.1
 refine calls_enter Tryz.func116 rfl rfl rfl fun _ hF=>wr fun K1 ai=>hF.xb rfl fun G w3 _ F9 z6 z7 V av=>F9.xv (.bool false) fun _ ag=>wn ai<|wr fun ai ak=>ag.xm rfl<|Xv (vp G)<|Xw (strOf x.name) (fun F=>rl F rfl (V.rule.1 0)) fun _ ag=>have ai:=(RLs.ext rIt hc av);ag.xC (c:=rfind_at (v:=(vl A l.length c)) l x.name _ ai (by omega)) (k:= ?_)
 rintro _ ag ⟨O,rfl,J,au⟩
 refine ⟨_,rfl,?_⟩;intro ag ag;have ai:=au.size
 refine ag.xa rfl fun _ ag=>wn ak<|have U:=ag.k [0,1,3,4,5];wp_seq_k fun ag Z=>?_
 by_cases aa:(0:Int)≤(O:Int)
 ·obtain ⟨C,y,aq,ag,hy0,hn0⟩:=find_some (by rw [← J];exact aa)
  obtain rfl:O=(C:Int):=J.trans aq
  refine sX (fun D W=>Ext D W∧Blk W G 61 [(strOf x.name),(vl B x.data.length d)]) (fun i=>false) 15 fun D M J=>U.ym 0 rfl<|Yv 1 (vd ((0:Int)≤(C:Int))) rfl<|Ym 2 rfl fun _ J=>qp 3 (vl A l.length c) J rfl (wanted_guard rfl rfl rfl J rfl (decide_eq_true (by omega)) rfl) (fun W=>(rn_move (J.get rfl))) fun _ J=>?_
  refine qp 4 (vi C) J rfl (wanted_guard rfl rfl rfl J rfl (decide_eq_true (by omega)) rfl) (fun W=>(rn_move (J.get rfl))) fun _ I=>?_
  have J:=RLs.ux rIt hc M
  obtain ⟨Y,ac,aw,ag,aj,am,ag,al,ar⟩:=RLs.get J (by omega:C<l.length)
  obtain rfl:y=aw:=Option.some.inj (hy0.symm.trans am)
  obtain ⟨ae,ah,rfl,ab⟩:=ar
  have J:=(Fl.cel ab).2.1
  refine qp 5 (vq Y (ac+C*2)) I rfl (wanted_guard rfl rfl rfl I rfl (decide_eq_true (by omega)) rfl) (fun W=>(rn_indexE uu26 inf61 ((I.get rfl).trans (by rw [aj])) (I.get rfl) (zl _) (il (by omega:C<l.length)) (by omega))) fun _ I=>?_
  refine qp 6 (vq Y (ac+C*2+1)) I rfl (wanted_guard rfl rfl rfl I rfl (decide_eq_true (by omega)) rfl) (fun W=>(rn_field uu61 rfl (by kernel_rfl) (I.get rfl) rfl)) fun _ I=>?_
  have J:=V.ux M
  have C:Ext D D∧Blk D G 61 [(strOf x.name),(vl B x.data.length d)]:=⟨(Ext.refl D),J⟩
  refine qs 7 (vl ae y.data.length ah) I rfl (wanted_guard rfl rfl rfl I rfl (decide_eq_true (by omega)) rfl) C (fun W hW=>(rl I rfl ((fun j u hu=>Ext.keep ((Ext.refl D).trans hW.1) (al j u hu)) 1 _ rfl))) fun _ D=>?_
  refine qs 8 (strOf y.data) D rfl (wanted_guard rfl rfl rfl D rfl (decide_eq_true (by omega)) rfl) C (fun W hW=>(rn_str (D.get rfl) (Fl.rbs (ab.ext hW.1)) uu22 uu5 uu9)) fun _ D=>?_
  refine qp 9 (vq G 1) D rfl (wanted_guard rfl rfl rfl D rfl (decide_eq_true (by omega)) rfl) (fun W=>(rn_field uu61 rfl (by kernel_rfl) (D.get rfl) rfl)) fun _ D=>?_
  refine qs 10 (vl B x.data.length d) D rfl (wanted_guard rfl rfl rfl D rfl (decide_eq_true (by omega)) rfl) C (fun W hW=>(rl D rfl (hW.2.rule.1 1))) fun _ D=>?_
  have G:=hxc.ux M
  refine qs 11 (strOf x.data) D rfl (wanted_guard rfl rfl rfl D rfl (decide_eq_true (by omega)) rfl) C (fun W hW=>(rn_str (D.get rfl) (Fl.rbs (G.ext hW.1)) uu22 uu5 uu9)) fun _ C=>?_
  refine qp 12 (vd (y.data=x.data)) C rfl (wanted_guard rfl rfl rfl C rfl (decide_eq_true (by omega)) rfl) (fun W=>(rn_eqs (C.get rfl) (C.get rfl) rfl)) fun _ C=>?_
  exact C.yw 13 (vd (y.data=x.data)) rfl (fun F W=>rn_pickT (c_true F rfl (decide_eq_true (by omega))) (F.get rfl))<|Yv 14 (vd (y.data=x.data)) rfl fun _ C=>nK Z<|have D:=C.k [0,1,3,4,5];wp_ret<|ret1 D rfl rfl<|⟨ret_bool (has_one hs hy0 hn0),eX⟩
 exact sX (fun C W=>Ext C W∧Blk W G 61 [(strOf x.name),(vl B x.data.length d)]) (fun i=>false) 15 fun C C C=>U.ym 0 rfl<|Yv 1 (vd ((0:Int)≤(O:Int))) rfl<|Ym 2 rfl<|Yu 3 rfl<|Yu 4 rfl<|Yu 5 rfl<|Yu 6 rfl<|Yu 7 rfl<|Yu 8 rfl<|Yu 9 rfl<|Yu 10 rfl<|Yu 11 rfl<|Yu 12 rfl<|Yv 13 (.bool false) rfl<|Yv 14 (.bool false) rfl fun _ C=>nK Z<|have D:=C.k [0,1,3,4,5];wp_ret<|ret1 D rfl rfl<|⟨ret_bool (has_none (find_neg.1 (by have:=aa;omega))).symm,eX⟩
theorem rcontains_at (l:List It) (x:It) (w:World) (h:RLs RIt 2 S w v l) (hx:Fl S' w 1 u x.data.length (byteVals x.data)) (hs:Srt (itNames l)) (hl:l.length≤4294967296):Calls Tryz.prog 116 #[v,ag [strOf x.name,u]] w (fun e w'=>e=.returned (.bool (decide (x∈l)))∧Ext w w'):=by
 obtain ⟨A,c,rfl,_⟩:=h.form
 obtain ⟨B,d,rfl,_⟩:=hx.form
 exact rcontains_any (S:=fun _=>True) A c l B d x w (RLs.sub rIt h fun _ _=>trivial) (Fl.any hx) hs hl
theorem keep_step_no {x:It} (hx:a[i]?=some x) (h:metB l x.name=false):keepL (a.take i) l++[x]=keepL (a.take (i+1)) l:=by
 rw [List.take_add_one,hx,keepL,keepL,List.filter_append];simp [h]
theorem keep_step_yes {x:It} (hx:a[i]?=some x) (h:metB l x.name=true):keepL (a.take i) l=keepL (a.take (i+1)) l:=by
 rw [List.take_add_one,hx,keepL,keepL,List.filter_append];simp [h]
theorem keep_le (a:List It) (l:List Cg):(keepL a l).length≤a.length:=List.length_filter_le _ _
theorem met_step (hy:l[k]?=some y):(metB (l.take k) s||decide (y.name=s))=metB (l.take (k+1)) s:=by
 rw [List.take_add_one,hy,metB,metB,List.any_append];simp
theorem met_yes {m:Bool} (hm:m=metB (l.take k) s) (h:m=true):true=metB (l.take (k+1)) s:=by rw [List.take_add_one,metB,List.any_append,← metB,← hm,h];rfl
theorem met_else (hy:l[k]?=some y) {m:Bool} (hm:m=metB (l.take k) s) (h:m=false):decide (y.name=s)=metB (l.take (k+1)) s:=by rw [← met_step hy,← hm,h];rfl
theorem put_step {o:List It} (hy:l[k]?=some y):(if y.gone=true then putL o (l.take k) else withL (putL o (l.take k)) (asIt y))=putL o (l.take (k+1)):=by
 rw [List.take_add_one,hy,putL,putL,List.foldl_append];rfl
theorem with_len (o:List It) (x:It):(withL o x).length=o.length+1:=by
 have:=congrArg List.length (List.take_append_drop (withN o x.name) o)
 rw [List.length_append] at this
 simp only [withL,List.length_append,List.length_singleton];omega
theorem bad_no1 (hg:c.gone=true) (hr:r=findI a c.name) (h:¬ r<0):badC a c=false:=by
 have h1:hasB a c.name=true:=by
  cases hq:hasB a c.name
  ·exact absurd (find_neg.2 hq) (by rw [← hr];exact h)
  ·rfl
 simp [badC,hg,h1]
theorem bad_yes1 (hg:c.gone=true) (hr:r=findI a c.name) (h:r<0):badC a c=true:=by simp [badC,hg,find_neg.1 (hr ▸ h)]
theorem bad_no2 (hg:c.gone=false) (h:¬ asIt c∈a):badC a c=false:=by simp [badC,hg,h]
theorem bad_yes2 (hg:c.gone=false) (h:asIt c∈a):badC a c=true:=by simp [badC,hg,h]
theorem bads_ok (ha:Srt (itNames a)) (hl:Srt (cgNames l)) (h:∀ j,j<k→∀ c,l[j]?=some c→badC a c=false) (hk:l.length≤k):appOk a l=true :=
 (ok_app _ a l (Nat.le_refl _) ha hl).2 fun c hc=>by
  obtain ⟨i,hi,rfl⟩:=List.getElem_of_mem hc
  exact h i (by omega) _ (List.getElem?_eq_getElem hi)
theorem bads_no (ha:Srt (itNames a)) (hl:Srt (cgNames l)) (hc:l[k]?=some c) (h:badC a c=true):appOk a l=false:=by
 cases hq:appOk a l
 ·rfl
 ·have:=(ok_app _ a l (Nat.le_refl _) ha hl).1 hq c (List.mem_of_getElem? hc)
  rw [h] at this;cases this
theorem rwith_any (A:Option Addr) (c:Nat) (l:List It) (B:Option Addr) (d:Nat) (x:It) (w:World) (h:RLs RIt 2 S w (vl A l.length c) l) (hx:Fl S w 1 (vl B x.data.length d) x.data.length (byteVals x.data)) (hl:l.length≤4294967296) :
  Calls Tryz.prog 117 #[.slice A l.length c,(.agg #[(strOf x.name),(vl B x.data.length d)])] w (fun e w'=>∃ A c,e=.returned (vl A (withL l x).length c)∧RLs RIt 2 (Fr S w) w' (vl A (withL l x).length c) (withL l x)∧Ext w w'):=by
 have hc:RLs RIt 2 (Clip S w) w (vl A l.length c) l:=RLs.clip rIt h
 obtain ⟨-,hck,hcm⟩:=RLs.at h
 have hxc:Fl (Clip S w) w 1 (vl B x.data.length d) x.data.length (byteVals x.data):=hx.clip;have hxm:=(Fl.cel hx).2.1
 refine calls_enter Tryz.func117 rfl rfl rfl fun _ V=>wr fun K1 al=>V.xb rfl fun C w3 _ V z6 z7 b4 aw=>V.xv v0 fun _ V=>wn al<|wr fun al al=>V.xv (vi 0) fun _ V=>wn al<|wp_seq_k fun al ag=>wp_block<|wp_loop (fun a' W=>∃ (k:Nat),Sl 34 [(0,(vl A l.length c)),(1,(.agg #[(strOf x.name),(vl B x.data.length d)])),(3,(vp C)),(4,v0),(5,(vi k))] a'∧k≤l.length∧(∀ j,j<k→∀ y,l[j]?=some y→ltS y.name x.name=true)∧Ext w W∧Blk W C 61 [(strOf x.name),(vl B x.data.length d)]∧w3.heap.size≤W.heap.size) (fun a' _=>l.length - (intOf (a'.eval (.tmp 5))).toNat) ⟨0,V.j,(by omega),(fun j hj=>absurd hj (by omega)),eX,b4,(Nat.le_refl _)⟩ ?_
 rintro V V ⟨k,V,al,U,G,O,al⟩
 have aq:=V
 have al:=G.size
 have al:=O.lt
 refine wp_seq_k fun al am=>wp_seq_k fun al ah=>sX (fun I W=>Ext I W∧Blk W C 61 [(strOf x.name),(vl B x.data.length d)]) (fun i=>false) 14 fun I D al=>V.ym 0 rfl<|Ym 1 rfl<|Yv 2 (vi l.length) rfl<|Yv 3 (vd ((k:Int)<(l.length:Int))) rfl<|Ym 4 rfl fun _ Z=>?_
 by_cases V:(k:Int)<(l.length:Int)
 ·refine Z.yg 5 (vl A l.length c) rfl<|Yg 6 (vi k) rfl<|fun _ aj=>?_
  have V:=RLs.ux rIt hc D
  obtain ⟨ae,ai,M,al,ak,ac,al,ar,av⟩:=RLs.get V (by omega:k<l.length)
  obtain ⟨V,V,rfl,au⟩:=av
  have V:=(Fl.cel au).2.1
  refine aj.ygw 7 (vq ae (ai+k*2)) rfl (fun F W=>rn_indexE uu26 inf61 ((F.get rfl).trans (by rw [ak])) (F.get rfl) (zl _) (il (by omega:k<l.length)) (by omega))<|Yg 8 (vq ae (ai+k*2)) rfl fun _ ae=>have Y:=(O.ext D);have V:Ext I I∧Blk I C 61 [(strOf x.name),(vl B x.data.length d)]:=⟨(Ext.refl I),Y⟩;ae.ysg 9 (strOf M.name) rfl V (fun F W hW=>rl F rfl ((fun j u hu=>Ext.keep ((Ext.refl I).trans hW.1) (ar j u hu)) 0 _ rfl))<|Yg 10 (vp C) rfl<|Ysg 11 (strOf x.name) rfl V (fun F W hW=>rl F rfl (hW.2.rule.1 0))<|Ygw 12 (.bool (ltS M.name x.name)) rfl (fun F W=>rn_lss_s (F.get rfl) (F.get rfl) rfl)<|Yv 13 (.bool (ltS M.name x.name)) rfl fun _ I=>nK ah ?_
  have J:=I.k [0,1,3,4,5,19]
  rcases Bool.eq_false_or_eq_true (ltS M.name x.name) with aa | aa
  ·refine J.ct<|wp_skip<|am _ _<|wp_block<|wp_region_lit<|J.xm rfl<|Xv (vi (k+1:Nat))<|Xa rfl fun _ ab=>wpList_nil ?_
   refine ⟨⟨(k+1),ab.j,(by omega),(all_succ U (fun y hy=>by rw [ac] at hy;injection hy with hy;subst hy;exact aa)),eX,Y,(by omega)⟩,?_⟩
   rw [ab.get (t:=5) rfl,aq.get (t:=5) rfl];simp [intOf] <;> omega
  refine J.cf<|wp_exit<|exit_then<|exit_then<|exit_here<|ag _ _<|wp_seq_k fun I aj=>sX (fun I W=>Ext I W∧Blk W C 61 [(strOf x.name),(vl B x.data.length d)]) (fun i=>false) 13 fun I V M=>J.ym 1 rfl<|Ym 2 rfl<|Yw 3 (vl A k c) rfl (fun F W=>rn_sliceHi uu26 inf61 (F.get rfl) (F.get rfl) (zl _) (ie (by omega:k≤c))) fun _ J=>have Z:=(Y.ext V);have M:Ext I I∧Blk I C 61 [(strOf x.name),(vl B x.data.length d)]:=⟨(Ext.refl I),Z⟩;J.ys 5 (.agg #[(strOf x.name),(vl B x.data.length d)]) rfl M (fun F W hW=>rb F rfl hW.2)<|Ym 8 rfl<|Ym 9 rfl<|Yw 10 (vl (cutA A c k 2) (l.length - k) (c - k)) rfl (fun F W=>rn_cutLo (l:=k) uu26 inf61 (F.get rfl) (F.get rfl) (by omega)) fun _ I=>?_
  refine any_two (i:=0) (k:=6) (by decide +kernel) rfl rfl ?_ ?_
  ·refine I.on (fun g=>(vl (some ⟨g,0,none⟩) 0 0)) [] 61 rfl (fun F=>rn_buildSlice (parts0 ) (by kernel_rfl)) fun I J _ M J J ag Y=>?_
   have O:=Z.ext Y
   refine ⟨fun _ _=>⟨eX,O⟩,?_⟩
   refine any_two (i:=4) (k:=6) (by decide +kernel) rfl rfl ?_ ?_
   ·have J:=OwnG.nil (R:=RIt) (k:=2) (S:=(Clip S w)) ag (fun b hb=>by simp only [Clip] at hb;omega)
    have Z:=RLs.ux rIt hc Y
    have ab:some C≠(Value.slice (some ⟨I,0,none⟩) 0 0).ownBlock:=(ne_slice (n:=0) (c:=0) (by omega:C≠I));have I:=O.lt
    refine o_appG rIt El26 M rfl rfl rfl rfl rfl (M.get rfl) (M.get rfl) J (SrcG.of (RLs.take Z (by omega:k≤l.length))) (by omega) (by omega) (by omega) ?_
    intro ae ai I I I M ak I Z Z Z;have ag:=I.size
    have am:=Z C (by omega) ab
    have Z:=O.grown I ab
    refine ⟨fun _ _=>⟨(ext_row eX I J.1 (by omega)),Z⟩,?_⟩
    refine ao 6 rfl (M.on (fun g=>(vl (some ⟨g,0,none⟩) 1 1)) [(strOf x.name),(vl B x.data.length d)] 61 rfl (fun F=>rn_buildSlice (parts1 (F.get rfl)) (by kernel_rfl)) fun ab M _ O M M ag M=>?_)
    have ah:=Z.ext M
    refine ⟨fun _ _=>⟨((ext_row eX I J.1 (by omega)).trans M),ah⟩,?_⟩
    refine ao 7 rfl<|have Z:=(OwnG.ext rIt ak M);have al:=(hxc.pres ((Pres.row (((((Pres.refl w).ext G).ext D).ext V).ext Y) I J.1 (fun b hb h=>by simp only [Clip] at h;omega)).ext M));have aq:some C≠(Value.slice ae (0+k) ai).ownBlock:=am;have am:=ah.lt;have ar:some ab≠(Value.slice ae (0+k) ai).ownBlock:=(OwnG.far ak (by omega));have ae:=ag.lt;o_appG rIt El26 O rfl rfl rfl rfl rfl (O.get rfl) (O.get rfl) Z (SrcG.one (R:=RIt) (S:=(Clip S w)) (x:=x) ag rfl (one_cons rfl (one_cons rfl one_nil)) ⟨_,_,rfl,al⟩) (by omega) (by omega) (by omega) fun al am O O O ae ak O ai ai ai=>?_;have au:=O.size
    have au:=ai C (by omega) aq
    have av:=ai ab (by omega) ar
    have ai:=ah.grown O aq
    refine ⟨fun _ _=>⟨(ext_row ((ext_row eX I J.1 (by omega)).trans M) O Z.1 (by omega)),ai⟩,?_⟩
    refine ao 11 rfl<|have ah:=(RLs.pres rIt hc (Pres.row ((Pres.row (((((Pres.refl w).ext G).ext D).ext V).ext Y) I J.1 (fun b hb h=>by simp only [Clip] at h;omega)).ext M) O Z.1 (fun b hb h=>by simp only [Clip] at h;omega)));have V:some C≠(Value.slice al ((0+k)+1) am).ownBlock:=au;have D:=ai.lt;have D:=(ag.grown O ar);have aq:some ab≠(Value.slice al ((0+k)+1) am).ownBlock:=av;have G:=D.lt;o_appG rIt El26 ae rfl rfl rfl rfl rfl (ae.get rfl) (ae.get rfl) ak (SrcG.of (RLs.cut ah (by omega:k≤l.length))) (by omega) (by omega) (by omega) fun Y ag D D D ae ah D G G G=>?_;have al:=D.size
    have al:=G C (by omega) V
    have C:=G ab (by omega) aq
    have C:=ai.grown D V
    refine ⟨fun _ _=>⟨(ext_row (ext_row ((ext_row eX I J.1 (by omega)).trans M) O Z.1 (by omega)) D ak.1 (by omega)),C⟩,?_⟩
    refine ae.yv 12 (vl Y (((0+k)+1)+(l.length - k)) ag) rfl fun _ C=>nK aj<|have G:=C.k [0,1,3,4,5,19];wp_ret<|ret1 G rfl rfl ?_
    have hk:withN l x.name=k:=tw_len ac aa U
    have e:withL l x=(([]++l.take k)++[x])++l.drop k:=by rw [withL,hk,List.nil_append]
    have hq:=RLs.sub (S':=Fr S w) rIt (OwnG.rls rIt ah) (fun b hb=>hb.elim (fun h=>.inl h.1) (fun h=>.inr (by omega)))
    have hn:=(RLs.at hq).1
    rw [← e] at hq hn
    exact ⟨_,_,by rw [hn],by rw [← hn];exact hq,(ext_row (ext_row ((ext_row eX I J.1 (by omega)).trans M) O Z.1 (by omega)) D ak.1 (by omega))⟩
   refine M.on (fun g=>(vl (some ⟨g,0,none⟩) 1 1)) [(strOf x.name),(vl B x.data.length d)] 61 rfl (fun F=>rn_buildSlice (parts1 (F.get rfl)) (by kernel_rfl)) fun J M _ Z M M ak ab=>?_
   have ae:=O.ext ab
   refine ⟨fun _ _=>⟨eX,ae⟩,?_⟩
   refine ao 4 rfl<|have O:=(ag.ext ab);have M:=OwnG.nil (R:=RIt) (k:=2) (S:=(Clip S w)) O (fun b hb=>by simp only [Clip] at hb;omega);have O:=(RLs.ux rIt hc ab);have ah:some C≠(Value.slice (some ⟨I,0,none⟩) 0 0).ownBlock:=(ne_slice (n:=0) (c:=0) (by omega:C≠I));have ag:=ae.lt;have am:some J≠(Value.slice (some ⟨I,0,none⟩) 0 0).ownBlock:=(ne_slice (n:=0) (c:=0) (by omega:J≠I));have I:=ak.lt;o_appG rIt El26 Z rfl rfl rfl rfl rfl (Z.get rfl) (Z.get rfl) M (SrcG.of (RLs.take O (by omega:k≤l.length))) (by omega) (by omega) (by omega) fun ai al I I I O Z I ag ag ag=>?_;have aq:=I.size
   have ar:=ag C (by omega) ah
   have au:=ag J (by omega) am
   have ag:=ae.grown I ah
   refine ⟨fun _ _=>⟨(ext_row eX I M.1 (by omega)),ag⟩,?_⟩
   refine ao 7 rfl<|have ae:=(hxc.pres (Pres.row ((((((Pres.refl w).ext G).ext D).ext V).ext Y).ext ab) I M.1 (fun b hb h=>by simp only [Clip] at h;omega)));have ah:=(ak.grown I am);have aq:some C≠(Value.slice ai (0+k) al).ownBlock:=ar;have ak:=ag.lt;have ar:some J≠(Value.slice ai (0+k) al).ownBlock:=au;have ai:=ah.lt;o_appG rIt El26 O rfl rfl rfl rfl rfl (O.get rfl) (O.get rfl) Z (SrcG.one (R:=RIt) (S:=(Clip S w)) (x:=x) ah rfl (one_cons rfl (one_cons rfl one_nil)) ⟨_,_,rfl,ae⟩) (by omega) (by omega) (by omega) fun al am O O O ae ak O ai ai ai=>?_;have au:=O.size
   have au:=ai C (by omega) aq
   have av:=ai J (by omega) ar
   have ai:=ag.grown O aq
   refine ⟨fun _ _=>⟨(ext_row (ext_row eX I M.1 (by omega)) O Z.1 (by omega)),ai⟩,?_⟩
   refine ao 11 rfl<|have ag:=(RLs.pres rIt hc (Pres.row (Pres.row ((((((Pres.refl w).ext G).ext D).ext V).ext Y).ext ab) I M.1 (fun b hb h=>by simp only [Clip] at h;omega)) O Z.1 (fun b hb h=>by simp only [Clip] at h;omega)));have V:some C≠(Value.slice al ((0+k)+1) am).ownBlock:=au;have D:=ai.lt;have D:=(ah.grown O ar);have ah:some J≠(Value.slice al ((0+k)+1) am).ownBlock:=av;have G:=D.lt;o_appG rIt El26 ae rfl rfl rfl rfl rfl (ae.get rfl) (ae.get rfl) ak (SrcG.of (RLs.cut ag (by omega:k≤l.length))) (by omega) (by omega) (by omega) fun Y ae D D D ab ag D G G G=>?_;have al:=D.size
   have al:=G C (by omega) V
   have C:=G J (by omega) ah
   have C:=ai.grown D V
   refine ⟨fun _ _=>⟨(ext_row (ext_row (ext_row eX I M.1 (by omega)) O Z.1 (by omega)) D ak.1 (by omega)),C⟩,?_⟩
   refine ab.yv 12 (vl Y (((0+k)+1)+(l.length - k)) ae) rfl fun _ C=>nK aj<|have G:=C.k [0,1,3,4,5,19];wp_ret<|ret1 G rfl rfl ?_
   have hk:withN l x.name=k:=tw_len ac aa U
   have e:withL l x=(([]++l.take k)++[x])++l.drop k:=by rw [withL,hk,List.nil_append]
   have hq:=RLs.sub (S':=Fr S w) rIt (OwnG.rls rIt ag) (fun b hb=>hb.elim (fun h=>.inl h.1) (fun h=>.inr (by omega)))
   have hn:=(RLs.at hq).1
   rw [← e] at hq hn
   exact ⟨_,_,by rw [hn],by rw [← hn];exact hq,(ext_row (ext_row (ext_row eX I M.1 (by omega)) O Z.1 (by omega)) D ak.1 (by omega))⟩
  refine I.on (fun g=>(vl (some ⟨g,0,none⟩) 1 1)) [(strOf x.name),(vl B x.data.length d)] 61 rfl (fun F=>rn_buildSlice (parts1 (F.get rfl)) (by kernel_rfl)) fun J I _ I M M Y ak=>?_
  have M:=Z.ext ak
  refine ⟨fun _ _=>⟨eX,M⟩,?_⟩
  refine ao 0 rfl (I.on (fun g=>(vl (some ⟨g,0,none⟩) 0 0)) [] 61 rfl (fun F=>rn_buildSlice (parts0 ) (by kernel_rfl)) fun I O _ O Z Z ae Z=>?_)
  have ab:=M.ext Z
  refine ⟨fun _ _=>⟨eX,ab⟩,?_⟩
  refine ao 4 rfl<|have M:=OwnG.nil (R:=RIt) (k:=2) (S:=(Clip S w)) ae (fun b hb=>by simp only [Clip] at hb;omega);have ae:=(RLs.ux rIt hc Z);have ag:some C≠(Value.slice (some ⟨I,0,none⟩) 0 0).ownBlock:=(ne_slice (n:=0) (c:=0) (by omega:C≠I));have ah:=ab.lt;have ai:=(Y.ext Z);have am:some J≠(Value.slice (some ⟨I,0,none⟩) 0 0).ownBlock:=(ne_slice (n:=0) (c:=0) (by omega:J≠I));have I:=ai.lt;o_appG rIt El26 O rfl rfl rfl rfl rfl (O.get rfl) (O.get rfl) M (SrcG.of (RLs.take ae (by omega:k≤l.length))) (by omega) (by omega) (by omega) fun ah al I I I O Y I ae ae ae=>?_;have aq:=I.size
  have ar:=ae C (by omega) ag
  have au:=ae J (by omega) am
  have ae:=ab.grown I ag
  refine ⟨fun _ _=>⟨(ext_row eX I M.1 (by omega)),ae⟩,?_⟩
  refine ao 7 rfl<|have ab:=(hxc.pres (Pres.row ((((((Pres.refl w).ext G).ext D).ext V).ext ak).ext Z) I M.1 (fun b hb h=>by simp only [Clip] at h;omega)));have ag:=(ai.grown I am);have aq:some C≠(Value.slice ah (0+k) al).ownBlock:=ar;have ai:=ae.lt;have ar:some J≠(Value.slice ah (0+k) al).ownBlock:=au;have ah:=ag.lt;o_appG rIt El26 O rfl rfl rfl rfl rfl (O.get rfl) (O.get rfl) Y (SrcG.one (R:=RIt) (S:=(Clip S w)) (x:=x) ag rfl (one_cons rfl (one_cons rfl one_nil)) ⟨_,_,rfl,ab⟩) (by omega) (by omega) (by omega) fun al am O O O ab ai O ah ah ah=>?_;have au:=O.size
  have au:=ah C (by omega) aq
  have av:=ah J (by omega) ar
  have ah:=ae.grown O aq
  refine ⟨fun _ _=>⟨(ext_row (ext_row eX I M.1 (by omega)) O Y.1 (by omega)),ah⟩,?_⟩
  refine ao 11 rfl<|have ae:=(RLs.pres rIt hc (Pres.row (Pres.row ((((((Pres.refl w).ext G).ext D).ext V).ext ak).ext Z) I M.1 (fun b hb h=>by simp only [Clip] at h;omega)) O Y.1 (fun b hb h=>by simp only [Clip] at h;omega)));have V:some C≠(Value.slice al ((0+k)+1) am).ownBlock:=au;have D:=ah.lt;have D:=(ag.grown O ar);have ak:some J≠(Value.slice al ((0+k)+1) am).ownBlock:=av;have G:=D.lt;o_appG rIt El26 ab rfl rfl rfl rfl rfl (ab.get rfl) (ab.get rfl) ai (SrcG.of (RLs.cut ae (by omega:k≤l.length))) (by omega) (by omega) (by omega) fun Z ae D D D ab ag D G G G=>?_;have al:=D.size
  have al:=G C (by omega) V
  have C:=G J (by omega) ak
  have C:=ah.grown D V
  refine ⟨fun _ _=>⟨(ext_row (ext_row (ext_row eX I M.1 (by omega)) O Y.1 (by omega)) D ai.1 (by omega)),C⟩,?_⟩
  refine ab.yv 12 (vl Z (((0+k)+1)+(l.length - k)) ae) rfl fun _ C=>nK aj<|have G:=C.k [0,1,3,4,5,19];wp_ret<|ret1 G rfl rfl ?_
  have hk:withN l x.name=k:=tw_len ac aa U
  have e:withL l x=(([]++l.take k)++[x])++l.drop k:=by rw [withL,hk,List.nil_append]
  have hq:=RLs.sub (S':=Fr S w) rIt (OwnG.rls rIt ag) (fun b hb=>hb.elim (fun h=>.inl h.1) (fun h=>.inr (by omega)))
  have hn:=(RLs.at hq).1
  rw [← e] at hq hn
  exact ⟨_,_,by rw [hn],by rw [← hn];exact hq,(ext_row (ext_row (ext_row eX I M.1 (by omega)) O Y.1 (by omega)) D ai.1 (by omega))⟩
 refine Z.yu 5 rfl<|Yu 6 rfl<|Yu 7 rfl<|Yu 8 rfl<|Yu 9 rfl<|Yu 10 rfl<|Yu 11 rfl<|Yu 12 rfl<|Yv 13 (.bool false) rfl fun _ I=>nK ah<|have J:=I.k [0,1,3,4,5,19];J.cf<|wp_exit<|exit_then<|exit_then<|exit_here<|ag _ _<|wp_seq_k fun I ah=>sX (fun I W=>Ext I W∧Blk W C 61 [(strOf x.name),(vl B x.data.length d)]) (fun i=>false) 13 fun I V M=>J.ym 1 rfl<|Ym 2 rfl<|Yw 3 (vl A k c) rfl (fun F W=>rn_sliceHi uu26 inf61 (F.get rfl) (F.get rfl) (zl _) (ie (by omega:k≤c))) fun _ J=>have Z:=O.ux V;have M:Ext I I∧Blk I C 61 [(strOf x.name),(vl B x.data.length d)]:=⟨(Ext.refl I),Z⟩;J.ys 5 (.agg #[(strOf x.name),(vl B x.data.length d)]) rfl M (fun F W hW=>rb F rfl hW.2)<|Ym 8 rfl<|Ym 9 rfl<|Yw 10 (vl (cutA A c k 2) (l.length - k) (c - k)) rfl (fun F W=>rn_cutLo (l:=k) uu26 inf61 (F.get rfl) (F.get rfl) (by omega)) fun _ I=>?_
 refine any_two (i:=0) (k:=6) (by decide +kernel) rfl rfl ?_ ?_
 ·refine I.on (fun g=>(vl (some ⟨g,0,none⟩) 0 0)) [] 61 rfl (fun F=>rn_buildSlice (parts0 ) (by kernel_rfl)) fun I J _ M J J ac Y=>?_
  have O:=Z.ext Y
  refine ⟨fun _ _=>⟨eX,O⟩,?_⟩
  refine any_two (i:=4) (k:=6) (by decide +kernel) rfl rfl ?_ ?_
  ·have J:=OwnG.nil (R:=RIt) (k:=2) (S:=(Clip S w)) ac (fun b hb=>by simp only [Clip] at hb;omega)
   have Z:=RLs.ux rIt hc Y
   have aa:some C≠(Value.slice (some ⟨I,0,none⟩) 0 0).ownBlock:=(ne_slice (n:=0) (c:=0) (by omega:C≠I));have I:=O.lt
   refine o_appG rIt El26 M rfl rfl rfl rfl rfl (M.get rfl) (M.get rfl) J (SrcG.of (RLs.take Z (by omega:k≤l.length))) (by omega) (by omega) (by omega) ?_
   intro ab ag I I I M ai I Z Z Z;have ac:=I.size
   have ak:=Z C (by omega) aa
   have Z:=O.grown I aa
   refine ⟨fun _ _=>⟨(ext_row eX I J.1 (by omega)),Z⟩,?_⟩
   refine ao 6 rfl (M.on (fun g=>(vl (some ⟨g,0,none⟩) 1 1)) [(strOf x.name),(vl B x.data.length d)] 61 rfl (fun F=>rn_buildSlice (parts1 (F.get rfl)) (by kernel_rfl)) fun aa M _ O M M ac M=>?_)
   have ae:=Z.ext M
   refine ⟨fun _ _=>⟨((ext_row eX I J.1 (by omega)).trans M),ae⟩,?_⟩
   refine ao 7 rfl<|have Z:=(OwnG.ext rIt ai M);have aj:=(hxc.pres ((Pres.row (((((Pres.refl w).ext G).ext D).ext V).ext Y) I J.1 (fun b hb h=>by simp only [Clip] at h;omega)).ext M));have al:some C≠(Value.slice ab (0+k) ag).ownBlock:=ak;have ak:=ae.lt;have am:some aa≠(Value.slice ab (0+k) ag).ownBlock:=(OwnG.far ai (by omega));have ab:=ac.lt;o_appG rIt El26 O rfl rfl rfl rfl rfl (O.get rfl) (O.get rfl) Z (SrcG.one (R:=RIt) (S:=(Clip S w)) (x:=x) ac rfl (one_cons rfl (one_cons rfl one_nil)) ⟨_,_,rfl,aj⟩) (by omega) (by omega) (by omega) fun aj ak O O O ab ai O ag ag ag=>?_;have aq:=O.size
   have aq:=ag C (by omega) al
   have ar:=ag aa (by omega) am
   have ag:=ae.grown O al
   refine ⟨fun _ _=>⟨(ext_row ((ext_row eX I J.1 (by omega)).trans M) O Z.1 (by omega)),ag⟩,?_⟩
   refine ao 11 rfl<|have ae:=(RLs.pres rIt hc (Pres.row ((Pres.row (((((Pres.refl w).ext G).ext D).ext V).ext Y) I J.1 (fun b hb h=>by simp only [Clip] at h;omega)).ext M) O Z.1 (fun b hb h=>by simp only [Clip] at h;omega)));have V:some C≠(Value.slice aj ((0+k)+1) ak).ownBlock:=aq;have D:=ag.lt;have D:=(ac.grown O am);have al:some aa≠(Value.slice aj ((0+k)+1) ak).ownBlock:=ar;have G:=D.lt;o_appG rIt El26 ab rfl rfl rfl rfl rfl (ab.get rfl) (ab.get rfl) ai (SrcG.of (RLs.cut ae (by omega:k≤l.length))) (by omega) (by omega) (by omega) fun Y ac D D D ab ae D G G G=>?_;have aj:=D.size
   have aj:=G C (by omega) V
   have C:=G aa (by omega) al
   have C:=ag.grown D V
   refine ⟨fun _ _=>⟨(ext_row (ext_row ((ext_row eX I J.1 (by omega)).trans M) O Z.1 (by omega)) D ai.1 (by omega)),C⟩,?_⟩
   refine ab.yv 12 (vl Y (((0+k)+1)+(l.length - k)) ac) rfl fun _ C=>nK ah<|have G:=C.k [0,1,3,4,5,19];wp_ret<|ret1 G rfl rfl ?_
   have hk:withN l x.name=k:=(tw_all (fun j hj=>U j (by omega))).trans (by omega)
   have e:withL l x=(([]++l.take k)++[x])++l.drop k:=by rw [withL,hk,List.nil_append]
   have hq:=RLs.sub (S':=Fr S w) rIt (OwnG.rls rIt ae) (fun b hb=>hb.elim (fun h=>.inl h.1) (fun h=>.inr (by omega)))
   have hn:=(RLs.at hq).1
   rw [← e] at hq hn
   exact ⟨_,_,by rw [hn],by rw [← hn];exact hq,(ext_row (ext_row ((ext_row eX I J.1 (by omega)).trans M) O Z.1 (by omega)) D ai.1 (by omega))⟩
  refine M.on (fun g=>(vl (some ⟨g,0,none⟩) 1 1)) [(strOf x.name),(vl B x.data.length d)] 61 rfl (fun F=>rn_buildSlice (parts1 (F.get rfl)) (by kernel_rfl)) fun J M _ Z M M ai aa=>?_
  have ab:=O.ext aa
  refine ⟨fun _ _=>⟨eX,ab⟩,?_⟩
  refine ao 4 rfl<|have O:=(ac.ext aa);have M:=OwnG.nil (R:=RIt) (k:=2) (S:=(Clip S w)) O (fun b hb=>by simp only [Clip] at hb;omega);have O:=(RLs.ux rIt hc aa);have ae:some C≠(Value.slice (some ⟨I,0,none⟩) 0 0).ownBlock:=(ne_slice (n:=0) (c:=0) (by omega:C≠I));have ac:=ab.lt;have ak:some J≠(Value.slice (some ⟨I,0,none⟩) 0 0).ownBlock:=(ne_slice (n:=0) (c:=0) (by omega:J≠I));have I:=ai.lt;o_appG rIt El26 Z rfl rfl rfl rfl rfl (Z.get rfl) (Z.get rfl) M (SrcG.of (RLs.take O (by omega:k≤l.length))) (by omega) (by omega) (by omega) fun ag aj I I I O Z I ac ac ac=>?_;have al:=I.size
  have am:=ac C (by omega) ae
  have aq:=ac J (by omega) ak
  have ac:=ab.grown I ae
  refine ⟨fun _ _=>⟨(ext_row eX I M.1 (by omega)),ac⟩,?_⟩
  refine ao 7 rfl<|have ab:=(hxc.pres (Pres.row ((((((Pres.refl w).ext G).ext D).ext V).ext Y).ext aa) I M.1 (fun b hb h=>by simp only [Clip] at h;omega)));have ae:=(ai.grown I ak);have al:some C≠(Value.slice ag (0+k) aj).ownBlock:=am;have ai:=ac.lt;have am:some J≠(Value.slice ag (0+k) aj).ownBlock:=aq;have ag:=ae.lt;o_appG rIt El26 O rfl rfl rfl rfl rfl (O.get rfl) (O.get rfl) Z (SrcG.one (R:=RIt) (S:=(Clip S w)) (x:=x) ae rfl (one_cons rfl (one_cons rfl one_nil)) ⟨_,_,rfl,ab⟩) (by omega) (by omega) (by omega) fun aj ak O O O ab ai O ag ag ag=>?_;have aq:=O.size
  have aq:=ag C (by omega) al
  have ar:=ag J (by omega) am
  have ag:=ac.grown O al
  refine ⟨fun _ _=>⟨(ext_row (ext_row eX I M.1 (by omega)) O Z.1 (by omega)),ag⟩,?_⟩
  refine ao 11 rfl<|have ac:=(RLs.pres rIt hc (Pres.row (Pres.row ((((((Pres.refl w).ext G).ext D).ext V).ext Y).ext aa) I M.1 (fun b hb h=>by simp only [Clip] at h;omega)) O Z.1 (fun b hb h=>by simp only [Clip] at h;omega)));have V:some C≠(Value.slice aj ((0+k)+1) ak).ownBlock:=aq;have D:=ag.lt;have D:=(ae.grown O am);have ae:some J≠(Value.slice aj ((0+k)+1) ak).ownBlock:=ar;have G:=D.lt;o_appG rIt El26 ab rfl rfl rfl rfl rfl (ab.get rfl) (ab.get rfl) ai (SrcG.of (RLs.cut ac (by omega:k≤l.length))) (by omega) (by omega) (by omega) fun Y ab D D D aa ac D G G G=>?_;have aj:=D.size
  have aj:=G C (by omega) V
  have C:=G J (by omega) ae
  have C:=ag.grown D V
  refine ⟨fun _ _=>⟨(ext_row (ext_row (ext_row eX I M.1 (by omega)) O Z.1 (by omega)) D ai.1 (by omega)),C⟩,?_⟩
  refine aa.yv 12 (vl Y (((0+k)+1)+(l.length - k)) ab) rfl fun _ C=>nK ah<|have G:=C.k [0,1,3,4,5,19];wp_ret<|ret1 G rfl rfl ?_
  have hk:withN l x.name=k:=(tw_all (fun j hj=>U j (by omega))).trans (by omega)
  have e:withL l x=(([]++l.take k)++[x])++l.drop k:=by rw [withL,hk,List.nil_append]
  have hq:=RLs.sub (S':=Fr S w) rIt (OwnG.rls rIt ac) (fun b hb=>hb.elim (fun h=>.inl h.1) (fun h=>.inr (by omega)))
  have hn:=(RLs.at hq).1
  rw [← e] at hq hn
  exact ⟨_,_,by rw [hn],by rw [← hn];exact hq,(ext_row (ext_row (ext_row eX I M.1 (by omega)) O Z.1 (by omega)) D ai.1 (by omega))⟩
 refine I.on (fun g=>(vl (some ⟨g,0,none⟩) 1 1)) [(strOf x.name),(vl B x.data.length d)] 61 rfl (fun F=>rn_buildSlice (parts1 (F.get rfl)) (by kernel_rfl)) fun J I _ I M M Y ai=>?_
 have M:=Z.ext ai
 refine ⟨fun _ _=>⟨eX,M⟩,?_⟩
 refine ao 0 rfl (I.on (fun g=>(vl (some ⟨g,0,none⟩) 0 0)) [] 61 rfl (fun F=>rn_buildSlice (parts0 ) (by kernel_rfl)) fun I O _ O Z Z ab Z=>?_)
 have aa:=M.ext Z
 refine ⟨fun _ _=>⟨eX,aa⟩,?_⟩
 refine ao 4 rfl<|have M:=OwnG.nil (R:=RIt) (k:=2) (S:=(Clip S w)) ab (fun b hb=>by simp only [Clip] at hb;omega);have ab:=(RLs.ux rIt hc Z);have ac:some C≠(Value.slice (some ⟨I,0,none⟩) 0 0).ownBlock:=(ne_slice (n:=0) (c:=0) (by omega:C≠I));have ae:=aa.lt;have ag:=(Y.ext Z);have ak:some J≠(Value.slice (some ⟨I,0,none⟩) 0 0).ownBlock:=(ne_slice (n:=0) (c:=0) (by omega:J≠I));have I:=ag.lt;o_appG rIt El26 O rfl rfl rfl rfl rfl (O.get rfl) (O.get rfl) M (SrcG.of (RLs.take ab (by omega:k≤l.length))) (by omega) (by omega) (by omega) fun ae aj I I I O Y I ab ab ab=>?_;have al:=I.size
 have am:=ab C (by omega) ac
 have aq:=ab J (by omega) ak
 have ab:=aa.grown I ac
 refine ⟨fun _ _=>⟨(ext_row eX I M.1 (by omega)),ab⟩,?_⟩
 refine ao 7 rfl<|have aa:=(hxc.pres (Pres.row ((((((Pres.refl w).ext G).ext D).ext V).ext ai).ext Z) I M.1 (fun b hb h=>by simp only [Clip] at h;omega)));have ac:=(ag.grown I ak);have al:some C≠(Value.slice ae (0+k) aj).ownBlock:=am;have ag:=ab.lt;have am:some J≠(Value.slice ae (0+k) aj).ownBlock:=aq;have ae:=ac.lt;o_appG rIt El26 O rfl rfl rfl rfl rfl (O.get rfl) (O.get rfl) Y (SrcG.one (R:=RIt) (S:=(Clip S w)) (x:=x) ac rfl (one_cons rfl (one_cons rfl one_nil)) ⟨_,_,rfl,aa⟩) (by omega) (by omega) (by omega) fun aj ak O O O aa ag O ae ae ae=>?_;have aq:=O.size
 have aq:=ae C (by omega) al
 have ar:=ae J (by omega) am
 have ae:=ab.grown O al
 refine ⟨fun _ _=>⟨(ext_row (ext_row eX I M.1 (by omega)) O Y.1 (by omega)),ae⟩,?_⟩
 refine ao 11 rfl<|have ab:=(RLs.pres rIt hc (Pres.row (Pres.row ((((((Pres.refl w).ext G).ext D).ext V).ext ai).ext Z) I M.1 (fun b hb h=>by simp only [Clip] at h;omega)) O Y.1 (fun b hb h=>by simp only [Clip] at h;omega)));have V:some C≠(Value.slice aj ((0+k)+1) ak).ownBlock:=aq;have D:=ae.lt;have D:=(ac.grown O am);have ai:some J≠(Value.slice aj ((0+k)+1) ak).ownBlock:=ar;have G:=D.lt;o_appG rIt El26 aa rfl rfl rfl rfl rfl (aa.get rfl) (aa.get rfl) ag (SrcG.of (RLs.cut ab (by omega:k≤l.length))) (by omega) (by omega) (by omega) fun Z ab D D D aa ac D G G G=>?_;have aj:=D.size
 have aj:=G C (by omega) V
 have C:=G J (by omega) ai
 have C:=ae.grown D V
 refine ⟨fun _ _=>⟨(ext_row (ext_row (ext_row eX I M.1 (by omega)) O Y.1 (by omega)) D ag.1 (by omega)),C⟩,?_⟩
 refine aa.yv 12 (vl Z (((0+k)+1)+(l.length - k)) ab) rfl fun _ C=>nK ah<|have G:=C.k [0,1,3,4,5,19];wp_ret<|ret1 G rfl rfl ?_
 have hk:withN l x.name=k:=(tw_all (fun j hj=>U j (by omega))).trans (by omega)
 have e:withL l x=(([]++l.take k)++[x])++l.drop k:=by rw [withL,hk,List.nil_append]
 have hq:=RLs.sub (S':=Fr S w) rIt (OwnG.rls rIt ac) (fun b hb=>hb.elim (fun h=>.inl h.1) (fun h=>.inr (by omega)))
 have hn:=(RLs.at hq).1
 rw [← e] at hq hn
 exact ⟨_,_,by rw [hn],by rw [← hn];exact hq,(ext_row (ext_row (ext_row eX I M.1 (by omega)) O Y.1 (by omega)) D ag.1 (by omega))⟩
theorem rwith_at (l:List It) (x:It) (w:World) (h:RLs RIt 2 S w v l) (hx:Fl S w 1 u x.data.length (byteVals x.data)) (hl:l.length≤4294967296):Calls Tryz.prog 117 #[v,ag [strOf x.name,u]] w (fun e w'=>∃ A c,e=.returned (vl A (withL l x).length c)∧RLs RIt 2 (Fr S w) w' (vl A (withL l x).length c) (withL l x)∧Ext w w'):=by
 obtain ⟨A,c,rfl,_⟩:=h.form
 obtain ⟨B,d,rfl,_⟩:=hx.form
 exact rwith_any A c l B d x w h hx hl
theorem rapply_any (A:Option Addr) (c:Nat) (a:List It) (C:Option Addr) (d:Nat) (l:List Cg) (w:World) (h1:RLs RIt 2 S w (vl A a.length c) a) (h2:RLs RCg 3 S w (vl C l.length d) l) :
  Calls Tryz.prog 92 #[.slice A a.length c,.slice C l.length d] w (fun e w'=>∃ A c,e=.returned (.tuple #[.slice A (applyV a l).length c,.int .i64 (applyE a l)])∧RLs RIt 2 (Fr S w) w' (vl A (applyV a l).length c) (applyV a l)∧Ext w w'):=by
 have h1c:RLs RIt 2 (Clip S w) w (vl A a.length c) a:=RLs.clip rIt h1
 obtain ⟨-,h1ck,h1cm⟩:=RLs.at h1
 have h2c:RLs RCg 3 (Clip S w) w (vl C l.length d) l:=RLs.clip rCg h2
 obtain ⟨-,h2ck,h2cm⟩:=RLs.at h2
 refine calls_enter Tryz.func92 rfl rfl rfl fun _ Y=>wr fun K1 aH=>Y.xv v0<|Xv (vi 0) fun _ Y=>wn aH<|wr fun K6 aH=>Y.xm rfl fun _ Y=>Y.xe (rcheck_at (v:=(vl A a.length c)) a _ h1c) fun Y a0 Y _ Y=>Y.xa rfl fun _ Y=>wn aH<|wp_seq_k fun aH aH=>wr fun aK aK=>Y.xm rfl<|Xv (vd (((checkE a):Int)≠(0:Int))) fun _ Y=>wn aK ?_
 by_cases J:((checkE a):Int)≠(0:Int)
 ·refine Y.ct<|wr fun D G=>Y.xm rfl<|Xv v0<|Xa rfl fun _ D=>wn G<|have G:=D.k [0,1,4,5,6,16];wp_ret<|ret_then<|ret2 G rfl rfl rfl ?_
  have hE:applyE a l=(checkE a):=if_pos J
  have hV:applyV a l=[]:=if_neg (by rw [hE];exact J)
  rw [hV,hE]
  exact ⟨none,0,rfl,RLs.nil _,eX⟩
 have hca:=check_named (Decidable.not_not.1 J);have hla:=hca.1;have hs:=named_srt hca.2
 refine Y.cf<|wp_skip<|aH _ _<|wp_seq_k fun aH aK=>wr fun aH aM=>Y.xm rfl fun _ Y=>have aH:=(RLs.ext rCg h2c a0);Y.xe (rchanges_at (v:=(vl C l.length d)) l _ aH) fun a0 Y Y _ Y=>Y.xw (.bool (!(decide (validC l)))) (fun F=>rn_not' (F.get rfl) rfl) fun _ Y=>wn aM ?_
 have ab:=Y.k [0,1,4,5,6,16,20]
 by_cases aB:validC l
 ·have hcl:=aB;have hll:=hcl.1;have hsl:=named_srt hcl.2.1
  refine ab.cf<|wp_skip<|aK _ _<|wp_seq_k fun Y aP=>wr fun Y aH=>ab.xv (vi 0) fun _ Y=>wn aH<|wp_block<|wp_loop (fun a' W=>∃ (k:Nat),Sl 120 [(0,(vl A a.length c)),(1,(vl C l.length d)),(4,v0),(5,(vi 0)),(6,(vi (checkE a))),(16,(vd (((checkE a):Int)≠(0:Int)))),(20,(.bool (!(decide (validC l))))),(7,(vi k))] a'∧k≤l.length∧(∀ j,j<k→∀ c,l[j]?=some c→badC a c=false)∧Ext w W∧a0.heap.size≤W.heap.size) (fun a' _=>l.length - (intOf (a'.eval (.tmp 7))).toNat) ⟨0,Y.j,(by omega),(fun j hj=>absurd hj (by omega)),eX,(Nat.le_refl _)⟩ ?_
  rintro Y Y ⟨k,Y,aH,ah,aj,aH⟩
  have az:=Y
  have aH:=aj.size
  refine wp_seq_k fun aH aH=>wr fun aK aK=>Y.xm rfl<|Xm rfl<|Xv (vi l.length)<|Xv (vd ((k:Int)<(l.length:Int))) fun _ ac=>wn aK ?_
  by_cases Y:(k:Int)<(l.length:Int)
  ·refine ac.ct<|wp_skip<|aH _ _<|wp_seq_k fun Y aq=>wp_block<|wr fun Y ag=>ac.xm rfl<|Xm rfl fun _ aA=>?_
   have Y:=RLs.ext rCg h2c aj
   obtain ⟨G,I,D,aH,aa,U,aH,ae,aI⟩:=RLs.get Y (by omega:k<l.length)
   obtain ⟨V,Z,rfl,au⟩:=aI
   have Y:=(Fl.cel au).2.1
   refine aA.xw (vq G (I+k*3)) (fun F=>rn_indexE uu27 inf66 ((F.get rfl).trans (by rw [aa])) (F.get rfl) (zl _) (il (by omega:k<l.length)) (by omega))<|Xv (vq G (I+k*3+2))<|Xw (.bool D.gone) (fun F=>rl F rfl (ae 2 _ rfl))<|Xm rfl<|fun _ al=>?_
   rcases Bool.eq_false_or_eq_true D.gone with O | O
   ·refine al.xg (vl A a.length c)<|Xg (vl C l.length d)<|Xg (vi k)<|Xgw (vq G (I+k*3)) (fun F=>rn_indexE uu27 inf66 ((F.get rfl).trans (by rw [aa])) (F.get rfl) (zl _) (il (by omega:k<l.length)) (by omega))<|Xg (vq G (I+k*3))<|Xg (vq G (I+k*3))<|Xgw (strOf D.name) (fun F=>rl F rfl (ae 0 _ rfl)) fun _ Y=>have aA:=(RLs.ext rIt h1c aj);wpl_op (i:=13) rfl (Y.gC (c:=rfind_at (v:=(vl A a.length c)) a D.name _ aA (by omega)) (k:= ?_))
    rintro _ Y ⟨ai,rfl,av,aw⟩
    refine ⟨_,rfl,?_⟩;intro Y Y;have aA:=aw.size
    refine Y.xg (vd ((ai:Int)<(0:Int)))<|Xv (vd ((ai:Int)<(0:Int)))<|Xm rfl<|fun _ Y=>?_
    by_cases ar:(ai:Int)<(0:Int)
    ·refine Y.xu<|Xu<|Xu<|Xu<|Xu<|Xu<|Xu fun _ D=>wpl_op (i:=24) rfl<|o_skip D rfl (unwanted_undef rfl rfl rfl D rfl) rfl rfl fun D D=>wpl_op (i:=25) rfl<|o_skip D rfl (unwanted_undef rfl rfl rfl D rfl) rfl rfl fun D D=>wpl_op (i:=26) rfl<|o_skip D rfl (unwanted_undef rfl rfl rfl D rfl) rfl rfl fun D D=>wpl_op (i:=27) rfl<|o_skip D rfl (unwanted_undef rfl rfl rfl D rfl) rfl rfl fun D D=>wpl_op (i:=28) rfl<|o_skip D rfl (unwanted_undef rfl rfl rfl D rfl) rfl rfl fun D D=>wpl_op (i:=29) rfl<|o_skip D rfl (unwanted_undef rfl rfl rfl D rfl) rfl rfl fun D D=>wpl_op (i:=30) rfl<|o_skip D rfl (unwanted_undef rfl rfl rfl D rfl) rfl rfl fun D D=>D.xu<|Xv (.bool true) fun _ G=>wn ag<|have D:=G.k [0,1,4,5,6,16,20,7,24,59];D.ct<|wr fun G G=>D.xv v0<|Xv (vi 400) fun _ D=>wn G<|wp_ret<|ret_block<|ret_then<|ret_then<|ret_block<|ret_then<|ret2 D rfl rfl rfl ?_
     have hno:=bads_no hs hsl U (bad_yes1 O av ar)
     have hE:applyE a l=400:=(if_neg (fun q=>q (Decidable.not_not.1 J))).trans ((if_neg (fun q=>q hcl)).trans (if_pos hno))
     have hV:applyV a l=[]:=if_neg (by rw [hE];decide)
     rw [hV,hE]
     exact ⟨none,0,rfl,RLs.nil _,eX⟩
    refine Y.xg (vl C l.length d)<|Xg (vi k)<|fun _ ay=>?_
    have Y:=RLs.ux rCg h2c aw
    obtain ⟨am,ax,aJ,ai,aC,aF,ai,aD,aG⟩:=RLs.get Y (by omega:k<l.length)
    obtain rfl:D=aJ:=Option.some.inj (U.symm.trans aF)
    obtain ⟨Y,Y,rfl,aE⟩:=aG
    have Y:=(Fl.cel aE).2.1
    refine ay.xgw (vq am (ax+k*3)) (fun F=>rn_indexE uu27 inf66 ((F.get rfl).trans (by rw [aC])) (F.get rfl) (zl _) (il (by omega:k<l.length)) (by omega))<|Xg (vq am (ax+k*3+2))<|Xgw (.bool D.gone) (fun F=>rl F rfl (aD 2 _ rfl))<|Xgw (.bool (!D.gone)) (fun F=>rn_not' (F.get rfl) rfl)<|Xg (.bool (!D.gone))<|Xu<|Xu<|Xu<|Xu<|Xu<|Xu<|Xu<|Xg (.bool false)<|Xv (.bool false) fun _ ai=>wn ag<|have Y:=ai.k [0,1,4,5,6,16,20,7,24,59];Y.cf<|wp_skip<|aq _ _<|wp_region_lit<|Y.xm rfl<|Xv (vi (k+1:Nat))<|Xa rfl fun _ ak=>wpList_nil ?_
    refine ⟨⟨(k+1),ak.j,(by omega),(all_succ ah (fun y hy=>by rw [U] at hy;injection hy with hy;subst hy;exact (bad_no1 O av ar))),eX,(by omega)⟩,?_⟩
    rw [ak.get (t:=7) rfl,az.get (t:=7) rfl];simp [intOf] <;> omega
   refine al.xu<|Xu<|Xu<|Xu<|Xu<|Xu<|Xu<|Xu<|Xu<|Xv (.bool false)<|Xm rfl<|Xg (vl C l.length d)<|Xg (vi k)<|Xgw (vq G (I+k*3)) (fun F=>rn_indexE uu27 inf66 ((F.get rfl).trans (by rw [aa])) (F.get rfl) (zl _) (il (by omega:k<l.length)) (by omega))<|Xg (vq G (I+k*3+2))<|Xgw (.bool D.gone) (fun F=>rl F rfl (ae 2 _ rfl))<|Xgw (.bool (!D.gone)) (fun F=>rn_not' (F.get rfl) rfl)<|Xg (.bool (!D.gone))<|Xg (vl A a.length c)<|Xg (vl C l.length d)<|Xg (vi k)<|Xgw (vq G (I+k*3)) (fun F=>rn_indexE uu27 inf66 ((F.get rfl).trans (by rw [aa])) (F.get rfl) (zl _) (il (by omega:k<l.length)) (by omega))<|Xg (vq G (I+k*3))<|Xgw (.agg #[(strOf D.name),(vl V D.data.length Z)]) (fun F=>rn_loadN (cs:=[(strOf D.name),(vl V D.data.length Z)]) (F.get rfl) uu61 rfl inf61 (cells_part (A:=[]) (M:=[(strOf D.name),(vl V D.data.length Z)]) (B:=[(.bool D.gone)]) ae (by simp) rfl)) fun _ G=>have I:=(RLs.ext rIt h1c aj);wpl_op (i:=30) rfl (G.gE (c:=rcontains_at (v:=(vl A a.length c)) (u:=(vl V D.data.length Z)) a (asIt D) _ I au hs (by omega)) (k:=fun G G G _ G=>G.xg (vd ((asIt D)∈a))<|Xv (vd ((asIt D)∈a)) fun _ I=>wn ag ?_))
   have G:=I.k [0,1,4,5,6,16,20,7,24,59]
   by_cases ak:(asIt D)∈a
   ·refine G.ct<|wr fun D I=>G.xv v0<|Xv (vi 400) fun _ D=>wn I<|wp_ret<|ret_block<|ret_then<|ret_then<|ret_block<|ret_then<|ret2 D rfl rfl rfl ?_
    have hno:=bads_no hs hsl U (bad_yes2 O ak)
    have hE:applyE a l=400:=(if_neg (fun q=>q (Decidable.not_not.1 J))).trans ((if_neg (fun q=>q hcl)).trans (if_pos hno))
    have hV:applyV a l=[]:=if_neg (by rw [hE];decide)
    rw [hV,hE]
    exact ⟨none,0,rfl,RLs.nil _,eX⟩
   refine G.cf<|wp_skip<|aq _ _<|wp_region_lit<|G.xm rfl<|Xv (vi (k+1:Nat))<|Xa rfl fun _ ai=>wpList_nil ?_
   refine ⟨⟨(k+1),ai.j,(by omega),(all_succ ah (fun y hy=>by rw [U] at hy;injection hy with hy;subst hy;exact (bad_no2 O ak))),eX,(by omega)⟩,?_⟩
   rw [ai.get (t:=7) rfl,az.get (t:=7) rfl];simp [intOf] <;> omega
  refine ac.cf<|wp_exit<|exit_then<|exit_then<|exit_here<|aP _ _<|wr fun Y az=>ac.xn (fun g=>(vl (some ⟨g,0,none⟩) 0 0)) [] 61 (fun F=>rn_buildSlice (parts0 ) (by kernel_rfl)) fun al aH _ Y ac ac aj ac=>Y.xa rfl fun _ Y=>wn az<|have ac:=Y.k [0,1,4,5,6,16,20,7,24,8];wp_seq_k fun Y aL=>wr fun Y az=>ac.xv (vi 0) fun _ Y=>wn az<|wp_block<|have ac:=OwnG.nil (R:=RIt) (k:=2) (S:=(Clip S w)) aj (fun b hb=>by simp only [Clip] at hb;omega);wp_loop (fun a' W=>∃ (i:Nat) (Ao:Option Addr) (no:Nat) (co:Nat) (zs:List Value) (lo:List It),Sl 120 [(0,(vl A a.length c)),(1,(vl C l.length d)),(4,v0),(5,(vi 0)),(6,(vi (checkE a))),(16,(vd (((checkE a):Int)≠(0:Int)))),(20,(.bool (!(decide (validC l))))),(7,(vi k)),(24,(vd ((k:Int)<(l.length:Int)))),(8,(vl Ao no co)),(9,(vi (i:Nat)))] a'∧(i≤a.length∧no≤i)∧lo=keepL (a.take i) l∧Ext w W∧OwnG RIt 2 61 (Clip S w) al W (vl Ao no co) no zs lo∧aH.heap.size≤W.heap.size) (fun a' _=>a.length - (intOf (a'.eval (.tmp 9))).toNat) ⟨0,(some ⟨al,0,none⟩),0,0,[],[],Y.j,⟨by omega,by omega⟩,rfl,eX,ac,(Nat.le_refl _)⟩ ?_
  rintro Y aE ⟨i,Ao,no,co,zs,lo,Y,ac,aq,ac,U,aj⟩
  have ax:=Y
  have aj:=ac.size
  have aj:=own_form0 U.1;have aj:=U.2.1
  refine wp_seq_k fun aj aj=>wr fun az az=>Y.xm rfl<|Xm rfl<|Xv (vi a.length)<|Xv (vd (((i:Nat):Int)<(a.length:Int))) fun _ Z=>wn az ?_
  by_cases Y:((i:Nat):Int)<(a.length:Int)
  ·refine Z.ct<|wp_skip<|aj _ _<|wp_seq_k fun Y av=>wp_block<|wp_seq_k fun Y aN=>?_
   have Y:=RLs.ext rIt h1c ac
   obtain ⟨ac,ac,G,ac,ac,ae,ac,ac,aX⟩:=RLs.get Y (by omega:i<a.length)
   obtain ⟨Y,Y,rfl,aS⟩:=aX
   have Y:=(Fl.cel aS).2.1
   refine wp_region_lit<|Z.xv (.bool false) fun _ Y=>wn aN<|wp_seq_k fun ac aO=>wr fun ac ac=>Y.xv (vi 0) fun _ Y=>wn ac<|wp_block<|wp_loop (fun a' W=>∃ (D:Nat) (met:Bool),Sl 120 [(0,(vl A a.length c)),(1,(vl C l.length d)),(4,v0),(5,(vi 0)),(6,(vi (checkE a))),(16,(vd (((checkE a):Int)≠(0:Int)))),(20,(.bool (!(decide (validC l))))),(7,(vi k)),(24,(vd ((k:Int)<(l.length:Int)))),(8,(vl Ao no co)),(9,(vi (i:Nat))),(64,(vd (((i:Nat):Int)<(a.length:Int)))),(10,(.bool met)),(11,(vi D))] a'∧D≤l.length∧met=metB (l.take D) G.name∧Ext w W∧OwnG RIt 2 61 (Clip S w) al W (vl Ao no co) no zs lo∧aE.heap.size≤W.heap.size) (fun a' _=>l.length - (intOf (a'.eval (.tmp 11))).toNat) ⟨0,false,Y.j,(by omega),rfl,eX,U,(Nat.le_refl _)⟩ ?_
   rintro Y Y ⟨D,met,Y,ac,ag,aC,I,ac⟩
   have ay:=Y
   have ac:=aC.size
   have ac:=own_form0 I.1;have ac:=I.2.1
   refine wp_seq_k fun ac ac=>wr fun aj aj=>Y.xm rfl<|Xm rfl<|Xv (vi l.length)<|Xv (vd ((D:Int)<(l.length:Int))) fun _ aa=>wn aj ?_
   by_cases Y:(D:Int)<(l.length:Int)
   ·refine aa.ct<|wp_skip<|ac _ _<|wp_seq_k fun Y aw=>wp_block<|sX (fun O W=>Ext O W) (fun i=>false) 16 fun O ai Y=>aa.ym 0 rfl<|Ym 1 rfl fun _ Y=>?_
    rcases Bool.eq_false_or_eq_true met with am | am
    ·refine Y.yu 2 rfl<|Yu 3 rfl<|Yu 4 rfl<|Yu 5 rfl<|Yu 6 rfl<|Yu 7 rfl<|Yu 8 rfl<|Yu 9 rfl<|Yu 10 rfl<|Yu 11 rfl<|Yu 12 rfl<|Yu 13 rfl<|Yv 14 (.bool true) rfl<|Yv 15 (.bool true) rfl fun _ G=>nK aw<|have J:=G.k [0,1,4,5,6,16,20,7,24,8,9,64,10,11,70];wp_region_lit<|J.xm rfl<|Xv (vi (D+1:Nat))<|Xa rfl fun _ G=>wpList_nil ?_
     have J:=OwnG.ext rIt I ai
     refine ⟨⟨(D+1),true,G.j,(by omega),(met_yes ag am),eX,J,(by omega)⟩,?_⟩
     rw [G.get (t:=11) rfl,ay.get (t:=11) rfl];simp [intOf] <;> omega
    refine Y.yg 2 (vl C l.length d) rfl<|Yg 3 (vi D) rfl<|fun _ aF=>?_
    have Y:=RLs.ux rCg h2c ai
    obtain ⟨ak,ar,V,ac,aI,aV,ac,aQ,aY⟩:=RLs.get Y (by omega:D<l.length)
    obtain ⟨Y,Y,rfl,aT⟩:=aY
    have Y:=(Fl.cel aT).2.1
    refine aF.ygw 4 (vq ak (ar+D*3)) rfl (fun F W=>rn_indexE uu27 inf66 ((F.get rfl).trans (by rw [aI])) (F.get rfl) (zl _) (il (by omega:D<l.length)) (by omega))<|Yg 5 (vq ak (ar+D*3)) rfl<|Yg 6 (vq ak (ar+D*3)) rfl fun _ Y=>have aA:Ex O O:=Ext.refl O;Y.ysg 7 (strOf V.name) rfl aA (fun F W hW=>rl F rfl ((fun j u hu=>Ext.keep ((Ext.refl O).trans hW) (aQ j u hu)) 0 _ rfl))<|Yg 8 (vl A a.length c) rfl<|Yg 9 (vi (i:Nat)) rfl fun _ aG=>?_
    have Y:=RLs.ux rIt h1c ai
    obtain ⟨au,aD,a1,ac,aJ,aW,ac,aR,aZ⟩:=RLs.get Y (by omega:i<a.length)
    obtain rfl:G=a1:=Option.some.inj (ae.symm.trans aW)
    obtain ⟨Y,Y,rfl,aU⟩:=aZ
    have J:=(Fl.cel aU).2.1
    refine aG.ygw 10 (vq au (aD+i*2)) rfl (fun F W=>rn_indexE uu26 inf61 ((F.get rfl).trans (by rw [aJ])) (F.get rfl) (zl _) (il (by omega:i<a.length)) (by omega))<|Yg 11 (vq au (aD+i*2)) rfl<|Ysg 12 (strOf G.name) rfl aA (fun F W hW=>rl F rfl ((fun j u hu=>Ext.keep ((Ext.refl O).trans hW) (aR j u hu)) 0 _ rfl))<|Ygw 13 (vd (V.name=G.name)) rfl (fun F W=>rn_eqs (F.get rfl) (F.get rfl) rfl)<|Yv 14 (vd (V.name=G.name)) rfl<|Yv 15 (vd (V.name=G.name)) rfl fun _ J=>nK aw<|have O:=J.k [0,1,4,5,6,16,20,7,24,8,9,64,10,11,70];wp_region_lit<|O.xm rfl<|Xv (vi (D+1:Nat))<|Xa rfl fun _ J=>wpList_nil ?_
    have O:=OwnG.ext rIt I ai
    refine ⟨⟨(D+1),decide (V.name=G.name),J.j,(by omega),(met_else aV ag am),eX,O,(by omega)⟩,?_⟩
    rw [J.get (t:=11) rfl,ay.get (t:=11) rfl];simp [intOf] <;> omega
   refine aa.cf<|wp_exit<|exit_then<|exit_then<|exit_here<|aO _ _<|wr fun O O=>aa.xm rfl<|Xw (.bool (!met)) (fun F=>rn_not' (F.get rfl) rfl) fun _ Y=>wn O ?_
   have O:=Y.k [0,1,4,5,6,16,20,7,24,8,9,64,10,11,70,89]
   rcases Bool.eq_false_or_eq_true met with ak | ak
   ·refine O.cf<|wp_skip<|av _ _<|wp_region_lit<|O.xm rfl<|Xv (vi (i+1:Nat))<|Xa rfl fun _ G=>wpList_nil ?_
    have J:=ag;rw [show D=l.length by omega,List.take_length] at J
    refine ⟨⟨(i+1),Ao,no,co,zs,lo,G.j,⟨by omega,by omega⟩,(by rw [aq];exact keep_step_yes ae (J.symm.trans ak)),eX,I,(by omega)⟩,?_⟩
    rw [G.get (t:=9) rfl,ax.get (t:=9) rfl];simp [intOf] <;> omega
   refine O.ct<|wp_region_lit<|O.xm rfl<|Xm rfl<|Xm rfl fun _ ar=>?_
   have O:=RLs.ext rIt h1c aC
   obtain ⟨au,aG,aI,Y,aw,aD,Y,aA,aF⟩:=RLs.get O (by omega:i<a.length)
   obtain rfl:G=aI:=Option.some.inj (ae.symm.trans aD)
   obtain ⟨V,ai,rfl,am⟩:=aF
   have J:=(Fl.cel am).2.1
   refine ar.xw (vq au (aG+i*2)) (fun F=>rn_indexE uu26 inf61 ((F.get rfl).trans (by rw [aw])) (F.get rfl) (zl _) (il (by omega:i<a.length)) (by omega))<|Xw (.agg #[(strOf G.name),(vl V G.data.length ai)]) (fun F=>rn_loadN (cs:=[(strOf G.name),(vl V G.data.length ai)]) (F.get rfl) uu61 rfl inf61 aA) fun _ J=>J.xn (fun g=>(vl (some ⟨g,0,none⟩) 1 1)) [(strOf G.name),(vl V G.data.length ai)] 61 (fun F=>rn_buildSlice (parts1 (F.get rfl)) (by kernel_rfl)) fun U J _ J O O O Y=>have V:=(OwnG.ext rIt I Y);have Z:=(am.ext Y);have ab:some U≠(Value.slice Ao no co).ownBlock:=(OwnG.far I (by omega));have I:=O.lt;wpl_op (i:=6) rfl<|o_appG rIt El26 J rfl rfl rfl rfl rfl (J.get rfl) (J.get rfl) V (SrcG.one (R:=RIt) (S:=(Clip S w)) (x:=G) O rfl (one_cons rfl (one_cons rfl one_nil)) ⟨_,_,rfl,Z⟩) (by omega) (by omega) (by omega) fun Y Z ac I I I aa O J J J=>have ah:=O.size;have ah:=J U (by omega) ab;I.xa rfl fun _ I=>wn av<|have J:=I.k [0,1,4,5,6,16,20,7,24,8,9,64,10,11,70,89];wp_region_lit<|J.xm rfl<|Xv (vi (i+1:Nat))<|Xa rfl fun _ I=>wpList_nil ?_
   have J:=ag;rw [show D=l.length by omega,List.take_length] at J
   refine ⟨⟨(i+1),Y,no+1,Z,ac,lo++[G],I.j,⟨by omega,by omega⟩,(by rw [aq];exact keep_step_no ae (J.symm.trans ak)),(ext_row eX O V.1 (by omega)),aa,(by omega)⟩,?_⟩
   rw [I.get (t:=9) rfl,ax.get (t:=9) rfl];simp [intOf] <;> omega
  refine Z.cf<|wp_exit<|exit_then<|exit_then<|exit_here<|aL _ _<|wp_seq_k fun Y aI=>wr fun Y Y=>Z.xv (vi 0) fun _ aF=>wn Y<|wp_block ?_
  have Y:i=a.length:=by omega
  have hlo9:=aq;rw [Y,List.take_length] at hlo9
  have hz9:=(U).2.1;have ag:=keep_le a l
  subst hz9
  refine wp_loop (fun a' W=>∃ (D:Nat) (Aq:Option Addr) (cq:Nat) (lq:List It),Sl 120 [(0,(vl A a.length c)),(1,(vl C l.length d)),(4,v0),(5,(vi 0)),(6,(vi (checkE a))),(16,(vd (((checkE a):Int)≠(0:Int)))),(20,(.bool (!(decide (validC l))))),(7,(vi k)),(24,(vd ((k:Int)<(l.length:Int)))),(8,(vl Aq lq.length cq)),(9,(vi (i:Nat))),(64,(vd (((i:Nat):Int)<(a.length:Int)))),(12,(vi D))] a'∧(D≤l.length∧lq.length≤65536+D)∧lq=putL (keepL a l) (l.take D)∧Ext w W∧RLs RIt 2 (Fr S w) W (vl Aq lq.length cq) lq∧aE.heap.size≤W.heap.size) (fun a' _=>l.length - (intOf (a'.eval (.tmp 12))).toNat) ⟨0,Ao,co,lo,aF.j,⟨by omega,by omega⟩,hlo9,eX,(RLs.sub (S':=Fr S w) rIt (OwnG.rls rIt U) (fun b hb=>hb.elim (fun h=>.inl h.1) (fun h=>.inr (by omega)))),(Nat.le_refl _)⟩ ?_
  rintro U U ⟨D,Aq,cq,lq,U,Y,ai,Y,ae,Z⟩
  have ay:=U
  have Z:=Y.size
  obtain ⟨-,Z,Z⟩:=RLs.at ae
  refine wp_seq_k fun Z Z=>wr fun ac ac=>U.xm rfl<|Xm rfl<|Xv (vi l.length)<|Xv (vd ((D:Int)<(l.length:Int))) fun _ O=>wn ac ?_
  by_cases U:(D:Int)<(l.length:Int)
  ·refine O.ct<|wp_skip<|Z _ _<|wp_seq_k fun U aw=>wp_block<|wr fun U aJ=>O.xm rfl<|Xm rfl fun _ aG=>?_
   have U:=RLs.ext rCg h2c Y
   obtain ⟨V,ak,G,Y,av,aD,Y,aA,aO⟩:=RLs.get U (by omega:D<l.length)
   obtain ⟨I,aa,rfl,aC⟩:=aO
   have U:=(Fl.cel aC).2.1
   refine aG.xw (vq V (ak+D*3)) (fun F=>rn_indexE uu27 inf66 ((F.get rfl).trans (by rw [av])) (F.get rfl) (zl _) (il (by omega:D<l.length)) (by omega))<|Xv (vq V (ak+D*3+2))<|Xw (.bool G.gone) (fun F=>rl F rfl (aA 2 _ rfl))<|Xw (.bool (!G.gone)) (fun F=>rn_not' (F.get rfl) rfl) fun _ Y=>wn aJ ?_
   have U:=Y.k [0,1,4,5,6,16,20,7,24,8,9,64,12,100,108]
   rcases Bool.eq_false_or_eq_true G.gone with am | am
   ·refine U.cf<|wp_skip<|aw _ _<|wp_region_lit<|U.xm rfl<|Xv (vi (D+1:Nat))<|Xa rfl fun _ G=>wpList_nil ?_
    refine ⟨⟨(D+1),Aq,cq,lq,G.j,⟨by omega,by omega⟩,(by rw [ai];exact ((if_pos am).symm).trans (put_step aD)),eX,ae,(by omega)⟩,?_⟩
    rw [G.get (t:=12) rfl,ay.get (t:=12) rfl];simp [intOf] <;> omega
   refine U.ct<|wp_region_lit<|U.xm rfl<|Xm rfl<|Xm rfl<|Xw (vq V (ak+D*3)) (fun F=>rn_indexE uu27 inf66 ((F.get rfl).trans (by rw [av])) (F.get rfl) (zl _) (il (by omega:D<l.length)) (by omega))<|Xv (vq V (ak+D*3))<|Xw (.agg #[(strOf G.name),(vl I G.data.length aa)]) (fun F=>rn_loadN (cs:=[(strOf G.name),(vl I G.data.length aa)]) (F.get rfl) uu61 rfl inf61 (cells_part (A:=[]) (M:=[(strOf G.name),(vl I G.data.length aa)]) (B:=[(.bool G.gone)]) aA (by simp) rfl)) fun _ U=>U.xC (c:=rwith_at (S:=Fr S w) (v:=(vl Aq lq.length cq)) (u:=(vl I G.data.length aa)) lq (asIt G) _ ae (Fl.sub aC (fun b hb=>.inl hb.1)) (by omega)) (k:= ?_)
   rintro _ aR ⟨ar,au,rfl,aN,aQ⟩
   refine ⟨_,rfl,?_⟩;intro I I;have J:=aQ.size
   have J:RLs RIt 2 (Fr S w) aR (vl ar ((withL lq (asIt G)).length) au) (withL lq (asIt G)):=RLs.sub rIt aN (fun b hb=>hb.elim (fun h=>h) (fun h=>.inr (by omega)))
   have O:=with_len lq (asIt G);obtain ⟨-,O,O⟩:=RLs.at J
   refine I.xa rfl fun _ I=>wn aw<|have O:=I.k [0,1,4,5,6,16,20,7,24,8,9,64,12,100,108];wp_region_lit<|O.xm rfl<|Xv (vi (D+1:Nat))<|Xa rfl fun _ I=>wpList_nil ?_
   refine ⟨⟨(D+1),ar,au,withL lq (asIt G),I.j,⟨by omega,by omega⟩,(by rw [ai];exact ((if_neg (by rw [am];simp)).symm).trans (put_step aD)),eX,J,(by omega)⟩,?_⟩
   rw [I.get (t:=12) rfl,ay.get (t:=12) rfl];simp [intOf] <;> omega
  refine O.cf<|wp_exit<|exit_then<|exit_then<|exit_here<|aI _ _<|wp_seq_k fun G U=>wr fun G G=>O.xm rfl<|Xv (vi lq.length)<|Xv (vd ((65536:Int)<(lq.length:Int))) fun _ I=>wn G ?_
  have G:=I.k [0,1,4,5,6,16,20,7,24,8,9,64,12,100,118]
  by_cases I:(65536:Int)<(lq.length:Int)
  ·refine G.ct<|wr fun I I=>G.xv v0<|Xv (vi 2) fun _ G=>wn I<|wp_ret<|ret_then<|ret2 G rfl rfl rfl ?_
   have ag:D=l.length:=by omega
   have hyes:=bads_ok hs hsl ah (by omega)
   have D:=ai;rw [ag,List.take_length,put_app hs hsl hyes] at D
   have hE:applyE a l=2:=(if_neg (fun q=>q (Decidable.not_not.1 J))).trans ((if_neg (fun q=>q hcl)).trans ((if_neg (by rw [hyes];simp)).trans (if_pos (by rw [← D];omega))))
   have hV:applyV a l=[]:=if_neg (by rw [hE];decide)
   rw [hV,hE]
   exact ⟨none,0,rfl,RLs.nil _,eX⟩
  refine G.cf<|wp_skip<|U _ _<|wr fun I I=>G.xm rfl<|Xa rfl<|Xv (vi 0) fun _ G=>wn I<|wp_ret<|ret2 G rfl rfl rfl ?_
  have ag:D=l.length:=by omega
  have hyes:=bads_ok hs hsl ah (by omega)
  have D:=ai;rw [ag,List.take_length,put_app hs hsl hyes] at D
  have hE:applyE a l=0:=(if_neg (fun q=>q (Decidable.not_not.1 J))).trans ((if_neg (fun q=>q hcl)).trans ((if_neg (by rw [hyes];simp)).trans (if_neg (by rw [← D];omega))))
  have hV:applyV a l=lq:=(if_pos hE).trans D.symm
  rw [hV,hE]
  exact ⟨_,_,rfl,ae,eX⟩
 refine ab.ct<|wr fun D G=>ab.xv v0<|Xv (vi 400) fun _ D=>wn G<|wp_ret<|ret_then<|ret2 D rfl rfl rfl ?_
 have hE:applyE a l=400:=(if_neg (fun q=>q (Decidable.not_not.1 J))).trans (if_pos aB)
 have hV:applyV a l=[]:=if_neg (by rw [hE];decide)
 rw [hV,hE]
 exact ⟨none,0,rfl,RLs.nil _,eX⟩
theorem rapply_at (a:List It) (l:List Cg) (w:World) (h1:RLs RIt 2 S w u a) (h2:RLs RCg 3 S w v l):Calls Tryz.prog 92 #[u,v] w (fun e w'=>∃ A c,e=.returned (.tuple #[.slice A (applyV a l).length c,.int .i64 (applyE a l)])∧RLs RIt 2 (Fr S w) w' (vl A (applyV a l).length c) (applyV a l)∧Ext w w'):=by
 obtain ⟨A,c,rfl,_⟩:=h1.form
 obtain ⟨C,d,rfl,_⟩:=h2.form
 exact rapply_any A c a C d l w h1 h2
theorem numr_step {bb:List UInt8} (hk:k+m=7) (h:bb=(numL n 8).take k):bb++[UInt8.ofNat (n / 2 ^ (8*m))]=(numL n 8).take (k+1):=by
 have h1:=numL_getD n 8 m (by omega)
 rw [show 8 - 1 - m=k by omega,List.getD_eq_getElem?_getD,List.getElem?_eq_getElem (by rw [numL_len];omega),Option.getD_some] at h1
 rw [h,List.take_add_one,List.getElem?_eq_getElem (by rw [numL_len];omega),h1,Nat.pow_mul];rfl
theorem rnumber_any (n:Nat) (w:World) (hn:n≤4294967296) :
  Calls Tryz.prog 78 #[.int .i64 (n:Nat)] w (fun e w'=>∃ A c,e=.returned (vl A 8 c)∧w'.ownsRow w.heap.size 5 1 (vl A 8 c) 8 (byteVals (numL n 8))∧Ext w w'):=by
 refine calls_enter Tryz.func78 rfl rfl rfl fun _ G=>wr fun I I=>G.xv v0 fun _ G=>wn I<|wr fun I U=>G.xn (fun g=>(vl (some ⟨g,0,none⟩) 0 0)) [] 5 (fun F=>rn_buildSlice (parts0 ) (by kernel_rfl)) fun G Z _ I M M M aa=>I.xa rfl fun _ I=>wn U<|wp_seq_k fun U O=>wr fun U U=>I.xv (vi 7) fun _ I=>wn U<|wp_block<|have U:=own_blk0 (k:=1) M;wp_loop (fun a' W=>∃ (k:Nat) (j:Int) (Ap:Option Addr) (np:Nat) (cp:Nat) (bb:List UInt8),Sl 20 [(0,(vi n)),(2,v0),(3,(vl Ap np cp)),(4,(vi j))] a'∧((k:Int)=7 - j∧k≤8∧np=k)∧bb=(numL n 8).take k∧Ext w W∧W.ownsRow G 5 1 (vl Ap np cp) np (byteVals bb)∧G≤W.heap.size∧Z.heap.size≤W.heap.size) (fun a' _=>(intOf (a'.eval (.tmp 4))+1).toNat) ⟨0,7,(some ⟨G,0,none⟩),0,0,[],I.j,⟨by omega,by omega,by omega⟩,rfl,eX,U,(by omega),(Nat.le_refl _)⟩ ?_
 rintro G G ⟨k,j,Ap,np,cp,bb,G,I,J,I,D,M,M⟩
 have Y:=G
 have M:=I.size
 have I:=own_form0 D
 refine wp_seq_k fun I I=>wr fun M M=>G.xm rfl<|Xv (vd ((0:Int)≤(j:Int))) fun _ C=>wn M ?_
 by_cases G:(0:Int)≤(j:Int)
 ·refine C.ct<|wp_skip<|I _ _<|wp_seq_k fun G V=>wp_block ?_
  obtain ⟨m,rfl⟩:∃ m:Nat,j=(m:Int):=⟨j.toNat,by omega⟩
  refine wp_region_lit<|C.xm rfl<|Xm rfl<|Xw (.int .u64 n) (fun F=>rn_convW uu3 uu130 (F.get rfl) (cvn_64 n (by omega)))<|Xm rfl<|Xw (vi (8*m:Nat)) (fun F=>rn_mulN (a:=8) (b:=m) rfl (F.get rfl) (by omega))<|Xw (.int .u64 (n / 2 ^ (8*m):Nat)) (fun F=>rn_shrU (a:=n) (n:=8*m) (F.get rfl) (F.get rfl) (by omega))<|Xw (.int .u8 ((UInt8.ofNat (n / 2 ^ (8*m))).toNat:Nat)) (fun F=>rn_convW uu130 uu5 (F.get rfl) (cvi_8 (n / 2 ^ (8*m)))) fun _ C=>have M:=D;C.xn (fun g=>(vl (some ⟨g,0,none⟩) 1 1)) [(.int .u8 ((UInt8.ofNat (n / 2 ^ (8*m))).toNat:Nat))] 5 (fun F=>rn_buildSlice (parts1 (F.get rfl)) (by kernel_rfl)) fun C G _ G I I I O=>have U:=own_new (g:=C) M (by omega);have M:=(own_ext D O);have D:=M;have Z:some C≠(Value.slice Ap np cp).ownBlock:=U;have M:=I.lt;wpl_op (i:=8) rfl<|o_appB (zs:=byteVals (bb++([(UInt8.ofNat (n / 2 ^ (8*m)))]))) El22 G rfl rfl rfl rfl rfl (G.get rfl) (G.get rfl) D (Fl.cel (Fl.blk (S:=fun b=>b=C) (k:=1) (n:=1) (c:=1) (cs:=byteVals [(UInt8.ofNat (n / 2 ^ (8*m)))]) I rfl (byteVals_one _) (by omega) rfl)).2.2 (by omega) (by omega) (by omega) (byteVals_app _ _) fun I O G G M aa G U U U=>have ab:=G.size;have ab:=U C (by omega) Z;M.xa rfl fun _ C=>wn V<|have M:=C.k [0,2,3,4,7];wp_region_lit<|M.xm rfl<|Xv (vi ((m:Nat) - 1))<|Xa rfl fun _ C=>wpList_nil ?_
  refine ⟨⟨(k+1),((m:Int) - 1),I,np+1,O,bb++([(UInt8.ofNat (n / 2 ^ (8*m)))]),C.j,⟨by omega,by omega,by omega⟩,(numr_step (by omega) J),(ext_row eX G D (by omega)),aa,(by omega),(by omega)⟩,?_⟩
  rw [C.get (t:=4) rfl,Y.get (t:=4) rfl];simp only [intOf];omega
 refine C.cf<|wp_exit<|exit_then<|exit_then<|exit_here<|O _ _<|wr fun G G=>C.xm rfl<|Xa rfl fun _ C=>wn G<|wp_ret<|ret1 C rfl rfl ?_
 have hk:k=8:=by omega
 have hq:=J;rw [hk,List.take_of_length_le (by rw [numL_len];omega)] at hq
 have hr:=own_base D (by omega:w.heap.size≤_)
 subst hq;obtain rfl:np=8:=by omega
 exact ⟨_,_,rfl,hr,eX⟩
theorem rnumber_int (n:Int) (w:World) (h0:0≤n) (hn:n≤4294967296):Calls Tryz.prog 78 #[.int .i64 n] w (fun e w'=>∃ A c,e=.returned (vl A 8 c)∧w'.ownsRow w.heap.size 5 1 (vl A 8 c) 8 (byteVals (numL n.toNat 8))∧Ext w w'):=by
 obtain ⟨k,rfl⟩:∃ k:Nat,n=(k:Int):=⟨n.toNat,by omega⟩
 exact rnumber_any k w (by omega)
theorem rleaf_any (B:Option Addr) (d:Nat) (x:Cg) (w:World) (h:Fl S w 1 (vl B x.data.length d) x.data.length (byteVals x.data)) (hn:x.name.length≤4294967296) (hd:x.data.length≤4294967296) :
  Calls Tryz.prog 77 #[ag [strOf x.name,.slice B x.data.length d,.bool x.gone]] w (fun e w'=>e=.returned (.agg (byteVals (cgLeaf x)).toArray)∧Ext w w'):=by
 have hc:Fl (Clip S w) w 1 (vl B x.data.length d) x.data.length (byteVals x.data):=h.clip;have hm:=(Fl.cel h).2.1
 refine calls_enter Tryz.func77 rfl rfl rfl fun _ C=>wr fun D G=>C.xb rfl fun C D _ D I I I J=>D.xz (byteVals (List.replicate 32 0)) 29 fun D D _ D J J M U=>wn G<|wr fun G G=>D.xv (.int .u8 0) fun _ D=>wn G<|wp_seq_k fun G J=>wr fun G O=>D.xv (vq C 2) fun _ G=>have D:=(I.ext U);G.xw (.bool x.gone) (fun F=>rl F rfl (D.rule.1 2)) fun _ G=>wn O ?_
 rcases Bool.eq_false_or_eq_true x.gone with I | I
 ·refine G.ct<|wp_region_lit<|G.xv (.int .u8 1) fun _ G=>wn J<|wr fun J Y=>G.xm rfl<|Xv (vp C)<|Xv (vp C)<|Xw (strOf x.name) (fun F=>rl F rfl (D.rule.1 0))<|Xw (vi x.name.length) (fun F=>rn_lenS uu9 (F.get rfl))<|Xw (.int .u8 ((UInt8.ofNat x.name.length).toNat:Nat)) (fun F=>rn_convW uu3 uu5 (F.get rfl) (cvi_8 x.name.length)) fun _ G=>G.xn (fun g=>(vl (some ⟨g,0,none⟩) 2 2)) [(.int .u8 1),(.int .u8 ((UInt8.ofNat x.name.length).toNat:Nat))] 5 (fun F=>rn_buildSlice (parts2 (F.get rfl) (F.get rfl)) (by kernel_rfl)) fun O Z _ G J J V U=>G.xv (vp C)<|Xv (vp C) fun _ G=>have J:=(D.ext U);G.xw (strOf x.name) (fun F=>rl F rfl (J.rule.1 0)) fun _ D=>have G:=(own_blkN (k:=1) (n:=2) (cs:=byteVals ([(1:UInt8),(UInt8.ofNat x.name.length)])) V rfl (by omega));wpl_op (i:=10) rfl<|o_appT (zs:=byteVals (([(1:UInt8),(UInt8.ofNat x.name.length)])++x.name)) El22 uu9 D rfl rfl rfl rfl rfl (D.get rfl) (D.get rfl) G (by omega) (by omega) (byteVals_app _ _) fun D D ab D V aa D G G G=>have G:=D.size;have G:Z.grownBy ab (some O):=D;V.xa rfl fun _ D=>wn Y<|have V:=D.k [0,1,2,3,6,4];wr fun D Z=>V.xm rfl<|Xv (vp C)<|Xv (vq C 1) fun _ C=>have D:=(J.gn G);C.xw (vl B x.data.length d) (fun F=>rl F rfl (D.rule.1 1)) fun _ C=>have J:=(hc.ug G);have D:=aa;wpl_op (i:=4) rfl<|o_appB (zs:=byteVals ((([(1:UInt8),(UInt8.ofNat x.name.length)])++x.name)++x.data)) El22 C rfl rfl rfl rfl rfl (C.get rfl) (C.get rfl) D (Fl.cel J).2.2 (by omega) (by omega) (by omega) (byteVals_app _ _) fun J Y C C V aa C ab ab ab=>have ab:=C.size;V.xE (c:=rtagged_at ([99,104,97,110,103,101]) (v:=(vl J ((2+x.name.length)+x.data.length) Y)) (n:=(2+x.name.length)+x.data.length) ((([(1:UInt8),(UInt8.ofNat x.name.length)])++x.name)++x.data) _ (Fl.own (S:=fun b=>O≤b) aa (fun b hb=>hb) (byteVals_one _)) (by decide) (by omega)) (k:=fun J O J _ J=>?_)
  have V:=(grown_blk D C ((M.ext U).gn G) (by decide)).ext O
  refine J.xs rfl V (fun G U G=>?_) (hk:=byteVals_len (tagged_len _ _));have M:=G.size
  exact wn Z<|have M:=J.k [0,1,2,3,6,4];wp_ret<|retC M rfl rfl U uu29 rfl (sk inf29 (byteVals_len (tagged_len _ _)))<|⟨by rw [cgLeaf,bitB,I];rfl,(((ext_row eX C D (by omega)).trans O).gn G)⟩
 refine G.cf<|wp_skip<|J _ _<|wr fun J Y=>G.xm rfl<|Xv (vp C)<|Xv (vp C)<|Xw (strOf x.name) (fun F=>rl F rfl (D.rule.1 0))<|Xw (vi x.name.length) (fun F=>rn_lenS uu9 (F.get rfl))<|Xw (.int .u8 ((UInt8.ofNat x.name.length).toNat:Nat)) (fun F=>rn_convW uu3 uu5 (F.get rfl) (cvi_8 x.name.length)) fun _ G=>G.xn (fun g=>(vl (some ⟨g,0,none⟩) 2 2)) [(.int .u8 0),(.int .u8 ((UInt8.ofNat x.name.length).toNat:Nat))] 5 (fun F=>rn_buildSlice (parts2 (F.get rfl) (F.get rfl)) (by kernel_rfl)) fun O Z _ G J J V U=>G.xv (vp C)<|Xv (vp C) fun _ G=>have J:=(D.ext U);G.xw (strOf x.name) (fun F=>rl F rfl (J.rule.1 0)) fun _ D=>have G:=(own_blkN (k:=1) (n:=2) (cs:=byteVals ([(0:UInt8),(UInt8.ofNat x.name.length)])) V rfl (by omega));wpl_op (i:=10) rfl<|o_appT (zs:=byteVals (([(0:UInt8),(UInt8.ofNat x.name.length)])++x.name)) El22 uu9 D rfl rfl rfl rfl rfl (D.get rfl) (D.get rfl) G (by omega) (by omega) (byteVals_app _ _) fun D D ab D V aa D G G G=>have G:=D.size;have G:Z.grownBy ab (some O):=D;V.xa rfl fun _ D=>wn Y<|have V:=D.k [0,1,2,3,6,4];wr fun D Z=>V.xm rfl<|Xv (vp C)<|Xv (vq C 1) fun _ C=>have D:=(J.gn G);C.xw (vl B x.data.length d) (fun F=>rl F rfl (D.rule.1 1)) fun _ C=>have J:=(hc.ug G);have D:=aa;wpl_op (i:=4) rfl<|o_appB (zs:=byteVals ((([(0:UInt8),(UInt8.ofNat x.name.length)])++x.name)++x.data)) El22 C rfl rfl rfl rfl rfl (C.get rfl) (C.get rfl) D (Fl.cel J).2.2 (by omega) (by omega) (by omega) (byteVals_app _ _) fun J Y C C V aa C ab ab ab=>have ab:=C.size;V.xE (c:=rtagged_at ([99,104,97,110,103,101]) (v:=(vl J ((2+x.name.length)+x.data.length) Y)) (n:=(2+x.name.length)+x.data.length) ((([(0:UInt8),(UInt8.ofNat x.name.length)])++x.name)++x.data) _ (Fl.own (S:=fun b=>O≤b) aa (fun b hb=>hb) (byteVals_one _)) (by decide) (by omega)) (k:=fun J O J _ J=>?_)
 have V:=(grown_blk D C ((M.ext U).gn G) (by decide)).ext O
 refine J.xs rfl V (fun G U G=>?_) (hk:=byteVals_len (tagged_len _ _));have M:=G.size
 exact wn Z<|have M:=J.k [0,1,2,3,6,4];wp_ret<|retC M rfl rfl U uu29 rfl (sk inf29 (byteVals_len (tagged_len _ _)))<|⟨by rw [cgLeaf,bitB,I];rfl,(((ext_row eX C D (by omega)).trans O).gn G)⟩
theorem rleaf_at (x:Cg) (w:World) (h:Fl S w 1 u x.data.length (byteVals x.data)) (hn:x.name.length≤4294967296) (hd:x.data.length≤4294967296):Calls Tryz.prog 77 #[ag [strOf x.name,u,.bool x.gone]] w (fun e w'=>e=.returned (.agg (byteVals (cgLeaf x)).toArray)∧Ext w w'):=by
 obtain ⟨B,d,rfl,_⟩:=h.form
 exact rleaf_any B d x w h hn hd
theorem rleaves_step {x:Cg} (hx:l[k]?=some x):(l.take k).map cgLeaf++[cgLeaf x]=(l.take (k+1)).map cgLeaf:=by rw [List.take_add_one,hx,List.map_append];rfl
theorem rmessage_any (C:Option Addr) (cc:Nat) (O:Option Addr) (oc:Nat) (E:Option Addr) (ec:Nat) (P:Option Addr) (pc:Nat) (v:Vr) (w:World) (h:RVp S w (vl C v.chs.length cc) (vl O v.sg.op.length oc) (vl E v.sg.cl.length ec) (vl P v.sg.path.length pc) v) (hv:validC v.chs) (hd:∀ x∈v.chs,x.data.length≤4294967296) (h0:0≤v.no) (hno:v.no≤4294967296) :
  Calls Tryz.prog 36 #[(ag ((vi v.no)::dg v.state [(vl C v.chs.length cc),(vi v.sg.index),(vl O v.sg.op.length oc),(vl E v.sg.cl.length ec),(vl P v.sg.path.length pc)]))] w (fun e w'=>∃ A c,e=.returned (vl A 72 c)∧Fl (fun b=>w.heap.size≤b) w' 1 (vl A 72 c) 72 (byteVals v.msg)∧Ext w w'):=by
 have hc:=RVp.subB (S':=Clip S w) h (fun _ hb hs=>⟨hs,hb⟩)
 obtain ⟨-,ac,ac⟩:=RLs.at hc.chs;have ac:=(Fl.cel hc.sg.op).2.1;have ac:=(Fl.cel hc.sg.cl).2.1;have ac:=(Fl.cel hc.sg.path).2.1
 have ac:=hv.1
 refine calls_enter Tryz.func36 rfl rfl rfl fun _ hF=>wr fun K1 aj=>hF.xb rfl fun G w3 _ F9 z6 z7 b4 ac=>F9.xv v0 fun _ ac=>wn aj<|wr fun aj aq=>ac.xn (fun g=>(vl (some ⟨g,0,none⟩) 0 0)) [] 29 (fun F=>rn_buildSlice (parts0 ) (by kernel_rfl)) fun U aA _ ac aj aj aj av=>ac.xa rfl fun _ ac=>wn aq<|wp_seq_k fun aq au=>wr fun aq aq=>ac.xv (vi 0) fun _ ac=>wn aq<|wp_block<|have aq:=own_blk0 (k:=32) aj;have aj:=(b4.ext av);wp_loop (fun a' W=>∃ (k:Nat) (Ap:Option Addr) (np:Nat) (cp:Nat) (ls:List (List UInt8)),Sl 33 [(0,(ag ((vi v.no)::dg v.state [(vl C v.chs.length cc),(vi v.sg.index),(vl O v.sg.op.length oc),(vl E v.sg.cl.length ec),(vl P v.sg.path.length pc)]))),(1,(vp G)),(2,v0),(3,(vl Ap np cp)),(4,(vi k))] a'∧(k≤v.chs.length∧np=k)∧ls=(v.chs.take k).map cgLeaf∧Ext w W∧Blk W G 34 ((vi v.no)::dg v.state [(vl C v.chs.length cc),(vi v.sg.index),(vl O v.sg.op.length oc),(vl E v.sg.cl.length ec),(vl P v.sg.path.length pc)])∧W.ownsRow U 29 32 (vl Ap np cp) np (digVals ls)∧U≤W.heap.size∧aA.heap.size≤W.heap.size) (fun a' _=>v.chs.length - (intOf (a'.eval (.tmp 4))).toNat) ⟨0,(some ⟨U,0,none⟩),0,0,[],ac.j,⟨by omega,by omega⟩,rfl,eX,aj,aq,(by omega),(Nat.le_refl _)⟩ ?_
 rintro ac ac ⟨k,Ap,np,cp,ls,ac,aj,aa,aj,I,Y,aq,aq⟩
 have aw:=ac
 have aq:=aj.size
 have aq:=I.lt
 have aq:=own_form0 Y
 have ax:All32 ls:=by rw [aa];exact cgleaves_32 _
 refine wp_seq_k fun aq aq=>wr fun av av=>ac.xm rfl<|Xv (vq G 33)<|Xw (vl C v.chs.length cc) (fun F=>rl F rfl ((I.rule.1 33).trans ((at_app (k:=0) (byteVals_len hc.st)).trans rfl)))<|Xv (vi v.chs.length)<|Xv (vd ((k:Int)<(v.chs.length:Int))) fun _ ac=>wn av ?_
 have M:=ac.k [0,1,2,3,4,11]
 by_cases ac:(k:Int)<(v.chs.length:Int)
 ·refine M.ct<|wp_skip<|aq _ _<|wp_seq_k fun ac ak=>wp_block<|wp_region_lit<|M.xm rfl<|Xv (vq G 33)<|Xw (vl C v.chs.length cc) (fun F=>rl F rfl ((I.rule.1 33).trans ((at_app (k:=0) (byteVals_len hc.st)).trans rfl)))<|Xm rfl fun _ ae=>?_
  have ac:=RLs.ext rCg hc.chs aj
  obtain ⟨ah,ar,D,aj,ai,Z,aj,al,am⟩:=RLs.get ac (by omega:k<v.chs.length)
  obtain ⟨J,V,rfl,ab⟩:=am
  have G:=(Fl.cel ab).2.1
  obtain ⟨G,G⟩:=valid_name hv Z;have G:=hd D (List.mem_of_getElem? Z)
  refine ae.xw (vq ah (ar+k*3)) (fun F=>rn_indexE uu27 inf66 ((F.get rfl).trans (by rw [ai])) (F.get rfl) (zl _) (il (by omega:k<v.chs.length)) (by omega))<|Xw (.agg #[(strOf D.name),(vl J D.data.length V),(.bool D.gone)]) (fun F=>rn_loadN (cs:=[(strOf D.name),(vl J D.data.length V),(.bool D.gone)]) (F.get rfl) uu66 rfl inf66 al) fun _ G=>G.xE (c:=rleaf_at (u:=(vl J D.data.length V)) D _ ab (by omega) (by omega)) (k:=fun G V G _ G=>have M:=(own_ext Y V);have ab:=M;G.xn (fun g=>(vl (some ⟨g,0,none⟩) 1 1)) (byteVals ((cgLeaf D))) 29 (fun F=>rn_buildSlice (parts1 (F.get rfl)) (build_wholeE (vs:=[(.agg (byteVals (cgLeaf D)).toArray)]) El30 rfl rfl (fun v hv=>by rw [List.mem_singleton.1 hv];exact (byteVals_len (cgLeaf_len _))) (by decide) (by decide) (by simp [Value.cells,byteVals]))) fun G J _ J U U U Y=>have ac:=own_new (g:=G) ab (by omega);have ab:=(own_ext M Y);have M:=ab;have ah:some G≠(Value.slice Ap np cp).ownBlock:=ac;have ab:=U.lt;wpl_op (i:=8) rfl<|o_appB (zs:=digVals (ls++([cgLeaf D]))) El30 J rfl rfl rfl rfl rfl (J.get rfl) (J.get rfl) M (Fl.cel (Fl.digblk (S:=fun b=>b=G) U (All32.sing (cgLeaf_len _)) (by simp [digVals,byteVals]))).2.2 (by omega) (by omega) (by omega) (digVals_app _ _) fun U ac J J ab ai J ae ae ae=>have aj:=J.size;have aj:=ae G (by omega) ah;ab.xa rfl fun _ G=>wn ak<|have ab:=G.k [0,1,2,3,4,11];wp_region_lit<|ab.xm rfl<|Xv (vi (k+1:Nat))<|Xa rfl fun _ G=>wpList_nil ?_)
  have ab:=grown_blk M J ((I.ext V).ext Y) (by decide)
  refine ⟨⟨(k+1),U,np+1,ac,ls++([cgLeaf D]),G.j,⟨by omega,by omega⟩,(by rw [aa];exact rleaves_step Z),(ext_row eX J M (by omega)),ab,ai,(by omega),(by omega)⟩,?_⟩
  rw [G.get (t:=4) rfl,aw.get (t:=4) rfl];simp [intOf] <;> omega
 refine M.cf<|wp_exit<|exit_then<|exit_then<|exit_here<|au _ _<|wr fun ac ac=>M.xm rfl fun _ M=>have aj:=(Fl.own (S:=fun b=>U≤b) Y (fun b hb=>hb) (digVals_one _));M.xE (c:=rtree_at ls _ (n:=np) (v:=(vl Ap np cp)) ax aj (by omega)) (k:=fun M U M _ M=>have ak:=(own_ext Y U);have Y:=ak;M.xz (byteVals (List.replicate 32 0)) 29 fun J M _ M U U U ay=>?_)
 have az:=own_new (g:=J) Y (by omega)
 refine M.xs rfl U (fun U U ai=>?_) (hk:=byteVals_len (treeD_len _));have Y:=ai.size
 refine wn ac<|wp_seq_k fun Y ar=>sX (fun D W=>Ext D W∧Blk W G 34 ((vi v.no)::dg v.state [(vl C v.chs.length cc),(vi v.sg.index),(vl O v.sg.op.length oc),(vl E v.sg.cl.length ec),(vl P v.sg.path.length pc)])∧Blk W J 29 (byteVals (treeD ls))) (fun i=>false) 9 fun D Z Y=>M.yv 0 (vp G) rfl fun _ M=>have ae:=I.ux Z;have ah:=(U.ext Z);have I:Ext D D∧Blk D G 34 ((vi v.no)::dg v.state [(vl C v.chs.length cc),(vi v.sg.index),(vl O v.sg.op.length oc),(vl E v.sg.cl.length ec),(vl P v.sg.path.length pc)])∧Blk D J 29 (byteVals (treeD ls)):=⟨(Ext.refl D),ae,ah⟩;M.ys 1 (vi v.no) rfl I (fun F W hW=>rl F rfl ((hW.2.1.rule.1 0).trans rfl))<|Yv 3 (vq G 1) rfl<|Yw 4 (vl (some ⟨G,1,none⟩) 32 32) rfl (fun F W=>rn_arrAll uu29 inf5 (F.get rfl))<|Yw 6 (vl (some ⟨J,0,none⟩) 32 32) rfl (fun F W=>rn_arrAll uu29 inf5 (F.get rfl)) fun _ G=>ao 2 rfl<|G.oC (c:=rnumber_int v.no _ (by omega) (by omega)) (k:= ?_)
 rintro _ G ⟨al,am,rfl,ab,V⟩
 have G:=own_form0 ab
 refine ⟨_,rfl,?_⟩;intro G G;have I:=V.size
 have M:=ae.ext V
 have ac:=ah.ext V
 refine ⟨fun _ _=>⟨eX,M,ac⟩,?_⟩
 refine ao 5 rfl<|have I:=ab;have Y:=(own_ext (own_ext (own_grownB (own_ext ak ay) ai az) Z) V);have U:=Y;have ah:Apart (vl Ap np cp) (vl al 8 am):=(Apart.types Y ab (by decide));o_appB (zs:=byteVals ((numL (v.no).toNat 8)++v.state)) El22 G rfl rfl rfl rfl rfl (G.get rfl) (G.get rfl) I (Fl.cel (Fl.digB (A:=[(vi v.no)]) (B:=[(vl C v.chs.length cc),(vi v.sg.index),(vl O v.sg.op.length oc),(vl E v.sg.cl.length ec),(vl P v.sg.path.length pc)]) M (by simp) rfl hc.st)).2.2 (by omega) (by omega) (by omega) (byteVals_app _ _) fun ae ai G G U ab G V V V=>?_;have V:=G.size
 have Z:=grown_blk I G M (by decide)
 have V:=grown_blk I G ac (by decide)
 refine ⟨fun _ _=>⟨(ext_row eX G I (by omega)),Z,V⟩,?_⟩
 refine ao 7 rfl<|have M:=ab;have ac:=(own_grownR Y G ah);have Y:=ac;have Y:Apart (vl Ap np cp) (vl ae (8+32) ai):=(Apart.types ac ab (by decide));o_appB (zs:=byteVals (((numL (v.no).toNat 8)++v.state)++(treeD ls))) El22 U rfl rfl rfl rfl rfl (U.get rfl) (U.get rfl) M (Fl.cel (Fl.blk (S:=fun b=>b=J) (k:=1) (n:=32) (c:=32) V (by rw [byteVals_len (treeD_len _),Nat.mul_one]) (byteVals_one _) (by omega) rfl)).2.2 (by omega) (by omega) (by omega) (byteVals_app _ _) fun U ac J J Y ae J ab ab ab=>?_;have ab:=J.size
 have ab:=grown_blk M J Z (by decide)
 have Z:=grown_blk M J V (by decide)
 refine ⟨fun _ _=>⟨(ext_row (ext_row eX G I (by omega)) J M (by omega)),ab,Z⟩,?_⟩
 refine Y.yv 8 (vl U ((8+32)+32) ac) rfl fun _ U=>nK ar<|have V:=U.k [0,1,2,3,4,11,5];wp_ret<|ret1 V rfl rfl ?_
 have hk:k=v.chs.length:=by omega
 have hl:=aa
 rw [hk,List.take_length] at hl
 have hm:((numL (v.no).toNat 8)++v.state)++(treeD ls)=v.msg:=by rw [hl];rfl
 have hfin:=Fl.own (S:=fun b=>D.heap.size≤b) ae (fun b hb=>hb) (byteVals_one _)
 rw [hm] at hfin
 exact ⟨_,_,rfl,Fl.sub hfin (fun b hb=>by first | omega | (simp only [Clip] at hb;omega)),(ext_row (ext_row eX G I (by omega)) J M (by omega))⟩
theorem rmessage_at {c:Value} (v:Vr) (w:World) (h:RVp S w c o e p v) (hv:validC v.chs) (hd:∀ x∈v.chs,x.data.length≤4294967296) (h0:0≤v.no) (hno:v.no≤4294967296) :
  Calls Tryz.prog 36 #[ag (vcs v.no v.state c v.sg.index o e p)] w (fun e w'=>∃ A c,e=.returned (vl A 72 c)∧Fl (fun b=>w.heap.size≤b) w' 1 (vl A 72 c) 72 (byteVals v.msg)∧Ext w w'):=by
 obtain ⟨C,cc,rfl,_⟩:=RLs.form h.chs
 obtain ⟨O,oc,rfl,_⟩:=Fl.form h.sg.op
 obtain ⟨E,ec,rfl,_⟩:=Fl.form h.sg.cl
 obtain ⟨P,pc,rfl,_⟩:=Fl.form h.sg.path
 exact rmessage_any C cc O oc E ec P pc v w h hv hd h0 hno
theorem rverifyv_any (C:Option Addr) (cc:Nat) (O:Option Addr) (oc:Nat) (E:Option Addr) (ec:Nat) (P:Option Addr) (pc:Nat) (pub:List UInt8) (n:Int) (v:Vr) (w:World) (h:RVp S w (vl C v.chs.length cc) (vl O v.sg.op.length oc) (vl E v.sg.cl.length ec) (vl P v.sg.path.length pc) v) (hp:pub.length=32) (hd:∀ x∈v.chs,x.data.length≤4294967296) :
  Calls Tryz.prog 15 #[.agg (byteVals pub).toArray,.int .i64 n,(ag ((vi v.no)::dg v.state [(vl C v.chs.length cc),(vi v.sg.index),(vl O v.sg.op.length oc),(vl E v.sg.cl.length ec),(vl P v.sg.path.length pc)]))] w (fun e w'=>e=.returned (vi (verifyE pub n v))∧Ext w w'):=by
 have hc:=RVp.subB (S':=Clip S w) h (fun _ hb hs=>⟨hs,hb⟩)
 obtain ⟨-,G,G⟩:=RLs.at hc.chs;have G:=(Fl.cel hc.sg.op).2.1;have G:=(Fl.cel hc.sg.cl).2.1;have G:=(Fl.cel hc.sg.path).2.1
 refine calls_enter Tryz.func15 rfl rfl rfl fun _ G=>wr fun J ah=>G.xb rfl fun g2 G _ G J J b4 J=>G.xb rfl fun G J _ J U U U aw=>J.xv (vi 0) fun _ J=>wn ah<|wp_seq_k fun ah ar=>wr fun ah ah=>J.xv (vp G)<|Xw (vi v.no) (fun F=>rl F rfl ((U.rule.1 0).trans rfl))<|Xv (vd ((v.no:Int)<(1:Int)))<|Xm rfl fun _ J=>?_
 by_cases ak:(v.no:Int)<(1:Int)
 ·exact J.xu<|Xu<|Xu<|Xv (.bool true) fun _ G=>wn ah<|have D:=G.k [0,1,2,3,5,6,14];D.ct<|wr fun G G=>D.xv (vi 420) fun _ D=>wn G<|wp_ret<|ret_then<|ret1 D rfl rfl<|⟨ret_int (show verifyE pub n v=420 from if_pos (by omega)).symm,eX⟩
 refine J.xg (vp G)<|Xgw (vi v.no) (fun F=>rl F rfl ((U.rule.1 0).trans rfl))<|Xg (vd ((4096:Int)<(v.no:Int)))<|Xv (vd ((4096:Int)<(v.no:Int))) fun _ ak=>wn ah ?_
 have J:=ak.k [0,1,2,3,5,6,14]
 by_cases ah:(4096:Int)<(v.no:Int)
 ·exact J.ct<|wr fun D G=>J.xv (vi 420) fun _ D=>wn G<|wp_ret<|ret_then<|ret1 D rfl rfl<|⟨ret_int (show verifyE pub n v=420 from if_pos (by omega)).symm,eX⟩
 refine J.cf<|wp_skip<|ar _ _<|wp_seq_k fun ah ak=>wr fun ah ar=>J.xv (vq G 33)<|Xw (vl C v.chs.length cc) (fun F=>rl F rfl ((U.rule.1 33).trans ((at_app (k:=0) (byteVals_len hc.st)).trans rfl))) fun _ J=>have ah:=(RLs.ux rCg hc.chs aw);J.xe (rchanges_at (v:=(vl C v.chs.length cc)) v.chs _ ah) fun J J J _ J=>J.xw (.bool (!(decide (validC v.chs)))) (fun F=>rn_not' (F.get rfl) rfl) fun _ Z=>wn ar ?_
 by_cases V:validC v.chs
 ·refine Z.cf<|wp_skip<|ak _ _<|wp_seq_k fun J av=>wp_seq_k fun J aj=>sX (fun D W=>Ext D W∧Blk W G 34 ((vi v.no)::dg v.state [(vl C v.chs.length cc),(vi v.sg.index),(vl O v.sg.op.length oc),(vl E v.sg.cl.length ec),(vl P v.sg.path.length pc)])∧Blk W g2 29 (byteVals pub)) (fun i=>false) 17 fun D J ah=>Z.yv 0 (vq G 34) rfl<|Yv 1 (vq G 34) rfl fun _ ah=>have aa:=U.ux J;have ab:=b4.ux J;have U:Ext D D∧Blk D G 34 ((vi v.no)::dg v.state [(vl C v.chs.length cc),(vi v.sg.index),(vl O v.sg.op.length oc),(vl E v.sg.cl.length ec),(vl P v.sg.path.length pc)])∧Blk D g2 29 (byteVals pub):=⟨(Ext.refl D),aa,ab⟩;ah.ys 2 (vi v.sg.index) rfl U (fun F W hW=>rl F rfl ((hW.2.1.rule.1 34).trans ((at_app (k:=1) (byteVals_len hc.st)).trans rfl)))<|Yv 3 (vp G) rfl<|Ys 4 (vi v.no) rfl U (fun F W hW=>rl F rfl ((hW.2.1.rule.1 0).trans rfl))<|Yv 5 (vi (v.no - 1)) rfl<|Yv 6 (vd ((v.sg.index:Int)≠(v.no - 1:Int))) rfl<|Ym 7 rfl fun _ ah=>?_
  by_cases ak:(v.sg.index:Int)≠(v.no - 1:Int)
  ·refine ah.yu 8 rfl<|Yu 9 rfl<|Yu 10 rfl<|Yu 12 rfl<|Yu 13 rfl fun _ G=>ao 11 rfl<|o_skip G rfl (unwanted_guard rfl rfl rfl G rfl (decide_eq_true ak) rfl) rfl rfl fun G G=>?_
   refine ⟨fun _ _=>⟨(Ext.refl D),aa,ab⟩,?_⟩
   refine ao 14 rfl<|o_skip G rfl (unwanted_guard rfl rfl rfl G rfl (decide_eq_true ak) rfl) rfl rfl fun G G=>?_
   refine ⟨fun _ _=>⟨(Ext.refl D),aa,ab⟩,?_⟩
   exact G.yu 15 rfl<|Yv 16 (.bool true) rfl fun _ G=>nK aj<|have D:=G.k [0,1,2,3,5,6,14,18,35];D.ct<|wr fun G G=>D.xv (vi 131) fun _ D=>wn G<|wp_ret<|ret_then<|ret1 D rfl rfl<|⟨ret_int (show verifyE pub n v=131 from (if_neg (by omega)).trans ((if_neg (fun q=>q V)).trans (if_pos (.inl (by omega))))).symm,eX⟩
  refine ah.ysg 8 (.agg (byteVals pub).toArray) rfl U (fun F W hW=>rb F rfl hW.2.2 (hk:=byteVals_len hp))<|Yg 9 (vi n) rfl<|Ysg 10 (ag ((vi v.no)::dg v.state [(vl C v.chs.length cc),(vi v.sg.index),(vl O v.sg.op.length oc),(vl E v.sg.cl.length ec),(vl P v.sg.path.length pc)])) rfl U (fun F W hW=>rb F rfl hW.2.1 (hk:=len_dig1 hc.st))<|Yg 12 (vq G 34) rfl<|Ysg 13 (.agg #[(vi v.sg.index),(vl O v.sg.op.length oc),(vl E v.sg.cl.length ec),(vl P v.sg.path.length pc)]) rfl U (fun F W hW=>rn_loadN (cs:=[(vi v.sg.index),(vl O v.sg.op.length oc),(vl E v.sg.cl.length ec),(vl P v.sg.path.length pc)]) (F.get rfl) uu32 rfl inf32 (Blk.part (A:=((vi v.no)::dg v.state [(vl C v.chs.length cc)])) (M:=[(vi v.sg.index),(vl O v.sg.op.length oc),(vl E v.sg.cl.length ec),(vl P v.sg.path.length pc)]) (B:=[]) hW.2.1 (by simp) (by simp [byteVals_len hc.st]))) fun _ G=>ao 11 rfl<|have U:=(RLs.ux rCg hc.chs J);have ah:=(hc.sg.op.ux J);have ak:=(hc.sg.cl.ux J);have ar:=(hc.sg.path.ux J);G.gC (c:=rmessage_at v _ (⟨hc.st,RLs.sub (S':=fun _=>True) rCg U fun _ _=>trivial,⟨Fl.any ah,Fl.any ak,Fl.any ar,hc.sg.o32,hc.sg.c32,hc.sg.p32⟩⟩:RVp (fun _=>True) _ _ _ _ _ v) V hd (show (0:Int)≤v.no by omega) (show v.no≤(4294967296:Int) by omega)) (k:= ?_)
  rintro _ am ⟨ae,ai,rfl,al,I⟩
  have G:=(Fl.cel al).2.1
  refine ⟨_,rfl,?_⟩;intro G J;have G:=I.size
  have ah:Fl (Clip (fun b=>D.heap.size≤b) am) am 1 (vl ae 72 ai) 72 (byteVals v.msg):=al.clip
  have D:=aa.ext I
  have G:=ab.ext I
  refine ⟨fun _ _=>⟨eX,D,G⟩,?_⟩
  refine ao 14 rfl<|have U:=(hc.sg.op.ux I);have aa:=(hc.sg.cl.ux I);have ab:=(hc.sg.path.ux I);J.gE (c:=rverify_at (v:=(vl ae 72 ai)) (m:=72) (u1:=(vl O v.sg.op.length oc)) (u2:=(vl E v.sg.cl.length ec)) (u3:=(vl P v.sg.path.length pc)) (n1:=v.sg.op.length) (n2:=v.sg.cl.length) (n3:=v.sg.path.length) pub n v.msg v.sg _ hp ah U aa ab hc.sg.o32 hc.sg.c32 hc.sg.p32 ) (k:=fun I I J _ J=>?_)
  have U:=D.ext I
  have D:=G.ext I
  refine ⟨fun _ _=>⟨eX,U,D⟩,?_⟩
  refine J.ygw 15 (.bool (!(verifyF pub n v.msg v.sg))) rfl (fun F W=>rn_not' (F.get rfl) rfl)<|Yv 16 (.bool (!(verifyF pub n v.msg v.sg))) rfl fun _ D=>nK aj ?_
  have Y:=D.k [0,1,2,3,5,6,14,18,35]
  rcases Bool.eq_false_or_eq_true (verifyF pub n v.msg v.sg) with ac | ac
  ·exact Y.cf<|wp_skip<|av _ _<|wr fun D au=>Y.xv (vi 0) fun _ aq=>wn au<|wp_ret<|ret1 aq rfl rfl<|⟨ret_int (show verifyE pub n v=0 from (if_neg (by omega)).trans ((if_neg (fun q=>q V)).trans (if_neg (fun q=>q.elim (fun h1=>h1 (by omega)) (fun h2=>by rw [ac] at h2;cases h2))))).symm,eX⟩
  exact Y.ct<|wr fun D G=>Y.xv (vi 131) fun _ D=>wn G<|wp_ret<|ret_then<|ret1 D rfl rfl<|⟨ret_int (show verifyE pub n v=131 from (if_neg (by omega)).trans ((if_neg (fun q=>q V)).trans (if_pos (.inr ac)))).symm,eX⟩
 exact Z.ct<|wr fun D G=>Z.xv (vi 400) fun _ D=>wn G<|wp_ret<|ret_then<|ret1 D rfl rfl<|⟨ret_int (show verifyE pub n v=400 from (if_neg (by omega)).trans (if_pos V)).symm,eX⟩
theorem rverifyv_at {c:Value} (pub:List UInt8) (n:Int) (v:Vr) (w:World) (h:RVp S w c o e p v) (hp:pub.length=32) (hd:∀ x∈v.chs,x.data.length≤4294967296) :
  Calls Tryz.prog 15 #[.agg (byteVals pub).toArray,.int .i64 n,ag (vcs v.no v.state c v.sg.index o e p)] w (fun e w'=>e=.returned (vi (verifyE pub n v))∧Ext w w'):=by
 obtain ⟨C,cc,rfl,_⟩:=RLs.form h.chs
 obtain ⟨O,oc,rfl,_⟩:=Fl.form h.sg.op
 obtain ⟨E,ec,rfl,_⟩:=Fl.form h.sg.cl
 obtain ⟨P,pc,rfl,_⟩:=Fl.form h.sg.path
 exact rverifyv_any C cc O oc E ec P pc pub n v w h hp hd
theorem lastN_prev {n:Int} {l:List Vr} {y:Vr} (h0:0<k) (hp:l[k - 1]?=some y):lastN n l k=y.no:=by rw [lastN,if_neg (by omega),List.getD_eq_getElem?_getD,hp];rfl
theorem lastN_ge {n:Int} {l:List Vr} (h:∀ j,j<k→n<(l.getD j default).no):n≤lastN n l k:=by
 unfold lastN
 split
 ·omega
 ·exact Int.le_of_lt (h (k - 1) (by omega))
theorem getVr {l:List Vr} (h:l[i]?=some x):(l.getD i default).no=x.no:=by rw [List.getD_eq_getElem?_getD,h];rfl
theorem rfcheck_any (FA:Option Addr) (fa:Nat) (FE:Option Addr) (fe:Nat) (f:Fo) (w:World) (h:RFo S w (vl FA f.items.length fa) (vl FE f.early.length fe) f) (hdi:∀ x∈f.items,x.data.length≤4294967296) (hde:∀ v∈f.early,∀ x∈v.chs,x.data.length≤4294967296) :
  Calls Tryz.prog 21 #[(ag (dg f.pub [(vi f.many),(vi f.no),(vl FA f.items.length fa),(vl FE f.early.length fe)]))] w (fun e w'=>e=.returned (vi (checkFE f))∧Ext w w'):=by
 have hc:=RFo.subB (S':=Clip S w) h (fun _ hb hs=>⟨hs,hb⟩)
 obtain ⟨-,U,U⟩:=RLs.at hc.items;obtain ⟨-,U,U⟩:=RLs.at hc.early
 refine calls_enter Tryz.func21 rfl rfl rfl fun _ U=>wr fun Z aC=>U.xb rfl fun C U _ Z U U U aR=>Z.xv (vi 0) fun _ Z=>wn aC<|wp_seq_k fun aC aK=>wr fun aC aC=>Z.xv (vq C 32)<|Xw (vi f.many) (fun F=>rl F rfl ((U.rule.1 32).trans ((at_app (k:=0) (byteVals_len hc.pub)).trans rfl)))<|Xv (vd ((f.many:Int)<(1:Int)))<|Xm rfl fun _ Z=>?_
 by_cases aI:(f.many:Int)<(1:Int)
 ·exact Z.xu<|Xu<|Xu<|Xv (.bool true) fun _ D=>wn aC<|have C:=D.k [0,1,2,14];C.ct<|wr fun D D=>C.xv (vi 40) fun _ C=>wn D<|wp_ret<|ret_then<|ret1 C rfl rfl<|⟨ret_int (show checkFE f=40 from if_pos (by omega)).symm,eX⟩
 refine Z.xg (vq C 32)<|Xgw (vi f.many) (fun F=>rl F rfl ((U.rule.1 32).trans ((at_app (k:=0) (byteVals_len hc.pub)).trans rfl)))<|Xg (vd ((4096:Int)<(f.many:Int)))<|Xv (vd ((4096:Int)<(f.many:Int))) fun _ aI=>wn aC ?_
 have Z:=aI.k [0,1,2,14]
 by_cases aC:(4096:Int)<(f.many:Int)
 ·exact Z.ct<|wr fun C D=>Z.xv (vi 40) fun _ C=>wn D<|wp_ret<|ret_then<|ret1 C rfl rfl<|⟨ret_int (show checkFE f=40 from if_pos (by omega)).symm,eX⟩
 refine Z.cf<|wp_skip<|aK _ _<|wp_seq_k fun aC aK=>wr fun aC aC=>Z.xv (vq C 33)<|Xw (vi f.no) (fun F=>rl F rfl ((U.rule.1 33).trans ((at_app (k:=1) (byteVals_len hc.pub)).trans rfl)))<|Xv (vd ((f.no:Int)<(0:Int)))<|Xm rfl fun _ Z=>?_
 by_cases aI:(f.no:Int)<(0:Int)
 ·exact Z.xu<|Xu<|Xu<|Xv (.bool true) fun _ D=>wn aC<|have C:=D.k [0,1,2,14,22];C.ct<|wr fun D D=>C.xv (vi 420) fun _ C=>wn D<|wp_ret<|ret_then<|ret1 C rfl rfl<|⟨ret_int (show checkFE f=420 from (if_neg (by omega)).trans (if_pos (by omega))).symm,eX⟩
 refine Z.xg (vq C 33)<|Xgw (vi f.no) (fun F=>rl F rfl ((U.rule.1 33).trans ((at_app (k:=1) (byteVals_len hc.pub)).trans rfl)))<|Xg (vd ((4096:Int)<(f.no:Int)))<|Xv (vd ((4096:Int)<(f.no:Int))) fun _ aI=>wn aC ?_
 have Z:=aI.k [0,1,2,14,22]
 by_cases aC:(4096:Int)<(f.no:Int)
 ·exact Z.ct<|wr fun C D=>Z.xv (vi 420) fun _ C=>wn D<|wp_ret<|ret_then<|ret1 C rfl rfl<|⟨ret_int (show checkFE f=420 from (if_neg (by omega)).trans (if_pos (by omega))).symm,eX⟩
 refine Z.cf<|wp_skip<|aK _ _<|wr fun aC aI=>Z.xv (vq C 34)<|Xw (vl FA f.items.length fa) (fun F=>rl F rfl ((U.rule.1 34).trans ((at_app (k:=2) (byteVals_len hc.pub)).trans rfl))) fun _ Z=>have aC:=(RLs.ext rIt hc.items aR);Z.xe (rcheck_at (v:=(vl FA f.items.length fa)) f.items _ aC) fun aF aR Z _ Z=>Z.xa rfl fun _ Z=>wn aI<|wp_seq_k fun aC aI=>wr fun aC aK=>Z.xm rfl<|Xv (vd (((checkE f.items):Int)≠(0:Int))) fun _ aC=>wn aK ?_
 have Z:=aC.k [0,1,2,14,22,3,27]
 by_cases I:((checkE f.items):Int)≠(0:Int)
 ·exact Z.ct<|wr fun C D=>Z.xm rfl<|Xa rfl fun _ C=>wn D<|wp_ret<|ret_then<|ret1 C rfl rfl<|⟨ret_int (show checkFE f=(checkE f.items) from (if_neg (by omega)).trans ((if_neg (by omega)).trans (if_pos I))).symm,eX⟩
 refine Z.cf<|wp_skip<|aI _ _<|wp_seq_k fun aC aA=>wr fun aC aB=>Z.xv (vq C 33) fun _ Z=>have O:=(U.ext aR);Z.xw (vi f.no) (fun F=>rl F rfl ((O.rule.1 33).trans ((at_app (k:=1) (byteVals_len hc.pub)).trans rfl)))<|Xv (vd ((f.no:Int)=(0:Int)))<|Xm rfl fun _ aq=>?_
 by_cases U:(f.no:Int)=(0:Int)
 ·refine aq.xg (vq C 34)<|Xgw (vl FA f.items.length fa) (fun F=>rl F rfl ((O.rule.1 34).trans ((at_app (k:=2) (byteVals_len hc.pub)).trans rfl)))<|Xg (vi f.items.length)<|Xg (vd ((f.items.length:Int)≠(0:Int)))<|Xv (vd ((f.items.length:Int)≠(0:Int))) fun _ Z=>wn aB ?_
  have U:=Z.k [0,1,2,14,22,3,27,37]
  by_cases Z:(f.items.length:Int)≠(0:Int)
  ·exact U.ct<|wr fun C D=>U.xv (vi 400) fun _ C=>wn D<|wp_ret<|ret_then<|ret1 C rfl rfl<|⟨ret_int (show checkFE f=400 from (if_neg (by omega)).trans ((if_neg (by omega)).trans ((if_neg I).trans (if_pos (by omega))))).symm,eX⟩
  refine U.cf<|wp_skip<|aA _ _<|wp_seq_k fun Z Z=>wr fun aC aC=>U.xv (vq C 35)<|Xw (vl FE f.early.length fe) (fun F=>rl F rfl ((O.rule.1 35).trans ((at_app (k:=3) (byteVals_len hc.pub)).trans rfl)))<|Xv (vi f.early.length)<|Xv (vd ((64:Int)<(f.early.length:Int))) fun _ U=>wn aC ?_
  by_cases aC:(64:Int)<(f.early.length:Int)
  ·exact U.ct<|wr fun C D=>U.xv (vi 2) fun _ C=>wn D<|wp_ret<|ret_then<|ret1 C rfl rfl<|⟨ret_int (show checkFE f=2 from (if_neg (by omega)).trans ((if_neg (by omega)).trans ((if_neg I).trans ((if_neg (by omega)).trans (if_pos (by omega)))))).symm,eX⟩
  refine U.cf<|wp_skip<|Z _ _<|wp_seq_k fun Z aL=>wr fun Z Z=>U.xv (vi 0) fun _ U=>wn Z<|wp_block<|wp_loop (fun a' W=>∃ (k:Nat),Sl 99 [(0,(ag (dg f.pub [(vi f.many),(vi f.no),(vl FA f.items.length fa),(vl FE f.early.length fe)]))),(1,(vp C)),(2,(vi 0)),(14,(vd ((4096:Int)<(f.many:Int)))),(22,(vd ((4096:Int)<(f.no:Int)))),(3,(vi (checkE f.items))),(27,(vd (((checkE f.items):Int)≠(0:Int)))),(37,(vd ((f.items.length:Int)≠(0:Int)))),(41,(vd ((64:Int)<(f.early.length:Int)))),(4,(vi k))] a'∧k≤f.early.length∧(∀ j,j<k→lastN (f.no+1) f.early j<(f.early.getD j default).no)∧(∀ j,j<k→f.no+1<(f.early.getD j default).no)∧Ext w W∧Blk W C 48 (dg f.pub [(vi f.many),(vi f.no),(vl FA f.items.length fa),(vl FE f.early.length fe)])∧aF.heap.size≤W.heap.size) (fun a' _=>f.early.length - (intOf (a'.eval (.tmp 4))).toNat) ⟨0,U.j,(by omega),(fun j hj=>absurd hj (by omega)),(fun j hj=>absurd hj (by omega)),eX,O,(Nat.le_refl _)⟩ ?_
  rintro U aT ⟨k,U,Z,ae,ah,Z,ab,aC⟩
  have aD:=U
  have aC:=Z.size
  have Z:=ab.lt
  refine wp_seq_k fun Z Z=>wr fun aC aC=>U.xm rfl<|Xv (vq C 35)<|Xw (vl FE f.early.length fe) (fun F=>rl F rfl ((ab.rule.1 35).trans ((at_app (k:=3) (byteVals_len hc.pub)).trans rfl)))<|Xv (vi f.early.length)<|Xv (vd ((k:Int)<(f.early.length:Int))) fun _ U=>wn aC ?_
  have aa:=U.k [0,1,2,14,22,3,27,37,41,4,46]
  by_cases U:(k:Int)<(f.early.length:Int)
  ·refine aa.ct<|wp_skip<|Z _ _<|wp_seq_k fun U ax=>wp_block<|wp_seq_k fun U am=>sX (fun D W=>Ext D W∧Blk W C 48 (dg f.pub [(vi f.many),(vi f.no),(vl FA f.items.length fa),(vl FE f.early.length fe)])) (fun i=>false) 30 fun D U Z=>aa.yv 0 (vq C 35) rfl fun _ Z=>have al:=(ab.ext U);have J:Ext D D∧Blk D C 48 (dg f.pub [(vi f.many),(vi f.no),(vl FA f.items.length fa),(vl FE f.early.length fe)]):=⟨(Ext.refl D),al⟩;Z.ys 1 (vl FE f.early.length fe) rfl J (fun F W hW=>rl F rfl ((hW.2.rule.1 35).trans ((at_app (k:=3) (byteVals_len hc.pub)).trans rfl)))<|Ym 2 rfl fun _ aG=>?_
   have av:=RLs.ux rVr hc.early U
   obtain ⟨ac,ak,G,U,aw,V,U,ay,aN⟩:=RLs.get av (by omega:k<f.early.length)
   obtain ⟨U,U,U,U,rfl,ai⟩:=aN
   obtain ⟨U,U,rfl,U,U⟩:=RLs.form ai.chs
   obtain ⟨U,U,rfl,U,U⟩:=Fl.form ai.sg.op
   obtain ⟨U,U,rfl,U,U⟩:=Fl.form ai.sg.cl
   obtain ⟨U,U,rfl,U,U⟩:=Fl.form ai.sg.path
   refine aG.yw 3 (vq ac (ak+k*38)) rfl (fun F W=>rn_indexE uu25 inf34 ((F.get rfl).trans (by rw [aw])) (F.get rfl) (zl _) (il (by omega:k<f.early.length)) (by omega))<|Yv 4 (vq ac (ak+k*38)) rfl<|Ys 5 (vi G.no) rfl J (fun F W hW=>rl F rfl ((fun j u hu=>Ext.keep ((Ext.refl D).trans hW.1) (ay j u hu)) 0 _ rfl))<|Yv 6 (vq C 33) rfl<|Ys 7 (vi f.no) rfl J (fun F W hW=>rl F rfl ((hW.2.rule.1 33).trans ((at_app (k:=1) (byteVals_len hc.pub)).trans rfl)))<|Yv 8 (vi (f.no+1)) rfl<|Yv 9 (vd ((G.no:Int)≤(f.no+1:Int))) rfl<|Ym 10 rfl<|fun _ U=>?_
   by_cases Z:(G.no:Int)≤(f.no+1:Int)
   ·refine U.yu 11 rfl<|Yu 12 rfl<|Yu 13 rfl<|Yn 14 rfl<|Yn 15 rfl<|Yn 16 rfl<|Yn 17 rfl<|Yn 18 rfl<|Yn 19 rfl<|Yn 20 rfl<|Yn 21 rfl<|Yn 22 rfl<|Yn 23 rfl<|Yn 24 rfl<|Yn 25 rfl<|Yn 26 rfl<|Yn 27 rfl<|Yu 28 rfl<|Yv 29 (.bool true) rfl fun _ D=>nK am<|have C:=D.k [0,1,2,14,22,3,27,37,41,4,46,78];C.ct<|wr fun D D=>C.xv (vi 420) fun _ C=>wn D<|wp_ret<|ret_block<|ret_then<|ret_then<|ret_block<|ret_then<|ret1 C rfl rfl ?_
    have C:f.no+1≤lastN (f.no+1) f.early k:=lastN_ge ah;have C:k=0→lastN (f.no+1) f.early k=f.no+1:=fun h=>by rw [h];rfl
    exact ⟨ret_int (show checkFE f=420 from (if_neg (by omega)).trans ((if_neg (by omega)).trans ((if_neg I).trans ((if_neg (by omega)).trans ((if_neg (by omega)).trans (if_pos (asc_no V (by omega)))))))).symm,eX⟩
   refine U.yg 11 (vi k) rfl<|Yg 12 (vd ((0:Int)<(k:Int))) rfl<|Yg 13 (vd ((0:Int)<(k:Int))) rfl<|fun _ ar=>?_
   by_cases U:(0:Int)<(k:Int)
   ·refine ar.yg 14 (vq C 35) rfl<|Ysg 15 (vl FE f.early.length fe) rfl J (fun F W hW=>rl F rfl ((hW.2.rule.1 35).trans ((at_app (k:=3) (byteVals_len hc.pub)).trans rfl)))<|Yg 16 (vi k) rfl<|Ygw 17 (vi (k - 1:Nat)) rfl (fun F W=>rn_subN (a:=k) (b:=1) (F.get rfl) rfl (by omega) (by omega))<|fun _ aH=>?_
    obtain ⟨au,aE,Y,U,aJ,az,U,aM,aO⟩:=RLs.get av (by omega:(k - 1)<f.early.length)
    obtain ⟨U,U,U,U,rfl,aj⟩:=aO
    obtain ⟨U,U,rfl,U,U⟩:=RLs.form aj.chs
    obtain ⟨U,U,rfl,U,U⟩:=Fl.form aj.sg.op
    obtain ⟨U,U,rfl,U,U⟩:=Fl.form aj.sg.cl
    obtain ⟨U,U,rfl,U,U⟩:=Fl.form aj.sg.path
    refine aH.ygw 18 (.pointer (some ⟨au,aE+(k - 1)*38,none⟩)) rfl (fun F W=>rn_indexE uu25 inf34 ((F.get rfl).trans (by rw [aJ])) (F.get rfl) (by omega:(0:Int)≤(k - 1:Nat)) (by omega:((k - 1:Nat):Int)<(f.early.length:Int)) (by omega))<|Yg 19 (.pointer (some ⟨au,aE+(k - 1)*38,none⟩)) rfl<|Ysg 20 (vi Y.no) rfl J (fun F W hW=>rl F rfl ((fun j u hu=>Ext.keep ((Ext.refl D).trans hW.1) (aM j u hu)) 0 _ rfl))<|Yg 21 (vq C 35) rfl<|Ysg 22 (vl FE f.early.length fe) rfl J (fun F W hW=>rl F rfl ((hW.2.rule.1 35).trans ((at_app (k:=3) (byteVals_len hc.pub)).trans rfl)))<|Yg 23 (vi k) rfl<|Ygw 24 (vq ac (ak+k*38)) rfl (fun F W=>rn_indexE uu25 inf34 ((F.get rfl).trans (by rw [aw])) (F.get rfl) (zl _) (il (by omega:k<f.early.length)) (by omega))<|Yg 25 (vq ac (ak+k*38)) rfl<|Ysg 26 (vi G.no) rfl J (fun F W hW=>rl F rfl ((fun j u hu=>Ext.keep ((Ext.refl D).trans hW.1) (ay j u hu)) 0 _ rfl))<|Yg 27 (vd ((G.no:Int)≤(Y.no:Int))) rfl<|Yg 28 (vd ((G.no:Int)≤(Y.no:Int))) rfl<|Yv 29 (vd ((G.no:Int)≤(Y.no:Int))) rfl fun _ D=>nK am ?_
    have C:=D.k [0,1,2,14,22,3,27,37,41,4,46,78]
    by_cases D:(G.no:Int)≤(Y.no:Int)
    ·exact C.ct<|wr fun D D=>C.xv (vi 420) fun _ C=>wn D<|wp_ret<|ret_block<|ret_then<|ret_then<|ret_block<|ret_then<|ret1 C rfl rfl<|have C:=lastN_prev (n:=f.no+1) (k:=k) (by omega) (show f.early[k - 1]?=_ from (congrArg (fun z=>f.early[z]?) (by omega:k - 1=(k - 1))).trans az);⟨ret_int (show checkFE f=420 from (if_neg (by omega)).trans ((if_neg (by omega)).trans ((if_neg I).trans ((if_neg (by omega)).trans ((if_neg (by omega)).trans (if_pos (asc_no V (by omega)))))))).symm,eX⟩
    refine C.cf<|wp_skip<|ax _ _<|wp_region_lit<|C.xm rfl<|Xv (vi (k+1:Nat))<|Xa rfl fun _ D=>wpList_nil ?_
    have C:=lastN_prev (n:=f.no+1) (k:=k) (by omega) (show f.early[k - 1]?=_ from (congrArg (fun z=>f.early[z]?) (by omega:k - 1=(k - 1))).trans az)
    refine ⟨⟨(k+1),D.j,(by omega),(all_succ ae (asc_step V (by omega))),(all_succ ah (by rw [getVr V];omega)),eX,al,(by omega)⟩,?_⟩
    rw [D.get (t:=4) rfl,aD.get (t:=4) rfl];simp [intOf] <;> omega
   refine ar.yu 14 rfl<|Yu 15 rfl<|Yu 16 rfl<|Yu 17 rfl<|Yu 18 rfl<|Yu 19 rfl<|Yu 20 rfl<|Yu 21 rfl<|Yu 22 rfl<|Yu 23 rfl<|Yu 24 rfl<|Yu 25 rfl<|Yu 26 rfl<|Yu 27 rfl<|Yg 28 (.bool false) rfl<|Yv 29 (.bool false) rfl fun _ D=>nK am<|have C:=D.k [0,1,2,14,22,3,27,37,41,4,46,78];C.cf<|wp_skip<|ax _ _<|wp_region_lit<|C.xm rfl<|Xv (vi (k+1:Nat))<|Xa rfl fun _ D=>wpList_nil ?_
   have C:f.no+1≤lastN (f.no+1) f.early k:=lastN_ge ah;have C:k=0→lastN (f.no+1) f.early k=f.no+1:=fun h=>by rw [h];rfl
   refine ⟨⟨(k+1),D.j,(by omega),(all_succ ae (asc_step V (by omega))),(all_succ ah (by rw [getVr V];omega)),eX,al,(by omega)⟩,?_⟩
   rw [D.get (t:=4) rfl,aD.get (t:=4) rfl];simp [intOf] <;> omega
  refine aa.cf<|wp_exit<|exit_then<|exit_then<|exit_here<|aL _ _<|wp_seq_k fun U aJ=>wr fun U Z=>aa.xv (vi 0) fun _ U=>wn Z<|wp_block<|wp_loop (fun a' W=>∃ (j:Nat),Sl 99 [(0,(ag (dg f.pub [(vi f.many),(vi f.no),(vl FA f.items.length fa),(vl FE f.early.length fe)]))),(1,(vp C)),(2,(vi 0)),(14,(vd ((4096:Int)<(f.many:Int)))),(22,(vd ((4096:Int)<(f.no:Int)))),(3,(vi (checkE f.items))),(27,(vd (((checkE f.items):Int)≠(0:Int)))),(37,(vd ((f.items.length:Int)≠(0:Int)))),(41,(vd ((64:Int)<(f.early.length:Int)))),(4,(vi k)),(46,(vd ((k:Int)<(f.early.length:Int)))),(5,(vi (j:Nat)))] a'∧j≤f.early.length∧(∀ i,i<j→∀ x,f.early[i]?=some x→verifyE f.pub f.many x=0)∧Ext w W∧Blk W C 48 (dg f.pub [(vi f.many),(vi f.no),(vl FA f.items.length fa),(vl FE f.early.length fe)])∧aT.heap.size≤W.heap.size) (fun a' _=>f.early.length - (intOf (a'.eval (.tmp 5))).toNat) ⟨0,U.j,(by omega),(fun i hi=>absurd hi (by omega)),eX,ab,(Nat.le_refl _)⟩ ?_
  rintro U U ⟨j,Z,U,ai,aa,U,ab⟩
  have aO:=Z
  have ab:=aa.size
  have aa:=U.lt
  refine wp_seq_k fun aa aa=>wr fun ab ab=>Z.xm rfl<|Xv (vq C 35)<|Xw (vl FE f.early.length fe) (fun F=>rl F rfl ((U.rule.1 35).trans ((at_app (k:=3) (byteVals_len hc.pub)).trans rfl)))<|Xv (vi f.early.length)<|Xv (vd (((j:Nat):Int)<(f.early.length:Int))) fun _ Z=>wn ab ?_
  have V:=Z.k [0,1,2,14,22,3,27,37,41,4,46,5,83]
  by_cases Z:((j:Nat):Int)<(f.early.length:Int)
  ·refine V.ct<|wp_skip<|aa _ _<|wp_seq_k fun Z aM=>wp_block<|wp_seq_k fun Z aN=>sX (fun J W=>Ext J W∧Blk W C 48 (dg f.pub [(vi f.many),(vi f.no),(vl FA f.items.length fa),(vl FE f.early.length fe)])) (fun i=>false) 11 fun J Z aa=>V.yv 0 (vp C) rfl fun _ aa=>have au:=(U.ext Z);have Y:Ext J J∧Blk J C 48 (dg f.pub [(vi f.many),(vi f.no),(vl FA f.items.length fa),(vl FE f.early.length fe)]):=⟨(Ext.refl J),au⟩;aa.ys 1 (.agg (byteVals f.pub).toArray) rfl Y (fun F W hW=>rn_loadN (cs:=byteVals f.pub) (F.get rfl) uu29 rfl (sk inf29 (byteVals_len hc.pub)) (Blk.part (A:=[]) (M:=byteVals f.pub) (B:=[(vi f.many),(vi f.no),(vl FA f.items.length fa),(vl FE f.early.length fe)]) hW.2 (by simp) rfl))<|Yv 2 (vq C 32) rfl<|Ys 3 (vi f.many) rfl Y (fun F W hW=>rl F rfl ((hW.2.rule.1 32).trans ((at_app (k:=0) (byteVals_len hc.pub)).trans rfl)))<|Yv 4 (vq C 35) rfl<|Ys 5 (vl FE f.early.length fe) rfl Y (fun F W hW=>rl F rfl ((hW.2.rule.1 35).trans ((at_app (k:=3) (byteVals_len hc.pub)).trans rfl)))<|Ym 6 rfl fun _ aE=>?_
   have U:=RLs.ux rVr hc.early Z
   obtain ⟨aG,aS,D,Z,aH,ac,Z,aP,aQ⟩:=RLs.get U (by omega:j<f.early.length)
   obtain ⟨U,U,U,U,rfl,G⟩:=aQ
   obtain ⟨aj,aw,rfl,U,U⟩:=RLs.form G.chs
   obtain ⟨ak,ax,rfl,U,U⟩:=Fl.form G.sg.op
   obtain ⟨al,ay,rfl,U,U⟩:=Fl.form G.sg.cl
   obtain ⟨am,az,rfl,U,U⟩:=Fl.form G.sg.path
   refine aE.yw 7 (vq aG (aS+j*38)) rfl (fun F W=>rn_indexE uu25 inf34 ((F.get rfl).trans (by rw [aH])) (F.get rfl) (zl _) (il (by omega:j<f.early.length)) (by omega))<|Ys 8 (ag ((vi D.no)::dg D.state [(vl aj D.chs.length aw),(vi D.sg.index),(vl ak D.sg.op.length ax),(vl al D.sg.cl.length ay),(vl am D.sg.path.length az)])) rfl Y (fun F W hW=>rn_loadN (cs:=((vi D.no)::dg D.state [(vl aj D.chs.length aw),(vi D.sg.index),(vl ak D.sg.op.length ax),(vl al D.sg.cl.length ay),(vl am D.sg.path.length az)])) (F.get rfl) uu34 rfl (sk inf34 (len_dig1 G.st)) (fun j u hu=>Ext.keep ((Ext.refl J).trans hW.1) (aP j u hu))) fun _ J=>ao 9 rfl<|J.oe (rverifyv_at f.pub f.many D _ (⟨G.st,RLs.sub (S':=fun _=>True) rCg G.chs fun _ _=>trivial,⟨Fl.any G.sg.op,Fl.any G.sg.cl,Fl.any G.sg.path,G.sg.o32,G.sg.c32,G.sg.p32⟩⟩:RVp (fun _=>True) _ _ _ _ _ D) hc.pub (hde D (List.mem_of_getElem? ac))) fun G J G _ G=>?_
   have av:=au.ext J
   refine ⟨fun _ _=>⟨eX,av⟩,?_⟩
   refine G.yv 10 (vi (verifyE f.pub f.many D)) rfl fun _ G=>nK aN<|have J:=G.k [0,1,2,14,22,3,27,37,41,4,46,5,83,6];wr fun G U=>J.xm rfl<|Xv (vd (((verifyE f.pub f.many D):Int)≠(0:Int))) fun _ G=>wn U ?_
   by_cases J:((verifyE f.pub f.many D):Int)≠(0:Int)
   ·exact G.ct<|wr fun C J=>G.xm rfl<|Xa rfl fun _ C=>wn J<|wp_ret<|ret_block<|ret_then<|ret_then<|ret_block<|ret_then<|ret1 C rfl rfl<|⟨ret_int (show checkFE f=(verifyE f.pub f.many D) from (if_neg (by omega)).trans ((if_neg (by omega)).trans ((if_neg I).trans ((if_neg (by omega)).trans ((if_neg (by omega)).trans ((if_neg (fun q=>q (asc_of ae (by omega)))).trans (first_at ai ac (by omega)))))))).symm,eX⟩
   refine G.cf<|wp_skip<|aM _ _<|wp_region_lit<|G.xm rfl<|Xv (vi (j+1:Nat))<|Xa rfl fun _ ar=>wpList_nil ?_
   refine ⟨⟨(j+1),ar.j,(by omega),(all_succ ai (fun y hy=>by rw [ac] at hy;injection hy with hy;subst hy;omega)),eX,av,(by omega)⟩,?_⟩
   rw [ar.get (t:=5) rfl,aO.get (t:=5) rfl];simp [intOf] <;> omega
  exact V.cf<|wp_exit<|exit_then<|exit_then<|exit_here<|aJ _ _<|wr fun C D=>V.xv (vi 0) fun _ C=>wn D<|wp_ret<|ret1 C rfl rfl<|⟨ret_int (show checkFE f=0 from (if_neg (by omega)).trans ((if_neg (by omega)).trans ((if_neg I).trans ((if_neg (by omega)).trans ((if_neg (by omega)).trans ((if_neg (fun q=>q (asc_of ae (by omega)))).trans (first_all ai (by omega)))))))).symm,eX⟩
 refine aq.xu<|Xu<|Xu<|Xu<|Xv (.bool false) fun _ Z=>wn aB<|have U:=Z.k [0,1,2,14,22,3,27,37];U.cf<|wp_skip<|aA _ _<|wp_seq_k fun Z Z=>wr fun aq aq=>U.xv (vq C 35)<|Xw (vl FE f.early.length fe) (fun F=>rl F rfl ((O.rule.1 35).trans ((at_app (k:=3) (byteVals_len hc.pub)).trans rfl)))<|Xv (vi f.early.length)<|Xv (vd ((64:Int)<(f.early.length:Int))) fun _ U=>wn aq ?_
 by_cases aq:(64:Int)<(f.early.length:Int)
 ·exact U.ct<|wr fun C D=>U.xv (vi 2) fun _ C=>wn D<|wp_ret<|ret_then<|ret1 C rfl rfl<|⟨ret_int (show checkFE f=2 from (if_neg (by omega)).trans ((if_neg (by omega)).trans ((if_neg I).trans ((if_neg (by omega)).trans (if_pos (by omega)))))).symm,eX⟩
 refine U.cf<|wp_skip<|Z _ _<|wp_seq_k fun Z aL=>wr fun Z Z=>U.xv (vi 0) fun _ U=>wn Z<|wp_block<|wp_loop (fun a' W=>∃ (k:Nat),Sl 99 [(0,(ag (dg f.pub [(vi f.many),(vi f.no),(vl FA f.items.length fa),(vl FE f.early.length fe)]))),(1,(vp C)),(2,(vi 0)),(14,(vd ((4096:Int)<(f.many:Int)))),(22,(vd ((4096:Int)<(f.no:Int)))),(3,(vi (checkE f.items))),(27,(vd (((checkE f.items):Int)≠(0:Int)))),(37,(.bool false)),(41,(vd ((64:Int)<(f.early.length:Int)))),(4,(vi k))] a'∧k≤f.early.length∧(∀ j,j<k→lastN (f.no+1) f.early j<(f.early.getD j default).no)∧(∀ j,j<k→f.no+1<(f.early.getD j default).no)∧Ext w W∧Blk W C 48 (dg f.pub [(vi f.many),(vi f.no),(vl FA f.items.length fa),(vl FE f.early.length fe)])∧aF.heap.size≤W.heap.size) (fun a' _=>f.early.length - (intOf (a'.eval (.tmp 4))).toNat) ⟨0,U.j,(by omega),(fun j hj=>absurd hj (by omega)),(fun j hj=>absurd hj (by omega)),eX,O,(Nat.le_refl _)⟩ ?_
 rintro O aT ⟨k,O,U,ae,ah,U,ab,Z⟩
 have aD:=O
 have Z:=U.size
 have U:=ab.lt
 refine wp_seq_k fun U U=>wr fun Z Z=>O.xm rfl<|Xv (vq C 35)<|Xw (vl FE f.early.length fe) (fun F=>rl F rfl ((ab.rule.1 35).trans ((at_app (k:=3) (byteVals_len hc.pub)).trans rfl)))<|Xv (vi f.early.length)<|Xv (vd ((k:Int)<(f.early.length:Int))) fun _ O=>wn Z ?_
 have aa:=O.k [0,1,2,14,22,3,27,37,41,4,46]
 by_cases O:(k:Int)<(f.early.length:Int)
 ·refine aa.ct<|wp_skip<|U _ _<|wp_seq_k fun O ax=>wp_block<|wp_seq_k fun O am=>sX (fun D W=>Ext D W∧Blk W C 48 (dg f.pub [(vi f.many),(vi f.no),(vl FA f.items.length fa),(vl FE f.early.length fe)])) (fun i=>false) 30 fun D O U=>aa.yv 0 (vq C 35) rfl fun _ U=>have al:=(ab.ext O);have J:Ext D D∧Blk D C 48 (dg f.pub [(vi f.many),(vi f.no),(vl FA f.items.length fa),(vl FE f.early.length fe)]):=⟨(Ext.refl D),al⟩;U.ys 1 (vl FE f.early.length fe) rfl J (fun F W hW=>rl F rfl ((hW.2.rule.1 35).trans ((at_app (k:=3) (byteVals_len hc.pub)).trans rfl)))<|Ym 2 rfl fun _ aG=>?_
  have av:=RLs.ux rVr hc.early O
  obtain ⟨ac,ak,G,O,aw,V,O,ay,aN⟩:=RLs.get av (by omega:k<f.early.length)
  obtain ⟨O,O,O,O,rfl,ai⟩:=aN
  obtain ⟨O,O,rfl,O,O⟩:=RLs.form ai.chs
  obtain ⟨O,O,rfl,O,O⟩:=Fl.form ai.sg.op
  obtain ⟨O,O,rfl,O,O⟩:=Fl.form ai.sg.cl
  obtain ⟨O,O,rfl,O,O⟩:=Fl.form ai.sg.path
  refine aG.yw 3 (vq ac (ak+k*38)) rfl (fun F W=>rn_indexE uu25 inf34 ((F.get rfl).trans (by rw [aw])) (F.get rfl) (zl _) (il (by omega:k<f.early.length)) (by omega))<|Yv 4 (vq ac (ak+k*38)) rfl<|Ys 5 (vi G.no) rfl J (fun F W hW=>rl F rfl ((fun j u hu=>Ext.keep ((Ext.refl D).trans hW.1) (ay j u hu)) 0 _ rfl))<|Yv 6 (vq C 33) rfl<|Ys 7 (vi f.no) rfl J (fun F W hW=>rl F rfl ((hW.2.rule.1 33).trans ((at_app (k:=1) (byteVals_len hc.pub)).trans rfl)))<|Yv 8 (vi (f.no+1)) rfl<|Yv 9 (vd ((G.no:Int)≤(f.no+1:Int))) rfl<|Ym 10 rfl<|fun _ O=>?_
  by_cases U:(G.no:Int)≤(f.no+1:Int)
  ·refine O.yu 11 rfl<|Yu 12 rfl<|Yu 13 rfl<|Yn 14 rfl<|Yn 15 rfl<|Yn 16 rfl<|Yn 17 rfl<|Yn 18 rfl<|Yn 19 rfl<|Yn 20 rfl<|Yn 21 rfl<|Yn 22 rfl<|Yn 23 rfl<|Yn 24 rfl<|Yn 25 rfl<|Yn 26 rfl<|Yn 27 rfl<|Yu 28 rfl<|Yv 29 (.bool true) rfl fun _ D=>nK am<|have C:=D.k [0,1,2,14,22,3,27,37,41,4,46,78];C.ct<|wr fun D D=>C.xv (vi 420) fun _ C=>wn D<|wp_ret<|ret_block<|ret_then<|ret_then<|ret_block<|ret_then<|ret1 C rfl rfl ?_
   have C:f.no+1≤lastN (f.no+1) f.early k:=lastN_ge ah;have C:k=0→lastN (f.no+1) f.early k=f.no+1:=fun h=>by rw [h];rfl
   exact ⟨ret_int (show checkFE f=420 from (if_neg (by omega)).trans ((if_neg (by omega)).trans ((if_neg I).trans ((if_neg (by omega)).trans ((if_neg (by omega)).trans (if_pos (asc_no V (by omega)))))))).symm,eX⟩
  refine O.yg 11 (vi k) rfl<|Yg 12 (vd ((0:Int)<(k:Int))) rfl<|Yg 13 (vd ((0:Int)<(k:Int))) rfl<|fun _ ar=>?_
  by_cases O:(0:Int)<(k:Int)
  ·refine ar.yg 14 (vq C 35) rfl<|Ysg 15 (vl FE f.early.length fe) rfl J (fun F W hW=>rl F rfl ((hW.2.rule.1 35).trans ((at_app (k:=3) (byteVals_len hc.pub)).trans rfl)))<|Yg 16 (vi k) rfl<|Ygw 17 (vi (k - 1:Nat)) rfl (fun F W=>rn_subN (a:=k) (b:=1) (F.get rfl) rfl (by omega) (by omega))<|fun _ aH=>?_
   obtain ⟨au,aE,Y,O,aJ,az,O,aM,aO⟩:=RLs.get av (by omega:(k - 1)<f.early.length)
   obtain ⟨O,O,O,O,rfl,aj⟩:=aO
   obtain ⟨O,O,rfl,O,O⟩:=RLs.form aj.chs
   obtain ⟨O,O,rfl,O,O⟩:=Fl.form aj.sg.op
   obtain ⟨O,O,rfl,O,O⟩:=Fl.form aj.sg.cl
   obtain ⟨O,O,rfl,O,O⟩:=Fl.form aj.sg.path
   refine aH.ygw 18 (.pointer (some ⟨au,aE+(k - 1)*38,none⟩)) rfl (fun F W=>rn_indexE uu25 inf34 ((F.get rfl).trans (by rw [aJ])) (F.get rfl) (by omega:(0:Int)≤(k - 1:Nat)) (by omega:((k - 1:Nat):Int)<(f.early.length:Int)) (by omega))<|Yg 19 (.pointer (some ⟨au,aE+(k - 1)*38,none⟩)) rfl<|Ysg 20 (vi Y.no) rfl J (fun F W hW=>rl F rfl ((fun j u hu=>Ext.keep ((Ext.refl D).trans hW.1) (aM j u hu)) 0 _ rfl))<|Yg 21 (vq C 35) rfl<|Ysg 22 (vl FE f.early.length fe) rfl J (fun F W hW=>rl F rfl ((hW.2.rule.1 35).trans ((at_app (k:=3) (byteVals_len hc.pub)).trans rfl)))<|Yg 23 (vi k) rfl<|Ygw 24 (vq ac (ak+k*38)) rfl (fun F W=>rn_indexE uu25 inf34 ((F.get rfl).trans (by rw [aw])) (F.get rfl) (zl _) (il (by omega:k<f.early.length)) (by omega))<|Yg 25 (vq ac (ak+k*38)) rfl<|Ysg 26 (vi G.no) rfl J (fun F W hW=>rl F rfl ((fun j u hu=>Ext.keep ((Ext.refl D).trans hW.1) (ay j u hu)) 0 _ rfl))<|Yg 27 (vd ((G.no:Int)≤(Y.no:Int))) rfl<|Yg 28 (vd ((G.no:Int)≤(Y.no:Int))) rfl<|Yv 29 (vd ((G.no:Int)≤(Y.no:Int))) rfl fun _ D=>nK am ?_
   have C:=D.k [0,1,2,14,22,3,27,37,41,4,46,78]
   by_cases D:(G.no:Int)≤(Y.no:Int)
   ·exact C.ct<|wr fun D D=>C.xv (vi 420) fun _ C=>wn D<|wp_ret<|ret_block<|ret_then<|ret_then<|ret_block<|ret_then<|ret1 C rfl rfl<|have C:=lastN_prev (n:=f.no+1) (k:=k) (by omega) (show f.early[k - 1]?=_ from (congrArg (fun z=>f.early[z]?) (by omega:k - 1=(k - 1))).trans az);⟨ret_int (show checkFE f=420 from (if_neg (by omega)).trans ((if_neg (by omega)).trans ((if_neg I).trans ((if_neg (by omega)).trans ((if_neg (by omega)).trans (if_pos (asc_no V (by omega)))))))).symm,eX⟩
   refine C.cf<|wp_skip<|ax _ _<|wp_region_lit<|C.xm rfl<|Xv (vi (k+1:Nat))<|Xa rfl fun _ D=>wpList_nil ?_
   have C:=lastN_prev (n:=f.no+1) (k:=k) (by omega) (show f.early[k - 1]?=_ from (congrArg (fun z=>f.early[z]?) (by omega:k - 1=(k - 1))).trans az)
   refine ⟨⟨(k+1),D.j,(by omega),(all_succ ae (asc_step V (by omega))),(all_succ ah (by rw [getVr V];omega)),eX,al,(by omega)⟩,?_⟩
   rw [D.get (t:=4) rfl,aD.get (t:=4) rfl];simp [intOf] <;> omega
  refine ar.yu 14 rfl<|Yu 15 rfl<|Yu 16 rfl<|Yu 17 rfl<|Yu 18 rfl<|Yu 19 rfl<|Yu 20 rfl<|Yu 21 rfl<|Yu 22 rfl<|Yu 23 rfl<|Yu 24 rfl<|Yu 25 rfl<|Yu 26 rfl<|Yu 27 rfl<|Yg 28 (.bool false) rfl<|Yv 29 (.bool false) rfl fun _ D=>nK am<|have C:=D.k [0,1,2,14,22,3,27,37,41,4,46,78];C.cf<|wp_skip<|ax _ _<|wp_region_lit<|C.xm rfl<|Xv (vi (k+1:Nat))<|Xa rfl fun _ D=>wpList_nil ?_
  have C:f.no+1≤lastN (f.no+1) f.early k:=lastN_ge ah;have C:k=0→lastN (f.no+1) f.early k=f.no+1:=fun h=>by rw [h];rfl
  refine ⟨⟨(k+1),D.j,(by omega),(all_succ ae (asc_step V (by omega))),(all_succ ah (by rw [getVr V];omega)),eX,al,(by omega)⟩,?_⟩
  rw [D.get (t:=4) rfl,aD.get (t:=4) rfl];simp [intOf] <;> omega
 refine aa.cf<|wp_exit<|exit_then<|exit_then<|exit_here<|aL _ _<|wp_seq_k fun O aJ=>wr fun O U=>aa.xv (vi 0) fun _ O=>wn U<|wp_block<|wp_loop (fun a' W=>∃ (j:Nat),Sl 99 [(0,(ag (dg f.pub [(vi f.many),(vi f.no),(vl FA f.items.length fa),(vl FE f.early.length fe)]))),(1,(vp C)),(2,(vi 0)),(14,(vd ((4096:Int)<(f.many:Int)))),(22,(vd ((4096:Int)<(f.no:Int)))),(3,(vi (checkE f.items))),(27,(vd (((checkE f.items):Int)≠(0:Int)))),(37,(.bool false)),(41,(vd ((64:Int)<(f.early.length:Int)))),(4,(vi k)),(46,(vd ((k:Int)<(f.early.length:Int)))),(5,(vi (j:Nat)))] a'∧j≤f.early.length∧(∀ i,i<j→∀ x,f.early[i]?=some x→verifyE f.pub f.many x=0)∧Ext w W∧Blk W C 48 (dg f.pub [(vi f.many),(vi f.no),(vl FA f.items.length fa),(vl FE f.early.length fe)])∧aT.heap.size≤W.heap.size) (fun a' _=>f.early.length - (intOf (a'.eval (.tmp 5))).toNat) ⟨0,O.j,(by omega),(fun i hi=>absurd hi (by omega)),eX,ab,(Nat.le_refl _)⟩ ?_
 rintro O O ⟨j,U,O,ai,Z,O,aa⟩
 have aO:=U
 have aa:=Z.size
 have Z:=O.lt
 refine wp_seq_k fun Z Z=>wr fun aa aa=>U.xm rfl<|Xv (vq C 35)<|Xw (vl FE f.early.length fe) (fun F=>rl F rfl ((O.rule.1 35).trans ((at_app (k:=3) (byteVals_len hc.pub)).trans rfl)))<|Xv (vi f.early.length)<|Xv (vd (((j:Nat):Int)<(f.early.length:Int))) fun _ U=>wn aa ?_
 have V:=U.k [0,1,2,14,22,3,27,37,41,4,46,5,83]
 by_cases U:((j:Nat):Int)<(f.early.length:Int)
 ·refine V.ct<|wp_skip<|Z _ _<|wp_seq_k fun U aM=>wp_block<|wp_seq_k fun U aN=>sX (fun J W=>Ext J W∧Blk W C 48 (dg f.pub [(vi f.many),(vi f.no),(vl FA f.items.length fa),(vl FE f.early.length fe)])) (fun i=>false) 11 fun J U Z=>V.yv 0 (vp C) rfl fun _ Z=>have au:=(O.ext U);have Y:Ext J J∧Blk J C 48 (dg f.pub [(vi f.many),(vi f.no),(vl FA f.items.length fa),(vl FE f.early.length fe)]):=⟨(Ext.refl J),au⟩;Z.ys 1 (.agg (byteVals f.pub).toArray) rfl Y (fun F W hW=>rn_loadN (cs:=byteVals f.pub) (F.get rfl) uu29 rfl (sk inf29 (byteVals_len hc.pub)) (Blk.part (A:=[]) (M:=byteVals f.pub) (B:=[(vi f.many),(vi f.no),(vl FA f.items.length fa),(vl FE f.early.length fe)]) hW.2 (by simp) rfl))<|Yv 2 (vq C 32) rfl<|Ys 3 (vi f.many) rfl Y (fun F W hW=>rl F rfl ((hW.2.rule.1 32).trans ((at_app (k:=0) (byteVals_len hc.pub)).trans rfl)))<|Yv 4 (vq C 35) rfl<|Ys 5 (vl FE f.early.length fe) rfl Y (fun F W hW=>rl F rfl ((hW.2.rule.1 35).trans ((at_app (k:=3) (byteVals_len hc.pub)).trans rfl)))<|Ym 6 rfl fun _ aE=>?_
  have C:=RLs.ux rVr hc.early U
  obtain ⟨aG,aS,D,O,aH,ac,O,aP,aQ⟩:=RLs.get C (by omega:j<f.early.length)
  obtain ⟨C,C,C,C,rfl,G⟩:=aQ
  obtain ⟨aj,aw,rfl,C,C⟩:=RLs.form G.chs
  obtain ⟨ak,ax,rfl,C,C⟩:=Fl.form G.sg.op
  obtain ⟨al,ay,rfl,C,C⟩:=Fl.form G.sg.cl
  obtain ⟨am,az,rfl,C,C⟩:=Fl.form G.sg.path
  refine aE.yw 7 (vq aG (aS+j*38)) rfl (fun F W=>rn_indexE uu25 inf34 ((F.get rfl).trans (by rw [aH])) (F.get rfl) (zl _) (il (by omega:j<f.early.length)) (by omega))<|Ys 8 (ag ((vi D.no)::dg D.state [(vl aj D.chs.length aw),(vi D.sg.index),(vl ak D.sg.op.length ax),(vl al D.sg.cl.length ay),(vl am D.sg.path.length az)])) rfl Y (fun F W hW=>rn_loadN (cs:=((vi D.no)::dg D.state [(vl aj D.chs.length aw),(vi D.sg.index),(vl ak D.sg.op.length ax),(vl al D.sg.cl.length ay),(vl am D.sg.path.length az)])) (F.get rfl) uu34 rfl (sk inf34 (len_dig1 G.st)) (fun j u hu=>Ext.keep ((Ext.refl J).trans hW.1) (aP j u hu))) fun _ C=>ao 9 rfl<|C.oe (rverifyv_at f.pub f.many D _ (⟨G.st,RLs.sub (S':=fun _=>True) rCg G.chs fun _ _=>trivial,⟨Fl.any G.sg.op,Fl.any G.sg.cl,Fl.any G.sg.path,G.sg.o32,G.sg.c32,G.sg.p32⟩⟩:RVp (fun _=>True) _ _ _ _ _ D) hc.pub (hde D (List.mem_of_getElem? ac))) fun C G C _ C=>?_
  have av:=au.ext G
  refine ⟨fun _ _=>⟨eX,av⟩,?_⟩
  refine C.yv 10 (vi (verifyE f.pub f.many D)) rfl fun _ C=>nK aN<|have G:=C.k [0,1,2,14,22,3,27,37,41,4,46,5,83,6];wr fun C J=>G.xm rfl<|Xv (vd (((verifyE f.pub f.many D):Int)≠(0:Int))) fun _ C=>wn J ?_
  by_cases G:((verifyE f.pub f.many D):Int)≠(0:Int)
  ·exact C.ct<|wr fun G G=>C.xm rfl<|Xa rfl fun _ C=>wn G<|wp_ret<|ret_block<|ret_then<|ret_then<|ret_block<|ret_then<|ret1 C rfl rfl<|⟨ret_int (show checkFE f=(verifyE f.pub f.many D) from (if_neg (by omega)).trans ((if_neg (by omega)).trans ((if_neg I).trans ((if_neg (by omega)).trans ((if_neg (by omega)).trans ((if_neg (fun q=>q (asc_of ae (by omega)))).trans (first_at ai ac (by omega)))))))).symm,eX⟩
  refine C.cf<|wp_skip<|aM _ _<|wp_region_lit<|C.xm rfl<|Xv (vi (j+1:Nat))<|Xa rfl fun _ ar=>wpList_nil ?_
  refine ⟨⟨(j+1),ar.j,(by omega),(all_succ ai (fun y hy=>by rw [ac] at hy;injection hy with hy;subst hy;omega)),eX,av,(by omega)⟩,?_⟩
  rw [ar.get (t:=5) rfl,aO.get (t:=5) rfl];simp [intOf] <;> omega
 exact V.cf<|wp_exit<|exit_then<|exit_then<|exit_here<|aJ _ _<|wr fun C D=>V.xv (vi 0) fun _ C=>wn D<|wp_ret<|ret1 C rfl rfl<|⟨ret_int (show checkFE f=0 from (if_neg (by omega)).trans ((if_neg (by omega)).trans ((if_neg I).trans ((if_neg (by omega)).trans ((if_neg (by omega)).trans ((if_neg (fun q=>q (asc_of ae (by omega)))).trans (first_all ai (by omega)))))))).symm,eX⟩
theorem rfcheck_at {c:Value} (f:Fo) (w:World) (h:RFo S w c e f) (hdi:∀ x∈f.items,x.data.length≤4294967296) (hde:∀ v∈f.early,∀ x∈v.chs,x.data.length≤4294967296) :
  Calls Tryz.prog 21 #[ag (fcs f.pub f.many f.no c e)] w (fun e w'=>e=.returned (vi (checkFE f))∧Ext w w'):=by
 obtain ⟨FA,fa,rfl,_⟩:=RLs.form h.items
 obtain ⟨FE,fe,rfl,_⟩:=RLs.form h.early
 exact rfcheck_any FA fa FE fe f w h hdi hde
end Go.Proofs.YtihgmaoghbnnaaaGreatDoor
