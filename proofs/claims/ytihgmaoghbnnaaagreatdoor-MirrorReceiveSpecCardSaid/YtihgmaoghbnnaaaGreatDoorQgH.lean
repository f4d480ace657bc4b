/- Several texts in one: NrK, NrL, MrX, MrU, MrY, MrW, MsA, NsB. -/
import Derived.Test.YtihgmaoghbnnaaaGreatDoorProg
import Derived.Test.YtihgmaoghbnnaaaGreatDoorQgG
import Derived.Test.YtihgmaoghbnnaaaGreatDoorQgF
import Derived.KernelRfl
import Derived.Test.YtihgmaoghbnnaaaGreatDoorQgA
import Derived.Test.YtihgmaoghbnnaaaGreatDoorQgB
import Derived.Test.YtihgmaoghbnnaaaGreatDoorQgD
set_option linter.unusedVariables false
set_option linter.unusedSimpArgs false
set_option maxRecDepth 100000
set_option maxHeartbeats 1000000
namespace Go.Proofs.YtihgmaoghbnnaaaGreatDoor
open Go.RowKit
variable {f:Fo} {a b l:List It} {sd:List UInt8} {S S' S1 S2:Nat→Prop} {c c1 c2 e e1 e2 o1 p1:Value} {v:Vr}
theorem rapplied_any (FA:Option Addr) (fa:Nat) (FE:Option Addr) (fe:Nat) (C:Option Addr) (cc:Nat) (O:Option Addr) (oc:Nat) (E:Option Addr) (ec:Nat) (P:Option Addr) (pc:Nat) (f:Fo) (v:Vr) (w:World) (hf:RFo S w (vl FA f.items.length fa) (vl FE f.early.length fe) f) (hv:RVp S w (vl C v.chs.length cc) (vl O v.sg.op.length oc) (vl E v.sg.cl.length ec) (vl P v.sg.path.length pc) v) (hno:v.no=f.no+1) (h0:0≤f.no∧f.no≤4096) (hdi:∀ x∈f.items,x.data.length≤4294967296) (hdv:∀ x∈v.chs,x.data.length≤4294967296) :
  Calls Tryz.prog 46 #[(ag (dg f.pub [(vi f.many),(vi f.no),(vl FA f.items.length fa),(vl FE f.early.length fe)])),(ag ((vi v.no)::dg v.state [(vl C v.chs.length cc),(vi v.sg.index),(vl O v.sg.op.length oc),(vl E v.sg.cl.length ec),(vl P v.sg.path.length pc)]))] w (fun en w'=>∃ c' e',en=.returned (.tuple #[ag (fcs (stepF f v).pub (stepF f v).many (stepF f v).no c' e'),.bool (decide (fits f v))])∧RFo (Fr S w) w' c' e' (stepF f v)∧Ext w w'):=by
 have hfc:=RFo.subB (S':=Clip S w) hf (fun _ hb hs=>⟨hs,hb⟩)
 obtain ⟨-,hfc1,hfc2⟩:=RLs.at hfc.items;obtain ⟨-,hfc3,hfc4⟩:=RLs.at hfc.early
 have hvc:=RVp.subB (S':=Clip S w) hv (fun _ hb hs=>⟨hs,hb⟩)
 obtain ⟨-,hvc1,hvc2⟩:=RLs.at hvc.chs;have hvc3:=(Fl.cel hvc.sg.op).2.1;have hvc4:=(Fl.cel hvc.sg.cl).2.1;have hvc5:=(Fl.cel hvc.sg.path).2.1
 refine calls_enter Tryz.func46 rfl rfl rfl fun _ D=>wr fun K1 ah=>D.xb rfl fun g2 D _ D z6 z7 b4 ac=>D.xb rfl fun Z D _ D ac ac ae ac=>D.xz fz 48 fun D ak _ ac D D Y D=>ac.xv (.bool false) fun _ ac=>wn ah<|wr fun ah aj=>ac.xv (vq g2 34) fun _ ac=>have U:=b4.ux D;ac.xw (vl FA f.items.length fa) (fun F=>rl F rfl ((U.rule.1 34).trans ((at_app (k:=2) (byteVals_len hfc.pub)).trans rfl)))<|Xv (vq Z 33) fun _ ac=>have I:=(ae.ext D);ac.xw (vl C v.chs.length cc) (fun F=>rl F rfl ((I.rule.1 33).trans ((at_app (k:=0) (byteVals_len hvc.st)).trans rfl))) fun _ ac=>have ae:=(RLs.ux rIt hfc.items D);have ah:=(RLs.ux rCg hvc.chs D);ac.xc (rapply_at (u:=(vl FA f.items.length fa)) (v:=(vl C v.chs.length cc)) f.items v.chs _ ae ah) ?_
 rintro _ aa ⟨G,J,rfl,ab,V⟩
 refine ⟨_,rfl,?_⟩;intro D D;have ac:=V.size
 have ai:RLs RIt 2 (Clip (Fr (Clip S w) ak) aa) aa (vl G ((applyV f.items v.chs).length) J) (applyV f.items v.chs):=RLs.clip rIt ab
 obtain ⟨-,ac,ac⟩:=RLs.at ab
 refine D.xm rfl<|Xv (vl G ((applyV f.items v.chs).length) J)<|Xv (vi (applyE f.items v.chs))<|Xa rfl<|Xa rfl fun _ D=>wn aj<|have ab:=D.k [0,1,2,3,4,5,6,7];wp_seq_k fun D ae=>wr fun D ah=>ab.xv (vp Z) fun _ D=>have ac:=(I.ext V);D.xw (vi v.no) (fun F=>rl F rfl ((ac.rule.1 0).trans rfl))<|Xv (vq g2 33) fun _ D=>have I:=(U.ext V);D.xw (vi f.no) (fun F=>rl F rfl ((I.rule.1 33).trans ((at_app (k:=1) (byteVals_len hfc.pub)).trans rfl)))<|Xv (vi (f.no+1))<|Xv (vd ((v.no:Int)≠(f.no+1:Int)))<|Xm rfl fun _ D=>qg 7 (vi (applyE f.items v.chs)) D ((decide_eq_false (by omega)):decide ((v.no:Int)≠(f.no+1:Int))=false) (rn_move (D.get rfl)) fun _ D=>?_
 refine qg 8 (vd (((applyE f.items v.chs):Int)≠(0:Int))) D ((decide_eq_false (by omega)):decide ((v.no:Int)≠(f.no+1:Int))=false) (rn_neq (D.get rfl) rfl) fun _ D=>?_
 refine D.xw (vd (((applyE f.items v.chs):Int)≠(0:Int))) (fun F=>rn_pickF (c_false F rfl ((decide_eq_false (by omega)):decide ((v.no:Int)≠(f.no+1:Int))=false)) (F.get rfl)) fun _ U=>wn ah ?_
 have D:=U.k [0,1,2,3,4,5,6,7,27]
 by_cases U:((applyE f.items v.chs):Int)≠(0:Int)
 ·refine D.ct<|wr fun G J=>D.xw (ag (dg f.pub [(vi f.many),(vi f.no),(vl FA f.items.length fa),(vl FE f.early.length fe)])) (fun F=>rb F rfl I (hk:=len_dig hfc.pub)) fun _ G=>?_
  have D:=Y.ext V
  refine G.xs rfl D (fun D I D=>?_) (hk:=len_dig hfc.pub);have V:=D.size
  refine G.xv (.bool false) fun _ G=>wn J<|wp_ret<|ret_then ?_
  refine retC1 G rfl rfl rfl I uu48 rfl (sk inf48 (len_dig hfc.pub)) ?_
  have hnf:¬ fits f v:=(fun q=>U q.1)
  have hst:stepF f v=f:=if_neg hnf
  rw [hst,decide_eq_false hnf]
  have G:=RLs.ug rIt hfc.items D
  have I:=RLs.ug rVr hfc.early D
  exact ⟨_,_,rfl,⟨hfc.pub,RLs.sub rIt G (fun b hb=>.inl hb.1),RLs.sub rVr I (fun b hb=>.inl hb.1)⟩,eX⟩
 refine D.cf<|wp_skip<|ae _ _<|wr fun V ab=>D.xm rfl fun _ D=>D.xE (c:=rstate_at (v:=(vl G ((applyV f.items v.chs).length) J)) (applyV f.items v.chs) _ ai (applyV_sm hdi hdv) (by have:=applyV_len f.items v.chs;omega)) (k:=fun D al D _ D=>D.xm rfl<|Xv (.agg (byteVals (stateD (applyV f.items v.chs))).toArray)<|Xv (vi (checkE (applyV f.items v.chs))) fun _ D=>D.xz (byteVals (List.replicate 32 0)) 29 fun D D _ V D D D am=>?_)
 refine V.xs rfl D (fun D aj D=>?_) (hk:=byteVals_len (stateD_len _));have ae:=D.size
 refine V.xa rfl fun _ V=>wn ab<|have ab:=V.k [0,1,2,3,4,5,6,7,27,8,9];wp_seq_k fun V ak=>wr fun V ae=>ab.xm rfl<|Xv (vd (((checkE (applyV f.items v.chs)):Int)≠(0:Int)))<|Xm rfl fun _ V=>?_
 by_cases ah:((checkE (applyV f.items v.chs)):Int)≠(0:Int)
 ·refine V.xu<|Xu<|Xu<|Xu<|Xv (.bool true) fun _ J=>wn ae<|have G:=J.k [0,1,2,3,4,5,6,7,27,8,9,41];G.ct<|wr fun J V=>have J:=I.ug D;G.xw (ag (dg f.pub [(vi f.many),(vi f.no),(vl FA f.items.length fa),(vl FE f.early.length fe)])) (fun F=>rb F rfl J (hk:=len_dig hfc.pub)) fun _ G=>?_
  have I:=Y.ug D
  refine G.xs rfl I (fun D I D=>?_) (hk:=len_dig hfc.pub);have J:=D.size
  refine G.xv (.bool false) fun _ G=>wn V<|wp_ret<|ret_then ?_
  refine retC1 G rfl rfl rfl I uu48 rfl (sk inf48 (len_dig hfc.pub)) ?_
  have hA:applyV f.items v.chs=appL f.items v.chs:=if_pos (Decidable.not_not.1 U)
  have hnf:¬ fits f v:=(fun q=>ah (by rw [hA];exact q.2.1))
  have hst:stepF f v=f:=if_neg hnf
  rw [hst,decide_eq_false hnf]
  have G:=RLs.ug rIt hfc.items D
  have I:=RLs.ug rVr hfc.early D
  exact ⟨_,_,rfl,⟨hfc.pub,RLs.sub rIt G (fun b hb=>.inl hb.1),RLs.sub rVr I (fun b hb=>.inl hb.1)⟩,eX⟩
 refine V.xgw (.agg (byteVals (stateD (applyV f.items v.chs))).toArray) (fun F=>rb F rfl aj (hk:=byteVals_len (stateD_len _)))<|Xg (vq Z 1) fun _ V=>have ab:=ac.ug D;V.xgw (.agg (byteVals v.state).toArray) (fun F=>rn_loadN (cs:=byteVals v.state) (F.get rfl) uu29 rfl (sk inf29 (byteVals_len hvc.st)) (Blk.part (A:=[(vi v.no)]) (M:=byteVals v.state) (B:=[(vl C v.chs.length cc),(vi v.sg.index),(vl O v.sg.op.length oc),(vl E v.sg.cl.length ec),(vl P v.sg.path.length pc)]) ab (by simp) rfl))<|Xgw (.bool (!decide (stateD (applyV f.items v.chs)=v.state))) (fun F=>rn_neA uu29 uu5 inf5 (by kernel_rfl) (F.get rfl) (F.get rfl) (stateD_len _) hvc.st)<|Xv (.bool (!decide (stateD (applyV f.items v.chs)=v.state))) fun _ ac=>wn ae ?_
 have V:=ac.k [0,1,2,3,4,5,6,7,27,8,9,41]
 by_cases ac:stateD (applyV f.items v.chs)=v.state
 ·refine V.cf<|wp_skip<|ak _ _<|wr fun ae ae=>V.xv (vp Z)<|Xw (vi v.no) (fun F=>rl F rfl ((ab.rule.1 0).trans rfl))<|Xv (vq g2 33) fun _ V=>have Z:=I.ug D;wpl_op (i:=3) rfl<|o_store1 (new:=(dg f.pub [(vi f.many),(vi v.no),(vl FA f.items.length fa),(vl FE f.early.length fe)])) V rfl rfl rfl rfl (V.get rfl) (V.get rfl) Z inf3 (le_mid (x:=36) (b:=1) (y:=1) (by simp [byteVals_len hfc.pub]) rfl (by decide)) rfl (set_app (k:=1) (byteVals_len hfc.pub)) fun I ab Z=>have I:=Z.size;wn ae<|wr fun I aj=>V.xm rfl<|Xv (vq g2 34) fun _ I=>wpl_op (i:=2) rfl<|o_store1 (new:=(dg f.pub [(vi f.many),(vi v.no),(vl G ((applyV f.items v.chs).length) J),(vl FE f.early.length fe)])) I rfl rfl rfl rfl (I.get rfl) (I.get rfl) ab inf26 (le_mid (x:=36) (b:=1) (y:=1) (by simp [byteVals_len hfc.pub]) rfl (by decide)) rfl (set_app (k:=2) (byteVals_len hfc.pub)) fun V ae V=>have ab:=V.size;wn aj<|have ab:=I.k [0,1,2,3,4,5,6,7,27,8,9,41];wr fun I aj=>ab.xw (ag (dg f.pub [(vi f.many),(vi v.no),(vl G ((applyV f.items v.chs).length) J),(vl FE f.early.length fe)])) (fun F=>rb F rfl ae (hk:=len_dig hfc.pub)) fun _ I=>?_
  have G:=Y.ug V
  refine I.xs rfl G (fun G J G=>?_) (hk:=len_dig hfc.pub);have Y:=G.size
  refine I.xv (.bool true) fun _ I=>wn aj<|wp_ret ?_
  refine retC1 I rfl rfl rfl J uu48 rfl (sk inf48 (len_dig hfc.pub)) ?_
  have hA:applyV f.items v.chs=appL f.items v.chs:=if_pos (Decidable.not_not.1 U)
  have hfit:fits f v:=⟨Decidable.not_not.1 U,by rw [← hA];exact Decidable.not_not.1 ah,by rw [← hA];exact ac⟩
  have hst:stepF f v={ f with no:=v.no,items:=applyV f.items v.chs }:=(if_pos hfit).trans (by rw [hA])
  rw [hst,decide_eq_true hfit]
  have I:=RLs.pres rIt ai (((((((Pres.refl aa).ext al).ext am).grownN D (fun h=>by first | (simp only [Clip,Fr] at h;omega) | (simp only [Clip] at h;omega))).grownN Z (fun h=>by first | (simp only [Clip,Fr] at h;omega) | (simp only [Clip] at h;omega))).grownN V (fun h=>by first | (simp only [Clip,Fr] at h;omega) | (simp only [Clip] at h;omega))).grownN G (fun h=>by first | (simp only [Clip,Fr] at h;omega) | (simp only [Clip] at h;omega)))
  have D:=RLs.ug rVr hfc.early G
  exact ⟨_,_,rfl,⟨hfc.pub,RLs.sub rIt I (fun b hb=>hb.1.elim (fun h=>.inl h.1) (fun h=>.inr (by omega))),RLs.sub rVr D (fun b hb=>.inl hb.1)⟩,eX⟩
 refine V.ct<|wr fun G J=>have G:=I.ug D;V.xw (ag (dg f.pub [(vi f.many),(vi f.no),(vl FA f.items.length fa),(vl FE f.early.length fe)])) (fun F=>rb F rfl G (hk:=len_dig hfc.pub)) fun _ G=>?_
 have I:=Y.ug D
 refine G.xs rfl I (fun D I D=>?_) (hk:=len_dig hfc.pub);have V:=D.size
 refine G.xv (.bool false) fun _ G=>wn J<|wp_ret<|ret_then ?_
 refine retC1 G rfl rfl rfl I uu48 rfl (sk inf48 (len_dig hfc.pub)) ?_
 have hA:applyV f.items v.chs=appL f.items v.chs:=if_pos (Decidable.not_not.1 U)
 have hnf:¬ fits f v:=(fun q=>ac (by rw [hA];exact q.2.2))
 have hst:stepF f v=f:=if_neg hnf
 rw [hst,decide_eq_false hnf]
 have G:=RLs.ug rIt hfc.items D
 have I:=RLs.ug rVr hfc.early D
 exact ⟨_,_,rfl,⟨hfc.pub,RLs.sub rIt G (fun b hb=>.inl hb.1),RLs.sub rVr I (fun b hb=>.inl hb.1)⟩,eX⟩
theorem rapplied_at (f:Fo) (v:Vr) (w:World) (hf:RFo S w c e f) (hv:RVp S w c1 o1 e1 p1 v) (hno:v.no=f.no+1) (h0:0≤f.no∧f.no≤4096) (hdi:∀ x∈f.items,x.data.length≤4294967296) (hdv:∀ x∈v.chs,x.data.length≤4294967296) :
  Calls Tryz.prog 46 #[ag (fcs f.pub f.many f.no c e),ag (vcs v.no v.state c1 v.sg.index o1 e1 p1)] w (fun en w'=>∃ c' e',en=.returned (.tuple #[ag (fcs (stepF f v).pub (stepF f v).many (stepF f v).no c' e'),.bool (decide (fits f v))])∧RFo (Fr S w) w' c' e' (stepF f v)∧Ext w w'):=by
 obtain ⟨FA,fa,rfl,_⟩:=RLs.form hf.items
 obtain ⟨FE,fe,rfl,_⟩:=RLs.form hf.early
 obtain ⟨C,cc,rfl,_⟩:=RLs.form hv.chs
 obtain ⟨O,oc,rfl,_⟩:=Fl.form hv.sg.op
 obtain ⟨E,ec,rfl,_⟩:=Fl.form hv.sg.cl
 obtain ⟨P,pc,rfl,_⟩:=Fl.form hv.sg.path
 exact rapplied_any FA fa FE fe C cc O oc E ec P pc f v w hf hv hno h0 hdi hdv
theorem rreceive_any (FA:Option Addr) (fa:Nat) (FE:Option Addr) (fe:Nat) (C:Option Addr) (cc:Nat) (O:Option Addr) (oc:Nat) (E:Option Addr) (ec:Nat) (P:Option Addr) (pc:Nat) (f:Fo) (v:Vr) (w:World) (hf:RFo S w (vl FA f.items.length fa) (vl FE f.early.length fe) f) (hv:RVp S w (vl C v.chs.length cc) (vl O v.sg.op.length oc) (vl E v.sg.cl.length ec) (vl P v.sg.path.length pc) v) (hdi:∀ x∈f.items,x.data.length≤4294967296) (hde:∀ v∈f.early,∀ x∈v.chs,x.data.length≤4294967296) (hdv:∀ x∈v.chs,x.data.length≤4294967296) :
  Calls Tryz.prog 18 #[(ag (dg f.pub [(vi f.many),(vi f.no),(vl FA f.items.length fa),(vl FE f.early.length fe)])),(ag ((vi v.no)::dg v.state [(vl C v.chs.length cc),(vi v.sg.index),(vl O v.sg.op.length oc),(vl E v.sg.cl.length ec),(vl P v.sg.path.length pc)]))] w (fun en w'=>∃ c' e',en=.returned (.tuple #[ag (fcs (recF f v).pub (recF f v).many (recF f v).no c' e'),.int .i64 (recE f v)])∧RFo (Fr S w) w' c' e' (recF f v)∧Ext w w'):=by
 have hfc:=RFo.subB (S':=Clip S w) hf (fun _ hb hs=>⟨hs,hb⟩)
 obtain ⟨-,hfc1,hfc2⟩:=RLs.at hfc.items;obtain ⟨-,hfc3,hfc4⟩:=RLs.at hfc.early
 have hvc:=RVp.subB (S':=Clip S w) hv (fun _ hb hs=>⟨hs,hb⟩)
 obtain ⟨-,hvc1,hvc2⟩:=RLs.at hvc.chs;have hvc3:=(Fl.cel hvc.sg.op).2.1;have hvc4:=(Fl.cel hvc.sg.cl).2.1;have hvc5:=(Fl.cel hvc.sg.path).2.1
 have hsub:∀ x∈f.early,x∈f.early:=fun _ h=>h
 refine calls_enter Tryz.func18 rfl rfl rfl fun _ U=>wr fun K1 aV=>U.xb rfl fun I U _ U z6 z7 b4 aC=>U.xb rfl fun G U _ U aC aC bo aC=>U.xz fz 48 fun Z U _ aC U U aF U=>aC.xv (vi 0) fun _ aC=>wn aV<|wr fun aV bq=>have bg:=b4.ux U;aC.xw (ag (dg f.pub [(vi f.many),(vi f.no),(vl FA f.items.length fa),(vl FE f.early.length fe)])) (fun F=>rb F rfl bg (hk:=len_dig hfc.pub)) fun _ aC=>have aV:=(RLs.ux rIt hfc.items U);have bh:=(RLs.ux rVr hfc.early U);aC.xe (rfcheck_at f _ (⟨hfc.pub,RLs.sub rIt aV (fun _ _=>trivial),RLs.sub rVr bh (fun _ _=>trivial)⟩:RFo (fun _=>True) _ _ _ f) hdi hde) fun U U aC _ aC=>aC.xa rfl fun _ aC=>wn bq<|wp_seq_k fun aV aV=>wr fun bh bh=>aC.xm rfl<|Xv (vd (((checkFE f):Int)≠(0:Int))) fun _ aC=>wn bh ?_
 by_cases ai:((checkFE f):Int)≠(0:Int)
 ·refine aC.ct<|wr fun D J=>aC.xw (ag fz) (fun F=>rn_build (parts0 ) (by kernel_rfl))<|Xm rfl fun _ D=>have G:=(aF.ext U);D.xs rfl G (fun G I G=>have U:=G.size;D.xa rfl fun _ D=>wn J<|have G:=D.k [0,1,2,3,4,5,6,17];wp_ret<|ret_then ?_)
  refine retC1 G rfl rfl rfl I uu48 rfl (sk inf48 (len_dig zero32_len)) ?_
  have hE:recE f v=(checkFE f):=if_pos ai
  have G:recF f v=foNil:=if_pos (by rw [hE];exact ai)
  rw [G,hE]
  exact ⟨_,_,rfl,foNil_at _,eX⟩
 have hck:checkFE f=0:=Decidable.not_not.1 ai
 obtain ⟨bh,bh,bh,bh,bh,bh,bh,bq⟩:=check_asc hck;have hu:=up_of_asc bh
 refine aC.cf<|wp_skip<|aV _ _<|wr fun aV bs=>aC.xv (vp I) fun _ aC=>have aV:=(bg.ext U);aC.xw (.agg (byteVals f.pub).toArray) (fun F=>rn_loadN (cs:=byteVals f.pub) (F.get rfl) uu29 rfl (sk inf29 (byteVals_len hfc.pub)) (Blk.part (A:=[]) (M:=byteVals f.pub) (B:=[(vi f.many),(vi f.no),(vl FA f.items.length fa),(vl FE f.early.length fe)]) aV (by simp) rfl))<|Xv (vq I 32)<|Xw (vi f.many) (fun F=>rl F rfl ((aV.rule.1 32).trans ((at_app (k:=0) (byteVals_len hfc.pub)).trans rfl))) fun _ aC=>have bh:=bo.ux U;aC.xw (ag ((vi v.no)::dg v.state [(vl C v.chs.length cc),(vi v.sg.index),(vl O v.sg.op.length oc),(vl E v.sg.cl.length ec),(vl P v.sg.path.length pc)])) (fun F=>rb F rfl bh (hk:=len_dig1 hvc.st)) fun _ aC=>have bg:=(RLs.ux rCg hvc.chs U);have bo:=(hvc.sg.op.ux U);have bq:=(hvc.sg.cl.ux U);have br:=(hvc.sg.path.ux U);aC.xe (rverifyv_at f.pub f.many v _ (⟨hvc.st,RLs.sub (S':=fun _=>True) rCg bg fun _ _=>trivial,⟨Fl.any bo,Fl.any bq,Fl.any br,hvc.sg.o32,hvc.sg.c32,hvc.sg.p32⟩⟩:RVp (fun _=>True) _ _ _ _ _ v) hfc.pub hdv) fun bo U aC _ aC=>aC.xa rfl fun _ aC=>wn bs<|have bg:=aC.k [0,1,2,3,4,5,6,17,7];wp_seq_k fun aC bq=>wr fun aC br=>bg.xm rfl<|Xv (vd (((verifyE f.pub f.many v):Int)≠(0:Int))) fun _ aC=>wn br ?_
 by_cases ak:((verifyE f.pub f.many v):Int)≠(0:Int)
 ·refine aC.ct<|wr fun D I=>aC.xw (ag fz) (fun F=>rn_build (parts0 ) (by kernel_rfl))<|Xm rfl fun _ D=>have G:=aF.ux U;D.xs rfl G (fun G G J=>have U:=J.size;D.xa rfl fun _ D=>wn I<|wp_ret<|ret_then ?_)
  refine retC1 D rfl rfl rfl G uu48 rfl (sk inf48 (len_dig zero32_len)) ?_
  have hE:recE f v=(verifyE f.pub f.many v):=(if_neg ai).trans (if_pos ak)
  have G:recF f v=foNil:=if_pos (by rw [hE];exact ak)
  rw [G,hE]
  exact ⟨_,_,rfl,foNil_at _,eX⟩
 have hvz:verifyE f.pub f.many v=0:=Decidable.not_not.1 ak
 obtain ⟨bg,bg,bg,bg,-⟩:=verify_zero hvz
 refine aC.cf<|wp_skip<|bq _ _<|wp_seq_k fun bg bq=>wr fun bg br=>aC.xv (vp G) fun _ aC=>have bg:=(bh.ext U);aC.xw (vi v.no) (fun F=>rl F rfl ((bg.rule.1 0).trans rfl))<|Xv (vq I 33) fun _ aC=>have bh:=(aV.ext U);aC.xw (vi f.no) (fun F=>rl F rfl ((bh.rule.1 33).trans ((at_app (k:=1) (byteVals_len hfc.pub)).trans rfl)))<|Xv (vd ((v.no:Int)≤(f.no:Int))) fun _ aV=>wn br ?_
 have aC:=aV.k [0,1,2,3,4,5,6,17,7,27,34]
 by_cases aV:(v.no:Int)≤(f.no:Int)
 ·refine aC.ct<|wr fun D I=>aC.xw (ag fz) (fun F=>rn_build (parts0 ) (by kernel_rfl)) fun _ D=>have G:=aF.ux U;D.xs rfl G (fun G G J=>have U:=J.size;D.xv (vi 420) fun _ D=>wn I<|wp_ret<|ret_then ?_)
  refine retC1 D rfl rfl rfl G uu48 rfl (sk inf48 (len_dig zero32_len)) ?_
  have hE:recE f v=420:=(if_neg ai).trans ((if_neg ak).trans ( if_pos (.inr (by omega))))
  have G:recF f v=foNil:=if_pos (by rw [hE];decide)
  rw [G,hE]
  exact ⟨_,_,rfl,foNil_at _,eX⟩
 refine aC.cf<|wp_skip<|bq _ _<|wr fun aV aV=>aC.xv (vi 0) fun _ aC=>wn aV ?_
 refine wp_meet (fun a' W=>∃ (k:Nat),Sl 139 [(0,(ag (dg f.pub [(vi f.many),(vi f.no),(vl FA f.items.length fa),(vl FE f.early.length fe)]))),(1,(ag ((vi v.no)::dg v.state [(vl C v.chs.length cc),(vi v.sg.index),(vl O v.sg.op.length oc),(vl E v.sg.cl.length ec),(vl P v.sg.path.length pc)]))),(2,(vp I)),(3,(vp G)),(4,(vp Z)),(5,(vi 0)),(6,(vi (checkFE f))),(17,(vd (((checkFE f):Int)≠(0:Int)))),(7,(vi (verifyE f.pub f.many v))),(27,(vd (((verifyE f.pub f.many v):Int)≠(0:Int)))),(34,(vd ((v.no:Int)≤(f.no:Int)))),(8,(vi k))] a'∧Ext w W∧k≤f.early.length∧(∀ p,p<k→noAt f.early p<v.no)∧(∀ p,k≤p→p<f.early.length→v.no≤noAt f.early p)∧Blk W I 48 (dg f.pub [(vi f.many),(vi f.no),(vl FA f.items.length fa),(vl FE f.early.length fe)])∧Blk W G 34 ((vi v.no)::dg v.state [(vl C v.chs.length cc),(vi v.sg.index),(vl O v.sg.op.length oc),(vl E v.sg.cl.length ec),(vl P v.sg.path.length pc)])∧Blk W Z 48 fz∧bo.heap.size≤W.heap.size) ?_ ?_
 ·refine wp_block<|have aj:=aF.ux U;wp_loop (fun a' W=>∃ (k:Nat),Sl 139 [(0,(ag (dg f.pub [(vi f.many),(vi f.no),(vl FA f.items.length fa),(vl FE f.early.length fe)]))),(1,(ag ((vi v.no)::dg v.state [(vl C v.chs.length cc),(vi v.sg.index),(vl O v.sg.op.length oc),(vl E v.sg.cl.length ec),(vl P v.sg.path.length pc)]))),(2,(vp I)),(3,(vp G)),(4,(vp Z)),(5,(vi 0)),(6,(vi (checkFE f))),(17,(vd (((checkFE f):Int)≠(0:Int)))),(7,(vi (verifyE f.pub f.many v))),(27,(vd (((verifyE f.pub f.many v):Int)≠(0:Int)))),(34,(vd ((v.no:Int)≤(f.no:Int)))),(8,(vi k))] a'∧k≤f.early.length∧(∀ p,p<k→noAt f.early p<v.no)∧Ext w W∧Blk W I 48 (dg f.pub [(vi f.many),(vi f.no),(vl FA f.items.length fa),(vl FE f.early.length fe)])∧Blk W G 34 ((vi v.no)::dg v.state [(vl C v.chs.length cc),(vi v.sg.index),(vl O v.sg.op.length oc),(vl E v.sg.cl.length ec),(vl P v.sg.path.length pc)])∧Blk W Z 48 fz∧bo.heap.size≤W.heap.size) (fun a' _=>f.early.length - (intOf (a'.eval (.tmp 8))).toNat) ⟨0,aC.j,(by omega),(fun p hp=>absurd hp (by omega)),eX,bh,bg,aj,(Nat.le_refl _)⟩ ?_
  rintro U U ⟨k,U,aj,au,aC,aj,al,V,aD⟩
  have az:=U
  have aD:=aC.size
  have aC:=aj.lt
  have aC:=al.lt
  have aC:=V.lt
  refine wp_seq_k fun aC ay=>wp_seq_k fun aC aq=>sX (fun D W=>Ext D W∧Blk W I 48 (dg f.pub [(vi f.many),(vi f.no),(vl FA f.items.length fa),(vl FE f.early.length fe)])∧Blk W G 34 ((vi v.no)::dg v.state [(vl C v.chs.length cc),(vi v.sg.index),(vl O v.sg.op.length oc),(vl E v.sg.cl.length ec),(vl P v.sg.path.length pc)])) (fun i=>false) 16 fun D J aC=>U.ym 0 rfl<|Yv 1 (vq I 35) rfl fun _ U=>have Y:=(aj.ext J);have aa:=(al.ext J);have ab:Ext D D∧Blk D I 48 (dg f.pub [(vi f.many),(vi f.no),(vl FA f.items.length fa),(vl FE f.early.length fe)])∧Blk D G 34 ((vi v.no)::dg v.state [(vl C v.chs.length cc),(vi v.sg.index),(vl O v.sg.op.length oc),(vl E v.sg.cl.length ec),(vl P v.sg.path.length pc)]):=⟨(Ext.refl D),Y,aa⟩;U.ys 2 (vl FE f.early.length fe) rfl ab (fun F W hW=>rl F rfl ((hW.2.1.rule.1 35).trans ((at_app (k:=3) (byteVals_len hfc.pub)).trans rfl)))<|Yv 3 (vi f.early.length) rfl<|Yv 4 (vd ((k:Int)<(f.early.length:Int))) rfl<|Ym 5 rfl fun _ ah=>?_
  by_cases U:(k:Int)<(f.early.length:Int)
  ·refine ah.yg 6 (vq I 35) rfl<|Ysg 7 (vl FE f.early.length fe) rfl ab (fun F W hW=>rl F rfl ((hW.2.1.rule.1 35).trans ((at_app (k:=3) (byteVals_len hfc.pub)).trans rfl)))<|Yg 8 (vi k) rfl<|fun _ aw=>?_
   have U:=RLs.ux rVr hfc.early J
   obtain ⟨am,av,ae,aj,ax,ar,aj,aA,aB⟩:=RLs.get U (by omega:k<f.early.length)
   obtain ⟨U,U,U,U,rfl,ac⟩:=aB
   obtain ⟨U,U,rfl,U,U⟩:=RLs.form ac.chs
   obtain ⟨U,U,rfl,U,U⟩:=Fl.form ac.sg.op
   obtain ⟨U,U,rfl,U,U⟩:=Fl.form ac.sg.cl
   obtain ⟨U,U,rfl,U,U⟩:=Fl.form ac.sg.path
   refine aw.ygw 9 (vq am (av+k*38)) rfl (fun F W=>rn_indexE uu25 inf34 ((F.get rfl).trans (by rw [ax])) (F.get rfl) (zl _) (il (by omega:k<f.early.length)) (by omega))<|Yg 10 (vq am (av+k*38)) rfl<|Ysg 11 (vi ae.no) rfl ab (fun F W hW=>rl F rfl ((fun j u hu=>Ext.keep ((Ext.refl D).trans hW.1) (aA j u hu)) 0 _ rfl))<|Yg 12 (vp G) rfl<|Ysg 13 (vi v.no) rfl ab (fun F W hW=>rl F rfl ((hW.2.2.rule.1 0).trans rfl))<|Yg 14 (vd ((ae.no:Int)<(v.no:Int))) rfl<|Yv 15 (vd ((ae.no:Int)<(v.no:Int))) rfl fun _ G=>nK aq ?_
   have D:=G.k [0,1,2,3,4,5,6,17,7,27,34,8,51]
   by_cases G:(ae.no:Int)<(v.no:Int)
   ·refine D.ct<|wp_skip<|ay _ _<|wp_block<|wp_region_lit<|D.xm rfl<|Xv (vi (k+1:Nat))<|Xa rfl fun _ D=>wpList_nil ?_
    have G:=V.ext J
    refine ⟨⟨(k+1),D.j,(by omega),(bs_lo hu ar (by omega)),eX,Y,aa,G,(by omega)⟩,?_⟩
    rw [D.get (t:=8) rfl,az.get (t:=8) rfl];simp [intOf] <;> omega
   exact D.cf<|wp_exit<|exit_then<|exit_then<|exit_here<|have G:=(V.ext J);⟨k,D.j,eX,(by omega),au,(bs_hi hu ar (by omega)),Y,aa,G,(by omega)⟩
  exact ah.yu 6 rfl<|Yu 7 rfl<|Yu 8 rfl<|Yu 9 rfl<|Yu 10 rfl<|Yu 11 rfl<|Yu 12 rfl<|Yu 13 rfl<|Yu 14 rfl<|Yv 15 (.bool false) rfl fun _ G=>nK aq<|have D:=G.k [0,1,2,3,4,5,6,17,7,27,34,8,51];D.cf<|wp_exit<|exit_then<|exit_then<|exit_here<|have G:=(V.ext J);⟨k,D.j,eX,(by omega),au,(fun p h1 h2=>absurd h2 (by omega)),Y,aa,G,(by omega)⟩
 ·rintro U aC ⟨k,U,Y,hkl,hlo,hhi,aT,aU,ar,aF⟩
  have aF:=Y.size
  have aF:=aT.lt
  have aF:=aU.lt
  have aF:=ar.lt
  refine wp_meet (fun a' W=>Sl 139 [(0,(ag (dg f.pub [(vi f.many),(vi f.no),(vl FA f.items.length fa),(vl FE f.early.length fe)]))),(1,(ag ((vi v.no)::dg v.state [(vl C v.chs.length cc),(vi v.sg.index),(vl O v.sg.op.length oc),(vl E v.sg.cl.length ec),(vl P v.sg.path.length pc)]))),(2,(vp I)),(3,(vp G)),(4,(vp Z)),(5,(vi 0)),(6,(vi (checkFE f))),(17,(vd (((checkFE f):Int)≠(0:Int)))),(7,(vi (verifyE f.pub f.many v))),(27,(vd (((verifyE f.pub f.many v):Int)≠(0:Int)))),(34,(vd ((v.no:Int)≤(f.no:Int)))),(8,(vi k))] a'∧Ext aC W∧(¬ ∃ w∈f.early,w.no=v.no)) ?_ ?_
  ·refine wp_seq_k fun au aj=>sX (fun D W=>Ext D W∧Blk W I 48 (dg f.pub [(vi f.many),(vi f.no),(vl FA f.items.length fa),(vl FE f.early.length fe)])∧Blk W G 34 ((vi v.no)::dg v.state [(vl C v.chs.length cc),(vi v.sg.index),(vl O v.sg.op.length oc),(vl E v.sg.cl.length ec),(vl P v.sg.path.length pc)])) (fun i=>false) 16 fun D ac au=>U.ym 0 rfl<|Yv 1 (vq I 35) rfl fun _ U=>have au:=(aT.ext ac);have av:=(aU.ext ac);have aa:Ext D D∧Blk D I 48 (dg f.pub [(vi f.many),(vi f.no),(vl FA f.items.length fa),(vl FE f.early.length fe)])∧Blk D G 34 ((vi v.no)::dg v.state [(vl C v.chs.length cc),(vi v.sg.index),(vl O v.sg.op.length oc),(vl E v.sg.cl.length ec),(vl P v.sg.path.length pc)]):=⟨(Ext.refl D),au,av⟩;U.ys 2 (vl FE f.early.length fe) rfl aa (fun F W hW=>rl F rfl ((hW.2.1.rule.1 35).trans ((at_app (k:=3) (byteVals_len hfc.pub)).trans rfl)))<|Yv 3 (vi f.early.length) rfl<|Yv 4 (vd ((k:Int)<(f.early.length:Int))) rfl<|Ym 5 rfl fun _ ae=>?_
   by_cases U:(k:Int)<(f.early.length:Int)
   ·refine ae.yg 6 (vq I 35) rfl<|Ysg 7 (vl FE f.early.length fe) rfl aa (fun F W hW=>rl F rfl ((hW.2.1.rule.1 35).trans ((at_app (k:=3) (byteVals_len hfc.pub)).trans rfl)))<|Yg 8 (vi k) rfl<|fun _ aq=>?_
    have U:=RLs.ux rVr hfc.early ac
    obtain ⟨ah,am,J,au,aw,al,au,ax,ay⟩:=RLs.get U (by omega:k<f.early.length)
    obtain ⟨U,U,U,U,rfl,ab⟩:=ay
    obtain ⟨U,U,rfl,U,U⟩:=RLs.form ab.chs
    obtain ⟨U,U,rfl,U,U⟩:=Fl.form ab.sg.op
    obtain ⟨U,U,rfl,U,U⟩:=Fl.form ab.sg.cl
    obtain ⟨U,U,rfl,U,U⟩:=Fl.form ab.sg.path
    refine aq.ygw 9 (vq ah (am+k*38)) rfl (fun F W=>rn_indexE uu25 inf34 ((F.get rfl).trans (by rw [aw])) (F.get rfl) (zl _) (il (by omega:k<f.early.length)) (by omega))<|Yg 10 (vq ah (am+k*38)) rfl<|Ysg 11 (vi J.no) rfl aa (fun F W hW=>rl F rfl ((fun j u hu=>Ext.keep ((Ext.refl D).trans hW.1) (ax j u hu)) 0 _ rfl))<|Yg 12 (vp G) rfl<|Ysg 13 (vi v.no) rfl aa (fun F W hW=>rl F rfl ((hW.2.2.rule.1 0).trans rfl))<|Yg 14 (vd ((J.no:Int)=(v.no:Int))) rfl<|Yv 15 (vd ((J.no:Int)=(v.no:Int))) rfl fun _ D=>nK aj ?_
    have V:=D.k [0,1,2,3,4,5,6,17,7,27,34,8,69]
    by_cases D:(J.no:Int)=(v.no:Int)
    ·refine V.ct<|wr fun D I=>V.xw (ag fz) (fun F=>rn_build (parts0 ) (by kernel_rfl)) fun _ D=>have G:=(ar.ext ac);D.xs rfl G (fun G G U=>have V:=U.size;D.xv (vi 420) fun _ D=>wn I<|wp_ret<|ret_then ?_)
     refine retC1 D rfl rfl rfl G uu48 rfl (sk inf48 (len_dig zero32_len)) ?_
     have hE:recE f v=420:=(if_neg ai).trans ((if_neg ak).trans ( if_pos (.inl ⟨J,List.mem_of_getElem? al,by omega⟩)))
     have G:recF f v=foNil:=if_pos (by rw [hE];decide)
     rw [G,hE]
     exact ⟨_,_,rfl,foNil_at _,eX⟩
    exact V.cf<|wp_skip<|have hme:=met_eq hlo hu hhi;⟨V.j,eX,(fun q=>by obtain ⟨y,hy,D⟩:=hme.1 q;rw [al] at hy;injection hy with hy;subst hy;omega)⟩
   exact ae.yu 6 rfl<|Yu 7 rfl<|Yu 8 rfl<|Yu 9 rfl<|Yu 10 rfl<|Yu 11 rfl<|Yu 12 rfl<|Yu 13 rfl<|Yu 14 rfl<|Yv 15 (.bool false) rfl fun _ G=>nK aj<|have D:=G.k [0,1,2,3,4,5,6,17,7,27,34,8,69];D.cf<|wp_skip<|have hme:=met_eq hlo hu hhi;⟨D.j,eX,(met_no hme (by omega))⟩
  ·rintro U bc ⟨aC,U,hnm⟩
   have aF:=U.size
   refine wp_seq_k fun aF aV=>wr fun aF bg=>aC.xv (vp G) fun _ aC=>have aG:=(aU.ext U);aC.xw (vi v.no) (fun F=>rl F rfl ((aG.rule.1 0).trans rfl))<|Xv (vq I 33) fun _ aC=>have ay:=(aT.ext U);aC.xw (vi f.no) (fun F=>rl F rfl ((ay.rule.1 33).trans ((at_app (k:=1) (byteVals_len hfc.pub)).trans rfl)))<|Xv (vi (f.no+1))<|Xv (vd ((f.no+1:Int)<(v.no:Int))) fun _ aF=>wn bg ?_
   have aC:=aF.k [0,1,2,3,4,5,6,17,7,27,34,8,76]
   by_cases aF:(f.no+1:Int)<(v.no:Int)
   ·refine aC.ct<|wp_seq_k fun D D=>wr fun J J=>aC.xv (vq I 35)<|Xw (vl FE f.early.length fe) (fun F=>rl F rfl ((ay.rule.1 35).trans ((at_app (k:=3) (byteVals_len hfc.pub)).trans rfl)))<|Xv (vi f.early.length)<|Xv (vd ((f.early.length:Int)=(64:Int))) fun _ V=>wn J ?_
    by_cases J:(f.early.length:Int)=(64:Int)
    ·refine V.ct<|wr fun D J=>V.xw (ag fz) (fun F=>rn_build (parts0 ) (by kernel_rfl)) fun _ D=>have G:=(ar.ext U);D.xs rfl G (fun G I G=>have U:=G.size;D.xv (vi 2) fun _ D=>wn J<|have G:=D.k [0,1,2,3,4,5,6,17,7,27,34,8,76,80];wp_ret<|ret_then<|ret_then ?_)
     refine retC1 G rfl rfl rfl I uu48 rfl (sk inf48 (len_dig zero32_len)) ?_
     have hE:recE f v=2:=(if_neg ai).trans ((if_neg ak).trans ( (if_neg (fun q=>q.elim hnm (fun h=>by omega))).trans ((if_pos (by omega)).trans (if_pos (by omega)))))
     have G:recF f v=foNil:=if_pos (by rw [hE];decide)
     rw [G,hE]
     exact ⟨_,_,rfl,foNil_at _,eX⟩
    refine V.cf<|wp_skip<|D _ _<|wp_seq_k fun D au=>sX (fun J W=>Ext J W∧Blk W I 48 (dg f.pub [(vi f.many),(vi f.no),(vl FA f.items.length fa),(vl FE f.early.length fe)])∧Blk W G 34 ((vi v.no)::dg v.state [(vl C v.chs.length cc),(vi v.sg.index),(vl O v.sg.op.length oc),(vl E v.sg.cl.length ec),(vl P v.sg.path.length pc)])) (fun i=>i==15) 16 fun J D Z=>V.yv 1 (vq I 35) rfl fun _ aa=>have Z:=(ay.ext D);have ac:=(aG.ext D);have V:Ext J J∧Blk J I 48 (dg f.pub [(vi f.many),(vi f.no),(vl FA f.items.length fa),(vl FE f.early.length fe)])∧Blk J G 34 ((vi v.no)::dg v.state [(vl C v.chs.length cc),(vi v.sg.index),(vl O v.sg.op.length oc),(vl E v.sg.cl.length ec),(vl P v.sg.path.length pc)]):=⟨(Ext.refl J),Z,ac⟩;aa.ys 2 (vl FE f.early.length fe) rfl V (fun F W hW=>rl F rfl ((hW.2.1.rule.1 35).trans ((at_app (k:=3) (byteVals_len hfc.pub)).trans rfl)))<|Ym 3 rfl<|Yw 4 (vl FE k fe) rfl (fun F W=>rn_sliceHi uu25 inf34 (F.get rfl) (F.get rfl) (zl _) (ie (by omega:k≤fe)))<|Ys 6 (ag ((vi v.no)::dg v.state [(vl C v.chs.length cc),(vi v.sg.index),(vl O v.sg.op.length oc),(vl E v.sg.cl.length ec),(vl P v.sg.path.length pc)])) rfl V (fun F W hW=>rb F rfl hW.2.2 (hk:=len_dig1 hvc.st))<|Yv 9 (vq I 35) rfl<|Ys 10 (vl FE f.early.length fe) rfl V (fun F W hW=>rl F rfl ((hW.2.1.rule.1 35).trans ((at_app (k:=3) (byteVals_len hfc.pub)).trans rfl)))<|Ym 11 rfl<|Yw 12 (vl (cutA FE fe k 38) (f.early.length - k) (fe - k)) rfl (fun F W=>rn_cutLo (l:=k) uu25 inf34 (F.get rfl) (F.get rfl) (by omega)) fun _ J=>?_
    refine any_two (i:=0) (k:=7) (by decide +kernel) rfl rfl ?_ ?_
    ·refine J.on (fun g=>(vl (some ⟨g,0,none⟩) 0 0)) [] 34 rfl (fun F=>rn_buildSlice (parts0 ) (by kernel_rfl)) fun V J _ aa J J aj J=>?_
     have ah:=Z.ext J
     have ab:=ac.ext J
     refine ⟨fun _ _=>⟨eX,ah,ab⟩,?_⟩
     refine any_two (i:=5) (k:=7) (by decide +kernel) rfl rfl ?_ ?_
     ·have Z:=OwnG.nil (R:=RVr) (k:=38) (S:=(Clip S w)) aj (fun b hb=>by simp only [Clip] at hb;omega)
      have ac:=RLs.ux rVr hfc.early J
      have aj:some G≠(Value.slice (some ⟨V,0,none⟩) 0 0).ownBlock:=(ne_slice (n:=0) (c:=0) (by omega:G≠V));have V:=ab.lt
      refine o_appG rVr El25 aa rfl rfl rfl rfl rfl (aa.get rfl) (aa.get rfl) Z (SrcG.of (RLs.take ac (by omega:k≤f.early.length))) (by omega) (by omega) (by omega) ?_
      intro ae av V V V aa aw V ac ac ac;have al:=V.size
      have az:=ac G (by omega) aj
      have ac:=grown_blk Z.1 V ah (by decide)
      have ah:=ab.grown V aj
      refine ⟨fun _ _=>⟨(ext_row eX V Z.1 (by omega)),ac,ah⟩,?_⟩
      refine ao 7 rfl (aa.on (fun g=>(vl (some ⟨g,0,none⟩) 1 1)) ((vi v.no)::dg v.state [(vl C v.chs.length cc),(vi v.sg.index),(vl O v.sg.op.length oc),(vl E v.sg.cl.length ec),(vl P v.sg.path.length pc)]) 34 rfl (fun F=>rn_buildSlice (parts1 (F.get rfl)) (build_wholeE (vs:=[(ag ((vi v.no)::dg v.state [(vl C v.chs.length cc),(vi v.sg.index),(vl O v.sg.op.length oc),(vl E v.sg.cl.length ec),(vl P v.sg.path.length pc)]))]) El25 rfl rfl (fun z0 hz0=>by rw [List.mem_singleton.1 hz0];exact (show List.length ((vi v.no)::dg v.state [(vl C v.chs.length cc),(vi v.sg.index),(vl O v.sg.op.length oc),(vl E v.sg.cl.length ec),(vl P v.sg.path.length pc)])=38 from (by simp [byteVals_len hvc.st]))) (by decide) (by decide) (by simp [Value.cells]))) fun aj aa _ ab aa aa al aa=>?_)
      have aq:=ac.ext aa
      have am:=ah.ext aa
      refine ⟨fun _ _=>⟨((ext_row eX V Z.1 (by omega)).trans aa),aq,am⟩,?_⟩
      refine ao 8 rfl<|have ac:=(OwnG.ext rVr aw aa);have ah:=(RLs.pres rCg hvc.chs ((Pres.row (((((Pres.refl w).ext Y).ext U).ext D).ext J) V Z.1 (fun b hb h=>by simp only [Clip] at h;omega)).ext aa));have ax:=(hvc.sg.op.pres ((Pres.row (((((Pres.refl w).ext Y).ext U).ext D).ext J) V Z.1 (fun b hb h=>by simp only [Clip] at h;omega)).ext aa));have aA:=(hvc.sg.cl.pres ((Pres.row (((((Pres.refl w).ext Y).ext U).ext D).ext J) V Z.1 (fun b hb h=>by simp only [Clip] at h;omega)).ext aa));have aB:=(hvc.sg.path.pres ((Pres.row (((((Pres.refl w).ext Y).ext U).ext D).ext J) V Z.1 (fun b hb h=>by simp only [Clip] at h;omega)).ext aa));have ay:some G≠(Value.slice ae (0+k) av).ownBlock:=az;have az:=am.lt;have az:some aj≠(Value.slice ae (0+k) av).ownBlock:=(OwnG.far aw (by omega));have ae:=al.lt;o_appG rVr El25 ab rfl rfl rfl rfl rfl (ab.get rfl) (ab.get rfl) ac (SrcG.one (R:=RVr) (S:=(Clip S w)) (x:=v) al (by simp [byteVals_len hvc.st]) (one_cons rfl (one_app (byteVals_one _) (one_cons rfl (one_cons rfl (one_cons rfl (one_cons rfl (one_cons rfl one_nil))))))) ⟨_,_,_,_,rfl,(⟨hvc.st,ah,⟨ax,aA,aB,hvc.sg.o32,hvc.sg.c32,hvc.sg.p32⟩⟩:RVp (Clip S w) _ _ _ _ _ v)⟩) (by omega) (by omega) (by omega) fun av ax ab ab ab ae ah ab aw aw aw=>?_;have aA:=ab.size
      have aB:=aw G (by omega) ay
      have aC:=aw aj (by omega) az
      have aw:=grown_blk ac.1 ab aq (by decide)
      have aq:=am.grown ab ay
      refine ⟨fun _ _=>⟨(ext_row ((ext_row eX V Z.1 (by omega)).trans aa) ab ac.1 (by omega)),aw,aq⟩,?_⟩
      refine ao 13 rfl<|have aA:=(RLs.pres rVr hfc.early (Pres.row ((Pres.row (((((Pres.refl w).ext Y).ext U).ext D).ext J) V Z.1 (fun b hb h=>by simp only [Clip] at h;omega)).ext aa) ab ac.1 (fun b hb h=>by simp only [Clip] at h;omega)));have ay:some G≠(Value.slice av ((0+k)+1) ax).ownBlock:=aB;have am:=aq.lt;have am:=(al.grown ab az);have aB:some aj≠(Value.slice av ((0+k)+1) ax).ownBlock:=aC;have al:=am.lt;o_appG rVr El25 ae rfl rfl rfl rfl rfl (ae.get rfl) (ae.get rfl) ah (SrcG.of (RLs.cut aA (by omega:k≤f.early.length))) (by omega) (by omega) (by omega) fun al am ae aA ae ax az ae av av av=>?_;have aC:=ae.size
      have aC:=av G (by omega) ay
      have G:=av aj (by omega) aB
      have aj:=grown_blk ah.1 ae aw (by decide)
      have G:=aq.grown ae ay
      refine ⟨fun _ _=>⟨(ext_row (ext_row ((ext_row eX V Z.1 (by omega)).trans aa) ab ac.1 (by omega)) ae ah.1 (by omega)),aj,G⟩,?_⟩
      refine ax.yv 14 (vq I 35) rfl fun _ G=>ao 15 rfl<|o_store1 (new:=(dg f.pub [(vi f.many),(vi f.no),(vl FA f.items.length fa),(vl al (((0+k)+1)+(f.early.length - k)) am)])) G rfl rfl rfl rfl (G.get rfl) (G.get rfl) aj inf25 (le_mid (x:=36) (b:=1) (y:=1) (by simp [byteVals_len hfc.pub]) rfl (by decide)) rfl (set_app (k:=3) (byteVals_len hfc.pub)) fun I aq I=>?_;have aj:=I.size
      refine ⟨fun h=>absurd h (by decide),?_⟩
      refine nK au<|have aj:=G.k [0,1,2,3,4,5,6,17,7,27,34,8,76,80];wr fun G au=>aj.xw (ag (dg f.pub [(vi f.many),(vi f.no),(vl FA f.items.length fa),(vl al (((0+k)+1)+(f.early.length - k)) am)])) (fun F=>rb F rfl aq (hk:=len_dig hfc.pub)) fun _ G=>?_
      have aj:=(grown_blk ah.1 ae (grown_blk ac.1 ab ((grown_blk Z.1 V (((ar.ext U).ext D).ext J) (by decide)).ext aa) (by decide)) (by decide)).gn I
      refine G.xs rfl aj (fun aj al aj=>?_) (hk:=len_dig hfc.pub);have am:=aj.size
      refine G.xv (vi 0) fun _ G=>wn au<|wp_ret<|ret_then ?_
      refine retC1 G rfl rfl rfl al uu48 rfl (sk inf48 (len_dig hfc.pub)) ?_
      have hE:recE f v=0:=(if_neg ai).trans ((if_neg ak).trans ( (if_neg (fun q=>q.elim hnm (fun h=>by omega))).trans ((if_pos (by omega)).trans (if_neg (by omega)))))
      have hb9:=below_eq hlo hhi (by omega)
      have G:recF f v=⟨f.pub,f.many,f.no,f.items,(([]++f.early.take k)++[v])++f.early.drop k⟩:=(if_neg (fun q=>q hE)).trans ((if_pos (by omega)).trans (by rw [hb9,List.nil_append]))
      rw [G,hE]
      have G:=RLs.pres rIt hfc.items (((Pres.row (Pres.row ((Pres.row (((((Pres.refl w).ext Y).ext U).ext D).ext J) V Z.1 (fun b hb h=>by simp only [Clip] at h;omega)).ext aa) ab ac.1 (fun b hb h=>by simp only [Clip] at h;omega)) ae ah.1 (fun b hb h=>by simp only [Clip] at h;omega)).gc I).gc aj)
      have D:=RLs.pres rVr (OwnG.rls rVr az) (((Pres.refl aA).gc I).gc aj)
      exact ⟨_,_,rfl,⟨hfc.pub,RLs.sub rIt G (fun b hb=>.inl hb.1),RLs.sub rVr D (fun b hb=>hb.elim (fun h=>.inl h.1) (fun h=>.inr (by omega)))⟩,(((ext_row (ext_row ((ext_row eX V Z.1 (by omega)).trans aa) ab ac.1 (by omega)) ae ah.1 (by omega)).gn I).gn aj)⟩
     refine aa.on (fun g=>(vl (some ⟨g,0,none⟩) 1 1)) ((vi v.no)::dg v.state [(vl C v.chs.length cc),(vi v.sg.index),(vl O v.sg.op.length oc),(vl E v.sg.cl.length ec),(vl P v.sg.path.length pc)]) 34 rfl (fun F=>rn_buildSlice (parts1 (F.get rfl)) (build_wholeE (vs:=[(ag ((vi v.no)::dg v.state [(vl C v.chs.length cc),(vi v.sg.index),(vl O v.sg.op.length oc),(vl E v.sg.cl.length ec),(vl P v.sg.path.length pc)]))]) El25 rfl rfl (fun z0 hz0=>by rw [List.mem_singleton.1 hz0];exact (show List.length ((vi v.no)::dg v.state [(vl C v.chs.length cc),(vi v.sg.index),(vl O v.sg.op.length oc),(vl E v.sg.cl.length ec),(vl P v.sg.path.length pc)])=38 from (by simp [byteVals_len hvc.st]))) (by decide) (by decide) (by simp [Value.cells]))) fun ae Z _ ac Z Z aq aa=>?_
     have al:=ah.ext aa
     have ah:=ab.ext aa
     refine ⟨fun _ _=>⟨eX,al,ah⟩,?_⟩
     refine ao 5 rfl<|have ab:=(aj.ext aa);have Z:=OwnG.nil (R:=RVr) (k:=38) (S:=(Clip S w)) ab (fun b hb=>by simp only [Clip] at hb;omega);have ab:=(RLs.ux rVr hfc.early aa);have ax:some G≠(Value.slice (some ⟨V,0,none⟩) 0 0).ownBlock:=(ne_slice (n:=0) (c:=0) (by omega:G≠V));have aj:=ah.lt;have ay:some ae≠(Value.slice (some ⟨V,0,none⟩) 0 0).ownBlock:=(ne_slice (n:=0) (c:=0) (by omega:ae≠V));have V:=aq.lt;o_appG rVr El25 ac rfl rfl rfl rfl rfl (ac.get rfl) (ac.get rfl) Z (SrcG.of (RLs.take ab (by omega:k≤f.early.length))) (by omega) (by omega) (by omega) fun aj av V V V ab ac V am am am=>?_;have aw:=V.size
     have aA:=am G (by omega) ax
     have aD:=am ae (by omega) ay
     have aw:=grown_blk Z.1 V al (by decide)
     have al:=ah.grown V ax
     refine ⟨fun _ _=>⟨(ext_row eX V Z.1 (by omega)),aw,al⟩,?_⟩
     refine ao 8 rfl<|have ah:=(RLs.pres rCg hvc.chs (Pres.row ((((((Pres.refl w).ext Y).ext U).ext D).ext J).ext aa) V Z.1 (fun b hb h=>by simp only [Clip] at h;omega)));have ax:=(hvc.sg.op.pres (Pres.row ((((((Pres.refl w).ext Y).ext U).ext D).ext J).ext aa) V Z.1 (fun b hb h=>by simp only [Clip] at h;omega)));have aB:=(hvc.sg.cl.pres (Pres.row ((((((Pres.refl w).ext Y).ext U).ext D).ext J).ext aa) V Z.1 (fun b hb h=>by simp only [Clip] at h;omega)));have aC:=(hvc.sg.path.pres (Pres.row ((((((Pres.refl w).ext Y).ext U).ext D).ext J).ext aa) V Z.1 (fun b hb h=>by simp only [Clip] at h;omega)));have am:=(aq.grown V ay);have az:some G≠(Value.slice aj (0+k) av).ownBlock:=aA;have aq:=al.lt;have aA:some ae≠(Value.slice aj (0+k) av).ownBlock:=aD;have aj:=am.lt;o_appG rVr El25 ab rfl rfl rfl rfl rfl (ab.get rfl) (ab.get rfl) ac (SrcG.one (R:=RVr) (S:=(Clip S w)) (x:=v) am (by simp [byteVals_len hvc.st]) (one_cons rfl (one_app (byteVals_one _) (one_cons rfl (one_cons rfl (one_cons rfl (one_cons rfl (one_cons rfl one_nil))))))) ⟨_,_,_,_,rfl,(⟨hvc.st,ah,⟨ax,aB,aC,hvc.sg.o32,hvc.sg.c32,hvc.sg.p32⟩⟩:RVp (Clip S w) _ _ _ _ _ v)⟩) (by omega) (by omega) (by omega) fun av ay ab ab ab ah aj ab aq aq aq=>?_;have ax:=ab.size
     have aB:=aq G (by omega) az
     have aC:=aq ae (by omega) aA
     have ax:=grown_blk ac.1 ab aw (by decide)
     have aq:=al.grown ab az
     refine ⟨fun _ _=>⟨(ext_row (ext_row eX V Z.1 (by omega)) ab ac.1 (by omega)),ax,aq⟩,?_⟩
     refine ao 13 rfl<|have az:=(RLs.pres rVr hfc.early (Pres.row (Pres.row ((((((Pres.refl w).ext Y).ext U).ext D).ext J).ext aa) V Z.1 (fun b hb h=>by simp only [Clip] at h;omega)) ab ac.1 (fun b hb h=>by simp only [Clip] at h;omega)));have aw:some G≠(Value.slice av ((0+k)+1) ay).ownBlock:=aB;have al:=aq.lt;have al:=(am.grown ab aA);have aA:some ae≠(Value.slice av ((0+k)+1) ay).ownBlock:=aC;have am:=al.lt;o_appG rVr El25 ah rfl rfl rfl rfl rfl (ah.get rfl) (ah.get rfl) aj (SrcG.of (RLs.cut az (by omega:k≤f.early.length))) (by omega) (by omega) (by omega) fun al am ah aB ah ay az ah av av av=>?_;have aC:=ah.size
     have aC:=av G (by omega) aw
     have G:=av ae (by omega) aA
     have ae:=grown_blk aj.1 ah ax (by decide)
     have G:=aq.grown ah aw
     refine ⟨fun _ _=>⟨(ext_row (ext_row (ext_row eX V Z.1 (by omega)) ab ac.1 (by omega)) ah aj.1 (by omega)),ae,G⟩,?_⟩
     refine ay.yv 14 (vq I 35) rfl fun _ G=>ao 15 rfl<|o_store1 (new:=(dg f.pub [(vi f.many),(vi f.no),(vl FA f.items.length fa),(vl al (((0+k)+1)+(f.early.length - k)) am)])) G rfl rfl rfl rfl (G.get rfl) (G.get rfl) ae inf25 (le_mid (x:=36) (b:=1) (y:=1) (by simp [byteVals_len hfc.pub]) rfl (by decide)) rfl (set_app (k:=3) (byteVals_len hfc.pub)) fun I aq I=>?_;have ae:=I.size
     refine ⟨fun h=>absurd h (by decide),?_⟩
     refine nK au<|have ae:=G.k [0,1,2,3,4,5,6,17,7,27,34,8,76,80];wr fun G au=>ae.xw (ag (dg f.pub [(vi f.many),(vi f.no),(vl FA f.items.length fa),(vl al (((0+k)+1)+(f.early.length - k)) am)])) (fun F=>rb F rfl aq (hk:=len_dig hfc.pub)) fun _ G=>?_
     have ae:=(grown_blk aj.1 ah (grown_blk ac.1 ab (grown_blk Z.1 V ((((ar.ext U).ext D).ext J).ext aa) (by decide)) (by decide)) (by decide)).gn I
     refine G.xs rfl ae (fun ae al ae=>?_) (hk:=len_dig hfc.pub);have am:=ae.size
     refine G.xv (vi 0) fun _ G=>wn au<|wp_ret<|ret_then ?_
     refine retC1 G rfl rfl rfl al uu48 rfl (sk inf48 (len_dig hfc.pub)) ?_
     have hE:recE f v=0:=(if_neg ai).trans ((if_neg ak).trans ( (if_neg (fun q=>q.elim hnm (fun h=>by omega))).trans ((if_pos (by omega)).trans (if_neg (by omega)))))
     have hb9:=below_eq hlo hhi (by omega)
     have G:recF f v=⟨f.pub,f.many,f.no,f.items,(([]++f.early.take k)++[v])++f.early.drop k⟩:=(if_neg (fun q=>q hE)).trans ((if_pos (by omega)).trans (by rw [hb9,List.nil_append]))
     rw [G,hE]
     have G:=RLs.pres rIt hfc.items (((Pres.row (Pres.row (Pres.row ((((((Pres.refl w).ext Y).ext U).ext D).ext J).ext aa) V Z.1 (fun b hb h=>by simp only [Clip] at h;omega)) ab ac.1 (fun b hb h=>by simp only [Clip] at h;omega)) ah aj.1 (fun b hb h=>by simp only [Clip] at h;omega)).gc I).gc ae)
     have D:=RLs.pres rVr (OwnG.rls rVr az) (((Pres.refl aB).gc I).gc ae)
     exact ⟨_,_,rfl,⟨hfc.pub,RLs.sub rIt G (fun b hb=>.inl hb.1),RLs.sub rVr D (fun b hb=>hb.elim (fun h=>.inl h.1) (fun h=>.inr (by omega)))⟩,(((ext_row (ext_row (ext_row eX V Z.1 (by omega)) ab ac.1 (by omega)) ah aj.1 (by omega)).gn I).gn ae)⟩
    refine J.on (fun g=>(vl (some ⟨g,0,none⟩) 1 1)) ((vi v.no)::dg v.state [(vl C v.chs.length cc),(vi v.sg.index),(vl O v.sg.op.length oc),(vl E v.sg.cl.length ec),(vl P v.sg.path.length pc)]) 34 rfl (fun F=>rn_buildSlice (parts1 (F.get rfl)) (build_wholeE (vs:=[(ag ((vi v.no)::dg v.state [(vl C v.chs.length cc),(vi v.sg.index),(vl O v.sg.op.length oc),(vl E v.sg.cl.length ec),(vl P v.sg.path.length pc)]))]) El25 rfl rfl (fun z0 hz0=>by rw [List.mem_singleton.1 hz0];exact (show List.length ((vi v.no)::dg v.state [(vl C v.chs.length cc),(vi v.sg.index),(vl O v.sg.op.length oc),(vl E v.sg.cl.length ec),(vl P v.sg.path.length pc)])=38 from (by simp [byteVals_len hvc.st]))) (by decide) (by decide) (by simp [Value.cells]))) fun ae J _ J V V am ab=>?_
    have V:=Z.ext ab
    have aj:=ac.ext ab
    refine ⟨fun _ _=>⟨eX,V,aj⟩,?_⟩
    refine ao 0 rfl (J.on (fun g=>(vl (some ⟨g,0,none⟩) 0 0)) [] 34 rfl (fun F=>rn_buildSlice (parts0 ) (by kernel_rfl)) fun J Z _ aa Z Z ac Z=>?_)
    have al:=V.ext Z
    have ah:=aj.ext Z
    refine ⟨fun _ _=>⟨eX,al,ah⟩,?_⟩
    refine ao 5 rfl<|have V:=OwnG.nil (R:=RVr) (k:=38) (S:=(Clip S w)) ac (fun b hb=>by simp only [Clip] at hb;omega);have ac:=(RLs.ux rVr hfc.early Z);have ax:some G≠(Value.slice (some ⟨J,0,none⟩) 0 0).ownBlock:=(ne_slice (n:=0) (c:=0) (by omega:G≠J));have aj:=ah.lt;have aq:=(am.ext Z);have ay:some ae≠(Value.slice (some ⟨J,0,none⟩) 0 0).ownBlock:=(ne_slice (n:=0) (c:=0) (by omega:ae≠J));have J:=aq.lt;o_appG rVr El25 aa rfl rfl rfl rfl rfl (aa.get rfl) (aa.get rfl) V (SrcG.of (RLs.take ac (by omega:k≤f.early.length))) (by omega) (by omega) (by omega) fun aj av J J J aa ac J am am am=>?_;have aw:=J.size
    have aA:=am G (by omega) ax
    have aD:=am ae (by omega) ay
    have aw:=grown_blk V.1 J al (by decide)
    have al:=ah.grown J ax
    refine ⟨fun _ _=>⟨(ext_row eX J V.1 (by omega)),aw,al⟩,?_⟩
    refine ao 8 rfl<|have ah:=(RLs.pres rCg hvc.chs (Pres.row ((((((Pres.refl w).ext Y).ext U).ext D).ext ab).ext Z) J V.1 (fun b hb h=>by simp only [Clip] at h;omega)));have ax:=(hvc.sg.op.pres (Pres.row ((((((Pres.refl w).ext Y).ext U).ext D).ext ab).ext Z) J V.1 (fun b hb h=>by simp only [Clip] at h;omega)));have aB:=(hvc.sg.cl.pres (Pres.row ((((((Pres.refl w).ext Y).ext U).ext D).ext ab).ext Z) J V.1 (fun b hb h=>by simp only [Clip] at h;omega)));have aC:=(hvc.sg.path.pres (Pres.row ((((((Pres.refl w).ext Y).ext U).ext D).ext ab).ext Z) J V.1 (fun b hb h=>by simp only [Clip] at h;omega)));have am:=(aq.grown J ay);have az:some G≠(Value.slice aj (0+k) av).ownBlock:=aA;have aq:=al.lt;have aA:some ae≠(Value.slice aj (0+k) av).ownBlock:=aD;have aj:=am.lt;o_appG rVr El25 aa rfl rfl rfl rfl rfl (aa.get rfl) (aa.get rfl) ac (SrcG.one (R:=RVr) (S:=(Clip S w)) (x:=v) am (by simp [byteVals_len hvc.st]) (one_cons rfl (one_app (byteVals_one _) (one_cons rfl (one_cons rfl (one_cons rfl (one_cons rfl (one_cons rfl one_nil))))))) ⟨_,_,_,_,rfl,(⟨hvc.st,ah,⟨ax,aB,aC,hvc.sg.o32,hvc.sg.c32,hvc.sg.p32⟩⟩:RVp (Clip S w) _ _ _ _ _ v)⟩) (by omega) (by omega) (by omega) fun av ay aa aa aa ah aj aa aq aq aq=>?_;have ax:=aa.size
    have aB:=aq G (by omega) az
    have aC:=aq ae (by omega) aA
    have ax:=grown_blk ac.1 aa aw (by decide)
    have aq:=al.grown aa az
    refine ⟨fun _ _=>⟨(ext_row (ext_row eX J V.1 (by omega)) aa ac.1 (by omega)),ax,aq⟩,?_⟩
    refine ao 13 rfl<|have az:=(RLs.pres rVr hfc.early (Pres.row (Pres.row ((((((Pres.refl w).ext Y).ext U).ext D).ext ab).ext Z) J V.1 (fun b hb h=>by simp only [Clip] at h;omega)) aa ac.1 (fun b hb h=>by simp only [Clip] at h;omega)));have aw:some G≠(Value.slice av ((0+k)+1) ay).ownBlock:=aB;have al:=aq.lt;have al:=(am.grown aa aA);have aA:some ae≠(Value.slice av ((0+k)+1) ay).ownBlock:=aC;have am:=al.lt;o_appG rVr El25 ah rfl rfl rfl rfl rfl (ah.get rfl) (ah.get rfl) aj (SrcG.of (RLs.cut az (by omega:k≤f.early.length))) (by omega) (by omega) (by omega) fun al am ah aB ah ay az ah av av av=>?_;have aC:=ah.size
    have aC:=av G (by omega) aw
    have G:=av ae (by omega) aA
    have ae:=grown_blk aj.1 ah ax (by decide)
    have G:=aq.grown ah aw
    refine ⟨fun _ _=>⟨(ext_row (ext_row (ext_row eX J V.1 (by omega)) aa ac.1 (by omega)) ah aj.1 (by omega)),ae,G⟩,?_⟩
    refine ay.yv 14 (vq I 35) rfl fun _ G=>ao 15 rfl<|o_store1 (new:=(dg f.pub [(vi f.many),(vi f.no),(vl FA f.items.length fa),(vl al (((0+k)+1)+(f.early.length - k)) am)])) G rfl rfl rfl rfl (G.get rfl) (G.get rfl) ae inf25 (le_mid (x:=36) (b:=1) (y:=1) (by simp [byteVals_len hfc.pub]) rfl (by decide)) rfl (set_app (k:=3) (byteVals_len hfc.pub)) fun I aq I=>?_;have ae:=I.size
    refine ⟨fun h=>absurd h (by decide),?_⟩
    refine nK au<|have ae:=G.k [0,1,2,3,4,5,6,17,7,27,34,8,76,80];wr fun G au=>ae.xw (ag (dg f.pub [(vi f.many),(vi f.no),(vl FA f.items.length fa),(vl al (((0+k)+1)+(f.early.length - k)) am)])) (fun F=>rb F rfl aq (hk:=len_dig hfc.pub)) fun _ G=>?_
    have ae:=(grown_blk aj.1 ah (grown_blk ac.1 aa (grown_blk V.1 J ((((ar.ext U).ext D).ext ab).ext Z) (by decide)) (by decide)) (by decide)).gn I
    refine G.xs rfl ae (fun ae al ae=>?_) (hk:=len_dig hfc.pub);have am:=ae.size
    refine G.xv (vi 0) fun _ G=>wn au<|wp_ret<|ret_then ?_
    refine retC1 G rfl rfl rfl al uu48 rfl (sk inf48 (len_dig hfc.pub)) ?_
    have hE:recE f v=0:=(if_neg ai).trans ((if_neg ak).trans ( (if_neg (fun q=>q.elim hnm (fun h=>by omega))).trans ((if_pos (by omega)).trans (if_neg (by omega)))))
    have hb9:=below_eq hlo hhi (by omega)
    have G:recF f v=⟨f.pub,f.many,f.no,f.items,(([]++f.early.take k)++[v])++f.early.drop k⟩:=(if_neg (fun q=>q hE)).trans ((if_pos (by omega)).trans (by rw [hb9,List.nil_append]))
    rw [G,hE]
    have G:=RLs.pres rIt hfc.items (((Pres.row (Pres.row (Pres.row ((((((Pres.refl w).ext Y).ext U).ext D).ext ab).ext Z) J V.1 (fun b hb h=>by simp only [Clip] at h;omega)) aa ac.1 (fun b hb h=>by simp only [Clip] at h;omega)) ah aj.1 (fun b hb h=>by simp only [Clip] at h;omega)).gc I).gc ae)
    have D:=RLs.pres rVr (OwnG.rls rVr az) (((Pres.refl aB).gc I).gc ae)
    exact ⟨_,_,rfl,⟨hfc.pub,RLs.sub rIt G (fun b hb=>.inl hb.1),RLs.sub rVr D (fun b hb=>hb.elim (fun h=>.inl h.1) (fun h=>.inr (by omega)))⟩,(((ext_row (ext_row (ext_row eX J V.1 (by omega)) aa ac.1 (by omega)) ah aj.1 (by omega)).gn I).gn ae)⟩
   refine aC.cf<|wp_skip<|aV _ _<|wr fun Y bt=>aC.xw (ag (dg f.pub [(vi f.many),(vi f.no),(vl FA f.items.length fa),(vl FE f.early.length fe)])) (fun F=>rb F rfl ay (hk:=len_dig hfc.pub))<|Xw (ag ((vi v.no)::dg v.state [(vl C v.chs.length cc),(vi v.sg.index),(vl O v.sg.op.length oc),(vl E v.sg.cl.length ec),(vl P v.sg.path.length pc)])) (fun F=>rb F rfl aG (hk:=len_dig1 hvc.st)) fun _ Y=>have aC:=(RLs.ux rIt hfc.items U);have aF:=(RLs.ux rVr hfc.early U);have aT:=(RLs.ux rCg hvc.chs U);have aU:=(hvc.sg.op.ux U);have aV:=(hvc.sg.cl.ux U);have bg:=(hvc.sg.path.ux U);Y.xc (rapplied_at (S:=(Clip S w)) f v _ (⟨hfc.pub,aC,aF⟩:RFo (Clip S w) _ _ _ f) (⟨hvc.st,aT,⟨aU,aV,bg,hvc.sg.o32,hvc.sg.c32,hvc.sg.p32⟩⟩:RVp (Clip S w) _ _ _ _ _ v) (show v.no=f.no+1 by omega) (show 0≤f.no∧f.no≤4096 from ⟨by omega,by omega⟩) hdi hdv) ?_
   obtain ⟨am,aJ⟩:∃ z,z=stepF f v:=⟨_,rfl⟩
   rw [← aJ]
   rintro _ aB ⟨U,U,rfl,a8,bx⟩
   obtain ⟨aL,a0,rfl,U,U⟩:=RLs.form a8.items;obtain ⟨aM,a1,rfl,U,U⟩:=RLs.form a8.early
   have U:=RFo.subB (S':=(Clip (Fr (Clip S w) bc) aB)) a8 (fun b hl hb=>⟨hb,hl⟩)
   refine ⟨_,rfl,?_⟩;intro Y Y;have aC:=bx.size
   refine Y.xm rfl<|Xv (ag (dg am.pub [(vi am.many),(vi am.no),(vl aL am.items.length a0),(vl aM am.early.length a1)]))<|Xv (vd (fits f v)) fun _ Y=>Y.xz fz 48 fun V Y _ Y aC aC aC aT=>?_
   refine Y.xs rfl aC (fun aV aU au=>?_) (hk:=len_dig U.pub);have aC:=au.size
   refine Y.xa rfl fun _ Y=>wn bt<|have aC:=Y.k [0,1,2,3,4,5,6,17,7,27,34,8,76,9,10];wp_seq_k fun Y Y=>wr fun aF aF=>aC.xm rfl<|Xw (.bool (!(decide (fits f v)))) (fun F=>rn_not' (F.get rfl) rfl) fun _ aD=>wn aF ?_
   by_cases ba:fits f v
   ·refine aD.cf<|wp_skip<|Y _ _<|wp_seq_k fun Y bj=>wp_block ?_
    have hsf0:=stepF_facts f v;rw [← aJ] at hsf0;obtain ⟨Y,Y,aF,Y⟩:=hsf0
    have Y:=RLs.pres rIt U.items (((Pres.refl aB).ext aT).grownN au (fun h=>by first | exact h.2.1 rfl | exact h.2.2.1 rfl | exact h.2.2.2 rfl | (simp only [Clip,Fz,Fr] at h;omega)))
    have aC:=RLs.pres rVr U.early (((Pres.refl aB).ext aT).grownN au (fun h=>by first | exact h.2.1 rfl | exact h.2.2.1 rfl | exact h.2.2.2 rfl | (simp only [Clip,Fz,Fr] at h;omega)))
    have aT:=ay.ug au
    have ay:=aG.ug au
    have aG:=ar.ug au
    refine wp_loop (fun a' W=>∃ (g:Fo) (GA:Option Addr) (ga:Nat) (GE:Option Addr) (ge:Nat),Sl 139 [(0,(ag (dg f.pub [(vi f.many),(vi f.no),(vl FA f.items.length fa),(vl FE f.early.length fe)]))),(1,(ag ((vi v.no)::dg v.state [(vl C v.chs.length cc),(vi v.sg.index),(vl O v.sg.op.length oc),(vl E v.sg.cl.length ec),(vl P v.sg.path.length pc)]))),(2,(vp I)),(3,(vp G)),(4,(vp Z)),(5,(vi 0)),(6,(vi (checkFE f))),(17,(vd (((checkFE f):Int)≠(0:Int)))),(7,(vi (verifyE f.pub f.many v))),(27,(vd (((verifyE f.pub f.many v):Int)≠(0:Int)))),(34,(vd ((v.no:Int)≤(f.no:Int)))),(8,(vi k)),(76,(vd ((f.no+1:Int)<(v.no:Int)))),(9,(vp V)),(10,(vd (fits f v))),(105,(.bool (!(decide (fits f v)))))] a'∧drain g g.early=drain (stepF f v) f.early∧(0≤g.no∧g.no≤4096)∧((∀ y∈g.items,y.data.length≤4294967296))∧((∀ x∈g.early,x∈f.early))∧Ext w W∧Blk W I 48 (dg f.pub [(vi f.many),(vi f.no),(vl FA f.items.length fa),(vl FE f.early.length fe)])∧Blk W G 34 ((vi v.no)::dg v.state [(vl C v.chs.length cc),(vi v.sg.index),(vl O v.sg.op.length oc),(vl E v.sg.cl.length ec),(vl P v.sg.path.length pc)])∧Blk W Z 48 fz∧Blk W V 48 (dg g.pub [(vi g.many),(vi g.no),(vl GA g.items.length ga),(vl GE g.early.length ge)])∧RLs RIt 2 (Clip (Fr (Clip S w) bc) aB) W (vl aL am.items.length a0) am.items∧RLs RVr 38 (Clip (Fr (Clip S w) bc) aB) W (vl aM am.early.length a1) am.early∧RFo (Fz S w I Z V) W (vl GA g.items.length ga) (vl GE g.early.length ge) g∧aV.heap.size≤W.heap.size) (fun _ W'=>lenCell W' V 35) ⟨am,aL,a0,aM,a1,aD.j,(by rw [aF,aJ]),⟨by omega,by omega⟩,(by rw [aJ];exact stepF_sm hdi hdv),(by rw [aF];exact fun _ h=>h),eX,aT,ay,aG,aU,Y,aC,(⟨U.pub,(RLs.sub rIt Y (fun b hb=>⟨hb.1.elim (fun h=>.inl h.1) (fun h=>.inr (by omega)),by simp only [Clip,Fr] at hb;omega,by simp only [Clip,Fr] at hb;omega,by simp only [Clip,Fr] at hb;omega⟩)),(RLs.sub rVr aC (fun b hb=>⟨hb.1.elim (fun h=>.inl h.1) (fun h=>.inr (by omega)),by simp only [Clip,Fr] at hb;omega,by simp only [Clip,Fr] at hb;omega,by simp only [Clip,Fr] at hb;omega⟩))⟩:RFo (Fz S w I Z V) _ _ _ am),(Nat.le_refl _)⟩ ?_
    rintro G aj ⟨g,GA,ga,GE,ge,U,aK,G,Y,am,ay,aW,aX,az,aH,bm,bn,G,aB⟩
    have aB:=U
    have aB:=ay.size
    have ay:=aW.lt
    have ay:=aX.lt
    have ay:=az.lt
    have ay:=aH.lt
    have J:=RFo.subB (S':=Clip (Fz S w I Z V) aj) G (fun b hl hb=>⟨hb,hl⟩)
    obtain ⟨-,ay,ay⟩:=RLs.at G.items;obtain ⟨-,ay,ay⟩:=RLs.at G.early
    have hgi:=Y;have hsub:=am
    have hge:∀ v∈g.early,∀ x∈v.chs,x.data.length≤4294967296:=fun v h=>hde v (hsub v h)
    refine wp_seq_k fun G bu=>wp_seq_k fun G bk=>sX (fun aq W=>Ext aq W∧Blk W V 48 (dg g.pub [(vi g.many),(vi g.no),(vl GA g.items.length ga),(vl GE g.early.length ge)])) (fun i=>false) 15 fun aq aa G=>U.yv 0 (vq V 35) rfl fun _ G=>have aA:=(aH.ext aa);have aI:Ext aq aq∧Blk aq V 48 (dg g.pub [(vi g.many),(vi g.no),(vl GA g.items.length ga),(vl GE g.early.length ge)]):=⟨(Ext.refl aq),aA⟩;G.ys 1 (vl GE g.early.length ge) rfl aI (fun F W hW=>rl F rfl ((hW.2.rule.1 35).trans ((at_app (k:=3) (byteVals_len J.pub)).trans rfl)))<|Yv 2 (vi g.early.length) rfl<|Yv 3 (vd ((0:Int)<(g.early.length:Int))) rfl<|Ym 4 rfl fun _ bf=>?_
    by_cases G:(0:Int)<(g.early.length:Int)
    ·refine bf.yg 5 (vq V 35) rfl<|Ysg 6 (vl GE g.early.length ge) rfl aI (fun F W hW=>rl F rfl ((hW.2.rule.1 35).trans ((at_app (k:=3) (byteVals_len J.pub)).trans rfl)))<|fun _ bp=>?_
     have G:=RLs.ext rVr J.early aa
     obtain ⟨aY,bb,D,U,bi,aw,U,bl,bw⟩:=RLs.get G (by omega:0<g.early.length)
     obtain ⟨G,G,G,G,rfl,ab⟩:=bw
     obtain ⟨aN,a2,rfl,G,G⟩:=RLs.form ab.chs
     obtain ⟨aO,a3,rfl,G,G⟩:=Fl.form ab.sg.op
     obtain ⟨aP,a4,rfl,G,G⟩:=Fl.form ab.sg.cl
     obtain ⟨aQ,a5,rfl,G,G⟩:=Fl.form ab.sg.path
     refine bp.ygw 7 (vq aY (bb+0*38)) rfl (fun F W=>rn_indexE uu25 inf34 ((F.get rfl).trans (by rw [bi])) rfl (by omega:(0:Int)≤0) (by omega:(0:Int)<(g.early.length:Int)) (by omega))<|Yg 8 (vq aY (bb+0*38)) rfl<|Ysg 9 (vi D.no) rfl aI (fun F W hW=>rl F rfl ((fun j u hu=>Ext.keep ((Ext.refl aq).trans hW.1) (bl j u hu)) 0 _ rfl))<|Yg 10 (vq V 33) rfl<|Ysg 11 (vi g.no) rfl aI (fun F W hW=>rl F rfl ((hW.2.rule.1 33).trans ((at_app (k:=1) (byteVals_len J.pub)).trans rfl)))<|Yg 12 (vi (g.no+1)) rfl<|Yg 13 (vd ((D.no:Int)=(g.no+1:Int))) rfl<|Yv 14 (vd ((D.no:Int)=(g.no+1:Int))) rfl fun _ G=>nK bk ?_
     have aE:=G.k [0,1,2,3,4,5,6,17,7,27,34,8,76,9,10,105,121]
     by_cases G:(D.no:Int)=(g.no+1:Int)
     ·refine aE.ct<|wp_skip<|bu _ _<|wp_block<|wr fun G am=>aE.xv (vq V 35)<|Xw (vl GE g.early.length ge) (fun F=>rl F rfl ((aA.rule.1 35).trans ((at_app (k:=3) (byteVals_len J.pub)).trans rfl)))<|Xw (vq aY (bb+0*38)) (fun F=>rn_indexE uu25 inf34 ((F.get rfl).trans (by rw [bi])) rfl (by omega:(0:Int)≤0) (by omega:(0:Int)<(g.early.length:Int)) (by omega))<|Xw (ag ((vi D.no)::dg D.state [(vl aN D.chs.length a2),(vi D.sg.index),(vl aO D.sg.op.length a3),(vl aP D.sg.cl.length a4),(vl aQ D.sg.path.length a5)])) (fun F=>rn_loadN (cs:=((vi D.no)::dg D.state [(vl aN D.chs.length a2),(vi D.sg.index),(vl aO D.sg.op.length a3),(vl aP D.sg.cl.length a4),(vl aQ D.sg.path.length a5)])) (F.get rfl) uu34 rfl (sk inf34 (len_dig1 ab.st)) bl) fun _ G=>G.xz vz 34 fun G G _ G U U U al=>?_
      refine G.xs rfl U (fun U Y ae=>?_) (hk:=len_dig1 ab.st);have U:=ae.size
      refine wn am<|have U:=G.k [0,1,2,3,4,5,6,17,7,27,34,8,76,9,10,105,121,11];wr fun G am=>U.xv (vq V 35) fun _ G=>have U:=aA.ug ae;G.xw (vl GE g.early.length ge) (fun F=>rl F rfl ((U.rule.1 35).trans ((at_app (k:=3) (byteVals_len J.pub)).trans rfl)))<|Xv (vl (cutA GE ge 1 38) (g.early.length - 1) (ge - 1))<|Xv (vq V 35) fun _ G=>wpl_op (i:=4) rfl<|o_store1 (new:=(dg g.pub [(vi g.many),(vi g.no),(vl GA g.items.length ga),(vl (cutA GE ge 1 38) (g.early.length - 1) (ge - 1))])) G rfl rfl rfl rfl (G.get rfl) (G.get rfl) U inf25 (le_mid (x:=36) (b:=1) (y:=1) (by simp [byteVals_len J.pub]) rfl (by decide)) rfl (set_app (k:=3) (byteVals_len J.pub)) fun bz aZ ah=>have U:=ah.size;wn am<|have U:=G.k [0,1,2,3,4,5,6,17,7,27,34,8,76,9,10,105,121,11];wr fun G bv=>U.xw (ag (dg g.pub [(vi g.many),(vi g.no),(vl GA g.items.length ga),(vl (cutA GE ge 1 38) (g.early.length - 1) (ge - 1))])) (fun F=>rb F rfl aZ (hk:=len_dig J.pub)) fun _ G=>have U:=(Y.gn ah);G.xw (ag ((vi D.no)::dg D.state [(vl aN D.chs.length a2),(vi D.sg.index),(vl aO D.sg.op.length a3),(vl aP D.sg.cl.length a4),(vl aQ D.sg.path.length a5)])) (fun F=>rb F rfl U (hk:=len_dig1 ab.st)) fun _ G=>?_
      have U:=RLs.pres rIt J.items (((((Pres.refl aj).ext aa).ext al).grownN ae (fun h=>by first | exact h.2.1 rfl | exact h.2.2.1 rfl | exact h.2.2.2 rfl | (simp only [Clip,Fz,Fr] at h;omega))).grownN ah (fun h=>by first | exact h.2.1 rfl | exact h.2.2.1 rfl | exact h.2.2.2 rfl | (simp only [Clip,Fz,Fr] at h;omega)))
      have Y:=RLs.pres rVr J.early (((((Pres.refl aj).ext aa).ext al).grownN ae (fun h=>by first | exact h.2.1 rfl | exact h.2.2.1 rfl | exact h.2.2.2 rfl | (simp only [Clip,Fz,Fr] at h;omega))).grownN ah (fun h=>by first | exact h.2.1 rfl | exact h.2.2.1 rfl | exact h.2.2.2 rfl | (simp only [Clip,Fz,Fr] at h;omega)))
      have am:=RLs.pres rCg ab.chs ((((Pres.refl aq).ext al).grownN ae (fun h=>by first | exact h.2.1 rfl | exact h.2.2.1 rfl | exact h.2.2.2 rfl | (simp only [Clip,Fz,Fr] at h;omega))).grownN ah (fun h=>by first | exact h.2.1 rfl | exact h.2.2.1 rfl | exact h.2.2.2 rfl | (simp only [Clip,Fz,Fr] at h;omega)))
      have ay:=ab.sg.op.pres ((((Pres.refl aq).ext al).grownN ae (fun h=>by first | exact h.2.1 rfl | exact h.2.2.1 rfl | exact h.2.2.2 rfl | (simp only [Clip,Fz,Fr] at h;omega))).grownN ah (fun h=>by first | exact h.2.1 rfl | exact h.2.2.1 rfl | exact h.2.2.2 rfl | (simp only [Clip,Fz,Fr] at h;omega)))
      have aB:=ab.sg.cl.pres ((((Pres.refl aq).ext al).grownN ae (fun h=>by first | exact h.2.1 rfl | exact h.2.2.1 rfl | exact h.2.2.2 rfl | (simp only [Clip,Fz,Fr] at h;omega))).grownN ah (fun h=>by first | exact h.2.1 rfl | exact h.2.2.1 rfl | exact h.2.2.2 rfl | (simp only [Clip,Fz,Fr] at h;omega)))
      have aC:=ab.sg.path.pres ((((Pres.refl aq).ext al).grownN ae (fun h=>by first | exact h.2.1 rfl | exact h.2.2.1 rfl | exact h.2.2.2 rfl | (simp only [Clip,Fz,Fr] at h;omega))).grownN ah (fun h=>by first | exact h.2.1 rfl | exact h.2.2.1 rfl | exact h.2.2.2 rfl | (simp only [Clip,Fz,Fr] at h;omega)))
      refine G.xC (c:=rapplied_at (S:=(Fz S w I Z V)) (⟨g.pub,g.many,g.no,g.items,g.early.drop 1⟩:Fo) D _ (⟨J.pub,(RLs.sub rIt U (fun b hb=>hb.1)),(RLs.sub rVr (RLs.cut Y (by omega:1≤g.early.length)) (fun b hb=>hb.1))⟩:RFo (Fz S w I Z V) _ _ _ (⟨g.pub,g.many,g.no,g.items,g.early.drop 1⟩:Fo)) (⟨ab.st,(RLs.sub rCg am (fun b hb=>hb.1)),⟨(Fl.sub ay (fun b hb=>hb.1)),(Fl.sub aB (fun b hb=>hb.1)),(Fl.sub aC (fun b hb=>hb.1)),ab.sg.o32,ab.sg.c32,ab.sg.p32⟩⟩:RVp (Fz S w I Z V) _ _ _ _ _ D) (show D.no=g.no+1 by omega) (show 0≤g.no∧g.no≤4096 from ⟨by omega,by omega⟩) hgi (hde D (hsub D (List.mem_of_getElem? aw)))) (k:=?_)
      obtain ⟨ac,av⟩:∃ z,z=stepF (⟨g.pub,g.many,g.no,g.items,g.early.drop 1⟩:Fo) D:=⟨_,rfl⟩
      rw [← av]
      rintro _ bd ⟨G,G,rfl,a9,ax⟩
      obtain ⟨aR,a6,rfl,G,G⟩:=RLs.form a9.items;obtain ⟨aS,a7,rfl,G,G⟩:=RLs.form a9.early
      have ab:=RFo.subB (S':=(Clip (Fr (Fz S w I Z V) bz) bd)) a9 (fun b hl hb=>⟨hb,hl⟩)
      refine ⟨_,rfl,?_⟩;intro G G;have U:=ax.size
      refine G.xm rfl<|Xv (ag (dg ac.pub [(vi ac.many),(vi ac.no),(vl aR ac.items.length a6),(vl aS ac.early.length a7)]))<|Xv (vd (fits (⟨g.pub,g.many,g.no,g.items,g.early.drop 1⟩:Fo) D)) fun _ G=>G.xz fz 48 fun G G _ U G G G Y=>?_
      refine U.xs rfl G (fun aq ak G=>?_) (hk:=len_dig ab.pub);have ai:=G.size
      refine U.xa rfl fun _ U=>wn bv<|have ai:=U.k [0,1,2,3,4,5,6,17,7,27,34,8,76,9,10,105,121,11,12,13];wr fun U am=>ai.xm rfl fun _ U=>wn am ?_
      by_cases am:fits (⟨g.pub,g.many,g.no,g.items,g.early.drop 1⟩:Fo) D
      ·refine U.ct<|wp_region_lit<|U.xw (ag (dg ac.pub [(vi ac.many),(vi ac.no),(vl aR ac.items.length a6),(vl aS ac.early.length a7)])) (fun F=>rb F rfl ak (hk:=len_dig ab.pub)) fun _ ak=>?_
       have U:=aZ.ug G
       refine ak.xs rfl U (fun U am U=>?_) (hk:=len_dig ab.pub) (hl:=len_dig J.pub);have ai:=U.size
       refine wpList_nil ?_
       have hsf:=stepF_facts (⟨g.pub,g.many,g.no,g.items,g.early.drop 1⟩:Fo) D
       rw [← av] at hsf;simp only at hsf
       obtain ⟨hs1,hs2,hs3,hs4⟩:=hsf
       have hxe:=early_no hck (hsub D (List.mem_of_getElem? aw))
       have ai:D.no=g.no+1:=by omega
       have aq:=RLs.pres rIt bm (((((((((Pres.refl aj).ext aa).ext al).grownN ae (fun h=>by first | exact h.2.1 rfl | exact h.2.2.1 rfl | exact h.2.2.2 rfl | (simp only [Clip,Fz,Fr] at h;omega))).grownN ah (fun h=>by first | exact h.2.1 rfl | exact h.2.2.1 rfl | exact h.2.2.2 rfl | (simp only [Clip,Fz,Fr] at h;omega))).ext ax).ext Y).grownN G (fun h=>by first | exact h.2.1 rfl | exact h.2.2.1 rfl | exact h.2.2.2 rfl | (simp only [Clip,Fz,Fr] at h;omega))).grownN U (fun h=>by first | exact h.2.1 rfl | exact h.2.2.1 rfl | exact h.2.2.2 rfl | (simp only [Clip,Fz,Fr] at h;omega)))
       have ar:=RLs.pres rVr bn (((((((((Pres.refl aj).ext aa).ext al).grownN ae (fun h=>by first | exact h.2.1 rfl | exact h.2.2.1 rfl | exact h.2.2.2 rfl | (simp only [Clip,Fz,Fr] at h;omega))).grownN ah (fun h=>by first | exact h.2.1 rfl | exact h.2.2.1 rfl | exact h.2.2.2 rfl | (simp only [Clip,Fz,Fr] at h;omega))).ext ax).ext Y).grownN G (fun h=>by first | exact h.2.1 rfl | exact h.2.2.1 rfl | exact h.2.2.2 rfl | (simp only [Clip,Fz,Fr] at h;omega))).grownN U (fun h=>by first | exact h.2.1 rfl | exact h.2.2.1 rfl | exact h.2.2.2 rfl | (simp only [Clip,Fz,Fr] at h;omega)))
       have ae:=RLs.pres rIt ab.items ((((Pres.refl bd).ext Y).grownN G (fun h=>by first | exact h.2.1 rfl | exact h.2.2.1 rfl | exact h.2.2.2 rfl | (simp only [Clip,Fz,Fr] at h;omega))).grownN U (fun h=>by first | exact h.2.1 rfl | exact h.2.2.1 rfl | exact h.2.2.2 rfl | (simp only [Clip,Fz,Fr] at h;omega)))
       have ah:=RLs.pres rVr ab.early ((((Pres.refl bd).ext Y).grownN G (fun h=>by first | exact h.2.1 rfl | exact h.2.2.1 rfl | exact h.2.2.2 rfl | (simp only [Clip,Fz,Fr] at h;omega))).grownN U (fun h=>by first | exact h.2.1 rfl | exact h.2.2.1 rfl | exact h.2.2.2 rfl | (simp only [Clip,Fz,Fr] at h;omega)))
       have G:=aW.ug U
       have Y:=aX.ug U
       have aa:=az.ug U
       refine ⟨⟨ac,aR,a6,aS,a7,ak.j,(by rw [show ac.early=g.early.drop 1 from hs3,av];exact (drain_step aw ai).trans aK),⟨by omega,by omega⟩,(by rw [av];exact stepF_sm hgi (hde D (hsub D (List.mem_of_getElem? aw)))),(by rw [hs3];exact fun x h=>hsub x (List.mem_of_mem_drop h)),eX,G,Y,aa,am,aq,ar,(⟨ab.pub,(RLs.sub rIt ae (fun b hb=>hb.1.elim (fun h=>h) (fun h=>⟨.inr (by omega),by omega,by omega,by omega⟩))),(RLs.sub rVr ah (fun b hb=>hb.1.elim (fun h=>h) (fun h=>⟨.inr (by omega),by omega,by omega,by omega⟩)))⟩:RFo (Fz S w I Z V) _ _ _ ac),(by omega)⟩,?_⟩
       rw [lenCell_of ((am.rule.1 35).trans ((at_app (k:=3) (byteVals_len ab.pub)).trans rfl)),lenCell_of ((aH.rule.1 35).trans ((at_app (k:=3) (byteVals_len J.pub)).trans rfl))];have h5:=congrArg List.length hs3;simp only [List.length_drop] at h5;omega
      refine U.cf<|wp_skip ?_
      have hsf:=stepF_facts (⟨g.pub,g.many,g.no,g.items,g.early.drop 1⟩:Fo) D
      rw [← av] at hsf;simp only at hsf
      obtain ⟨hs1,hs2,hs3,hs4⟩:=hsf
      have hxe:=early_no hck (hsub D (List.mem_of_getElem? aw))
      have ai:D.no=g.no+1:=by omega
      have hst9:ac=(⟨g.pub,g.many,g.no,g.items,g.early.drop 1⟩:Fo):=av.trans (if_neg am)
      have hdr9:=(drain_step aw ai).trans aK;rw [← av,hst9] at hdr9
      have ab:(⟨g.pub,g.many,g.no,g.items,g.early.drop 1⟩:Fo).early.length=g.early.length - 1:=List.length_drop
      have ac:=aZ.ug G
      have D:Blk aq V 48 (dg ((⟨g.pub,g.many,g.no,g.items,g.early.drop 1⟩:Fo).pub) [(vi ((⟨g.pub,g.many,g.no,g.items,g.early.drop 1⟩:Fo).many)),(vi ((⟨g.pub,g.many,g.no,g.items,g.early.drop 1⟩:Fo).no)),(vl GA ((⟨g.pub,g.many,g.no,g.items,g.early.drop 1⟩:Fo).items.length) ga),(vl (cutA GE ge 1 38) ((⟨g.pub,g.many,g.no,g.items,g.early.drop 1⟩:Fo).early.length) (ge - 1))]):=by rw [ab];exact ac
      have ai:=RLs.pres rIt bm ((((((((Pres.refl aj).ext aa).ext al).grownN ae (fun h=>by first | exact h.2.1 rfl | exact h.2.2.1 rfl | exact h.2.2.2 rfl | (simp only [Clip,Fz,Fr] at h;omega))).grownN ah (fun h=>by first | exact h.2.1 rfl | exact h.2.2.1 rfl | exact h.2.2.2 rfl | (simp only [Clip,Fz,Fr] at h;omega))).ext ax).ext Y).grownN G (fun h=>by first | exact h.2.1 rfl | exact h.2.2.1 rfl | exact h.2.2.2 rfl | (simp only [Clip,Fz,Fr] at h;omega)))
      have ak:=RLs.pres rVr bn ((((((((Pres.refl aj).ext aa).ext al).grownN ae (fun h=>by first | exact h.2.1 rfl | exact h.2.2.1 rfl | exact h.2.2.2 rfl | (simp only [Clip,Fz,Fr] at h;omega))).grownN ah (fun h=>by first | exact h.2.1 rfl | exact h.2.2.1 rfl | exact h.2.2.2 rfl | (simp only [Clip,Fz,Fr] at h;omega))).ext ax).ext Y).grownN G (fun h=>by first | exact h.2.1 rfl | exact h.2.2.1 rfl | exact h.2.2.2 rfl | (simp only [Clip,Fz,Fr] at h;omega)))
      have am:=RLs.pres rIt J.items ((((((((Pres.refl aj).ext aa).ext al).grownN ae (fun h=>by first | exact h.2.1 rfl | exact h.2.2.1 rfl | exact h.2.2.2 rfl | (simp only [Clip,Fz,Fr] at h;omega))).grownN ah (fun h=>by first | exact h.2.1 rfl | exact h.2.2.1 rfl | exact h.2.2.2 rfl | (simp only [Clip,Fz,Fr] at h;omega))).ext ax).ext Y).grownN G (fun h=>by first | exact h.2.1 rfl | exact h.2.2.1 rfl | exact h.2.2.2 rfl | (simp only [Clip,Fz,Fr] at h;omega)))
      have aq:=RLs.pres rVr J.early ((((((((Pres.refl aj).ext aa).ext al).grownN ae (fun h=>by first | exact h.2.1 rfl | exact h.2.2.1 rfl | exact h.2.2.2 rfl | (simp only [Clip,Fz,Fr] at h;omega))).grownN ah (fun h=>by first | exact h.2.1 rfl | exact h.2.2.1 rfl | exact h.2.2.2 rfl | (simp only [Clip,Fz,Fr] at h;omega))).ext ax).ext Y).grownN G (fun h=>by first | exact h.2.1 rfl | exact h.2.2.1 rfl | exact h.2.2.2 rfl | (simp only [Clip,Fz,Fr] at h;omega)))
      have Y:=aW.ug G
      have aa:=aX.ug G
      have ac:=az.ug G
      refine ⟨⟨(⟨g.pub,g.many,g.no,g.items,g.early.drop 1⟩:Fo),GA,ga,(cutA GE ge 1 38),ge - 1,U.j,hdr9,⟨by show 0≤g.no;omega,by show g.no≤4096;omega⟩,hgi,(fun x h=>hsub x (List.mem_of_mem_drop h)),eX,Y,aa,ac,D,ai,ak,(by rw [ab];exact (⟨J.pub,(RLs.sub rIt am (fun b hb=>hb.1)),(RLs.sub rVr (RLs.cut aq (by omega:1≤g.early.length)) (fun b hb=>hb.1))⟩:RFo (Fz S w I Z V) _ _ _ (⟨g.pub,g.many,g.no,g.items,g.early.drop 1⟩:Fo))),(by omega)⟩,?_⟩
      rw [lenCell_of ((D.rule.1 35).trans ((at_app (k:=3) (byteVals_len J.pub)).trans rfl)),lenCell_of ((aH.rule.1 35).trans ((at_app (k:=3) (byteVals_len J.pub)).trans rfl))];omega
     refine aE.cf<|wp_exit<|exit_then<|exit_then<|exit_here<|bj _ _<|wr fun D U=>aE.xw (ag (dg g.pub [(vi g.many),(vi g.no),(vl GA g.items.length ga),(vl GE g.early.length ge)])) (fun F=>rb F rfl aA (hk:=len_dig J.pub)) fun _ D=>?_
     have G:=az.ext aa
     refine D.xs rfl G (fun G G ac=>?_) (hk:=len_dig J.pub);have Y:=ac.size
     refine D.xv (vi 0) fun _ D=>wn U<|wp_ret ?_
     refine retC1 D rfl rfl rfl G uu48 rfl (sk inf48 (len_dig J.pub)) ?_
     have hE:recE f v=0:=(if_neg ai).trans ((if_neg ak).trans ( (if_neg (fun q=>q.elim hnm (fun h=>by omega))).trans ((if_neg (by omega)).trans (if_pos ba))))
     have hend:drain g g.early=g:=drain_end (fun x hx=>by rw [aw] at hx;injection hx with hx;subst hx;omega)
     have G:recF f v=g:=(if_neg (fun q=>q hE)).trans ((if_neg (by omega)).trans (by rw [← aK];exact hend))
     rw [G,hE]
     have D:=RLs.pres rIt J.items (((Pres.refl aj).ext aa).grownN ac (fun h=>by first | exact h.2.1 rfl | exact h.2.2.1 rfl | exact h.2.2.2 rfl | (simp only [Clip,Fz,Fr] at h;omega)))
     have G:=RLs.pres rVr J.early (((Pres.refl aj).ext aa).grownN ac (fun h=>by first | exact h.2.1 rfl | exact h.2.2.1 rfl | exact h.2.2.2 rfl | (simp only [Clip,Fz,Fr] at h;omega)))
     exact ⟨_,_,rfl,RFo.subB (⟨J.pub,(RLs.sub rIt D (fun b hb=>hb.1)),(RLs.sub rVr G (fun b hb=>hb.1))⟩:RFo (Fz S w I Z V) _ _ _ g) (fun b _ hb=>hb.1),eX⟩
    refine bf.yu 5 rfl<|Yu 6 rfl<|Yu 7 rfl<|Yu 8 rfl<|Yu 9 rfl<|Yu 10 rfl<|Yu 11 rfl<|Yu 12 rfl<|Yu 13 rfl<|Yv 14 (.bool false) rfl fun _ G=>nK bk<|have D:=G.k [0,1,2,3,4,5,6,17,7,27,34,8,76,9,10,105,121];D.cf<|wp_exit<|exit_then<|exit_then<|exit_here<|bj _ _<|wr fun G Y=>D.xw (ag (dg g.pub [(vi g.many),(vi g.no),(vl GA g.items.length ga),(vl GE g.early.length ge)])) (fun F=>rb F rfl aA (hk:=len_dig J.pub)) fun _ G=>?_
    have D:=az.ext aa
    refine G.xs rfl D (fun D U D=>?_) (hk:=len_dig J.pub);have ab:=D.size
    refine G.xv (vi 0) fun _ G=>wn Y<|wp_ret ?_
    refine retC1 G rfl rfl rfl U uu48 rfl (sk inf48 (len_dig J.pub)) ?_
    have hE:recE f v=0:=(if_neg ai).trans ((if_neg ak).trans ( (if_neg (fun q=>q.elim hnm (fun h=>by omega))).trans ((if_neg (by omega)).trans (if_pos ba))))
    have hend:drain g g.early=g:=drain_end (fun x hx=>by have:=(List.getElem?_eq_some_iff.1 hx).1;omega)
    have G:recF f v=g:=(if_neg (fun q=>q hE)).trans ((if_neg (by omega)).trans (by rw [← aK];exact hend))
    rw [G,hE]
    have G:=RLs.pres rIt J.items (((Pres.refl aj).ext aa).grownN D (fun h=>by first | exact h.2.1 rfl | exact h.2.2.1 rfl | exact h.2.2.2 rfl | (simp only [Clip,Fz,Fr] at h;omega)))
    have U:=RLs.pres rVr J.early (((Pres.refl aj).ext aa).grownN D (fun h=>by first | exact h.2.1 rfl | exact h.2.2.1 rfl | exact h.2.2.2 rfl | (simp only [Clip,Fz,Fr] at h;omega)))
    exact ⟨_,_,rfl,RFo.subB (⟨J.pub,(RLs.sub rIt G (fun b hb=>hb.1)),(RLs.sub rVr U (fun b hb=>hb.1))⟩:RFo (Fz S w I Z V) _ _ _ g) (fun b _ hb=>hb.1),eX⟩
   refine aD.ct<|wr fun D I=>aD.xw (ag fz) (fun F=>rn_build (parts0 ) (by kernel_rfl)) fun _ D=>have G:=ar.ug au;D.xs rfl G (fun G G J=>have U:=J.size;D.xv (vi 400) fun _ D=>wn I<|wp_ret<|ret_then ?_)
   refine retC1 D rfl rfl rfl G uu48 rfl (sk inf48 (len_dig zero32_len)) ?_
   have hE:recE f v=400:=(if_neg ai).trans ((if_neg ak).trans ( (if_neg (fun q=>q.elim hnm (fun h=>by omega))).trans ((if_neg (by omega)).trans (if_neg ba))))
   have G:recF f v=foNil:=if_pos (by rw [hE];decide)
   rw [G,hE]
   exact ⟨_,_,rfl,foNil_at _,eX⟩
theorem rreceive_at (f:Fo) (v:Vr) (w:World) (hf:RFo S w c e f) (hv:RVp S w c1 o1 e1 p1 v) (hdi:∀ x∈f.items,x.data.length≤4294967296) (hde:∀ v∈f.early,∀ x∈v.chs,x.data.length≤4294967296) (hdv:∀ x∈v.chs,x.data.length≤4294967296) :
  Calls Tryz.prog 18 #[ag (fcs f.pub f.many f.no c e),ag (vcs v.no v.state c1 v.sg.index o1 e1 p1)] w (fun en w'=>∃ c' e',en=.returned (.tuple #[ag (fcs (recF f v).pub (recF f v).many (recF f v).no c' e'),.int .i64 (recE f v)])∧RFo (Fr S w) w' c' e' (recF f v)∧Ext w w'):=by
 obtain ⟨FA,fa,rfl,_⟩:=RLs.form hf.items
 obtain ⟨FE,fe,rfl,_⟩:=RLs.form hf.early
 obtain ⟨C,cc,rfl,_⟩:=RLs.form hv.chs
 obtain ⟨O,oc,rfl,_⟩:=Fl.form hv.sg.op
 obtain ⟨E,ec,rfl,_⟩:=Fl.form hv.sg.cl
 obtain ⟨P,pc,rfl,_⟩:=Fl.form hv.sg.path
 exact rreceive_any FA fa FE fe C cc O oc E ec P pc f v w hf hv hdi hde hdv
theorem samev_any (C:Option Addr) (cc:Nat) (O:Option Addr) (oc:Nat) (E:Option Addr) (ec:Nat) (P:Option Addr) (pc:Nat) (DC:Option Addr) (dcc:Nat) (DO:Option Addr) (doc:Nat) (DE:Option Addr) (dec:Nat) (DP:Option Addr) (dpc:Nat) (v:Vr) (w:World) (h1:RVp S w (vl C v.chs.length cc) (vl O v.sg.op.length oc) (vl E v.sg.cl.length ec) (vl P v.sg.path.length pc) v) (h2:RVp S w (vl DC v.chs.length dcc) (vl DO v.sg.op.length doc) (vl DE v.sg.cl.length dec) (vl DP v.sg.path.length dpc) v) :
  Calls Tryz.prog 12 #[(ag ((vi v.no)::dg v.state [(vl C v.chs.length cc),(vi v.sg.index),(vl O v.sg.op.length oc),(vl E v.sg.cl.length ec),(vl P v.sg.path.length pc)])),(ag ((vi v.no)::dg v.state [(vl DC v.chs.length dcc),(vi v.sg.index),(vl DO v.sg.op.length doc),(vl DE v.sg.cl.length dec),(vl DP v.sg.path.length dpc)]))] w (fun en w'=>en=.returned (.bool true)∧Ext w w'):=by
 have h1c:=RVp.subB (S':=Clip S w) h1 (fun _ hb hs=>⟨hs,hb⟩)
 obtain ⟨-,h1c1,h1c2⟩:=RLs.at h1c.chs;have h1c3:=(Fl.cel h1c.sg.op).2.1;have h1c4:=(Fl.cel h1c.sg.cl).2.1;have h1c5:=(Fl.cel h1c.sg.path).2.1
 have h2c:=RVp.subB (S':=Clip S w) h2 (fun _ hb hs=>⟨hs,hb⟩)
 obtain ⟨-,h2c1,h2c2⟩:=RLs.at h2c.chs;have h2c3:=(Fl.cel h2c.sg.op).2.1;have h2c4:=(Fl.cel h2c.sg.cl).2.1;have h2c5:=(Fl.cel h2c.sg.path).2.1
 refine calls_enter Tryz.func12 rfl rfl rfl fun _ D=>wr fun G I=>D.xb rfl fun U D _ D G G Y G=>D.xb rfl fun J D _ D G G G V=>D.xv (.bool false) fun _ D=>wn I<|wr fun I aa=>D.xv (vp U) fun _ D=>have I:=(Y.ext V);D.xw (vi v.no) (fun F=>rl F rfl ((I.rule.1 0).trans rfl))<|Xv (vp J)<|Xw (vi v.no) (fun F=>rl F rfl ((G.rule.1 0).trans rfl))<|Xv (vd ((v.no:Int)=(v.no:Int)))<|Xm rfl fun _ D=>qg 6 (vq U 1) D ((decide_eq_true rfl):decide ((v.no:Int)=(v.no:Int))=true) (rn_field uu34 rfl (by kernel_rfl) (D.get rfl) rfl) fun _ D=>?_
 refine qg 7 (.agg (byteVals v.state).toArray) D ((decide_eq_true rfl):decide ((v.no:Int)=(v.no:Int))=true) (rn_loadN (cs:=byteVals v.state) (D.get rfl) uu29 rfl (sk inf29 (byteVals_len h2c.st)) (Blk.part (A:=[(vi v.no)]) (M:=byteVals v.state) (B:=[(vl C v.chs.length cc),(vi v.sg.index),(vl O v.sg.op.length oc),(vl E v.sg.cl.length ec),(vl P v.sg.path.length pc)]) I (by simp) rfl)) fun _ D=>?_
 refine qg 8 (vq J 1) D ((decide_eq_true rfl):decide ((v.no:Int)=(v.no:Int))=true) (rn_field uu34 rfl (by kernel_rfl) (D.get rfl) rfl) fun _ D=>?_
 refine qg 9 (.agg (byteVals v.state).toArray) D ((decide_eq_true rfl):decide ((v.no:Int)=(v.no:Int))=true) (rn_loadN (cs:=byteVals v.state) (D.get rfl) uu29 rfl (sk inf29 (byteVals_len h2c.st)) (Blk.part (A:=[(vi v.no)]) (M:=byteVals v.state) (B:=[(vl DC v.chs.length dcc),(vi v.sg.index),(vl DO v.sg.op.length doc),(vl DE v.sg.cl.length dec),(vl DP v.sg.path.length dpc)]) G (by simp) rfl)) fun _ D=>?_
 refine qg 10 (vd (v.state=v.state)) D ((decide_eq_true rfl):decide ((v.no:Int)=(v.no:Int))=true) (rn_eqA uu29 uu5 inf5 (by kernel_rfl) (D.get rfl) (D.get rfl) h2c.st h2c.st) fun _ D=>?_
 refine D.xw (vd (v.state=v.state)) (fun F=>rn_pickT (c_true F rfl ((decide_eq_true rfl):decide ((v.no:Int)=(v.no:Int))=true)) (F.get rfl))<|Xm rfl fun _ D=>qg 13 (vq U 33) D ((decide_eq_true rfl):decide (v.state=v.state)=true) (rn_field uu34 rfl (by kernel_rfl) (D.get rfl) rfl) fun _ D=>?_
 refine qg 14 (vl C v.chs.length cc) D ((decide_eq_true rfl):decide (v.state=v.state)=true) (rl D rfl ((I.rule.1 33).trans ((at_app (k:=0) (byteVals_len h2c.st)).trans rfl))) fun _ D=>?_
 refine qg 15 (vq J 33) D ((decide_eq_true rfl):decide (v.state=v.state)=true) (rn_field uu34 rfl (by kernel_rfl) (D.get rfl) rfl) fun _ D=>?_
 refine qg 16 (vl DC v.chs.length dcc) D ((decide_eq_true rfl):decide (v.state=v.state)=true) (rl D rfl ((G.rule.1 33).trans ((at_app (k:=0) (byteVals_len h2c.st)).trans rfl))) fun _ D=>?_
 have Y:=RLs.ux rCg h1c.chs V
 have Z:=RLs.ux rCg h2c.chs V
 refine wpl_op (i:=17) rfl (o_callE D rfl (wanted_guard rfl rfl rfl D rfl ((decide_eq_true rfl):decide (v.state=v.state)=true) rfl) rfl rfl (rn_call (args2 (D.get rfl) (D.get rfl)) rfl (by kernel_rfl)) (samec_at (u:=(vl C v.chs.length cc)) (v:=(vl DC v.chs.length dcc)) v.chs v.chs _ Y Z) (fun D D V _ V=>V.xw (vd (v.chs=v.chs)) (fun F=>rn_pickT (c_true F rfl ((decide_eq_true rfl):decide (v.state=v.state)=true)) (F.get rfl))<|Xm rfl fun _ V=>qg 20 (vq U 34) V ((decide_eq_true rfl):decide (v.chs=v.chs)=true) (rn_field uu34 rfl (by kernel_rfl) (V.get rfl) rfl) fun _ U=>?_))
 have V:=I.ext D
 refine qg 21 (.agg #[(vi v.sg.index),(vl O v.sg.op.length oc),(vl E v.sg.cl.length ec),(vl P v.sg.path.length pc)]) U ((decide_eq_true rfl):decide (v.chs=v.chs)=true) (rn_loadN (cs:=[(vi v.sg.index),(vl O v.sg.op.length oc),(vl E v.sg.cl.length ec),(vl P v.sg.path.length pc)]) (U.get rfl) uu32 rfl inf32 (Blk.part (A:=((vi v.no)::dg v.state [(vl C v.chs.length cc)])) (M:=[(vi v.sg.index),(vl O v.sg.op.length oc),(vl E v.sg.cl.length ec),(vl P v.sg.path.length pc)]) (B:=[]) V (by simp) (by simp [byteVals_len h2c.st]))) fun _ I=>?_
 refine qg 22 (vq J 34) I ((decide_eq_true rfl):decide (v.chs=v.chs)=true) (rn_field uu34 rfl (by kernel_rfl) (I.get rfl) rfl) fun _ I=>?_
 have J:=G.ext D
 refine qg 23 (.agg #[(vi v.sg.index),(vl DO v.sg.op.length doc),(vl DE v.sg.cl.length dec),(vl DP v.sg.path.length dpc)]) I ((decide_eq_true rfl):decide (v.chs=v.chs)=true) (rn_loadN (cs:=[(vi v.sg.index),(vl DO v.sg.op.length doc),(vl DE v.sg.cl.length dec),(vl DP v.sg.path.length dpc)]) (I.get rfl) uu32 rfl inf32 (Blk.part (A:=((vi v.no)::dg v.state [(vl DC v.chs.length dcc)])) (M:=[(vi v.sg.index),(vl DO v.sg.op.length doc),(vl DE v.sg.cl.length dec),(vl DP v.sg.path.length dpc)]) (B:=[]) J (by simp) (by simp [byteVals_len h2c.st]))) fun _ G=>?_
 have I:=h1c.sg.op.ux D
 have J:=h1c.sg.cl.ux D
 have U:=h1c.sg.path.ux D
 have V:=h2c.sg.op.ux D
 have Y:=h2c.sg.cl.ux D
 have Z:=h2c.sg.path.ux D
 exact wpl_op (i:=24) rfl (o_callE G rfl (wanted_guard rfl rfl rfl G rfl ((decide_eq_true rfl):decide (v.chs=v.chs)=true) rfl) rfl rfl (rn_call (args2 (G.get rfl) (G.get rfl)) rfl (by kernel_rfl)) (sames_at (n1:=v.sg.op.length) (n2:=v.sg.cl.length) (n3:=v.sg.path.length) (m1:=v.sg.op.length) (m2:=v.sg.cl.length) (m3:=v.sg.path.length) v.sg v.sg _ I J U h2c.sg.o32 h2c.sg.c32 h2c.sg.p32 V Y Z h2c.sg.o32 h2c.sg.c32 h2c.sg.p32) (fun D D D _ D=>D.xw (.bool (sameS v.sg v.sg)) (fun F=>rn_pickT (c_true F rfl ((decide_eq_true rfl):decide (v.chs=v.chs)=true)) (F.get rfl))<|Xa rfl fun _ D=>wn aa<|have G:=D.k [0,1,2,3,4];wp_ret<|ret1 G rfl rfl<|⟨congrArg (fun b=>Ending.returned (.bool b)) ((sameS_refl _):sameS v.sg v.sg=true),eX⟩))
theorem samev_at {o p o2 p2:Value} (v:Vr) (w:World) (h1:RVp S1 w c o e p v) (h2:RVp S2 w c2 o2 e2 p2 v) :
  Calls Tryz.prog 12 #[ag (vcs v.no v.state c v.sg.index o e p),ag (vcs v.no v.state c2 v.sg.index o2 e2 p2)] w (fun en w'=>en=.returned (.bool true)∧Ext w w'):=by
 obtain ⟨C1,cc1,rfl,_⟩:=RLs.form h1.chs
 obtain ⟨O1,oc1,rfl,_⟩:=Fl.form h1.sg.op
 obtain ⟨E1,ec1,rfl,_⟩:=Fl.form h1.sg.cl
 obtain ⟨P1,pc1,rfl,_⟩:=Fl.form h1.sg.path
 obtain ⟨C2,cc2,rfl,_⟩:=RLs.form h2.chs
 obtain ⟨O2,oc2,rfl,_⟩:=Fl.form h2.sg.op
 obtain ⟨E2,ec2,rfl,_⟩:=Fl.form h2.sg.cl
 obtain ⟨P2,pc2,rfl,_⟩:=Fl.form h2.sg.path
 exact samev_any (S:=fun _=>True) C1 cc1 O1 oc1 E1 ec1 P1 pc1 C2 cc2 O2 oc2 E2 ec2 P2 pc2 v w (h1.subB fun _ _ _=>trivial) (h2.subB fun _ _ _=>trivial)
theorem samefo_any (FA:Option Addr) (fa:Nat) (FE:Option Addr) (fe:Nat) (GA:Option Addr) (ga:Nat) (GE:Option Addr) (ge:Nat) (f:Fo) (w:World) (h1:RFo S w (vl FA f.items.length fa) (vl FE f.early.length fe) f) (h2:RFo S w (vl GA f.items.length ga) (vl GE f.early.length ge) f) :
  Calls Tryz.prog 19 #[(ag (dg f.pub [(vi f.many),(vi f.no),(vl FA f.items.length fa),(vl FE f.early.length fe)])),(ag (dg f.pub [(vi f.many),(vi f.no),(vl GA f.items.length ga),(vl GE f.early.length ge)]))] w (fun en w'=>en=.returned (.bool true)∧Ext w w'):=by
 have h1c:=RFo.subB (S':=Clip S w) h1 (fun _ hb hs=>⟨hs,hb⟩)
 obtain ⟨-,h1c1,h1c2⟩:=RLs.at h1c.items;obtain ⟨-,h1c3,h1c4⟩:=RLs.at h1c.early
 have h2c:=RFo.subB (S':=Clip S w) h2 (fun _ hb hs=>⟨hs,hb⟩)
 obtain ⟨-,h2c1,h2c2⟩:=RLs.at h2c.items;obtain ⟨-,h2c3,h2c4⟩:=RLs.at h2c.early
 refine calls_enter Tryz.func19 rfl rfl rfl fun _ G=>wr fun U Z=>G.xb rfl fun G U _ U V V b4 V=>U.xb rfl fun I U _ V U U U ac=>V.xv (.bool false) fun _ V=>wn Z<|wp_seq_k fun Z aO=>wr fun Z aP=>V.xv (vp G) fun _ Z=>have V:=(b4.ext ac);Z.xw (.agg (byteVals f.pub).toArray) (fun F=>rn_loadN (cs:=byteVals f.pub) (F.get rfl) uu29 rfl (sk inf29 (byteVals_len h2c.pub)) (Blk.part (A:=[]) (M:=byteVals f.pub) (B:=[(vi f.many),(vi f.no),(vl FA f.items.length fa),(vl FE f.early.length fe)]) V (by simp) rfl))<|Xv (vp I)<|Xw (.agg (byteVals f.pub).toArray) (fun F=>rn_loadN (cs:=byteVals f.pub) (F.get rfl) uu29 rfl (sk inf29 (byteVals_len h2c.pub)) (Blk.part (A:=[]) (M:=byteVals f.pub) (B:=[(vi f.many),(vi f.no),(vl GA f.items.length ga),(vl GE f.early.length ge)]) U (by simp) rfl))<|Xw (.bool (!decide (f.pub=f.pub))) (fun F=>rn_neA uu29 uu5 inf5 (by kernel_rfl) (F.get rfl) (F.get rfl) h2c.pub h2c.pub)<|Xm rfl fun _ Z=>qg 6 (vq G 32) Z (not_t ((decide_eq_true rfl):decide (f.pub=f.pub)=true)) (rn_field uu48 rfl (by kernel_rfl) (Z.get rfl) rfl) fun _ Z=>?_
 refine qg 7 (vi f.many) Z (not_t ((decide_eq_true rfl):decide (f.pub=f.pub)=true)) (rl Z rfl ((V.rule.1 32).trans ((at_app (k:=0) (byteVals_len h2c.pub)).trans rfl))) fun _ Z=>?_
 refine qg 8 (vq I 32) Z (not_t ((decide_eq_true rfl):decide (f.pub=f.pub)=true)) (rn_field uu48 rfl (by kernel_rfl) (Z.get rfl) rfl) fun _ Z=>?_
 refine qg 9 (vi f.many) Z (not_t ((decide_eq_true rfl):decide (f.pub=f.pub)=true)) (rl Z rfl ((U.rule.1 32).trans ((at_app (k:=0) (byteVals_len h2c.pub)).trans rfl))) fun _ Z=>?_
 refine qg 10 (vd ((f.many:Int)≠(f.many:Int))) Z (not_t ((decide_eq_true rfl):decide (f.pub=f.pub)=true)) (rn_neq (Z.get rfl) (Z.get rfl)) fun _ Z=>?_
 refine Z.xw (vd ((f.many:Int)≠(f.many:Int))) (fun F=>rn_pickF (c_false F rfl (not_t ((decide_eq_true rfl):decide (f.pub=f.pub)=true))) (F.get rfl))<|Xm rfl fun _ Z=>qg 13 (vq G 33) Z ((decide_eq_false (by simp)):decide ((f.many:Int)≠(f.many:Int))=false) (rn_field uu48 rfl (by kernel_rfl) (Z.get rfl) rfl) fun _ Z=>?_
 refine qg 14 (vi f.no) Z ((decide_eq_false (by simp)):decide ((f.many:Int)≠(f.many:Int))=false) (rl Z rfl ((V.rule.1 33).trans ((at_app (k:=1) (byteVals_len h2c.pub)).trans rfl))) fun _ Z=>?_
 refine qg 15 (vq I 33) Z ((decide_eq_false (by simp)):decide ((f.many:Int)≠(f.many:Int))=false) (rn_field uu48 rfl (by kernel_rfl) (Z.get rfl) rfl) fun _ Z=>?_
 refine qg 16 (vi f.no) Z ((decide_eq_false (by simp)):decide ((f.many:Int)≠(f.many:Int))=false) (rl Z rfl ((U.rule.1 33).trans ((at_app (k:=1) (byteVals_len h2c.pub)).trans rfl))) fun _ Z=>?_
 refine qg 17 (vd ((f.no:Int)≠(f.no:Int))) Z ((decide_eq_false (by simp)):decide ((f.many:Int)≠(f.many:Int))=false) (rn_neq (Z.get rfl) (Z.get rfl)) fun _ Z=>?_
 refine Z.xw (vd ((f.no:Int)≠(f.no:Int))) (fun F=>rn_pickF (c_false F rfl ((decide_eq_false (by simp)):decide ((f.many:Int)≠(f.many:Int))=false)) (F.get rfl))<|Xm rfl fun _ Z=>qg 20 (vq G 34) Z ((decide_eq_false (by simp)):decide ((f.no:Int)≠(f.no:Int))=false) (rn_field uu48 rfl (by kernel_rfl) (Z.get rfl) rfl) fun _ Z=>?_
 refine qg 21 (vl FA f.items.length fa) Z ((decide_eq_false (by simp)):decide ((f.no:Int)≠(f.no:Int))=false) (rl Z rfl ((V.rule.1 34).trans ((at_app (k:=2) (byteVals_len h2c.pub)).trans rfl))) fun _ Z=>?_
 refine qg 22 (vq I 34) Z ((decide_eq_false (by simp)):decide ((f.no:Int)≠(f.no:Int))=false) (rn_field uu48 rfl (by kernel_rfl) (Z.get rfl) rfl) fun _ Z=>?_
 refine qg 23 (vl GA f.items.length ga) Z ((decide_eq_false (by simp)):decide ((f.no:Int)≠(f.no:Int))=false) (rl Z rfl ((U.rule.1 34).trans ((at_app (k:=2) (byteVals_len h2c.pub)).trans rfl))) fun _ Z=>?_
 have aD:=RLs.ux rIt h1c.items ac
 have aI:=RLs.ux rIt h2c.items ac
 refine wpl_op (i:=24) rfl (o_callE Z rfl (wanted_guard rfl rfl rfl Z rfl ((decide_eq_false (by simp)):decide ((f.no:Int)≠(f.no:Int))=false) rfl) rfl rfl (rn_call (args2 (Z.get rfl) (Z.get rfl)) rfl (by kernel_rfl)) (same40_at (u:=(vl FA f.items.length fa)) (v:=(vl GA f.items.length ga)) f.items f.items _ aD aI) (fun aI aD Z _ Z=>qg 25 (.bool (!(decide (f.items=f.items)))) Z ((decide_eq_false (by simp)):decide ((f.no:Int)≠(f.no:Int))=false) (rn_not' (Z.get rfl) rfl) fun _ Z=>?_))
 refine Z.xw (.bool (!(decide (f.items=f.items)))) (fun F=>rn_pickF (c_false F rfl ((decide_eq_false (by simp)):decide ((f.no:Int)≠(f.no:Int))=false)) (F.get rfl))<|Xm rfl fun _ Z=>qg 28 (vq G 35) Z (not_t ((decide_eq_true rfl):decide (f.items=f.items)=true)) (rn_field uu48 rfl (by kernel_rfl) (Z.get rfl) rfl) fun _ Z=>?_
 have ac:=V.ext aD
 refine qg 29 (vl FE f.early.length fe) Z (not_t ((decide_eq_true rfl):decide (f.items=f.items)=true)) (rl Z rfl ((ac.rule.1 35).trans ((at_app (k:=3) (byteVals_len h2c.pub)).trans rfl))) fun _ V=>?_
 refine qg 30 (vi f.early.length) V (not_t ((decide_eq_true rfl):decide (f.items=f.items)=true)) (rn_len_slice uu25 (V.get rfl)) fun _ V=>?_
 refine qg 31 (vq I 35) V (not_t ((decide_eq_true rfl):decide (f.items=f.items)=true)) (rn_field uu48 rfl (by kernel_rfl) (V.get rfl) rfl) fun _ V=>?_
 have Z:=U.ext aD
 refine qg 32 (vl GE f.early.length ge) V (not_t ((decide_eq_true rfl):decide (f.items=f.items)=true)) (rl V rfl ((Z.rule.1 35).trans ((at_app (k:=3) (byteVals_len h2c.pub)).trans rfl))) fun _ U=>?_
 refine qg 33 (vi f.early.length) U (not_t ((decide_eq_true rfl):decide (f.items=f.items)=true)) (rn_len_slice uu25 (U.get rfl)) fun _ U=>?_
 refine qg 34 (vd ((f.early.length:Int)≠(f.early.length:Int))) U (not_t ((decide_eq_true rfl):decide (f.items=f.items)=true)) (rn_neq (U.get rfl) (U.get rfl)) fun _ U=>?_
 refine U.xw (vd ((f.early.length:Int)≠(f.early.length:Int))) (fun F=>rn_pickF (c_false F rfl (not_t ((decide_eq_true rfl):decide (f.items=f.items)=true))) (F.get rfl)) fun _ V=>wn aP<|have U:=V.k [0,1,2,3,4,41];wp_cond_false (c_false U rfl ((decide_eq_false (by simp)):decide ((f.early.length:Int)≠(f.early.length:Int))=false))<|wp_skip<|aO _ _<|wp_seq_k fun V aL=>wr fun V V=>U.xv (vi 0) fun _ U=>wn V<|wp_block<|wp_loop (fun a' W=>∃ (k:Nat),Sl 61 [(0,(ag (dg f.pub [(vi f.many),(vi f.no),(vl FA f.items.length fa),(vl FE f.early.length fe)]))),(1,(ag (dg f.pub [(vi f.many),(vi f.no),(vl GA f.items.length ga),(vl GE f.early.length ge)]))),(2,(vp G)),(3,(vp I)),(4,(.bool false)),(41,(vd ((f.early.length:Int)≠(f.early.length:Int)))),(5,(vi k))] a'∧k≤f.early.length∧Ext w W∧Blk W G 48 (dg f.pub [(vi f.many),(vi f.no),(vl FA f.items.length fa),(vl FE f.early.length fe)])∧Blk W I 48 (dg f.pub [(vi f.many),(vi f.no),(vl GA f.items.length ga),(vl GE f.early.length ge)])∧aI.heap.size≤W.heap.size) (fun a' _=>f.early.length - (intOf (a'.eval (.tmp 5))).toNat) ⟨0,U.j,(by omega),eX,ac,Z,(Nat.le_refl _)⟩ ?_
 rintro U U ⟨k,V,U,ac,U,Z,aD⟩
 have aQ:=V
 have aD:=ac.size
 have ac:=U.lt
 have ac:=Z.lt
 refine wp_seq_k fun ac ac=>wr fun aD aD=>V.xm rfl<|Xv (vq G 35)<|Xw (vl FE f.early.length fe) (fun F=>rl F rfl ((U.rule.1 35).trans ((at_app (k:=3) (byteVals_len h2c.pub)).trans rfl)))<|Xv (vi f.early.length)<|Xv (vd ((k:Int)<(f.early.length:Int))) fun _ V=>wn aD ?_
 have Y:=V.k [0,1,2,3,4,41,5,46]
 by_cases V:(k:Int)<(f.early.length:Int)
 ·refine Y.ct<|wp_skip<|ac _ _<|wp_seq_k fun V aM=>wp_block<|wp_seq_k fun V aN=>sX (fun O W=>Ext O W∧Blk W G 48 (dg f.pub [(vi f.many),(vi f.no),(vl FA f.items.length fa),(vl FE f.early.length fe)])∧Blk W I 48 (dg f.pub [(vi f.many),(vi f.no),(vl GA f.items.length ga),(vl GE f.early.length ge)])) (fun i=>false) 12 fun O ab V=>Y.yv 0 (vq G 35) rfl fun _ V=>have ar:=(U.ext ab);have au:=(Z.ext ab);have aa:Ext O O∧Blk O G 48 (dg f.pub [(vi f.many),(vi f.no),(vl FA f.items.length fa),(vl FE f.early.length fe)])∧Blk O I 48 (dg f.pub [(vi f.many),(vi f.no),(vl GA f.items.length ga),(vl GE f.early.length ge)]):=⟨(Ext.refl O),ar,au⟩;V.ys 1 (vl FE f.early.length fe) rfl aa (fun F W hW=>rl F rfl ((hW.2.1.rule.1 35).trans ((at_app (k:=3) (byteVals_len h2c.pub)).trans rfl)))<|Ym 2 rfl fun _ aE=>?_
  have G:=RLs.ux rVr h1c.early ab
  obtain ⟨aG,aX,C,U,aJ,aT,U,aR,aV⟩:=RLs.get G (by omega:k<f.early.length)
  obtain ⟨G,G,G,G,rfl,J⟩:=aV
  obtain ⟨ae,av,rfl,G,G⟩:=RLs.form J.chs
  obtain ⟨ah,aw,rfl,G,G⟩:=Fl.form J.sg.op
  obtain ⟨ai,ax,rfl,G,G⟩:=Fl.form J.sg.cl
  obtain ⟨aj,ay,rfl,G,G⟩:=Fl.form J.sg.path
  refine aE.yw 3 (vq aG (aX+k*38)) rfl (fun F W=>rn_indexE uu25 inf34 ((F.get rfl).trans (by rw [aJ])) (F.get rfl) (zl _) (il (by omega:k<f.early.length)) (by omega))<|Ys 4 (ag ((vi C.no)::dg C.state [(vl ae C.chs.length av),(vi C.sg.index),(vl ah C.sg.op.length aw),(vl ai C.sg.cl.length ax),(vl aj C.sg.path.length ay)])) rfl aa (fun F W hW=>rn_loadN (cs:=((vi C.no)::dg C.state [(vl ae C.chs.length av),(vi C.sg.index),(vl ah C.sg.op.length aw),(vl ai C.sg.cl.length ax),(vl aj C.sg.path.length ay)])) (F.get rfl) uu34 rfl (sk inf34 (len_dig1 J.st)) (fun j u hu=>Ext.keep ((Ext.refl O).trans hW.1) (aR j u hu)))<|Yv 5 (vq I 35) rfl<|Ys 6 (vl GE f.early.length ge) rfl aa (fun F W hW=>rl F rfl ((hW.2.2.rule.1 35).trans ((at_app (k:=3) (byteVals_len h2c.pub)).trans rfl)))<|Ym 7 rfl<|fun _ aF=>?_
  have G:=RLs.ux rVr h2c.early ab
  obtain ⟨aH,aY,aZ,I,aK,aU,I,aS,aW⟩:=RLs.get G (by omega:k<f.early.length)
  obtain rfl:C=aZ:=Option.some.inj (aT.symm.trans aU)
  obtain ⟨G,G,G,G,rfl,D⟩:=aW
  obtain ⟨ak,az,rfl,G,G⟩:=RLs.form D.chs
  obtain ⟨al,aA,rfl,G,G⟩:=Fl.form D.sg.op
  obtain ⟨am,aB,rfl,G,G⟩:=Fl.form D.sg.cl
  obtain ⟨aq,aC,rfl,G,G⟩:=Fl.form D.sg.path
  refine aF.yw 8 (vq aH (aY+k*38)) rfl (fun F W=>rn_indexE uu25 inf34 ((F.get rfl).trans (by rw [aK])) (F.get rfl) (zl _) (il (by omega:k<f.early.length)) (by omega))<|Ys 9 (ag ((vi C.no)::dg C.state [(vl ak C.chs.length az),(vi C.sg.index),(vl al C.sg.op.length aA),(vl am C.sg.cl.length aB),(vl aq C.sg.path.length aC)])) rfl aa (fun F W hW=>rn_loadN (cs:=((vi C.no)::dg C.state [(vl ak C.chs.length az),(vi C.sg.index),(vl al C.sg.op.length aA),(vl am C.sg.cl.length aB),(vl aq C.sg.path.length aC)])) (F.get rfl) uu34 rfl (sk inf34 (len_dig1 D.st)) (fun j u hu=>Ext.keep ((Ext.refl O).trans hW.1) (aS j u hu))) fun _ G=>ao 10 rfl<|G.oe (samev_at C _ (⟨D.st,RLs.sub (S':=fun _=>True) rCg J.chs fun _ _=>trivial,⟨Fl.any J.sg.op,Fl.any J.sg.cl,Fl.any J.sg.path,D.sg.o32,D.sg.c32,D.sg.p32⟩⟩:RVp (fun _=>True) _ _ _ _ _ C) (⟨D.st,RLs.sub (S':=fun _=>True) rCg D.chs fun _ _=>trivial,⟨Fl.any D.sg.op,Fl.any D.sg.cl,Fl.any D.sg.path,D.sg.o32,D.sg.c32,D.sg.p32⟩⟩:RVp (fun _=>True) _ _ _ _ _ C)) fun C C D _ I=>?_
  have D:=ar.ext C
  have G:=au.ext C
  refine ⟨fun _ _=>⟨eX,D,G⟩,?_⟩
  refine I.yw 11 (.bool false) rfl (fun F W=>rn_not' (F.get rfl) rfl) fun _ I=>nK aN<|have C:=I.k [0,1,2,3,4,41,5,46,60];C.cf<|wp_skip<|aM _ _<|wp_region_lit<|C.xm rfl<|Xv (vi (k+1:Nat))<|Xa rfl fun _ C=>wpList_nil ?_
  refine ⟨⟨(k+1),C.j,(by omega),eX,D,G,(by omega)⟩,?_⟩
  rw [C.get (t:=5) rfl,aQ.get (t:=5) rfl];simp [intOf] <;> omega
 exact Y.cf<|wp_exit<|exit_then<|exit_then<|exit_here<|aL _ _<|wr fun C D=>Y.xv (.bool true) fun _ C=>wn D<|wp_ret<|ret1 C rfl rfl<|⟨rfl,eX⟩
theorem samefo_at (f:Fo) (w:World) (h1:RFo S1 w c e f) (h2:RFo S2 w c2 e2 f) :
  Calls Tryz.prog 19 #[ag (fcs f.pub f.many f.no c e),ag (fcs f.pub f.many f.no c2 e2)] w (fun en w'=>en=.returned (.bool true)∧Ext w w'):=by
 obtain ⟨FA,fa,rfl,_⟩:=RLs.form h1.items
 obtain ⟨FE,fe,rfl,_⟩:=RLs.form h1.early
 obtain ⟨GA,ga,rfl,_⟩:=RLs.form h2.items
 obtain ⟨GE,ge,rfl,_⟩:=RLs.form h2.early
 exact samefo_any (S:=fun _=>True) FA fa FE fe GA ga GE ge f w (h1.subB fun _ _ _=>trivial) (h2.subB fun _ _ _=>trivial)
theorem check_of (h:checkE l=0):Srt (itNames l):=named_srt (check_named h).2
theorem diffE_zero {a b:List It} (ha:checkE a=0) (hb:checkE b=0):diffE a b=0∧diffV a b=diffL a b:=by
 have h:diffE a b=0:=(if_neg (fun q=>q ha)).trans hb
 exact ⟨h,if_pos h⟩
theorem diff_good {a b:List It} (ha:checkE a=0) (hb:checkE b=0) (hl:a.length+b.length≤65536):validC (diffL a b):=diff_valid (check_named ha).2 (check_named hb).2 hl
theorem apply_good {a b:List It} (ha:checkE a=0) (hb:checkE b=0) (hl:a.length+b.length≤65536):applyE a (diffL a b)=0∧appL a (diffL a b)=b:=by
 obtain ⟨h1,h2⟩:=app_diff _ a b (Nat.le_refl _) (check_of ha) (check_of hb)
 have h3:=(check_named hb).1
 refine ⟨(if_neg (fun q=>q ha)).trans ((if_neg (fun q=>q (diff_good ha hb hl))).trans ((if_neg (by rw [h2];decide)).trans (if_neg (by rw [h1];omega)))),h1⟩
section
variable {sd:List UInt8} {a b:List It}
theorem kok (hs:1≤sd.length∧sd.length≤64) {u:Int} (h0:0≤u) (h2:u≤2):kOk sd 2 u=true:=kOk_iff.2 ⟨hs,by omega,h0,h2⟩
theorem pub_u (hs:1≤sd.length∧sd.length≤64) {u:Int} (h0:0≤u) (h2:u≤2):pubF sd 2 u=pubF sd 2 0∧pubE sd 2 u=0:=by
 have h1:=pub_of (kok hs h0 h2)
 have h3:=pub_of (kok hs (Int.le_refl 0) (by omega))
 exact ⟨h1.1.trans h3.1.symm,h1.2⟩
theorem version_good (hs:1≤sd.length∧sd.length≤64) {n:Nat} (hn:n<2) (ha:checkE a=0) (hb:checkE b=0) (hl:a.length+b.length≤65536) :
  versionE sd 2 (n:Int) n b (diffL a b)=0∧versionV sd 2 (n:Int) n b (diffL a b)=⟨(n+1:Nat),stateD b,diffL a b,signF sd 2 n n (msgV (n+1:Nat) (stateD b) (diffL a b))⟩ ∧
  verifyE (pubF sd 2 0) 2 (versionV sd 2 (n:Int) n b (diffL a b))=0:=by
 have hp:=pub_u hs (u:=(n:Int)) (by omega) (by omega)
 have hm:(msgV (n+1:Nat) (stateD b) (diffL a b)).length=72:=msgV_len (stateD_len b)
 have hz:signE sd 2 (n:Int) n (msgV (n+1:Nat) (stateD b) (diffL a b))=0:=(sign_iff (kok hs (by omega) (by omega)) (by omega)).2 ⟨by omega,by omega⟩
 have hv:=diff_good ha hb hl
 have hE:versionE sd 2 (n:Int) n b (diffL a b)=0:=(if_neg (fun q=>q hp.2)).trans ((if_neg (fun q=>q rfl)).trans ((if_neg (fun q=>q hb)).trans ((if_neg (fun q=>q hv)).trans hz)))
 have hV:versionV sd 2 (n:Int) n b (diffL a b)=⟨(n+1:Nat),stateD b,diffL a b,signF sd 2 n n (msgV (n+1:Nat) (stateD b) (diffL a b))⟩:=if_pos hE
 refine ⟨hE,hV,?_⟩
 rw [hV]
 have hw:=verifies1 hz (by omega)
 rw [hp.1] at hw
 have hi:=(sign_len hz).2.2
 refine (if_neg (by show ¬ (((n+1:Nat):Int)<1∨4096<((n+1:Nat):Int));omega)).trans ((if_neg (fun q=>q hv)).trans (if_neg (fun q=>?_)))
 rcases q with q | q
 ·exact q (by show (signF sd 2 n n _).index=((n+1:Nat):Int) - 1;rw [hi];omega)
 ·have q':verifyF (pubF sd 2 0) 2 (msgV (n+1:Nat) (stateD b) (diffL a b)) (signF sd 2 n n (msgV (n+1:Nat) (stateD b) (diffL a b)))=false:=q
  rw [hw] at q';cases q'
end
theorem check_nil:checkE []=0:=rfl
structure Duo (pub:List UInt8) (a b:List It) (v1 v2:Vr):Prop where
 ha:checkE a=0
 hb:checkE b=0
 hl:a.length+b.length≤65536
 n1:v1.no=1
 n2:v2.no=2
 s1:v1.state=stateD a
 s2:v2.state=stateD b
 c1:v1.chs=diffL [] a
 c2:v2.chs=diffL a b
 e1:verifyE pub 2 v1=0
 e2:verifyE pub 2 v2=0
section
variable {pub:List UInt8} {a b:List It} {v1 v2:Vr}
def fo (pub:List UInt8) (n:Int) (l:List It) (e:List Vr):Fo:=⟨pub,2,n,l,e⟩
theorem check_fo {n:Int} {e:List Vr} (h0:0≤n) (h1:n≤4096) (hl:checkE l=0) (hn:n=0→l=[]) (he:e.length≤64) (ha:asc (n+1) e) (hv:firstE (verifyE pub 2) e=0):checkFE (fo pub n l e)=0 :=
 (if_neg (by simp [fo])).trans ((if_neg (by simp only [fo];omega)).trans ((if_neg (fun q=>q hl)).trans ((if_neg (fun q=>by have:=q.1;have h5:=q.2;rw [show (fo pub n l e).items=l from rfl,hn this] at h5;simp at h5)).trans ((if_neg (by simp only [fo];omega)).trans ((if_neg (fun q=>q ha)).trans hv)))))
theorem asc_nil (n:Int):asc n []:=fun i hi=>absurd hi (by simp)
theorem Duo.f0 (_h:Duo pub a b v1 v2):checkFE (fo pub 0 [] [])=0:=check_fo (by omega) (by omega) rfl (fun _=>rfl) (by simp) (asc_nil _) rfl
theorem Duo.f1 (h:Duo pub a b v1 v2):checkFE (fo pub 1 a [])=0:=check_fo (by omega) (by omega) h.ha (fun q=>absurd q (by omega)) (by simp) (asc_nil _) rfl
theorem Duo.f2 (h:Duo pub a b v1 v2):checkFE (fo pub 2 b [])=0:=check_fo (by omega) (by omega) h.hb (fun q=>absurd q (by omega)) (by simp) (asc_nil _) rfl
theorem Duo.fe (h:Duo pub a b v1 v2):checkFE (fo pub 0 [] [v2])=0:=check_fo (by omega) (by omega) rfl (fun _=>rfl) (by simp) (fun i hi=>by
  simp only [List.length_singleton] at hi
  obtain rfl:i=0:=by omega
  show (0:Int)+1<v2.no
  rw [h.n2];decide) ((if_neg (fun q=>q h.e2)))
theorem Duo.fit1 (h:Duo pub a b v1 v2) {e:List Vr}:fits (fo pub 0 [] e) v1∧stepF (fo pub 0 [] e) v1=fo pub 1 a e:=by
 have hl:=h.hl
 obtain ⟨q1,q2⟩:=apply_good check_nil h.ha (by simp;omega)
 have hf:fits (fo pub 0 [] e) v1:=⟨by rw [h.c1];exact q1,by rw [h.c1];show checkE (appL [] _)=0;rw [q2];exact h.ha,by rw [h.c1,h.s1];show stateD (appL [] _)=_;rw [q2]⟩
 refine ⟨hf,(if_pos hf).trans ?_⟩
 rw [h.c1,h.n1]
 show (⟨pub,2,1,appL [] (diffL [] a),e⟩:Fo)=_
 rw [q2];rfl
theorem Duo.fit2 (h:Duo pub a b v1 v2) {e:List Vr}:fits (fo pub 1 a e) v2∧stepF (fo pub 1 a e) v2=fo pub 2 b e:=by
 obtain ⟨q1,q2⟩:=apply_good h.ha h.hb h.hl
 have hf:fits (fo pub 1 a e) v2:=⟨by rw [h.c2];exact q1,by rw [h.c2];show checkE (appL a _)=0;rw [q2];exact h.hb,by rw [h.c2,h.s2];show stateD (appL a _)=_;rw [q2]⟩
 refine ⟨hf,(if_pos hf).trans ?_⟩
 rw [h.c2,h.n2]
 show (⟨pub,2,2,appL a (diffL a b),e⟩:Fo)=_
 rw [q2];rfl
theorem rec_ok (hc:checkFE f=0) (hv:verifyE f.pub f.many v=0) (hm:¬ ((∃ w∈f.early,w.no=v.no)∨v.no≤f.no)) (hn:¬ f.no+1<v.no) (hf:fits f v):recE f v=0∧recF f v=drain (stepF f v) f.early:=by
 have h:recE f v=0:=(if_neg (fun q=>q hc)).trans ((if_neg (fun q=>q hv)).trans ((if_neg hm).trans ((if_neg hn).trans (if_pos hf))))
 exact ⟨h,(if_neg (fun q=>q h)).trans (if_neg hn)⟩
theorem rec_old (hc:checkFE f=0) (hv:verifyE f.pub f.many v=0) (hm:(∃ w∈f.early,w.no=v.no)∨v.no≤f.no):recE f v=420∧recF f v=foNil:=by
 have h:recE f v=420:=(if_neg (fun q=>q hc)).trans ((if_neg (fun q=>q hv)).trans (if_pos hm))
 exact ⟨h,if_pos (by rw [h];decide)⟩
theorem Duo.r1 (h:Duo pub a b v1 v2):recE (fo pub 0 [] []) v1=0∧recF (fo pub 0 [] []) v1=fo pub 1 a []:=by
 obtain ⟨h1,h2⟩:=rec_ok h.f0 h.e1 (fun q=>by rcases q with ⟨w,hw,_⟩ | q;exact absurd hw (by simp [fo]);rw [h.n1] at q;simp [fo] at q) (by rw [h.n1];simp [fo]) h.fit1.1
 exact ⟨h1,h2.trans (by rw [h.fit1.2];rfl)⟩
theorem Duo.r2 (h:Duo pub a b v1 v2):recE (fo pub 1 a []) v2=0∧recF (fo pub 1 a []) v2=fo pub 2 b []:=by
 obtain ⟨h1,h2⟩:=rec_ok h.f1 h.e2 (fun q=>by rcases q with ⟨w,hw,_⟩ | q;exact absurd hw (by simp [fo]);rw [h.n2] at q;simp [fo] at q) (by rw [h.n2];simp [fo]) h.fit2.1
 exact ⟨h1,h2.trans (by rw [h.fit2.2];rfl)⟩
theorem Duo.early (h:Duo pub a b v1 v2):recE (fo pub 0 [] []) v2=0∧recF (fo pub 0 [] []) v2=fo pub 0 [] [v2]:=by
 have hn:(fo pub 0 [] []).no+1<v2.no:=by rw [h.n2];simp [fo]
 have hE:recE (fo pub 0 [] []) v2=0:=(if_neg (fun q=>q h.f0)).trans ((if_neg (fun q=>q h.e2)).trans ((if_neg (fun q=>by rcases q with ⟨w,hw,_⟩ | q;exact absurd hw (by simp [fo]);rw [h.n2] at q;simp [fo] at q)).trans ((if_pos hn).trans (if_neg (by simp [fo])))))
 exact ⟨hE,(if_neg (fun q=>q hE)).trans ((if_pos hn).trans rfl)⟩
theorem Duo.late (h:Duo pub a b v1 v2):recE (fo pub 0 [] [v2]) v1=0∧recF (fo pub 0 [] [v2]) v1=fo pub 2 b []:=by
 obtain ⟨h1,h2⟩:=rec_ok h.fe h.e1 (fun q=>by rcases q with ⟨w,hw,e⟩ | q;rw [List.mem_singleton.1 hw,h.n1,h.n2] at e;simp at e;rw [h.n1] at q;simp [fo] at q) (by rw [h.n1];simp [fo]) h.fit1.1
 refine ⟨h1,h2.trans ?_⟩
 rw [h.fit1.2]
 show drain (fo pub 1 a [v2]) [v2]=_
 rw [drain,if_pos (by rw [h.n2];rfl),h.fit2.2]
 rfl
theorem Duo.again2 (h:Duo pub a b v1 v2):(recE (fo pub 2 b []) v1=420∧recF (fo pub 2 b []) v1=foNil)∧(recE (fo pub 2 b []) v2=420∧recF (fo pub 2 b []) v2=foNil) :=
 ⟨rec_old h.f2 h.e1 (.inr (by rw [h.n1];simp [fo])),rec_old h.f2 h.e2 (.inr (by rw [h.n2];simp [fo]))⟩
end
theorem new_facts (hs:1≤sd.length∧sd.length≤64):newS sd 2=sd∧newM sd 2=2∧newE sd 2=0:=by
 have h:=kok hs (u:=0) (by decide) (by decide)
 exact ⟨if_pos h,if_pos h,if_pos h⟩
theorem diff_sm (ha:∀ x∈a,x.data.length≤4294967296) (hb:∀ x∈b,x.data.length≤4294967296):∀ x∈diffL a b,x.data.length≤4294967296:=by
 intro c hc
 rcases diff_mem hc with ⟨x,hx,rfl⟩ | ⟨y,hy,rfl⟩
 ·simp
 ·exact hb y hy
section
variable {S:Nat→Prop}
section
variable {S:Nat→Prop}
theorem join_ok (pub:List UInt8) (w:World) (hp:pub.length=32) :
  Calls Tryz.prog 27 #[.agg (byteVals pub).toArray,.int .i64 2] w (fun e w'=>e=.returned (.tuple #[ag (fcs pub 2 0 v0 v0),.int .i64 0])∧Ext w w'):=join_any pub 2 w hp
theorem join_no (pub:List UInt8) (w:World) (hp:pub.length=32) :
  Calls Tryz.prog 27 #[.agg (byteVals pub).toArray,.int .i64 0] w (fun e w'=>e=.returned (.tuple #[ag (fcs zero32 0 0 v0 v0),.int .i64 40])∧Ext w w'):=join_any pub 0 w hp
theorem recv_at (S:Nat→Prop) (pub:List UInt8) (n:Int) (L:List It) (E:List Vr) (v:Vr) (w:World) (p2:List UInt8) (m2 n2:Int) (L2:List It) (E2:List Vr) (z:Int) (hq:recE (fo pub n L E) v=z∧recF (fo pub n L E) v=⟨p2,m2,n2,L2,E2⟩)
  (hp:pub.length=32) (hL:RLs RIt 2 S w c L) (hE:RLs RVr 38 S w e E) (hv:RVp S w c1 o1 e1 p1 v) (hdi:∀ x∈L,x.data.length≤4294967296) (hde:∀ v∈E,∀ x∈v.chs,x.data.length≤4294967296) (hdv:∀ x∈v.chs,x.data.length≤4294967296) (hG:Glob w) :
  Calls Tryz.prog 17 #[ag (fcs pub 2 n c e),ag (vcs v.no v.state c1 v.sg.index o1 e1 p1)] w (fun en w'=>∃ c' e',en=.returned (.tuple #[ag (fcs p2 m2 n2 c' e'),.int .i64 z])∧RLs RIt 2 (Clip (fun b=>S b∨w.heap.size≤b) w') w' c' L2∧RLs RVr 38 (Clip (fun b=>S b∨w.heap.size≤b) w') w' e' E2∧p2.length=32∧Ext w w'):=by
 have h:=receive_at (S:=S) (c:=c) (e:=e) (fo pub n L E) v w ⟨hp,hL,hE⟩ hv hdi hde hdv hG
 rw [hq.1,hq.2] at h
 refine h.mono ?_
 rintro _ w' ⟨c',e',rfl,hR,hx⟩
 exact ⟨c',e',rfl,RLs.subB rIt hR.items (fun b hb h=>⟨h,hb⟩),RLs.subB rVr hR.early (fun b hb h=>⟨h,hb⟩),hR.pub,hx⟩
theorem wants_fo (pub:List UInt8) (n:Int) (L:List It) (E:List Vr) (w:World) (z:Int) (hz:n+1=z) (hp:pub.length=32) (hL:RLs RIt 2 S1 w c L) (hE:RLs RVr 38 S2 w e E) (h0:0≤n∧n≤4294967296) :
  Calls Tryz.prog 22 #[ag (fcs pub 2 n c e)] w (fun en w'=>en=.returned (vi z)∧Ext w w'):=by
 subst hz
 exact wants_at (S:=fun _=>True) (c:=c) (e:=e) (fo pub n L E) w ⟨hp,hL.sub rIt fun _ _=>trivial,hE.sub rVr fun _ _=>trivial⟩ h0
theorem verify_nil (pub:List UInt8) (w:World) (hp:pub.length=32) (hG:Glob w) :
  Calls Tryz.prog 14 #[.agg (byteVals pub).toArray,.int .i64 2,ag (vcs 0 zero32 v0 0 v0 v0 v0)] w (fun en w'=>en=.returned (vi 420)∧Ext w w') :=
 verifyv_at (S:=fun _=>True) pub 2 vrNil w ⟨zero32_len,RLs.nil _,⟨Fl.nil _,Fl.nil _,Fl.nil _,All32.nil,All32.nil,All32.nil⟩⟩ hp (fun x hx=>absurd hx (by simp [vrNil])) hG
end
theorem version_idx (hs:1≤sd.length∧sd.length≤64) {n:Nat} (hn:n<2) {v:Vr} (hv:v=⟨(n+1:Nat),stateD b,diffL a b,signF sd 2 n n (msgV (n+1:Nat) (stateD b) (diffL a b))⟩):v.sg.index=n:=by
 have hm:(msgV (n+1:Nat) (stateD b) (diffL a b)).length=72:=msgV_len (stateD_len b)
 rw [hv]
 exact (sign_len ((sign_iff (kok hs (by omega) (by omega)) (by omega)).2 ⟨by omega,by omega⟩)).2.2
theorem duo_of (hs:1≤sd.length∧sd.length≤64) (ha:checkE a=0) (hb:checkE b=0) (hl:a.length+b.length≤65536) {v1 v2:Vr} (h1:versionV sd 2 ((0:Nat):Int) 0 a (diffL [] a)=v1) (h2:versionV sd 2 ((1:Nat):Int) 1 b (diffL a b)=v2):Duo (pubF sd 2 0) a b v1 v2:=by
 obtain ⟨-,p2,p3⟩:=version_good (a:=[]) hs (n:=0) (by omega) check_nil ha (by simp;omega)
 obtain ⟨-,q2,q3⟩:=version_good (a:=a) hs (n:=1) (by omega) ha hb hl
 rw [h1] at p2 p3
 rw [h2] at q2 q3
 exact ⟨ha,hb,hl,by rw [p2];rfl,by rw [q2];rfl,by rw [p2],by rw [q2],by rw [p2],by rw [q2],p3,q3⟩
def oneL:List It:=[⟨[97],[120]⟩]
theorem sane42_any (w:World) (hG:Glob w) :
  Calls Tryz.prog 5 #[] w (fun en w'=>en=.returned (.bool true)∧Ext w w'):=by
 have hk:1≤([115,101,101,100]:List UInt8).length∧([115,101,101,100]:List UInt8).length≤64:=⟨by decide,by decide⟩
 refine calls_enter Tryz.func5 rfl rfl rfl fun _ hF=>wr fun K1 a1=>hF.xv (.bool false) fun _ F3=>wn a1<|wr fun K4 bz=>F3.xn (fun g=>(vl (some ⟨g,0,none⟩) 4 4)) [(.int .u8 115),(.int .u8 101),(.int .u8 101),(.int .u8 100)] 5 (fun F=>rn_buildSlice (parts4 rfl rfl rfl rfl) (by kernel_rfl)) fun g5 w6 _ a1 z9 bK b7 bK=>wpl_op (i:=1) rfl<|o_mark (l:=[(115:UInt8),(101:UInt8),(101:UInt8),(100:UInt8)]) a1 rfl rfl rfl rfl rfl (a1.get rfl) uu22 uu5 b7 rfl (by omega) (by omega) fun bU a1 a1 bK bL=>have bV:=bL.size;a1.xC (c:=new_at (v:=(vl (some ⟨g5,0,none⟩) 4 4)) (m:=4) ([(115:UInt8),(101:UInt8),(101:UInt8),(100:UInt8)]) 2 _ bK (by omega)) (k:= ?_)
 rw [(new_facts hk).1,(new_facts hk).2.1,(new_facts hk).2.2]
 rintro _ br ⟨ac,V,aj,rfl,ar,bQ⟩
 have a1:=(Fl.cel ar).2.1;have a1:=Fl.blen ar
 refine ⟨_,rfl,?_⟩;intro a1 a1;have bK:=bQ.size
 have aQ:Fl (Clip (fun b=>bU.heap.size≤b) br) br 1 (vl ac V aj) V (byteVals ([(115:UInt8),(101:UInt8),(101:UInt8),(100:UInt8)])):=ar.clip
 refine a1.xm rfl<|Xv (.agg #[(vl ac V aj),(vi 2),(vi 0)])<|Xv (vi 0) fun _ ar=>ar.xz [v0,(vi 0),(vi 0)] 24 fun ar ar _ ar a1 a1 a1 br=>ar.xs rfl a1 (fun a1 a6 a1=>have br:=a1.size;ar.xa rfl fun _ ar=>wn bz<|have br:=ar.k [0,1,2];wr fun ar bz=>br.xw (.agg #[(vl ac V aj),(vi 2),(vi 0)]) (fun F=>rb F rfl a6) fun _ ar=>have br:=(aQ.ug a1);ar.xe (pub_at (v:=(vl ac V aj)) (m:=V) ([(115:UInt8),(101:UInt8),(101:UInt8),(100:UInt8)]) 2 0 _ br (hG.ext eX)) fun ar ar ar _ ar=>ar.xm rfl<|Xv (.agg (byteVals (pubF ([(115:UInt8),(101:UInt8),(101:UInt8),(100:UInt8)]) 2 0)).toArray)<|Xv (vi (pubE ([(115:UInt8),(101:UInt8),(101:UInt8),(100:UInt8)]) 2 0)) fun _ ar=>ar.xz (byteVals (List.replicate 32 0)) 29 fun ar ar _ ar a1 a1 a1 br=>?_)
 refine ar.xs rfl a1 (fun a1 bu a1=>?_) (hk:=byteVals_len (pubF_len _ _ _));have br:=a1.size
 refine ar.xa rfl fun _ ar=>wn bz<|have a1:=ar.k [0,1,2,3,4];wr fun ar bK=>a1.xn (fun g=>(vl (some ⟨g,0,none⟩) 1 1)) [(.int .u8 120)] 5 (fun F=>rn_buildSlice (parts1 rfl) (by kernel_rfl)) fun ar a1 _ a1 br br br bz=>wpl_op (i:=1) rfl<|o_mark (l:=[(120:UInt8)]) a1 rfl rfl rfl rfl rfl (a1.get rfl) uu22 uu5 br rfl (by omega) (by omega) fun a1 a1 a1 bL br=>have bz:=br.size;a1.xw (.agg #[(strOf ([97])),(vl (some ⟨ar,0,none⟩) 1 1)]) (fun F=>rn_build (parts2 rfl (F.get rfl)) (by kernel_rfl)) fun _ a1=>a1.xn (fun g=>(vl (some ⟨g,0,none⟩) 1 1)) [(strOf ([97])),(vl (some ⟨ar,0,none⟩) 1 1)] 61 (fun F=>rn_buildSlice (parts1 (F.get rfl)) (build_wholeE (vs:=[(.agg #[(strOf ([97])),(vl (some ⟨ar,0,none⟩) 1 1)])]) El26 rfl rfl (fun z0 hz0=>by rw [List.mem_singleton.1 hz0];exact (show List.length [(strOf ([97])),(vl (some ⟨ar,0,none⟩) 1 1)]=2 from rfl)) (by decide) (by decide) (by simp [Value.cells]))) fun aL aC _ a1 br br br bQ=>have bz:=(bL.ext bQ);have aR:RLs RIt 2 (Clip (fun _=>True) aC) aC (vl (some ⟨aL,0,none⟩) 1 1) oneL:=RLs.clip rIt (RLs.one br (show List.length [(strOf ([97])),(vl (some ⟨ar,0,none⟩) 1 1)]=2 from rfl) (one_cons rfl (one_cons rfl one_nil)) trivial (⟨_,_,rfl,Fl.any bz⟩:RIt (fun _=>True) _ _ ⟨[97],[(120:UInt8)]⟩));a1.xa rfl fun _ ar=>wn bK<|have a1:=ar.k [0,1,2,3,4,5];wr fun ar bD=>a1.xm rfl fun _ ar=>ar.xC (c:=diff_at (u:=v0) (v:=(vl (some ⟨aL,0,none⟩) 1 1)) ([]) oneL _ (RLs.nil _:RLs RIt 2 (fun _=>False) _ _ _) aR (show ∀ x∈([]:List It),x.data.length≤4294967296 from fun x hx=>absurd hx (by simp)) (show ∀ x∈oneL,x.data.length≤4294967296 by decide)) (k:= ?_)
 rw [(diffE_zero (show checkE []=0 from rfl) (show checkE oneL=0 by decide)).2,(diffE_zero (show checkE []=0 from rfl) (show checkE oneL=0 by decide)).1]
 rintro _ al ⟨M,O,rfl,bf,ay⟩
 refine ⟨_,rfl,?_⟩;intro ar ar;have a1:=ay.size
 have bk:RLs RCg 3 (Clip (fun z=>aC.heap.size≤z) al) al (vl M ((diffL ([]) oneL).length) O) (diffL ([]) oneL):=RLs.clip rCg bf
 obtain ⟨-,a1,a1⟩:=RLs.at bf
 refine ar.xm rfl<|Xv (vl M ((diffL ([]) oneL).length) O)<|Xv (vi 0)<|Xa rfl<|Xa rfl fun _ ar=>wn bD<|have a1:=ar.k [0,1,2,3,4,5,6,7];wr fun ar bE=>have ar:=a6.ux ay;a1.xw (.agg #[(vl ac V aj),(vi 2),(vi 0)]) (fun F=>rb F rfl ar)<|Xm rfl<|Xm rfl fun _ ar=>?_
 have a1:=aQ.ux ay
 have a6:=RLs.ext rIt aR ay
 have D:=version_good (sd:=[(115:UInt8),(101:UInt8),(101:UInt8),(100:UInt8)]) hk (n:=0) (by omega) (show checkE []=0 from rfl) (show checkE oneL=0 by decide) (by have h5:=(show ([]:List It).length≤12 by simp);have h6:=(show oneL.length≤12 by decide);omega)
 obtain ⟨vr148,hvr149⟩:∃ z,versionV ([(115:UInt8),(101:UInt8),(101:UInt8),(100:UInt8)]) 2 ((0:Nat):Int) 0 oneL (diffL ([]) oneL)=z:=⟨_,rfl⟩
 rw [hvr149] at D
 refine ar.xC (c:=version_at (S:=fun _=>True) none 0 ([(115:UInt8),(101:UInt8),(101:UInt8),(100:UInt8)]) 2 ((0:Nat):Int) (0) oneL (diffL ([]) oneL) _ (Fl.any a1) (RLs.sub (S':=fun _=>True) rIt a6 fun _ _=>trivial) (RLs.sub (S':=fun _=>True) rCg bk fun _ _=>trivial) (show ∀ x∈oneL,x.data.length≤4294967296 by decide) (by have h6:=(show oneL.length≤12 by decide);omega) (diff_sm (show ∀ x∈([]:List It),x.data.length≤4294967296 from fun x hx=>absurd hx (by simp)) (show ∀ x∈oneL,x.data.length≤4294967296 by decide)) (hG.ext eX)) (k:=?_)
 have ar:=D.1
 rw [hvr149,D.1,show keyS ([(115:UInt8),(101:UInt8),(101:UInt8),(100:UInt8)]) 2 ((0:Nat):Int) 0 oneL (diffL ([]) oneL)=[(115:UInt8),(101:UInt8),(101:UInt8),(100:UInt8)] from if_pos ar,show keyM ([(115:UInt8),(101:UInt8),(101:UInt8),(100:UInt8)]) 2 ((0:Nat):Int) 0 oneL (diffL ([]) oneL)=2 from if_pos ar,show keyU ([(115:UInt8),(101:UInt8),(101:UInt8),(100:UInt8)]) 2 ((0:Nat):Int) 0 oneL (diffL ([]) oneL)=((0:Nat):Int)+1 from if_pos ar]
 rintro _ aD ⟨ar,ar,ar,p156,ar,ar,ar,rfl,U,ar,C,bO,bm⟩
 obtain ⟨rfl,hkk⟩:=bO rfl;obtain ⟨rfl,rfl,rfl⟩:=Value.slice.inj hkk.symm
 have hvc150:vr148.chs=diffL ([]) oneL:=by rw [D.2.1]
 obtain ⟨Z,ae,rfl,ar,ar⟩:=Fl.form C.op
 obtain ⟨aa,ah,rfl,ar,ar⟩:=Fl.form C.cl
 obtain ⟨ab,ai,rfl,ar,ar⟩:=Fl.form C.path
 refine ⟨_,rfl,?_⟩;intro ar ar;have ay:=bm.size
 have ay:=RLs.ext rCg bk bm
 have aS:RLs RCg 3 (Clip (fun z=>aC.heap.size≤z) al) aD (vl M ((diffL ([]) oneL).length) O) vr148.chs:=by rw [hvc150];exact ay
 have aN:Fl (Clip (fun b=>al.heap.size≤b) aD) _ _ _ _ _:=Fl.subB C.op (fun _ h1 h2=>⟨h2,h1⟩)
 have aO:Fl (Clip (fun b=>al.heap.size≤b) aD) _ _ _ _ _:=Fl.subB C.cl (fun _ h1 h2=>⟨h2,h1⟩)
 have aP:Fl (Clip (fun b=>al.heap.size≤b) aD) _ _ _ _ _:=Fl.subB C.path (fun _ h1 h2=>⟨h2,h1⟩)
 refine ar.xm rfl<|Xv (ag ((vi vr148.no)::dg vr148.state [(vl M ((diffL ([]) oneL).length) O),(vi vr148.sg.index),(vl Z vr148.sg.op.length ae),(vl aa vr148.sg.cl.length ah),(vl ab vr148.sg.path.length ai)]))<|Xv (.agg #[(vl ac V aj),(vi 2),(vi (1:Nat))])<|Xv (vi 0) fun _ al=>al.xz vz 34 fun aJ al _ al ar ar ar ay=>al.xz [v0,(vi 0),(vi 0)] 24 fun al al _ al ay ay ay aD=>?_
 have aC:=ar.ext aD
 refine al.xs rfl aC (fun ar bs ar=>?_) (hk:=len_dig1 U.st);have aC:=ar.size
 have aC:=ay.gn ar
 refine al.xs rfl aC (fun bq bt ar=>have ay:=ar.size;al.xa rfl fun _ al=>wn bE<|have ay:=al.k [0,1,2,3,4,5,6,7,8,9,10];wr fun al bF=>ay.xm rfl fun _ al=>have ay:=(RLs.ug rIt aR ar);al.xC (c:=diff_at (u:=(vl (some ⟨aL,0,none⟩) 1 1)) (v:=v0) oneL ([]) _ ay (RLs.nil _:RLs RIt 2 (fun _=>False) _ _ _) (show ∀ x∈oneL,x.data.length≤4294967296 by decide) (show ∀ x∈([]:List It),x.data.length≤4294967296 from fun x hx=>absurd hx (by simp))) (k:= ?_))
 rw [(diffE_zero (show checkE oneL=0 by decide) (show checkE []=0 from rfl)).2,(diffE_zero (show checkE oneL=0 by decide) (show checkE []=0 from rfl)).1]
 rintro _ aV ⟨am,aq,rfl,bg,aT⟩
 refine ⟨_,rfl,?_⟩;intro al al;have ar:=aT.size
 have bl:RLs RCg 3 (Clip (fun z=>bq.heap.size≤z) aV) aV (vl am ((diffL oneL ([])).length) aq) (diffL oneL ([])):=RLs.clip rCg bg
 obtain ⟨-,ar,ar⟩:=RLs.at bg
 refine al.xm rfl<|Xv (vl am ((diffL oneL ([])).length) aq)<|Xv (vi 0)<|Xa rfl<|Xa rfl fun _ al=>wn bF<|have ar:=al.k [0,1,2,3,4,5,6,7,8,9,10,11,12];wr fun al bG=>have al:=(bt.ext aT);ar.xw (.agg #[(vl ac V aj),(vi 2),(vi (1:Nat))]) (fun F=>rb F rfl al) fun _ al=>have a2:=bs.ux aT;al.xw (ag ((vi vr148.no)::dg vr148.state [(vl M ((diffL ([]) oneL).length) O),(vi vr148.sg.index),(vl Z vr148.sg.op.length ae),(vl aa vr148.sg.cl.length ah),(vl ab vr148.sg.path.length ai)])) (fun F=>rb F rfl a2 (hk:=len_dig1 U.st)) fun _ al=>al.xn (fun g=>(vl (some ⟨g,0,none⟩) 1 1)) ((vi vr148.no)::dg vr148.state [(vl M ((diffL ([]) oneL).length) O),(vi vr148.sg.index),(vl Z vr148.sg.op.length ae),(vl aa vr148.sg.cl.length ah),(vl ab vr148.sg.path.length ai)]) 34 (fun F=>rn_buildSlice (parts1 (F.get rfl)) (build_wholeE (vs:=[(ag ((vi vr148.no)::dg vr148.state [(vl M ((diffL ([]) oneL).length) O),(vi vr148.sg.index),(vl Z vr148.sg.op.length ae),(vl aa vr148.sg.cl.length ah),(vl ab vr148.sg.path.length ai)]))]) El25 rfl rfl (fun z0 hz0=>by rw [List.mem_singleton.1 hz0];exact (show List.length ((vi vr148.no)::dg vr148.state [(vl M ((diffL ([]) oneL).length) O),(vi vr148.sg.index),(vl Z vr148.sg.op.length ae),(vl aa vr148.sg.cl.length ah),(vl ab vr148.sg.path.length ai)])=38 from (by simp [byteVals_len U.st]))) (by decide) (by decide) (by simp [Value.cells]))) fun ar au _ ay al al aC al=>have aD:=(RLs.ux rCg aS al);have aL:=(aN.ux al);have aR:=(aO.ux al);have aT:=(aP.ux al);have a1:RLs RVr 38 (Clip (fun _=>True) au) au (vl (some ⟨ar,0,none⟩) 1 1) [vr148]:=RLs.clip rVr (RLs.one aC (show List.length ((vi vr148.no)::dg vr148.state [(vl M ((diffL ([]) oneL).length) O),(vi vr148.sg.index),(vl Z vr148.sg.op.length ae),(vl aa vr148.sg.cl.length ah),(vl ab vr148.sg.path.length ai)])=38 from (by simp [byteVals_len U.st])) (one_cons rfl (one_app (byteVals_one _) (one_cons rfl (one_cons rfl (one_cons rfl (one_cons rfl (one_cons rfl one_nil))))))) trivial (⟨_,_,_,_,rfl,(⟨U.st,RLs.sub (S':=fun _=>True) rCg aD fun _ _=>trivial,⟨Fl.any aL,Fl.any aR,Fl.any aT,C.o32,C.c32,C.p32⟩⟩:RVp (fun _=>True) _ _ _ _ _ vr148)⟩:RVr (fun _=>True) _ _ vr148));ay.xm rfl fun _ ay=>?_
 have aC:=aQ.ux al
 have aD:=RLs.ext rCg bl al
 have ak:=version_good (sd:=[(115:UInt8),(101:UInt8),(101:UInt8),(100:UInt8)]) hk (n:=1) (by omega) (show checkE oneL=0 by decide) (show checkE []=0 from rfl) (by have h5:=(show oneL.length≤12 by decide);have h6:=(show ([]:List It).length≤12 by simp);omega)
 obtain ⟨vr272,hvr273⟩:∃ z,versionV ([(115:UInt8),(101:UInt8),(101:UInt8),(100:UInt8)]) 2 ((1:Nat):Int) 1 ([]) (diffL oneL ([]))=z:=⟨_,rfl⟩
 rw [hvr273] at ak
 refine ay.xC (c:=version_at (S:=fun _=>True) (some ⟨ar,0,none⟩) 1 ([(115:UInt8),(101:UInt8),(101:UInt8),(100:UInt8)]) 2 ((1:Nat):Int) (1) ([]) (diffL oneL ([])) _ (Fl.any aC) (RLs.sub (S':=fun _=>True) rIt (RLs.nil _:RLs RIt 2 (fun _=>False) _ _ _) fun _ _=>trivial) (RLs.sub (S':=fun _=>True) rCg aD fun _ _=>trivial) (show ∀ x∈([]:List It),x.data.length≤4294967296 from fun x hx=>absurd hx (by simp)) (by have h6:=(show ([]:List It).length≤12 by simp);omega) (diff_sm (show ∀ x∈oneL,x.data.length≤4294967296 by decide) (show ∀ x∈([]:List It),x.data.length≤4294967296 from fun x hx=>absurd hx (by simp))) (hG.ext eX)) (k:=?_)
 have al:=ak.1
 rw [hvr273,ak.1,show keyS ([(115:UInt8),(101:UInt8),(101:UInt8),(100:UInt8)]) 2 ((1:Nat):Int) 1 ([]) (diffL oneL ([]))=[(115:UInt8),(101:UInt8),(101:UInt8),(100:UInt8)] from if_pos al,show keyM ([(115:UInt8),(101:UInt8),(101:UInt8),(100:UInt8)]) 2 ((1:Nat):Int) 1 ([]) (diffL oneL ([]))=2 from if_pos al,show keyU ([(115:UInt8),(101:UInt8),(101:UInt8),(100:UInt8)]) 2 ((1:Nat):Int) 1 ([]) (diffL oneL ([]))=((1:Nat):Int)+1 from if_pos al]
 rintro _ aE ⟨al,al,al,p280,al,al,al,rfl,aM,al,Y,bP,bn⟩
 obtain ⟨rfl,hkk⟩:=bP rfl;obtain ⟨rfl,rfl,rfl⟩:=Value.slice.inj hkk.symm
 have hvc274:vr272.chs=diffL oneL ([]):=by rw [ak.2.1]
 obtain ⟨aW,ba,rfl,al,al⟩:=Fl.form Y.op
 obtain ⟨aX,bb,rfl,al,al⟩:=Fl.form Y.cl
 obtain ⟨aY,bc,rfl,al,al⟩:=Fl.form Y.path
 refine ⟨_,rfl,?_⟩;intro al al;have ar:=bn.size
 have ar:=RLs.ux rCg bl bn
 have aQ:RLs RCg 3 (Clip (fun z=>bq.heap.size≤z) aV) aE (vl am ((diffL oneL ([])).length) aq) vr272.chs:=by rw [hvc274];exact ar
 have aC:Fl (Clip (fun b=>au.heap.size≤b) aE) _ _ _ _ _:=Fl.subB Y.op (fun _ h1 h2=>⟨h2,h1⟩)
 have aD:Fl (Clip (fun b=>au.heap.size≤b) aE) _ _ _ _ _:=Fl.subB Y.cl (fun _ h1 h2=>⟨h2,h1⟩)
 have aL:Fl (Clip (fun b=>au.heap.size≤b) aE) _ _ _ _ _:=Fl.subB Y.path (fun _ h1 h2=>⟨h2,h1⟩)
 refine al.xm rfl<|Xv (ag ((vi vr272.no)::dg vr272.state [(vl am ((diffL oneL ([])).length) aq),(vi vr272.sg.index),(vl aW vr272.sg.op.length ba),(vl aX vr272.sg.cl.length bb),(vl aY vr272.sg.path.length bc)]))<|Xv (.agg #[(vl ac V aj),(vi 2),(vi (2:Nat))])<|Xv (vi 0) fun _ V=>V.xz vz 34 fun V V _ V ac ac ac aj=>V.xz [v0,(vi 0),(vi 0)] 24 fun V V _ V aj aj aj ar=>?_
 have al:=ac.ext ar
 refine V.xs rfl al (fun ac ar ac=>?_) (hk:=len_dig1 aM.st);have al:=ac.size
 have al:=aj.gn ac
 refine V.xs rfl al (fun ac ac aj=>have ac:=aj.size;V.xa rfl fun _ V=>wn bG<|have al:=V.k [0,1,2,3,4,5,6,7,8,9,10,11,12,13,15];wr fun V ay=>have ac:=bu.ug aj;al.xw (.agg (byteVals (pubF ([(115:UInt8),(101:UInt8),(101:UInt8),(100:UInt8)]) 2 0)).toArray) (fun F=>rb F rfl ac (hk:=byteVals_len (pubF_len _ _ _))) fun _ V=>V.xe (join_ok (pubF ([(115:UInt8),(101:UInt8),(101:UInt8),(100:UInt8)]) 2 0) _ (pubF_len _ _ _)) fun V V V _ V=>V.xm rfl<|Xv (ag (dg (pubF ([(115:UInt8),(101:UInt8),(101:UInt8),(100:UInt8)]) 2 0) [(vi 2),(vi 0),v0,v0]))<|Xv (vi 0) fun _ V=>V.xz fz 48 fun V V _ V aj aj aj al=>?_)
 refine V.xs rfl aj (fun aj au aj=>?_) (hk:=len_dig (pubF_len _ _ _));have al:=aj.size
 refine V.xa rfl fun _ V=>wn ay<|have al:=V.k [0,1,2,3,4,5,6,7,8,9,10,11,12,13,15,16,17];wr fun V ay=>have a3:=ac.ug aj;al.xw (.agg (byteVals (pubF ([(115:UInt8),(101:UInt8),(101:UInt8),(100:UInt8)]) 2 0)).toArray) (fun F=>rb F rfl a3 (hk:=byteVals_len (pubF_len _ _ _))) fun _ V=>V.xe (join_no (pubF ([(115:UInt8),(101:UInt8),(101:UInt8),(100:UInt8)]) 2 0) _ (pubF_len _ _ _)) fun V V V _ V=>V.xm rfl<|Xv (ag fz)<|Xv (vi 40) fun _ V=>V.xz fz 48 fun V V _ ac V V V aj=>ac.xs rfl V (fun G V V=>have aj:=V.size;ac.xa rfl fun _ ac=>wn ay<|have aj:=ac.k [0,1,2,3,4,5,6,7,8,9,10,11,12,13,15,16,17,19];wr fun ac bH=>have a4:=au.ug V;aj.xw (ag (dg (pubF ([(115:UInt8),(101:UInt8),(101:UInt8),(100:UInt8)]) 2 0) [(vi 2),(vi 0),v0,v0])) (fun F=>rb F rfl a4 (hk:=len_dig (pubF_len _ _ _))) fun _ ac=>have aj:=ar.ug V;ac.xw (ag ((vi vr272.no)::dg vr272.state [(vl am ((diffL oneL ([])).length) aq),(vi vr272.sg.index),(vl aW vr272.sg.op.length ba),(vl aX vr272.sg.cl.length bb),(vl aY vr272.sg.path.length bc)])) (fun F=>rb F rfl aj (hk:=len_dig1 aM.st)) fun _ ac=>have hD412:=duo_of hk (a:=oneL) (b:=[]) (by decide) rfl (by decide) hvr149 hvr273;have aj:=(RLs.ug rCg aQ V);have al:=(aC.ug V);have am:=(aD.ug V);have aq:=(aL.ug V);ac.xC (c:=recv_at (fun b=>b<G.heap.size) (pubF ([(115:UInt8),(101:UInt8),(101:UInt8),(100:UInt8)]) 2 0) 0 ([]) ([]) vr272 _ (pubF [115,101,101,100] 2 0) 2 0 ([]) ([vr272]) 0 hD412.early (pubF_len _ _ _) (RLs.sub (S':=fun b=>b<G.heap.size) rIt (RLs.nil _:RLs RIt 2 (fun _=>False) _ _ _) cb) (RLs.sub (S':=fun b=>b<G.heap.size) rVr (RLs.nil _:RLs RVr 38 (fun _=>False) _ _ _) cb) (⟨aM.st,(RLs.sub (S':=fun b=>b<G.heap.size) rCg aj cb),⟨Fl.sub (S':=fun b=>b<G.heap.size) al cb,Fl.sub (S':=fun b=>b<G.heap.size) am cb,Fl.sub (S':=fun b=>b<G.heap.size) aq cb,Y.o32,Y.c32,Y.p32⟩⟩:RVp (fun b=>b<G.heap.size) _ _ _ _ _ vr272) (show ∀ x∈([]:List It),x.data.length≤4294967296 from fun x hx=>absurd hx (by simp)) (fun v hv=>absurd hv (by simp)) (by rw [ak.2.1];exact diff_sm (show ∀ x∈oneL,x.data.length≤4294967296 by decide) (show ∀ x∈([]:List It),x.data.length≤4294967296 from fun x hx=>absurd hx (by simp))) (hG.ext eX)) (k:= ?_))
 rintro _ aF ⟨bv,bA,rfl,bh,hE422,V,bR⟩
 obtain ⟨aI,aU,rfl,V,V⟩:∃ A k,bv=.slice A 0 k∧0≤k∧k≤9223372036854775807:=RLs.form bh
 have bM:RLs RIt 2 (Clip (fun b=>b<G.heap.size∨G.heap.size≤b) aF) aF (vl aI 0 aU) ([]):=bh
 obtain ⟨av,az,rfl,V,V⟩:∃ A k,bA=.slice A 1 k∧1≤k∧k≤9223372036854775807:=RLs.form hE422
 have aj:RLs RVr 38 (Clip (fun b=>b<G.heap.size∨G.heap.size≤b) aF) aF (vl av 1 az) ([vr272]):=hE422
 refine ⟨_,rfl,?_⟩;intro G G;have V:=bR.size
 refine G.xm rfl<|Xv (ag (dg (pubF [115,101,101,100] 2 0) [(vi 2),(vi 0),(vl aI 0 aU),(vl av 1 az)]))<|Xv (vi 0) fun _ G=>G.xz fz 48 fun bd G _ V G G G Y=>?_
 refine V.xs rfl G (fun I a5 G=>?_) (hk:=len_dig (pubF_len _ _ _));have Y:=G.size
 refine V.xa rfl fun _ V=>wn bH<|have Y:=V.k [0,1,2,3,4,5,6,7,8,9,10,11,12,13,15,16,17,19,20,21];wr fun V bI=>Y.xw (ag (dg (pubF [115,101,101,100] 2 0) [(vi 2),(vi 0),(vl aI 0 aU),(vl av 1 az)])) (fun F=>rb F rfl a5 (hk:=len_dig (pubF_len _ _ _))) fun _ V=>have a7:=a2.ug G;V.xw (ag ((vi vr148.no)::dg vr148.state [(vl M ((diffL ([]) oneL).length) O),(vi vr148.sg.index),(vl Z vr148.sg.op.length ae),(vl aa vr148.sg.cl.length ah),(vl ab vr148.sg.path.length ai)])) (fun F=>rb F rfl a7 (hk:=len_dig1 U.st)) fun _ V=>have Y:=(RLs.ug rIt bM G);have ac:=(RLs.ug rVr aj G);have aj:=(RLs.ug rCg aS G);have al:=(aN.ug G);have am:=(aO.ug G);have aq:=(aP.ug G);V.xC (c:=recv_at (fun b=>b<I.heap.size) (pubF [115,101,101,100] 2 0) 0 ([]) ([vr272]) vr148 _ (pubF [115,101,101,100] 2 0) 2 2 ([]) ([]) 0 hD412.late (pubF_len _ _ _) (RLs.sub (S':=fun b=>b<I.heap.size) rIt Y cb) (RLs.sub (S':=fun b=>b<I.heap.size) rVr ac cb) (⟨U.st,(RLs.sub (S':=fun b=>b<I.heap.size) rCg aj cb),⟨Fl.sub (S':=fun b=>b<I.heap.size) al cb,Fl.sub (S':=fun b=>b<I.heap.size) am cb,Fl.sub (S':=fun b=>b<I.heap.size) aq cb,C.o32,C.c32,C.p32⟩⟩:RVp (fun b=>b<I.heap.size) _ _ _ _ _ vr148) (show ∀ x∈([]:List It),x.data.length≤4294967296 from fun x hx=>absurd hx (by simp)) (fun v hv=>by rw [List.mem_singleton.1 hv];exact (by rw [ak.2.1];exact diff_sm (show ∀ x∈oneL,x.data.length≤4294967296 by decide) (show ∀ x∈([]:List It),x.data.length≤4294967296 from fun x hx=>absurd hx (by simp)))) (by rw [D.2.1];exact diff_sm (show ∀ x∈([]:List It),x.data.length≤4294967296 from fun x hx=>absurd hx (by simp)) (show ∀ x∈oneL,x.data.length≤4294967296 by decide)) (hG.ext eX)) (k:= ?_)
 rintro _ aG ⟨bw,bB,rfl,bi,hE475,G,bS⟩
 obtain ⟨aw,aA,rfl,G,G⟩:∃ A k,bw=.slice A 0 k∧0≤k∧k≤9223372036854775807:=RLs.form bi
 have bN:RLs RIt 2 (Clip (fun b=>b<I.heap.size∨I.heap.size≤b) aG) aG (vl aw 0 aA) ([]):=bi
 obtain ⟨ax,aB,rfl,G,G⟩:∃ A k,bB=.slice A 0 k∧0≤k∧k≤9223372036854775807:=RLs.form hE475
 have Y:RLs RVr 38 (Clip (fun b=>b<I.heap.size∨I.heap.size≤b) aG) aG (vl ax 0 aB) ([]):=hE475
 refine ⟨_,rfl,?_⟩;intro G G;have I:=bS.size
 refine G.xm rfl<|Xv (ag (dg (pubF [115,101,101,100] 2 0) [(vi 2),(vi 2),(vl aw 0 aA),(vl ax 0 aB)]))<|Xv (vi 0) fun _ G=>G.xz fz 48 fun aK G _ I G G G V=>?_
 refine I.xs rfl G (fun J a8 G=>?_) (hk:=len_dig (pubF_len _ _ _));have V:=G.size
 refine I.xa rfl fun _ I=>wn bI<|have V:=I.k [0,1,2,3,4,5,6,7,8,9,10,11,12,13,15,16,17,19,20,21,22,23];wr fun I bJ=>V.xw (ag (dg (pubF [115,101,101,100] 2 0) [(vi 2),(vi 2),(vl aw 0 aA),(vl ax 0 aB)])) (fun F=>rb F rfl a8 (hk:=len_dig (pubF_len _ _ _))) fun _ I=>have a9:=a7.ug G;I.xw (ag ((vi vr148.no)::dg vr148.state [(vl M ((diffL ([]) oneL).length) O),(vi vr148.sg.index),(vl Z vr148.sg.op.length ae),(vl aa vr148.sg.cl.length ah),(vl ab vr148.sg.path.length ai)])) (fun F=>rb F rfl a9 (hk:=len_dig1 U.st)) fun _ I=>have M:=(RLs.ug rIt bN G);have O:=(RLs.ug rVr Y G);have V:=(RLs.ug rCg aS G);have Y:=(aN.ug G);have Z:=(aO.ug G);have aa:=(aP.ug G);I.xC (c:=recv_at (fun b=>b<J.heap.size) (pubF [115,101,101,100] 2 0) 2 ([]) ([]) vr148 _ zero32 0 0 ([]) ([]) 420 hD412.again2.1 (pubF_len _ _ _) (RLs.sub (S':=fun b=>b<J.heap.size) rIt M cb) (RLs.sub (S':=fun b=>b<J.heap.size) rVr O cb) (⟨U.st,(RLs.sub (S':=fun b=>b<J.heap.size) rCg V cb),⟨Fl.sub (S':=fun b=>b<J.heap.size) Y cb,Fl.sub (S':=fun b=>b<J.heap.size) Z cb,Fl.sub (S':=fun b=>b<J.heap.size) aa cb,C.o32,C.c32,C.p32⟩⟩:RVp (fun b=>b<J.heap.size) _ _ _ _ _ vr148) (show ∀ x∈([]:List It),x.data.length≤4294967296 from fun x hx=>absurd hx (by simp)) (fun v hv=>absurd hv (by simp)) (by rw [D.2.1];exact diff_sm (show ∀ x∈([]:List It),x.data.length≤4294967296 from fun x hx=>absurd hx (by simp)) (show ∀ x∈oneL,x.data.length≤4294967296 by decide)) (hG.ext eX)) (k:= ?_)
 rintro _ aH ⟨bx,bC,rfl,bj,hE528,C,bT⟩
 obtain ⟨aZ,bo,rfl,C,C⟩:∃ A k,bx=.slice A 0 k∧0≤k∧k≤9223372036854775807:=RLs.form bj
 have C:RLs RIt 2 (Clip (fun b=>b<J.heap.size∨J.heap.size≤b) aH) aH (vl aZ 0 bo) ([]):=bj
 obtain ⟨a0,bp,rfl,C,C⟩:∃ A k,bC=.slice A 0 k∧0≤k∧k≤9223372036854775807:=RLs.form hE528
 have C:RLs RVr 38 (Clip (fun b=>b<J.heap.size∨J.heap.size≤b) aH) aH (vl a0 0 bp) ([]):=hE528
 refine ⟨_,rfl,?_⟩;intro C C;have G:=bT.size
 refine C.xm rfl<|Xv (ag (dg zero32 [(vi 0),(vi 0),(vl aZ 0 bo),(vl a0 0 bp)]))<|Xv (vi 420) fun _ C=>C.xz fz 48 fun C C _ G C C C I=>G.xs rfl C (fun C C C=>have I:=C.size;G.xa rfl fun _ G=>wn bJ<|have I:=G.k [0,1,2,3,4,5,6,7,8,9,10,11,12,13,15,16,17,19,20,21,22,23,25];wr fun G J=>I.xm rfl<|Xv (.bool true)<|Xm rfl<|Xg (vi (pubE ([(115:UInt8),(101:UInt8),(101:UInt8),(100:UInt8)]) 2 0))<|Xg (vd (((pubE ([(115:UInt8),(101:UInt8),(101:UInt8),(100:UInt8)]) 2 0):Int)=(0:Int)))<|Xv (vd (((pubE ([(115:UInt8),(101:UInt8),(101:UInt8),(100:UInt8)]) 2 0):Int)=(0:Int)))<|Xm rfl fun _ G=>qg 7 (vi 0) G ((decide_eq_true (pub_u hk (by decide) (by decide)).2):decide (((pubE ([(115:UInt8),(101:UInt8),(101:UInt8),(100:UInt8)]) 2 0):Int)=(0:Int))=true) (rn_move (G.get rfl)) fun _ G=>?_)
 refine qg 8 (.bool true) G ((decide_eq_true (pub_u hk (by decide) (by decide)).2):decide (((pubE ([(115:UInt8),(101:UInt8),(101:UInt8),(100:UInt8)]) 2 0):Int)=(0:Int))=true) (rn_eql' (G.get rfl) rfl (by decide)) fun _ G=>?_
 refine G.xw (.bool true) (fun F=>rn_pickT (c_true F rfl ((decide_eq_true (pub_u hk (by decide) (by decide)).2):decide (((pubE ([(115:UInt8),(101:UInt8),(101:UInt8),(100:UInt8)]) 2 0):Int)=(0:Int))=true)) (F.get rfl))<|Xm rfl<|Xg (vi 0)<|Xg (.bool true)<|Xv (.bool true)<|Xm rfl<|Xg (vp aJ) fun _ G=>have I:=a9.ug C;G.xgw (vi vr148.no) (fun F=>rl F rfl ((I.rule.1 0).trans rfl))<|Xg (vd ((vr148.no:Int)=(1:Int)))<|Xv (vd ((vr148.no:Int)=(1:Int)))<|Xm rfl fun _ G=>qg 20 (vq aJ 34) G ((decide_eq_true (congrArg Vr.no D.2.1)):decide ((vr148.no:Int)=(1:Int))=true) (rn_field uu34 rfl (by kernel_rfl) (G.get rfl) rfl) fun _ G=>?_
 refine qg 21 (vq aJ 34) G ((decide_eq_true (congrArg Vr.no D.2.1)):decide ((vr148.no:Int)=(1:Int))=true) (rn_field uu32 rfl (by kernel_rfl) (G.get rfl) rfl) fun _ G=>?_
 refine qg 22 (vi vr148.sg.index) G ((decide_eq_true (congrArg Vr.no D.2.1)):decide ((vr148.no:Int)=(1:Int))=true) (rl G rfl ((I.rule.1 34).trans ((at_app (k:=1) (byteVals_len U.st)).trans rfl))) fun _ G=>?_
 refine qg 23 (vd ((vr148.sg.index:Int)=(0:Int))) G ((decide_eq_true (congrArg Vr.no D.2.1)):decide ((vr148.no:Int)=(1:Int))=true) (rn_eql (G.get rfl) rfl) fun _ G=>?_
 refine G.xw (vd ((vr148.sg.index:Int)=(0:Int))) (fun F=>rn_pickT (c_true F rfl ((decide_eq_true (congrArg Vr.no D.2.1)):decide ((vr148.no:Int)=(1:Int))=true)) (F.get rfl))<|Xm rfl fun _ G=>qg 26 (vi 0) G ((decide_eq_true (version_idx hk (n:=0) (by decide) D.2.1)):decide ((vr148.sg.index:Int)=(0:Int))=true) (rn_move (G.get rfl)) fun _ G=>?_
 refine qg 27 (.bool true) G ((decide_eq_true (version_idx hk (n:=0) (by decide) D.2.1)):decide ((vr148.sg.index:Int)=(0:Int))=true) (rn_eql' (G.get rfl) rfl (by decide)) fun _ G=>?_
 refine G.xw (.bool true) (fun F=>rn_pickT (c_true F rfl ((decide_eq_true (version_idx hk (n:=0) (by decide) D.2.1)):decide ((vr148.sg.index:Int)=(0:Int))=true)) (F.get rfl))<|Xm rfl<|Xg (vi 0)<|Xg (.bool true)<|Xv (.bool true)<|Xm rfl<|Xg (vi 0)<|Xg (.bool true)<|Xv (.bool true)<|Xm rfl<|Xg (vi 40)<|Xg (.bool true)<|Xv (.bool true)<|Xm rfl fun _ D=>have G:=a4.ug C;D.xgw (ag (dg (pubF ([(115:UInt8),(101:UInt8),(101:UInt8),(100:UInt8)]) 2 0) [(vi 2),(vi 0),v0,v0])) (fun F=>rb F rfl G (hk:=len_dig (pubF_len _ _ _))) fun _ C=>wpl_op (i:=43) rfl (C.gE (c:=wants_fo (pubF ([(115:UInt8),(101:UInt8),(101:UInt8),(100:UInt8)]) 2 0) 0 ([]) ([]) _ 1 rfl (pubF_len _ _ _) (RLs.nil _:RLs RIt 2 (fun _=>False) _ _ _) (RLs.nil _:RLs RVr 38 (fun _=>False) _ _ _) (by omega)) (k:=fun C D C _ C=>C.xg (.bool true)<|Xv (.bool true)<|Xa rfl fun _ C=>wn J<|have G:=C.k [0,1,2,3,4,5,6,7,8,9,10,11,12,13,15,16,17,19,20,21,22,23,25,26];wr fun C I=>G.xm rfl<|Xm rfl<|Xg (vi 0)<|Xg (.bool true)<|Xv (.bool true)<|Xm rfl<|Xg (vq bd 33) fun _ G=>have C:=a5.ux D;G.xgw (vi 0) (fun F=>rl F rfl ((C.rule.1 33).trans ((at_app (k:=1) (byteVals_len (pubF_len _ _ _))).trans rfl)))<|Xg (.bool true)<|Xv (.bool true)<|Xm rfl<|Xg (vq bd 35)<|Xgw (vl av 1 az) (fun F=>rl F rfl ((C.rule.1 35).trans ((at_app (k:=3) (byteVals_len (pubF_len _ _ _))).trans rfl)))<|Xg (vi 1)<|Xg (.bool true)<|Xv (.bool true)<|Xm rfl<|Xg (vi 0)<|Xg (.bool true)<|Xv (.bool true)<|Xm rfl<|Xg (vq aK 33) fun _ G=>have C:=a8.ux D;G.xgw (vi 2) (fun F=>rl F rfl ((C.rule.1 33).trans ((at_app (k:=1) (byteVals_len (pubF_len _ _ _))).trans rfl)))<|Xg (.bool true)<|Xv (.bool true)<|Xm rfl<|Xg (vq aK 34)<|Xgw (vl aw 0 aA) (fun F=>rl F rfl ((C.rule.1 34).trans ((at_app (k:=2) (byteVals_len (pubF_len _ _ _))).trans rfl)))<|Xg (vi 0)<|Xg (.bool true)<|Xv (.bool true)<|Xm rfl<|Xg (vq aK 35)<|Xgw (vl ax 0 aB) (fun F=>rl F rfl ((C.rule.1 35).trans ((at_app (k:=3) (byteVals_len (pubF_len _ _ _))).trans rfl)))<|Xg (vi 0)<|Xg (.bool true)<|Xv (.bool true)<|Xm rfl<|Xg (vi 420)<|Xg (.bool true)<|Xv (.bool true)<|Xm rfl fun _ C=>have G:=a3.ux D;C.xgw (.agg (byteVals (pubF ([(115:UInt8),(101:UInt8),(101:UInt8),(100:UInt8)]) 2 0)).toArray) (fun F=>rb F rfl G (hk:=byteVals_len (pubF_len _ _ _)))<|Xgw (ag vz) (fun F=>rn_build (parts0 ) (by kernel_rfl)) fun _ C=>wpl_op (i:=44) rfl (C.gE (c:=verify_nil (pubF ([(115:UInt8),(101:UInt8),(101:UInt8),(100:UInt8)]) 2 0) _ (pubF_len _ _ _) (hG.ext eX)) (k:=fun C C C _ C=>C.xg (.bool true)<|Xv (.bool true)<|Xa rfl fun _ C=>wn I ?_))))
 have D:=C.k [0,1,2,3,4,5,6,7,8,9,10,11,12,13,15,16,17,19,20,21,22,23,25,26]
 exact wp_ret<|ret1 D rfl rfl<|⟨rfl,eX⟩
end
theorem few_sm (h:fewI l):∀ x∈l,x.data.length≤4294967296:=fun x hx=>by have:=(h.2 x hx).2;omega
theorem fewv_sm (h:fewV v):∀ x∈v.chs,x.data.length≤4294967296:=fun x hx=>by have:=(h.1.1.1.2 x hx).2;omega
def fewF (f:Fo):Prop:=(∀ v∈f.early,fewV v)∧fewI f.items∧f.early.length≤2
instance (f:Fo):Decidable (fewF f):=inferInstanceAs (Decidable ((∀ v∈f.early,fewV v)∧_∧_))
theorem rfewfo_any (FA:Option Addr) (fa:Nat) (FE:Option Addr) (fe:Nat) (f:Fo) (w:World) (h:RFo S w (vl FA f.items.length fa) (vl FE f.early.length fe) f) :
  Calls Tryz.prog 16 #[(ag (dg f.pub [(vi f.many),(vi f.no),(vl FA f.items.length fa),(vl FE f.early.length fe)]))] w (fun e w'=>e=.returned (.bool (decide (fewF f)))∧Ext w w'):=by
 have hc:=RFo.subB (S':=Clip S w) h (fun _ hb hs=>⟨hs,hb⟩)
 obtain ⟨-,Z,Z⟩:=RLs.at hc.items;obtain ⟨-,Z,Z⟩:=RLs.at hc.early
 refine calls_enter Tryz.func16 rfl rfl rfl fun _ Z=>wr fun K1 am=>Z.xb rfl fun I w3 _ Z z6 z7 b4 ar=>Z.xv (.bool false) fun _ Z=>wn am<|wp_seq_k fun am aq=>wr fun am am=>Z.xv (vi 0) fun _ Z=>wn am<|wp_block<|wp_loop (fun a' W=>∃ (k:Nat),Sl 27 [(0,(ag (dg f.pub [(vi f.many),(vi f.no),(vl FA f.items.length fa),(vl FE f.early.length fe)]))),(1,(vp I)),(2,(.bool false)),(3,(vi k))] a'∧k≤f.early.length∧(∀ j,j<k→∀ x,f.early[j]?=some x→fewV x)∧Ext w W∧Blk W I 48 (dg f.pub [(vi f.many),(vi f.no),(vl FA f.items.length fa),(vl FE f.early.length fe)])∧w3.heap.size≤W.heap.size) (fun a' _=>f.early.length - (intOf (a'.eval (.tmp 3))).toNat) ⟨0,Z.j,(by omega),(fun j hj=>absurd hj (by omega)),eX,b4,(Nat.le_refl _)⟩ ?_
 rintro Z Z ⟨k,Z,am,ai,M,G,am⟩
 have aw:=Z
 have am:=M.size
 have am:=G.lt
 refine wp_seq_k fun am am=>wr fun ar ar=>Z.xm rfl<|Xv (vq I 35)<|Xw (vl FE f.early.length fe) (fun F=>rl F rfl ((G.rule.1 35).trans ((at_app (k:=3) (byteVals_len hc.pub)).trans rfl)))<|Xv (vi f.early.length)<|Xv (vd ((k:Int)<(f.early.length:Int))) fun _ Z=>wn ar ?_
 have J:=Z.k [0,1,2,3,8]
 by_cases Z:(k:Int)<(f.early.length:Int)
 ·refine J.ct<|wp_skip<|am _ _<|wp_seq_k fun Z au=>wp_block<|wr fun Z av=>J.xv (vq I 35)<|Xw (vl FE f.early.length fe) (fun F=>rl F rfl ((G.rule.1 35).trans ((at_app (k:=3) (byteVals_len hc.pub)).trans rfl)))<|Xm rfl fun _ aj=>?_
  have Z:=RLs.ext rVr hc.early M
  obtain ⟨ak,az,C,am,al,ah,am,ax,ay⟩:=RLs.get Z (by omega:k<f.early.length)
  obtain ⟨Z,Z,Z,Z,rfl,D⟩:=ay
  obtain ⟨O,aa,rfl,Z,Z⟩:=RLs.form D.chs
  obtain ⟨U,ab,rfl,Z,Z⟩:=Fl.form D.sg.op
  obtain ⟨V,ac,rfl,Z,Z⟩:=Fl.form D.sg.cl
  obtain ⟨Y,ae,rfl,Z,Z⟩:=Fl.form D.sg.path
  refine aj.xw (vq ak (az+k*38)) (fun F=>rn_indexE uu25 inf34 ((F.get rfl).trans (by rw [al])) (F.get rfl) (zl _) (il (by omega:k<f.early.length)) (by omega))<|Xw (ag ((vi C.no)::dg C.state [(vl O C.chs.length aa),(vi C.sg.index),(vl U C.sg.op.length ab),(vl V C.sg.cl.length ac),(vl Y C.sg.path.length ae)])) (fun F=>rn_loadN (cs:=((vi C.no)::dg C.state [(vl O C.chs.length aa),(vi C.sg.index),(vl U C.sg.op.length ab),(vl V C.sg.cl.length ac),(vl Y C.sg.path.length ae)])) (F.get rfl) uu34 rfl (sk inf34 (len_dig1 D.st)) ax) fun _ I=>I.xe (fewv_at C _ (⟨D.st,RLs.sub (S':=fun _=>True) rCg D.chs fun _ _=>trivial,⟨Fl.any D.sg.op,Fl.any D.sg.cl,Fl.any D.sg.path,D.sg.o32,D.sg.c32,D.sg.p32⟩⟩:RVp (fun _=>True) _ _ _ _ _ C)) fun D J D _ D=>D.xw (.bool (!(decide (fewV C)))) (fun F=>rn_not' (F.get rfl) rfl) fun _ I=>wn av ?_
  have D:=I.k [0,1,2,3,8,17]
  by_cases I:fewV C
  ·refine D.cf<|wp_skip<|au _ _<|wp_region_lit<|D.xm rfl<|Xv (vi (k+1:Nat))<|Xa rfl fun _ C=>wpList_nil ?_
   have D:=G.ext J
   refine ⟨⟨(k+1),C.j,(by omega),(all_succ ai (few_at ah I)),eX,D,(by omega)⟩,?_⟩
   rw [C.get (t:=3) rfl,aw.get (t:=3) rfl];simp [intOf] <;> omega
  exact D.ct<|wr fun G G=>D.xv (.bool false) fun _ D=>wn G<|wp_ret<|ret_block<|ret_then<|ret_then<|ret_block<|ret_then<|ret1 D rfl rfl<|⟨ret_bool (decide_eq_false (fun q:fewF f=>I (q.1 C (List.mem_of_getElem? ah)))).symm,eX⟩
 refine J.cf<|wp_exit<|exit_then<|exit_then<|exit_here<|aq _ _<|wr fun C D=>J.xv (vq I 34)<|Xw (vl FA f.items.length fa) (fun F=>rl F rfl ((G.rule.1 34).trans ((at_app (k:=2) (byteVals_len hc.pub)).trans rfl))) fun _ C=>have J:=(RLs.ext rIt hc.items M);C.xe (few40_at (v:=(vl FA f.items.length fa)) f.items _ J) fun C M C _ C=>C.xm rfl fun _ C=>?_
 by_cases J:fewI f.items
 ·exact C.xg (vq I 35) fun _ C=>have I:=(G.ext M);C.xgw (vl FE f.early.length fe) (fun F=>rl F rfl ((I.rule.1 35).trans ((at_app (k:=3) (byteVals_len hc.pub)).trans rfl)))<|Xg (vi f.early.length)<|Xg (vd ((f.early.length:Int)≤(2:Int)))<|Xv (vd ((f.early.length:Int)≤(2:Int)))<|Xa rfl fun _ C=>wn D<|have D:=C.k [0,1,2,3,8];wp_ret<|ret1 D rfl rfl<|⟨ret_bool (show decide ((f.early.length:Int)≤(2:Int))=decide (fewF f) from decide_eq_decide.2 ⟨fun h=>⟨few_yes ai (by omega),J,by omega⟩,fun q=>by have:=q.2.2;omega⟩),eX⟩
 exact C.xu<|Xu<|Xu<|Xu<|Xv (.bool false)<|Xa rfl fun _ C=>wn D<|have D:=C.k [0,1,2,3,8];wp_ret<|ret1 D rfl rfl<|⟨ret_bool (decide_eq_false (fun q:fewF f=>J q.2.1)).symm,eX⟩
theorem rfewfo_at (f:Fo) (w:World) (h:RFo S w c e f) :
  Calls Tryz.prog 16 #[ag (fcs f.pub f.many f.no c e)] w (fun e w'=>e=.returned (.bool (decide (fewF f)))∧Ext w w'):=by
 obtain ⟨FA,fa,rfl,_⟩:=RLs.form h.items
 obtain ⟨FE,fe,rfl,_⟩:=RLs.form h.early
 exact rfewfo_any FA fa FE fe f w h
abbrev wrapI (n:Int):Int:=IntKind.i64.wrap n
theorem wants_free0 (FA:Option Addr) (fa:Nat) (FE:Option Addr) (fe:Nat) (f:Fo) (w:World) (h:RFo S w (vl FA f.items.length fa) (vl FE f.early.length fe) f) :
  Calls Tryz.prog 22 #[(ag (dg f.pub [(vi f.many),(vi f.no),(vl FA f.items.length fa),(vl FE f.early.length fe)]))] w (fun e w'=>e=.returned (vi (wrapI (f.no+1)))∧Ext w w'):=by
 have hc:=RFo.subB (S':=Clip S w) h (fun _ hb hs=>⟨hs,hb⟩)
 obtain ⟨-,C,C⟩:=RLs.at hc.items;obtain ⟨-,C,C⟩:=RLs.at hc.early
 exact calls_enter Tryz.func22 rfl rfl rfl fun _ C=>wr fun D I=>C.xb rfl fun G C _ C D D D J=>C.xv (vi 0) fun _ C=>wn I<|wr fun I I=>C.xv (vq G 33)<|Xw (vi f.no) (fun F=>rl F rfl ((D.rule.1 33).trans ((at_app (k:=1) (byteVals_len hc.pub)).trans rfl)))<|Xw (vi (wrapI (f.no+1))) (fun F=>addW_ok (k:=.i64) (F.get rfl) rfl)<|Xa rfl fun _ C=>wn I<|wp_ret<|ret1 C rfl rfl<|⟨rfl,eX⟩
theorem wants_free (f:Fo) (w:World) (h:RFo S w c e f) :
  Calls Tryz.prog 22 #[ag (fcs f.pub f.many f.no c e)] w (fun e w'=>e=.returned (vi (wrapI (f.no+1)))∧Ext w w'):=by
 obtain ⟨FA,fa,rfl,_⟩:=RLs.form h.items
 obtain ⟨FE,fe,rfl,_⟩:=RLs.form h.early
 exact wants_free0 FA fa FE fe f w h
theorem rwants_free0 (FA:Option Addr) (fa:Nat) (FE:Option Addr) (fe:Nat) (f:Fo) (w:World) (h:RFo S w (vl FA f.items.length fa) (vl FE f.early.length fe) f) :
  Calls Tryz.prog 23 #[(ag (dg f.pub [(vi f.many),(vi f.no),(vl FA f.items.length fa),(vl FE f.early.length fe)]))] w (fun e w'=>e=.returned (vi (wrapI (f.no+1)))∧Ext w w'):=by
 have hc:=RFo.subB (S':=Clip S w) h (fun _ hb hs=>⟨hs,hb⟩)
 obtain ⟨-,C,C⟩:=RLs.at hc.items;obtain ⟨-,C,C⟩:=RLs.at hc.early
 exact calls_enter Tryz.func23 rfl rfl rfl fun _ C=>wr fun D I=>C.xb rfl fun G C _ C D D D J=>C.xv (vi 0) fun _ C=>wn I<|wr fun I I=>C.xv (vq G 33)<|Xw (vi f.no) (fun F=>rl F rfl ((D.rule.1 33).trans ((at_app (k:=1) (byteVals_len hc.pub)).trans rfl)))<|Xw (vi (wrapI (f.no+1))) (fun F=>addW_ok (k:=.i64) (F.get rfl) rfl)<|Xa rfl fun _ C=>wn I<|wp_ret<|ret1 C rfl rfl<|⟨rfl,eX⟩
theorem rwants_free (f:Fo) (w:World) (h:RFo S w c e f) :
  Calls Tryz.prog 23 #[ag (fcs f.pub f.many f.no c e)] w (fun e w'=>e=.returned (vi (wrapI (f.no+1)))∧Ext w w'):=by
 obtain ⟨FA,fa,rfl,_⟩:=RLs.form h.items
 obtain ⟨FE,fe,rfl,_⟩:=RLs.form h.early
 exact rwants_free0 FA fa FE fe f w h
theorem receivespec_any (FA:Option Addr) (fa:Nat) (FE:Option Addr) (fe:Nat) (C:Option Addr) (cc:Nat) (O:Option Addr) (oc:Nat) (E:Option Addr) (ec:Nat) (P:Option Addr) (pc:Nat) (f:Fo) (v:Vr) (w:World) (hf:RFo S w (vl FA f.items.length fa) (vl FE f.early.length fe) f) (hv:RVp S w (vl C v.chs.length cc) (vl O v.sg.op.length oc) (vl E v.sg.cl.length ec) (vl P v.sg.path.length pc) v) (hG:Glob w) :
  Calls Tryz.prog 4 #[(ag (dg f.pub [(vi f.many),(vi f.no),(vl FA f.items.length fa),(vl FE f.early.length fe)])),(ag ((vi v.no)::dg v.state [(vl C v.chs.length cc),(vi v.sg.index),(vl O v.sg.op.length oc),(vl E v.sg.cl.length ec),(vl P v.sg.path.length pc)]))] w (fun en w'=>en=.returned (.bool true)∧Ext w w'):=by
 have hfc:=RFo.subB (S':=Clip S w) hf (fun _ hb hs=>⟨hs,hb⟩)
 obtain ⟨-,hfc1,hfc2⟩:=RLs.at hfc.items;obtain ⟨-,hfc3,hfc4⟩:=RLs.at hfc.early
 have hvc:=RVp.subB (S':=Clip S w) hv (fun _ hb hs=>⟨hs,hb⟩)
 obtain ⟨-,hvc1,hvc2⟩:=RLs.at hvc.chs;have hvc3:=(Fl.cel hvc.sg.op).2.1;have hvc4:=(Fl.cel hvc.sg.cl).2.1;have hvc5:=(Fl.cel hvc.sg.path).2.1
 refine calls_enter Tryz.func4 rfl rfl rfl fun _ I=>wr fun K1 aj=>I.xb rfl fun g2 I _ I z6 z7 b4 av=>I.xb rfl fun I I _ I av av aB av=>I.xv (.bool false) fun _ I=>wn aj<|wp_seq_k fun aj av=>wr fun aj aD=>I.xE (c:=sane42_any _ (hG.ext eX)) (k:=fun I I aj _ aj=>aj.xw (.bool false) (fun F=>rn_not' (F.get rfl) rfl) fun _ aj=>wn aD<|aj.cf<|wp_skip<|av _ _<|wp_seq_k fun av aI=>wr fun av ay=>have av:=b4.ux I;aj.xw (ag (dg f.pub [(vi f.many),(vi f.no),(vl FA f.items.length fa),(vl FE f.early.length fe)])) (fun F=>rb F rfl av (hk:=len_dig hfc.pub)) fun _ aj=>have aD:=(RLs.ux rIt hfc.items I);have aE:=(RLs.ux rVr hfc.early I);aj.xe (rfewfo_at f _ (⟨hfc.pub,RLs.sub rIt aD (fun _ _=>trivial),RLs.sub rVr aE (fun _ _=>trivial)⟩:RFo (fun _=>True) _ _ _ f)) fun I I aj _ aj=>aj.xw (.bool (!(decide (fewF f)))) (fun F=>rn_not' (F.get rfl) rfl)<|Xm rfl fun _ ak=>?_)
 by_cases aj:fewF f
 ·have hff:=aj;have hdi:=few_sm hff.2.1;have hde:∀ v∈f.early,∀ x∈v.chs,x.data.length≤4294967296:=fun v hv=>fewv_sm (hff.1 v hv)
  have aj:=aB.ux I
  refine ak.xgw (ag ((vi v.no)::dg v.state [(vl C v.chs.length cc),(vi v.sg.index),(vl O v.sg.op.length oc),(vl E v.sg.cl.length ec),(vl P v.sg.path.length pc)])) (fun F=>rb F rfl aj (hk:=len_dig1 hvc.st)) fun _ aB=>have aD:=(RLs.ux rCg hvc.chs I);have aE:=(hvc.sg.op.ux I);have aF:=(hvc.sg.cl.ux I);have aG:=(hvc.sg.path.ux I);wpl_op (i:=5) rfl (aB.gE (c:=fewv_at v _ (⟨hvc.st,RLs.sub (S':=fun _=>True) rCg aD fun _ _=>trivial,⟨Fl.any aE,Fl.any aF,Fl.any aG,hvc.sg.o32,hvc.sg.c32,hvc.sg.p32⟩⟩:RVp (fun _=>True) _ _ _ _ _ v)) (k:=fun aM I aB _ aB=>aB.xgw (.bool (!(decide (fewV v)))) (fun F=>rn_not' (F.get rfl) rfl)<|Xv (.bool (!(decide (fewV v)))) fun _ aB=>wn ay ?_))
  have J:=aB.k [0,1,2,3,4,10,18]
  by_cases az:fewV v
  ·refine J.cf<|wp_skip<|aI _ _<|wr fun aB aJ=>have aw:=av.ux I;J.xw (ag (dg f.pub [(vi f.many),(vi f.no),(vl FA f.items.length fa),(vl FE f.early.length fe)])) (fun F=>rb F rfl aw (hk:=len_dig hfc.pub)) fun _ av=>have ax:=(aj.ext I);av.xw (ag ((vi v.no)::dg v.state [(vl C v.chs.length cc),(vi v.sg.index),(vl O v.sg.op.length oc),(vl E v.sg.cl.length ec),(vl P v.sg.path.length pc)])) (fun F=>rb F rfl ax (hk:=len_dig1 hvc.st)) fun _ aj=>have av:=(RLs.ux rCg hvc.chs I);have aB:=(hvc.sg.op.ux I);have aD:=(hvc.sg.cl.ux I);have aE:=(hvc.sg.path.ux I);have aF:=(RLs.ux rIt hfc.items I);have aG:=(RLs.ux rVr hfc.early I);aj.xc (receive_at (S:=Clip S w) f v _ (⟨hfc.pub,aF,aG⟩:RFo (Clip S w) _ _ _ f) (⟨hvc.st,av,⟨aB,aD,aE,hvc.sg.o32,hvc.sg.c32,hvc.sg.p32⟩⟩:RVp (Clip S w) _ _ _ _ _ v) hdi hde (fewv_sm az) (hG.ext eX)) ?_
   obtain ⟨g,hg⟩:∃ z,z=recF f v:=⟨_,rfl⟩;obtain ⟨D,he9⟩:∃ z,z=recE f v:=⟨_,rfl⟩
   simp only [← hg,← he9]
   rintro _ ar ⟨I,I,rfl,ah,aK⟩
   obtain ⟨Y,ac,rfl,I,I⟩:=RLs.form ah.items;obtain ⟨Z,ae,rfl,I,I⟩:=RLs.form ah.early
   have al:=RFo.subB (S':=(Clip (Fr (Clip S w) aM) ar)) ah (fun b hl hb=>⟨hb,hl⟩)
   refine ⟨_,rfl,?_⟩;intro I I;have ah:=aK.size
   refine I.xm rfl<|Xv (ag (dg g.pub [(vi g.many),(vi g.no),(vl Y g.items.length ac),(vl Z g.early.length ae)]))<|Xv (vi D) fun _ I=>I.xz fz 48 fun ai I _ I ah ah ah aA=>?_
   refine I.xs rfl ah (fun aL aC G=>?_) (hk:=len_dig al.pub);have ah:=G.size
   refine I.xa rfl fun _ I=>wn aJ<|have ah:=I.k [0,1,2,3,4,10,18,5,6];wr fun I aH=>have au:=aw.ug G;ah.xw (ag (dg f.pub [(vi f.many),(vi f.no),(vl FA f.items.length fa),(vl FE f.early.length fe)])) (fun F=>rb F rfl au (hk:=len_dig hfc.pub)) fun _ I=>have ah:=ax.ug G;I.xw (ag ((vi v.no)::dg v.state [(vl C v.chs.length cc),(vi v.sg.index),(vl O v.sg.op.length oc),(vl E v.sg.cl.length ec),(vl P v.sg.path.length pc)])) (fun F=>rb F rfl ah (hk:=len_dig1 hvc.st)) fun _ I=>have ah:=(RLs.ug rCg hvc.chs G);have aj:=(hvc.sg.op.ug G);have av:=(hvc.sg.cl.ug G);have aw:=(hvc.sg.path.ug G);have ax:=(RLs.ug rIt hfc.items G);have aB:=(RLs.ug rVr hfc.early G);I.xc (rreceive_at (S:=Clip S w) f v _ (⟨hfc.pub,ax,aB⟩:RFo (Clip S w) _ _ _ f) (⟨hvc.st,ah,⟨aj,av,aw,hvc.sg.o32,hvc.sg.c32,hvc.sg.p32⟩⟩:RVp (Clip S w) _ _ _ _ _ v) hdi hde (fewv_sm az)) ?_
   simp only [← hg,← he9]
   rintro _ aq ⟨I,I,rfl,M,am⟩
   obtain ⟨U,aa,rfl,I,I⟩:=RLs.form M.items;obtain ⟨V,ab,rfl,I,I⟩:=RLs.form M.early
   have J:=RFo.subB (S':=(Clip (Fr (Clip S w) aL) aq)) M (fun b hl hb=>⟨hb,hl⟩)
   refine ⟨_,rfl,?_⟩;intro I I;have M:=am.size
   refine I.xm rfl<|Xv (ag (dg g.pub [(vi g.many),(vi g.no),(vl U g.items.length aa),(vl V g.early.length ab)]))<|Xv (vi D) fun _ I=>I.xz fz 48 fun aj I _ I M M M ak=>?_
   refine I.xs rfl M (fun M ax ah=>?_) (hk:=len_dig J.pub);have M:=ah.size
   refine I.xa rfl fun _ I=>wn aH<|have ay:=I.k [0,1,2,3,4,10,18,5,6,7,8];wp_seq_k fun I aB=>sX (fun I W=>Ext I W∧Blk W ai 48 (dg g.pub [(vi g.many),(vi g.no),(vl Y g.items.length ac),(vl Z g.early.length ae)])∧Blk W aj 48 (dg g.pub [(vi g.many),(vi g.no),(vl U g.items.length aa),(vl V g.early.length ab)])∧Blk W g2 48 (dg f.pub [(vi f.many),(vi f.no),(vl FA f.items.length fa),(vl FE f.early.length fe)])) (fun i=>false) 23 fun I M av=>have av:=aC.ux M;have aw:=(ax.ext M);have ax:=au.ux M;have au:Ext I I∧Blk I ai 48 (dg g.pub [(vi g.many),(vi g.no),(vl Y g.items.length ac),(vl Z g.early.length ae)])∧Blk I aj 48 (dg g.pub [(vi g.many),(vi g.no),(vl U g.items.length aa),(vl V g.early.length ab)])∧Blk I g2 48 (dg f.pub [(vi f.many),(vi f.no),(vl FA f.items.length fa),(vl FE f.early.length fe)]):=⟨(Ext.refl I),av,aw,ax⟩;ay.ys 0 (ag (dg g.pub [(vi g.many),(vi g.no),(vl Y g.items.length ac),(vl Z g.early.length ae)])) rfl au (fun F W hW=>rb F rfl hW.2.1 (hk:=len_dig J.pub))<|Ys 1 (ag (dg g.pub [(vi g.many),(vi g.no),(vl U g.items.length aa),(vl V g.early.length ab)])) rfl au (fun F W hW=>rb F rfl hW.2.2.1 (hk:=len_dig J.pub)) fun _ au=>ao 2 rfl<|have ay:=(RLs.pres rIt al.items (((((((Pres.refl ar).ext aA).grownN G (fun h=>by first | (simp only [Clip,Fr] at h;omega) | (simp only [Clip] at h;omega))).ext am).ext ak).grownN ah (fun h=>by first | (simp only [Clip,Fr] at h;omega) | (simp only [Clip] at h;omega))).ext M));have az:=(RLs.pres rVr al.early (((((((Pres.refl ar).ext aA).grownN G (fun h=>by first | (simp only [Clip,Fr] at h;omega) | (simp only [Clip] at h;omega))).ext am).ext ak).grownN ah (fun h=>by first | (simp only [Clip,Fr] at h;omega) | (simp only [Clip] at h;omega))).ext M));have G:=(RLs.pres rIt J.items ((((Pres.refl aq).ext ak).grownN ah (fun h=>by first | (simp only [Clip,Fr] at h;omega) | (simp only [Clip] at h;omega))).ext M));have al:=(RLs.pres rVr J.early ((((Pres.refl aq).ext ak).grownN ah (fun h=>by first | (simp only [Clip,Fr] at h;omega) | (simp only [Clip] at h;omega))).ext M));au.oe (samefo_at (S1:=fun _=>True) (S2:=fun _=>True) g _ (⟨J.pub,RLs.sub rIt ay (fun _ _=>trivial),RLs.sub rVr az (fun _ _=>trivial)⟩:RFo (fun _=>True) _ _ _ g) (⟨J.pub,RLs.sub rIt G (fun _ _=>trivial),RLs.sub rVr al (fun _ _=>trivial)⟩:RFo (fun _=>True) _ _ _ g)) fun J G M _ M=>?_
   have ah:=av.ext G
   have ak:=aw.ext G
   have al:=ax.ext G
   refine ⟨fun _ _=>⟨eX,ah,ak,al⟩,?_⟩
   refine M.ym 3 rfl<|Yg 4 (vi D) rfl<|Yg 5 (vi D) rfl<|Yg 6 (vd ((D:Int)=(D:Int))) rfl<|Yv 7 (vd ((D:Int)=(D:Int))) rfl<|Ym 8 rfl fun _ M=>have am:Ext I J∧Blk J ai 48 (dg g.pub [(vi g.many),(vi g.no),(vl Y g.items.length ac),(vl Z g.early.length ae)])∧Blk J aj 48 (dg g.pub [(vi g.many),(vi g.no),(vl U g.items.length aa),(vl V g.early.length ab)])∧Blk J g2 48 (dg f.pub [(vi f.many),(vi f.no),(vl FA f.items.length fa),(vl FE f.early.length fe)]):=⟨eX,ah,ak,al⟩;qs 9 (ag (dg f.pub [(vi f.many),(vi f.no),(vl FA f.items.length fa),(vl FE f.early.length fe)])) M rfl (wanted_guard rfl rfl rfl M rfl ((decide_eq_true rfl):decide ((D:Int)=(D:Int))=true) rfl) am (fun W hW=>(rb M rfl hW.2.2.2 (hk:=len_dig hfc.pub))) fun _ J=>?_
   refine qs 11 (ag (dg f.pub [(vi f.many),(vi f.no),(vl FA f.items.length fa),(vl FE f.early.length fe)])) J rfl (wanted_guard rfl rfl rfl J rfl ((decide_eq_true rfl):decide ((D:Int)=(D:Int))=true) rfl) am (fun W hW=>(rb J rfl hW.2.2.2 (hk:=len_dig hfc.pub))) fun _ J=>?_
   refine ao 10 rfl<|have M:=(RLs.ux rIt hfc.items G);have am:=(RLs.ux rVr hfc.early G);o_callE J rfl (wanted_guard rfl rfl rfl J rfl ((decide_eq_true rfl):decide ((D:Int)=(D:Int))=true) rfl) rfl rfl (rn_call (args1 (J.get rfl)) rfl (by kernel_rfl)) (fcheck_at f _ (⟨hfc.pub,RLs.sub rIt M (fun _ _=>trivial),RLs.sub rVr am (fun _ _=>trivial)⟩:RFo (fun _=>True) _ _ _ f) hdi hde (hG.ext eX)) fun G G J _ J=>?_
   have am:=ah.ext G
   have aq:=ak.ext G
   have ar:=al.ext G
   refine ⟨fun _ _=>⟨eX,am,aq,ar⟩,?_⟩
   refine ao 12 rfl<|have M:=(RLs.ux rIt hfc.items G);have ah:=(RLs.ux rVr hfc.early G);o_callE J rfl (wanted_guard rfl rfl rfl J rfl ((decide_eq_true rfl):decide ((D:Int)=(D:Int))=true) rfl) rfl rfl (rn_call (args1 (J.get rfl)) rfl (by kernel_rfl)) (rfcheck_at f _ (⟨hfc.pub,RLs.sub rIt M (fun _ _=>trivial),RLs.sub rVr ah (fun _ _=>trivial)⟩:RFo (fun _=>True) _ _ _ f) hdi hde) fun M G J _ J=>?_
   have ah:=am.ext G
   have ak:=aq.ext G
   have al:=ar.ext G
   refine ⟨fun _ _=>⟨eX,ah,ak,al⟩,?_⟩
   refine qp 13 (vd (((checkFE f):Int)=((checkFE f):Int))) J rfl (wanted_guard rfl rfl rfl J rfl ((decide_eq_true rfl):decide ((D:Int)=(D:Int))=true) rfl) (fun W=>(rn_eql (J.get rfl) (J.get rfl))) fun _ J=>?_
   refine J.yw 14 (vd (((checkFE f):Int)=((checkFE f):Int))) rfl (fun F W=>rn_pickT (c_true F rfl ((decide_eq_true rfl):decide ((D:Int)=(D:Int))=true)) (F.get rfl))<|Ym 15 rfl fun _ D=>have J:Ext I M∧Blk M ai 48 (dg g.pub [(vi g.many),(vi g.no),(vl Y g.items.length ac),(vl Z g.early.length ae)])∧Blk M aj 48 (dg g.pub [(vi g.many),(vi g.no),(vl U g.items.length aa),(vl V g.early.length ab)])∧Blk M g2 48 (dg f.pub [(vi f.many),(vi f.no),(vl FA f.items.length fa),(vl FE f.early.length fe)]):=⟨eX,ah,ak,al⟩;qs 16 (ag (dg f.pub [(vi f.many),(vi f.no),(vl FA f.items.length fa),(vl FE f.early.length fe)])) D rfl (wanted_guard rfl rfl rfl D rfl ((decide_eq_true rfl):decide (((checkFE f):Int)=((checkFE f):Int))=true) rfl) J (fun W hW=>(rb D rfl hW.2.2.2 (hk:=len_dig hfc.pub))) fun _ D=>?_
   refine qs 18 (ag (dg f.pub [(vi f.many),(vi f.no),(vl FA f.items.length fa),(vl FE f.early.length fe)])) D rfl (wanted_guard rfl rfl rfl D rfl ((decide_eq_true rfl):decide (((checkFE f):Int)=((checkFE f):Int))=true) rfl) J (fun W hW=>(rb D rfl hW.2.2.2 (hk:=len_dig hfc.pub))) fun _ D=>?_
   refine ao 17 rfl<|have I:=(RLs.ux rIt hfc.items G);have J:=(RLs.ux rVr hfc.early G);o_callE D rfl (wanted_guard rfl rfl rfl D rfl ((decide_eq_true rfl):decide (((checkFE f):Int)=((checkFE f):Int))=true) rfl) rfl rfl (rn_call (args1 (D.get rfl)) rfl (by kernel_rfl)) (wants_free f _ (⟨hfc.pub,RLs.sub rIt I (fun _ _=>trivial),RLs.sub rVr J (fun _ _=>trivial)⟩:RFo (fun _=>True) _ _ _ f)) fun D D G _ G=>?_
   have I:=ah.ext D
   have J:=ak.ext D
   have M:=al.ext D
   refine ⟨fun _ _=>⟨eX,I,J,M⟩,?_⟩
   refine ao 19 rfl<|have U:=(RLs.ux rIt hfc.items D);have V:=(RLs.ux rVr hfc.early D);o_callE G rfl (wanted_guard rfl rfl rfl G rfl ((decide_eq_true rfl):decide (((checkFE f):Int)=((checkFE f):Int))=true) rfl) rfl rfl (rn_call (args1 (G.get rfl)) rfl (by kernel_rfl)) (rwants_free f _ (⟨hfc.pub,RLs.sub rIt U (fun _ _=>trivial),RLs.sub rVr V (fun _ _=>trivial)⟩:RFo (fun _=>True) _ _ _ f)) fun D G D _ D=>?_
   have U:=I.ext G
   have I:=J.ext G
   have J:=M.ext G
   refine ⟨fun _ _=>⟨eX,U,I,J⟩,?_⟩
   refine qp 20 (vd (((wrapI (f.no+1)):Int)=((wrapI (f.no+1)):Int))) D rfl (wanted_guard rfl rfl rfl D rfl ((decide_eq_true rfl):decide (((checkFE f):Int)=((checkFE f):Int))=true) rfl) (fun W=>(rn_eql (D.get rfl) (D.get rfl))) fun _ D=>?_
   exact D.yw 21 (vd (((wrapI (f.no+1)):Int)=((wrapI (f.no+1)):Int))) rfl (fun F W=>rn_pickT (c_true F rfl ((decide_eq_true rfl):decide (((checkFE f):Int)=((checkFE f):Int))=true)) (F.get rfl))<|Yv 22 (vd (((wrapI (f.no+1)):Int)=((wrapI (f.no+1)):Int))) rfl fun _ D=>nK aB<|have G:=D.k [0,1,2,3,4,10,18,5,6,7,8];wp_ret<|ret1 G rfl rfl<|⟨congrArg (fun b=>Ending.returned (.bool b)) ((decide_eq_true rfl):decide (((wrapI (f.no+1)):Int)=((wrapI (f.no+1)):Int))=true),eX⟩
  exact J.ct<|wr fun D G=>J.xv (.bool true) fun _ D=>wn G<|wp_ret<|ret_then<|ret1 D rfl rfl<|⟨rfl,eX⟩
 exact ak.xu<|Xu<|Xu<|Xv (.bool true) fun _ G=>wn ay<|have D:=G.k [0,1,2,3,4,10,18];D.ct<|wr fun G G=>D.xv (.bool true) fun _ D=>wn G<|wp_ret<|ret_then<|ret1 D rfl rfl<|⟨rfl,eX⟩
end Go.Proofs.YtihgmaoghbnnaaaGreatDoor
