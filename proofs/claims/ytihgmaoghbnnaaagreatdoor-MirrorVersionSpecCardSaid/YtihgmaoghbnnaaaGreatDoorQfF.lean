/- Several texts in one: MrH, MrI, MrJ, NrB, Wk17, NrC, MrK, NrH, MrL, MrM, SealM, NrI. -/
import Derived.Test.YtihgmaoghbnnaaaGreatDoorProg
import Derived.Test.YtihgmaoghbnnaaaGreatDoorQfE
import Derived.KernelRfl
import Derived.Test.YtihgmaoghbnnaaaGreatDoorQfA
import Derived.Test.YtihgmaoghbnnaaaGreatDoorQfB
import Derived.Lib.AppendStr
import Derived.Test.YtihgmaoghbnnaaaGreatDoorQfD
set_option linter.unusedVariables false
set_option linter.unusedSimpArgs false
set_option maxRecDepth 100000
set_option maxHeartbeats 1000000
namespace Go.Proofs.YtihgmaoghbnnaaaGreatDoor
open Go.RowKit
variable {x:Cg} {l:List Cg} {N base k m n n1 n2 n3 p q:Nat} {S S' S1 S2 S3:Nat→Prop} {t tx:TypeId} {c e o u u1 u2 u3 v:Value} {W W':World}
theorem El26:El Tryz.prog 26 61 (.agg #[(strOf ([])),v0]) 2 40:=⟨uu26,by kernel_rfl,rfl,by decide⟩
theorem El27:El Tryz.prog 27 66 (.agg #[(strOf ([])),v0,(.bool false)]) 3 48:=⟨uu27,by kernel_rfl,rfl,by decide⟩
theorem beq_any (A B:Option Addr) (c e:Nat) (a b:List UInt8) (w:World) (ha:Fl S w 1 (vl A a.length c) a.length (byteVals a)) (hb:Fl S w 1 (vl B b.length e) b.length (byteVals b)) :
  Calls Tryz.prog 58 #[.slice A a.length c,.slice B b.length e] w (fun e w'=>e=.returned (.bool (decide (a=b)))∧Ext w w'):=by
 have hca:Fl (Clip S w) w 1 (vl A a.length c) a.length (byteVals a):=ha.clip
 have hcac:=(Fl.cel hca).2.1
 have hcb:Fl (Clip S w) w 1 (vl B b.length e) b.length (byteVals b):=hb.clip
 have hcbc:=(Fl.cel hcb).2.1
 exact calls_enter Tryz.func58 rfl rfl rfl fun _ C=>wr fun D D=>C.xv (.bool false) fun _ C=>wn D<|wr fun D D=>C.xm rfl<|Xw (strOf a) (fun F=>rn_str (F.get rfl) (Fl.rbs hca) uu22 uu5 uu9)<|Xm rfl<|Xw (strOf b) (fun F=>rn_str (F.get rfl) (Fl.rbs hcb) uu22 uu5 uu9)<|Xw (vd (a=b)) (fun F=>rn_eqs (F.get rfl) (F.get rfl) rfl)<|Xa rfl fun _ C=>wn D<|have D:=C.k [0,1,4];wp_ret<|ret1 D rfl rfl<|⟨rfl,(Ext.refl w)⟩
theorem beq_at (a b:List UInt8) (w:World) (ha:Fl S w 1 v n (byteVals a)) (hb:Fl S' w 1 u m (byteVals b)) :
  Calls Tryz.prog 58 #[v,u] w (fun e w'=>e=.returned (.bool (decide (a=b)))∧Ext w w'):=by
 have h1:=ha.blen
 have h2:=hb.blen
 subst h1 h2
 obtain ⟨A,c,rfl,_⟩:=ha.form
 obtain ⟨B,e,rfl,_⟩:=hb.form
 exact beq_any (S:=fun _=>True) A B c e a b w (ha.sub fun _ _=>trivial) (hb.sub fun _ _=>trivial)
theorem diff1_any (p base:Nat) (A0:Option Addr) (n0 c0:Nat) (xs:List Value) (acc:List Cg) (A:Option Addr) (c:Nat) (x:List It) (B:Option Addr) (d:Nat) (y:List It) (w:World) (hp:Blk w p 27 [.slice A0 n0 c0]) (hO:OwnL RCg 3 66 base w (vl A0 n0 c0) n0 xs acc) (hpb:p<base) (hbs:base≤w.heap.size) (hn:n0≤1000000) (hx:RLs RIt 2 S w (vl A x.length c) x) (hy:RLs RIt 2 S w (vl B y.length d) y) (hne:0<x.length∨0<y.length) (hdx:∀ z∈x,z.data.length≤4294967296) (hdy:∀ z∈y,z.data.length≤4294967296) :
  Calls Tryz.prog 57 #[.slice A x.length c,.slice B y.length d,.pointer (some ⟨p,0,none⟩)] w (fun e w'=>e=.returned (.tuple #[])∧(∃ A n c xs,Blk w' p 27 [.slice A n c]∧OwnL RCg 3 66 base w' (vl A n c) n xs (acc++dstep (x.head?,y.head?)))∧FarX (fun b=>b<base∧b≠p) w w'):=by
 obtain ⟨-,hxc,hxd⟩:=RLs.at hx;obtain ⟨-,hyc,hyd⟩:=RLs.at hy;have hpl:=hp.lt
 refine calls_enter Tryz.func57 rfl rfl rfl fun _ hF=>wp_block<|wr fun K1 aR=>hF.xm rfl<|Xv (vi y.length)<|Xv (vd ((y.length:Int)=(0:Int)))<|Xa rfl fun _ Y=>wn aR ?_
 by_cases aR:(y.length:Int)=(0:Int)
 ·refine Y.ct<|sX (fun D W=>Ext D W∧Blk W p 27 [(vl A0 n0 c0)]) (fun i=>i==8||i==9) 10 fun D J ah=>have O:=(hp.ext J);have V:Ext D D∧Blk D p 27 [(vl A0 n0 c0)]:=⟨(Ext.refl D),O⟩;Y.ys 0 (vl A0 n0 c0) rfl V (fun F W hW=>rl F rfl (hW.2.rule.1 0))<|Ym 1 rfl fun _ ab=>?_
  have ah:=RLs.ux rIt hx J
  obtain ⟨U,aa,C,am,ai,Z,am,aj,al⟩:=RLs.get ah (by omega:0<x.length)
  obtain ⟨ah,ah,rfl,ak⟩:=al
  have ah:=(Fl.cel ak).2.1
  have ah:=hdx C (List.mem_of_getElem? Z)
  refine ab.yw 2 (vq U (aa+0*2)) rfl (fun F W=>rn_indexE uu26 inf61 ((F.get rfl).trans (by rw [ai])) rfl (by omega:(0:Int)≤0) (by omega:(0:Int)<(x.length:Int)) (by omega))<|Yv 3 (vq U (aa+0*2)) rfl fun _ G=>anyt_val (i:=4) (v:=(strOf C.name)) [5,6,7,8,9] G (fun j hj=>by simp at hj;first | (subst hj;decide) | (rcases hj with rfl | rfl <;> decide)) (by decide +kernel) (by decide +kernel) rfl rfl rfl rfl (fun _ _ _ _ h=>h) rfl V (fun W hW=>(rl G rfl ((fun j u hu=>Ext.keep ((Ext.refl D).trans hW.1) (aj j u hu)) 0 _ rfl))) fun ah ac=>ac.yw 5 (.agg #[(strOf C.name),v0]) rfl (fun F W=>rn_build (parts1 (F.get rfl)) (by kernel_rfl))<|Yw 6 (.agg #[(strOf C.name),v0,(.bool true)]) rfl (fun F W=>rn_build (parts2 (F.get rfl) rfl) (by kernel_rfl)) fun _ ae=>ao 7 rfl<|ae.on (fun g=>(vl (some ⟨g,0,none⟩) 1 1)) [(strOf C.name),v0,(.bool true)] 66 rfl (fun F=>rn_buildSlice (parts1 (F.get rfl)) (by kernel_rfl)) fun ah ah _ I ah ah ag M=>?_
  have U:=O.ext M
  refine ⟨fun _ _=>⟨eX,U⟩,?_⟩
  refine ao 8 rfl<|have G:=OwnL.pres rCg hO (((Pres.refl w).ext J).ext M);o_appB (zs:=xs++[(strOf C.name),v0,(.bool true)]) El27 I rfl rfl rfl rfl rfl (I.get rfl) (I.get rfl) G.1 (Fl.cel (Fl.blk (S:=fun _=>True) (k:=3) (n:=1) (c:=1) (cs:=[(strOf C.name),v0,(.bool true)]) ag rfl (one_cons rfl (one_cons rfl (one_cons rfl one_nil))) ⟨Nat.le_refl _,by omega⟩ trivial)).2.2 (by omega) (by omega) (by omega) rfl fun O V ac D D ab I Y Y aa=>?_;have Y:=I.size
  have Y:=OwnL.snoc (x:=(⟨C.name,[],true⟩:Cg)) rCg G ab I aa rfl (one_cons rfl (one_cons rfl (one_cons rfl one_nil))) ⟨_,_,rfl,(Fl.nil _)⟩ (fun b _ (h:False)=>h.elim)
  refine ⟨fun h=>absurd h (by decide),?_⟩
  refine ao 9 rfl<|have C:=(grown_blk G.1 I U (by decide));o_store1 (new:=[(vl O (n0+1) V)]) D rfl rfl rfl rfl (D.get rfl) (D.get rfl) C inf27 (by simp) rfl rfl fun C O C=>?_;have U:=C.size
  refine ⟨fun h=>absurd h (by decide),?_⟩
  exact nN<|blk_normal<|ret0 D rfl<|have D:=OwnL.pres rCg Y ((Pres.refl ac).gn C);⟨rfl,⟨_,_,_,_,O,by rw [dstep_x (y:=y) Z (by omega)];exact D⟩,(((((FarX.refl w).ext J).ext M).row I G.1 (fun b hb h=>by have h6:=h.1;omega)).gc C)⟩
 refine Y.cf<|wp_seq_k fun aR az=>sX (fun J W=>Ext J W) (fun i=>false) 16 fun J I aR=>Y.ym 0 rfl<|Yv 1 (vi x.length) rfl<|Yv 2 (vd ((x.length:Int)=(0:Int))) rfl<|Ym 3 rfl fun _ am=>?_
 by_cases aR:(x.length:Int)=(0:Int)
 ·refine am.yu 4 rfl<|Yu 5 rfl<|Yu 6 rfl<|Yu 7 rfl<|Yu 8 rfl<|Yu 9 rfl<|Yu 10 rfl<|Yu 11 rfl fun _ Y=>ao 12 rfl<|o_skip Y rfl (unwanted_guard rfl rfl rfl Y rfl (decide_eq_true aR) rfl) rfl rfl fun Y Y=>?_
  refine ⟨fun _ _=>(Ext.refl J),?_⟩
  refine Y.yu 13 rfl<|Yv 14 (.bool true) rfl<|Yv 15 (.bool true) rfl fun _ au=>nK az<|have Y:=au.k [0,1,2,5,18];Y.ct<|sX (fun D W=>Ext D W∧Blk W p 27 [(vl A0 n0 c0)]) (fun i=>i==13||i==14) 15 fun D U au=>have ag:=hp.ux U;have aa:Ext D D∧Blk D p 27 [(vl A0 n0 c0)]:=⟨(Ext.refl D),ag⟩;Y.ys 0 (vl A0 n0 c0) rfl aa (fun F W hW=>rl F rfl (hW.2.rule.1 0))<|Ym 1 rfl fun _ av=>?_
  have Y:=RLs.ux rIt hy U
  obtain ⟨O,Z,C,au,ai,aq,au,aj,ay⟩:=RLs.get Y (by omega:0<y.length)
  obtain ⟨ab,ah,rfl,ak⟩:=ay
  have Y:=(Fl.cel ak).2.1
  have Y:=hdy C (List.mem_of_getElem? aq)
  refine av.yw 2 (vq O (Z+0*2)) rfl (fun F W=>rn_indexE uu26 inf61 ((F.get rfl).trans (by rw [ai])) rfl (by omega:(0:Int)≤0) (by omega:(0:Int)<(y.length:Int)) (by omega))<|Yv 3 (vq O (Z+0*2)) rfl fun _ ac=>anyt_val (i:=4) (v:=(strOf C.name)) [10,11,12,13,14] ac (fun j hj=>by simp at hj;first | (subst hj;decide) | (rcases hj with rfl | rfl <;> decide)) (by decide +kernel) (by decide +kernel) rfl rfl rfl rfl (fun _ _ _ _ h=>h) rfl aa (fun W hW=>(rl ac rfl ((fun j u hu=>Ext.keep ((Ext.refl D).trans hW.1) (aj j u hu)) 0 _ rfl))) fun Y aw=>aw.ym 5 rfl<|Yw 6 (vq O (Z+0*2)) rfl (fun F W=>rn_indexE uu26 inf61 ((F.get rfl).trans (by rw [ai])) rfl (by omega:(0:Int)≤0) (by omega:(0:Int)<(y.length:Int)) (by omega))<|Yv 7 (vq O (Z+0*2+1)) rfl fun _ ae=>anyt_val (i:=8) (v:=(vl ab C.data.length ah)) [9,10,11,12,13,14] ae (fun j hj=>by simp at hj;first | (subst hj;decide) | (rcases hj with rfl | rfl <;> decide)) (by decide +kernel) (by decide +kernel) rfl rfl rfl rfl (fun _ _ _ _ h=>h) rfl aa (fun W hW=>(rl ae rfl ((fun j u hu=>Ext.keep ((Ext.refl D).trans hW.1) (aj j u hu)) 1 _ rfl))) fun Y ax=>ao 9 rfl<|ax.oC (c:=bclone_at (v:=(vl ab C.data.length ah)) (n:=C.data.length) C.data _ ak (by omega)) (k:= ?_)
  rintro _ ar ⟨G,M,rfl,al,V⟩
  have J:=(Fl.cel al).2.1
  refine ⟨_,rfl,?_⟩;intro J O;have J:=V.size
  have ab:Fl (Clip (fun b=>D.heap.size≤b) ar) ar 1 (vl G C.data.length M) C.data.length (byteVals C.data):=al.clip
  have J:=ag.ext V
  refine ⟨fun _ _=>⟨eX,J⟩,?_⟩
  refine O.yw 10 (.agg #[(strOf C.name),(vl G C.data.length M)]) rfl (fun F W=>rn_build (parts2 (F.get rfl) (F.get rfl)) (by kernel_rfl))<|Yw 11 (.agg #[(strOf C.name),(vl G C.data.length M),(.bool false)]) rfl (fun F W=>rn_build (parts1 (F.get rfl)) (by kernel_rfl)) fun _ D=>ao 12 rfl<|D.on (fun g=>(vl (some ⟨g,0,none⟩) 1 1)) [(strOf C.name),(vl G C.data.length M),(.bool false)] 66 rfl (fun F=>rn_buildSlice (parts1 (F.get rfl)) (by kernel_rfl)) fun D D _ D O O Z O=>?_
  have Y:=J.ext O
  refine ⟨fun _ _=>⟨eX,Y⟩,?_⟩
  refine ao 13 rfl<|have J:=OwnL.pres rCg hO (((((Pres.refl w).ext I).ext U).ext V).ext O);have aa:=(ab.ext O);o_appB (zs:=xs++[(strOf C.name),(vl G C.data.length M),(.bool false)]) El27 D rfl rfl rfl rfl rfl (D.get rfl) (D.get rfl) J.1 (Fl.cel (Fl.blk (S:=fun _=>True) (k:=3) (n:=1) (c:=1) (cs:=[(strOf C.name),(vl G C.data.length M),(.bool false)]) Z rfl (one_cons rfl (one_cons rfl (one_cons rfl one_nil))) ⟨Nat.le_refl _,by omega⟩ trivial)).2.2 (by omega) (by omega) (by omega) rfl fun M Z ag D D ae G ab ab ac=>?_;have ab:=G.size
  have ab:=OwnL.snoc (x:=(⟨C.name,C.data,false⟩:Cg)) rCg J ae G ac rfl (one_cons rfl (one_cons rfl (one_cons rfl one_nil))) ⟨_,_,rfl,aa⟩ (fun b _ hb=>⟨by simp only [Clip] at hb;omega,fun C=>by have h5:=own_blk_lt hO.1 b C;simp only [Clip] at hb;omega⟩)
  refine ⟨fun h=>absurd h (by decide),?_⟩
  refine ao 14 rfl<|have C:=(grown_blk J.1 G Y (by decide));o_store1 (new:=[(vl M (n0+1) Z)]) D rfl rfl rfl rfl (D.get rfl) (D.get rfl) C inf27 (by simp) rfl rfl fun C M C=>?_;have Y:=C.size
  refine ⟨fun h=>absurd h (by decide),?_⟩
  exact nN<|blk_normal<|ret0 D rfl<|have D:=OwnL.pres rCg ab ((Pres.refl ag).gn C);⟨rfl,⟨_,_,_,_,M,by rw [dstep_y (x:=x) aq (by omega)];exact D⟩,(((((((FarX.refl w).ext I).ext U).ext V).ext O).row G J.1 (fun b hb h=>by have h6:=h.1;omega)).gc C)⟩
 refine am.yg 4 (vl A x.length c) rfl<|fun _ aK=>?_
 have Y:=RLs.ux rIt hx I
 obtain ⟨aq,aH,G,am,aP,ag,am,aS,aV⟩:=RLs.get Y (by omega:0<x.length)
 obtain ⟨ah,av,rfl,aD⟩:=aV
 have Y:=(Fl.cel aD).2.1
 have Y:=hdx G (List.mem_of_getElem? ag)
 refine aK.ygw 5 (vq aq (aH+0*2)) rfl (fun F W=>rn_indexE uu26 inf61 ((F.get rfl).trans (by rw [aP])) rfl (by omega:(0:Int)≤0) (by omega:(0:Int)<(x.length:Int)) (by omega))<|Yg 6 (vq aq (aH+0*2+1)) rfl fun _ Y=>have aA:Ex J J:=Ext.refl J;Y.ysg 7 (vl ah G.data.length av) rfl aA (fun F W hW=>rl F rfl ((fun j u hu=>Ext.keep ((Ext.refl J).trans hW) (aS j u hu)) 1 _ rfl))<|Yg 8 (vl B y.length d) rfl fun _ aL=>?_
 have Y:=RLs.ext rIt hy I
 obtain ⟨ar,aI,C,am,aQ,U,am,aT,aW⟩:=RLs.get Y (by omega:0<y.length)
 obtain ⟨ai,aw,rfl,aE⟩:=aW
 have Y:=(Fl.cel aE).2.1
 have Y:=hdy C (List.mem_of_getElem? U)
 refine aL.ygw 9 (vq ar (aI+0*2)) rfl (fun F W=>rn_indexE uu26 inf61 ((F.get rfl).trans (by rw [aQ])) rfl (by omega:(0:Int)≤0) (by omega:(0:Int)<(y.length:Int)) (by omega))<|Yg 10 (vq ar (aI+0*2+1)) rfl<|Ysg 11 (vl ai C.data.length aw) rfl aA (fun F W hW=>rl F rfl ((fun j u hu=>Ext.keep ((Ext.refl J).trans hW) (aT j u hu)) 1 _ rfl)) fun _ J=>ao 12 rfl<|J.gE (c:=beq_at (v:=(vl ah G.data.length av)) (u:=(vl ai C.data.length aw)) (n:=G.data.length) (m:=C.data.length) G.data C.data _ aD aE) (k:=fun J V J _ J=>?_)
 refine ⟨fun _ _=>eX,?_⟩
 refine J.ygw 13 (.bool (!(decide (G.data=C.data)))) rfl (fun F W=>rn_not' (F.get rfl) rfl)<|Yv 14 (.bool (!(decide (G.data=C.data)))) rfl<|Yv 15 (.bool (!(decide (G.data=C.data)))) rfl fun _ Y=>nK az ?_
 have J:=Y.k [0,1,2,5,18]
 by_cases aB:G.data=C.data
 ·exact J.cf<|wp_skip<|blk_normal<|ret0 J rfl<|have D:=OwnL.pres rCg hO (((Pres.refl w).ext I).ext V);have C:=hp.ux V;⟨rfl,⟨_,_,_,_,C,by rw [dstep_eq ag U aB,List.append_nil];exact D⟩,(((FarX.refl w).ext I).ext V)⟩
 refine J.ct<|sX (fun D W=>Ext D W∧Blk W p 27 [(vl A0 n0 c0)]) (fun i=>i==13||i==14) 15 fun D aa G=>have au:=hp.ux aa;have ae:Ext D D∧Blk D p 27 [(vl A0 n0 c0)]:=⟨(Ext.refl D),au⟩;J.ys 0 (vl A0 n0 c0) rfl ae (fun F W hW=>rl F rfl (hW.2.rule.1 0))<|Ym 1 rfl fun _ aM=>?_
 have G:=RLs.ux rIt hy aa
 obtain ⟨Z,ac,aY,J,ay,aU,J,aC,aX⟩:=RLs.get G (by omega:0<y.length)
 obtain rfl:C=aY:=Option.some.inj (U.symm.trans aU)
 obtain ⟨aj,ax,rfl,aF⟩:=aX
 have G:=(Fl.cel aF).2.1
 have G:=hdy C (List.mem_of_getElem? U)
 refine aM.yw 2 (vq Z (ac+0*2)) rfl (fun F W=>rn_indexE uu26 inf61 ((F.get rfl).trans (by rw [ay])) rfl (by omega:(0:Int)≤0) (by omega:(0:Int)<(y.length:Int)) (by omega))<|Yv 3 (vq Z (ac+0*2)) rfl fun _ ak=>anyt_val (i:=4) (v:=(strOf C.name)) [10,11,12,13,14] ak (fun j hj=>by simp at hj;first | (subst hj;decide) | (rcases hj with rfl | rfl <;> decide)) (by decide +kernel) (by decide +kernel) rfl rfl rfl rfl (fun _ _ _ _ h=>h) rfl ae (fun W hW=>(rl ak rfl ((fun j u hu=>Ext.keep ((Ext.refl D).trans hW.1) (aC j u hu)) 0 _ rfl))) fun G aN=>aN.ym 5 rfl<|Yw 6 (vq Z (ac+0*2)) rfl (fun F W=>rn_indexE uu26 inf61 ((F.get rfl).trans (by rw [ay])) rfl (by omega:(0:Int)≤0) (by omega:(0:Int)<(y.length:Int)) (by omega))<|Yv 7 (vq Z (ac+0*2+1)) rfl fun _ al=>anyt_val (i:=8) (v:=(vl aj C.data.length ax)) [9,10,11,12,13,14] al (fun j hj=>by simp at hj;first | (subst hj;decide) | (rcases hj with rfl | rfl <;> decide)) (by decide +kernel) (by decide +kernel) rfl rfl rfl rfl (fun _ _ _ _ h=>h) rfl ae (fun W hW=>(rl al rfl ((fun j u hu=>Ext.keep ((Ext.refl D).trans hW.1) (aC j u hu)) 1 _ rfl))) fun G aO=>ao 9 rfl<|aO.oC (c:=bclone_at (v:=(vl aj C.data.length ax)) (n:=C.data.length) C.data _ aF (by omega)) (k:= ?_)
 rintro _ aJ ⟨M,O,rfl,aG,ab⟩
 have G:=(Fl.cel aG).2.1
 refine ⟨_,rfl,?_⟩;intro G J;have G:=ab.size
 have ae:Fl (Clip (fun b=>D.heap.size≤b) aJ) aJ 1 (vl M C.data.length O) C.data.length (byteVals C.data):=aG.clip
 have G:=au.ext ab
 refine ⟨fun _ _=>⟨eX,G⟩,?_⟩
 refine J.yw 10 (.agg #[(strOf C.name),(vl M C.data.length O)]) rfl (fun F W=>rn_build (parts2 (F.get rfl) (F.get rfl)) (by kernel_rfl))<|Yw 11 (.agg #[(strOf C.name),(vl M C.data.length O),(.bool false)]) rfl (fun F W=>rn_build (parts1 (F.get rfl)) (by kernel_rfl)) fun _ D=>ao 12 rfl<|D.on (fun g=>(vl (some ⟨g,0,none⟩) 1 1)) [(strOf C.name),(vl M C.data.length O),(.bool false)] 66 rfl (fun F=>rn_buildSlice (parts1 (F.get rfl)) (by kernel_rfl)) fun D D _ D J J J Y=>?_
 have Z:=G.ext Y
 refine ⟨fun _ _=>⟨eX,Z⟩,?_⟩
 refine ao 13 rfl<|have G:=OwnL.pres rCg hO ((((((Pres.refl w).ext I).ext V).ext aa).ext ab).ext Y);have ac:=(ae.ext Y);o_appB (zs:=xs++[(strOf C.name),(vl M C.data.length O),(.bool false)]) El27 D rfl rfl rfl rfl rfl (D.get rfl) (D.get rfl) G.1 (Fl.cel (Fl.blk (S:=fun _=>True) (k:=3) (n:=1) (c:=1) (cs:=[(strOf C.name),(vl M C.data.length O),(.bool false)]) J rfl (one_cons rfl (one_cons rfl (one_cons rfl one_nil))) ⟨Nat.le_refl _,by omega⟩ trivial)).2.2 (by omega) (by omega) (by omega) rfl fun M O aj D D ai J ae ae ah=>?_;have ae:=J.size
 have ae:=OwnL.snoc (x:=(⟨C.name,C.data,false⟩:Cg)) rCg G ai J ah rfl (one_cons rfl (one_cons rfl (one_cons rfl one_nil))) ⟨_,_,rfl,ac⟩ (fun b _ hb=>⟨by simp only [Clip] at hb;omega,fun C=>by have h5:=own_blk_lt hO.1 b C;simp only [Clip] at hb;omega⟩)
 refine ⟨fun h=>absurd h (by decide),?_⟩
 refine ao 14 rfl<|have C:=(grown_blk G.1 J Z (by decide));o_store1 (new:=[(vl M (n0+1) O)]) D rfl rfl rfl rfl (D.get rfl) (D.get rfl) C inf27 (by simp) rfl rfl fun C M C=>?_;have O:=C.size
 refine ⟨fun h=>absurd h (by decide),?_⟩
 exact nN<|blk_normal<|ret0 D rfl<|have D:=OwnL.pres rCg ae ((Pres.refl aj).gn C);⟨rfl,⟨_,_,_,_,M,by rw [dstep_ne ag U aB];exact D⟩,((((((((FarX.refl w).ext I).ext V).ext aa).ext ab).ext Y).row J G.1 (fun b hb h=>by have h6:=h.1;omega)).gc C)⟩
theorem apply2_any (q:Nat) (fn:Bool) (p base:Nat) (A0:Option Addr) (n0 c0:Nat) (xs:List Value) (acc:List It) (A:Option Addr) (c:Nat) (x:List It) (B:Option Addr) (d:Nat) (y:List Cg) (w:World) (hp:Blk w p 26 [.slice A0 n0 c0]) (hq:Blk w q 4 [.bool fn]) (hqb:q<base) (hpq:p≠q) (hO:OwnL RIt 2 61 base w (vl A0 n0 c0) n0 xs acc) (hpb:p<base) (hbs:base≤w.heap.size) (hn:n0≤1000000) (hx:RLs RIt 2 S w (vl A x.length c) x) (hy:RLs RCg 3 S w (vl B y.length d) y) (hne:0<x.length∨0<y.length) (hdx:∀ z∈x,z.data.length≤4294967296) (hdy:∀ z∈y,z.data.length≤4294967296) :
  Calls Tryz.prog 114 #[.slice A x.length c,.slice B y.length d,.pointer (some ⟨p,0,none⟩),.pointer (some ⟨q,0,none⟩)] w (fun e w'=>e=.returned (.tuple #[])∧(∃ A n c xs,Blk w' p 26 [.slice A n c]∧Blk w' q 4 [.bool (fn&&aok (x.head?,y.head?))]∧OwnL RIt 2 61 base w' (vl A n c) n xs (acc++astepX (x.head?,y.head?)))∧FarX (fun b=>b<base∧b≠p∧b≠q) w w'):=by
 obtain ⟨-,hxc,hxd⟩:=RLs.at hx;obtain ⟨-,hyc,hyd⟩:=RLs.at hy;have hpl:=hp.lt
 have hql:=hq.lt
 refine calls_enter Tryz.func114 rfl rfl rfl fun _ hF=>wp_block<|wr fun K1 aV=>hF.xm rfl<|Xv (vi y.length)<|Xv (.bool (decide ((y.length:Int)=(0:Int))))<|Xa rfl fun _ F9=>wn aV ?_
 by_cases aV:(y.length:Int)=(0:Int)
 ·refine F9.ct<|sX (fun D W=>Ext D W∧Blk W p 26 [(vl A0 n0 c0)]) (fun i=>i==12||i==13) 14 fun D J ar=>have ab:=(hp.ext J);have V:Ext D D∧Blk D p 26 [(vl A0 n0 c0)]:=⟨(Ext.refl D),ab⟩;F9.ys 0 (vl A0 n0 c0) rfl V (fun F W hW=>rl F rfl (hW.2.rule.1 0))<|Ym 1 rfl fun _ al=>?_
  have ar:=RLs.ux rIt hx J
  obtain ⟨O,U,C,av,ae,aj,av,ag,au⟩:=RLs.get ar (by omega:0<x.length)
  obtain ⟨Y,ac,rfl,ah⟩:=au
  have ar:=(Fl.cel ah).2.1
  have ar:=hdx C (List.mem_of_getElem? aj)
  refine al.yw 2 (vq O (U+0*2)) rfl (fun F W=>rn_indexE uu26 inf61 ((F.get rfl).trans (by rw [ae])) rfl (by omega:(0:Int)≤0) (by omega:(0:Int)<(x.length:Int)) (by omega))<|Yv 3 (vq O (U+0*2)) rfl fun _ Z=>anyt_val (i:=4) (v:=(strOf C.name)) [10,11,12,13] Z (fun j hj=>by simp at hj;first | (subst hj;decide) | (rcases hj with rfl | rfl <;> decide)) (by decide +kernel) (by decide +kernel) rfl rfl rfl rfl (fun _ _ _ _ h=>h) rfl V (fun W hW=>(rl Z rfl ((fun j u hu=>Ext.keep ((Ext.refl D).trans hW.1) (ag j u hu)) 0 _ rfl))) fun ar am=>am.ym 5 rfl<|Yw 6 (vq O (U+0*2)) rfl (fun F W=>rn_indexE uu26 inf61 ((F.get rfl).trans (by rw [ae])) rfl (by omega:(0:Int)≤0) (by omega:(0:Int)<(x.length:Int)) (by omega))<|Yv 7 (vq O (U+0*2+1)) rfl fun _ aa=>anyt_val (i:=8) (v:=(vl Y C.data.length ac)) [9,10,11,12,13] aa (fun j hj=>by simp at hj;first | (subst hj;decide) | (rcases hj with rfl | rfl <;> decide)) (by decide +kernel) (by decide +kernel) rfl rfl rfl rfl (fun _ _ _ _ h=>h) rfl V (fun W hW=>(rl aa rfl ((fun j u hu=>Ext.keep ((Ext.refl D).trans hW.1) (ag j u hu)) 1 _ rfl))) fun ar aq=>ao 9 rfl<|aq.oC (c:=bclone_at (v:=(vl Y C.data.length ac)) (n:=C.data.length) C.data _ ah (by omega)) (k:= ?_)
  rintro _ ak ⟨G,I,rfl,ai,M⟩
  have O:=(Fl.cel ai).2.1
  refine ⟨_,rfl,?_⟩;intro O O;have U:=M.size
  have aa:Fl (Clip (fun b=>D.heap.size≤b) ak) ak 1 (vl G C.data.length I) C.data.length (byteVals C.data):=ai.clip
  have D:=ab.ext M
  refine ⟨fun _ _=>⟨eX,D⟩,?_⟩
  refine O.yw 10 (.agg #[(strOf C.name),(vl G C.data.length I)]) rfl (fun F W=>rn_build (parts2 (F.get rfl) (F.get rfl)) (by kernel_rfl)) fun _ O=>ao 11 rfl<|O.on (fun g=>(vl (some ⟨g,0,none⟩) 1 1)) [(strOf C.name),(vl G C.data.length I)] 61 rfl (fun F=>rn_buildSlice (parts1 (F.get rfl)) (by kernel_rfl)) fun O O _ U O O Y O=>?_
  have V:=D.ext O
  refine ⟨fun _ _=>⟨eX,V⟩,?_⟩
  refine ao 12 rfl<|have D:=OwnL.pres rIt hO ((((Pres.refl w).ext J).ext M).ext O);have Z:=(aa.ext O);o_appB (zs:=xs++[(strOf C.name),(vl G C.data.length I)]) El26 U rfl rfl rfl rfl rfl (U.get rfl) (U.get rfl) D.1 (Fl.cel (Fl.blk (S:=fun _=>True) (k:=2) (n:=1) (c:=1) (cs:=[(strOf C.name),(vl G C.data.length I)]) Y rfl (one_cons rfl (one_cons rfl one_nil)) ⟨Nat.le_refl _,by omega⟩ trivial)).2.2 (by omega) (by omega) (by omega) rfl fun U Y ae G I ac G aa aa ab=>?_;have aa:=G.size
  have aa:=OwnL.snoc (x:=(⟨C.name,C.data⟩:It)) rIt D ac G ab rfl (one_cons rfl (one_cons rfl one_nil)) ⟨_,_,rfl,Z⟩ (fun b _ hb=>⟨by simp only [Clip] at hb;omega,fun C=>by have h5:=own_blk_lt hO.1 b C;simp only [Clip] at hb;omega⟩)
  refine ⟨fun h=>absurd h (by decide),?_⟩
  refine ao 13 rfl<|have C:=(grown_blk D.1 G V (by decide));o_store1 (new:=[(vl U (n0+1) Y)]) I rfl rfl rfl rfl (I.get rfl) (I.get rfl) C inf26 (by simp) rfl rfl fun C U C=>?_;have V:=C.size
  refine ⟨fun h=>absurd h (by decide),?_⟩
  refine nN<|blk_normal<|ret0 I rfl ?_
  have V:=OwnL.pres rIt aa ((Pres.refl ae).gn C)
  have I:=(grown_blk D.1 G (((hq.ext J).ext M).ext O) (by decide)).gn C
  obtain ⟨he1,he2⟩:=astep_x (y:=y) aj (by omega)
  have hfin:fn=(fn&&aok (x.head?,y.head?)):=by rw [he2];simp
  rw [hfin] at I
  exact ⟨rfl,⟨_,_,_,_,U,I,by rw [he1];exact V⟩,((((((FarX.refl w).ext J).ext M).ext O).row G D.1 (fun b hb h=>by have h6:=h.1;omega)).gc C)⟩
 refine F9.cf<|wr fun aV aW=>F9.xm rfl fun _ aR=>?_
 obtain ⟨ag,aK,C,aV,aS,D,aV,aX,a4⟩:=RLs.get hy (by omega:0<y.length)
 obtain ⟨aV,aV,rfl,a1⟩:=a4
 have aV:=(Fl.cel a1).2.1
 have aV:=hdy C (List.mem_of_getElem? D)
 refine aR.xw (vq ag (aK+0*3)) (fun F=>rn_indexE uu27 inf66 ((F.get rfl).trans (by rw [aS])) rfl (by omega:(0:Int)≤0) (by omega:(0:Int)<(y.length:Int)) (by omega))<|Xv (vq ag (aK+0*3+2))<|Xw (.bool C.gone) (fun F=>rl F rfl (aX 2 _ rfl))<|Xa rfl fun _ aK=>wn aW ?_
 have ag:=aK.k [0,1,2,3,21,38]
 rcases Bool.eq_false_or_eq_true C.gone with V | V
 ·refine ag.ct<|wp_region_lit<|ag.xw (.bool fn) (fun F=>rl F rfl (hq.rule.1 0))<|Xm rfl fun _ C=>?_
  rcases Bool.eq_false_or_eq_true fn with I | I
  ·refine C.xg (vl A x.length c)<|Xg (vi x.length)<|Xg (.bool (decide ((0:Int)<(x.length:Int))))<|Xv (.bool (decide ((0:Int)<(x.length:Int)))) fun _ C=>wpl_op (i:=6) rfl<|o_store1 (new:=[(.bool (decide ((0:Int)<(x.length:Int))))]) C rfl rfl rfl rfl (C.get rfl) (C.get rfl) hq inf4 (by simp) rfl rfl fun G J G=>have M:=G.size;wpList_nil<|blk_normal<|ret0 C rfl ?_
   have M:=OwnL.pres rIt hO ((Pres.refl w).gn G)
   have C:=hp.gn G
   obtain ⟨he1,he2⟩:=astep_gone (x:=x) D V
   have hfin:decide ((0:Int)<(x.length:Int))=(fn&&aok (x.head?,y.head?)):=by rw [he2,I];simp
   rw [hfin] at J
   exact ⟨rfl,⟨_,_,_,_,C,J,by rw [he1,List.append_nil];exact M⟩,((FarX.refl w).gc G)⟩
  refine C.xu<|Xu<|Xu<|Xv (.bool false) fun _ C=>wpl_op (i:=6) rfl<|o_store1 (new:=[(.bool false)]) C rfl rfl rfl rfl (C.get rfl) (C.get rfl) hq inf4 (by simp) rfl rfl fun G J G=>have M:=G.size;wpList_nil<|blk_normal<|ret0 C rfl ?_
  have M:=OwnL.pres rIt hO ((Pres.refl w).gn G)
  have C:=hp.gn G
  obtain ⟨he1,he2⟩:=astep_gone (x:=x) D V
  have hfin:false=(fn&&aok (x.head?,y.head?)):=by rw [he2,I];simp
  rw [hfin] at J
  exact ⟨rfl,⟨_,_,_,_,C,J,by rw [he1,List.append_nil];exact M⟩,((FarX.refl w).gc G)⟩
 refine ag.cf<|wp_seq_k fun aK aB=>sX (fun J W=>Ext J W) (fun i=>false) 16 fun J G aK=>ag.ym 0 rfl<|Yv 1 (vi x.length) rfl<|Yv 2 (.bool (decide ((0:Int)<(x.length:Int)))) rfl<|Ym 3 rfl fun _ aq=>?_
 by_cases aY:(0:Int)<(x.length:Int)
 ·refine aq.yg 4 (vl A x.length c) rfl<|fun _ aM=>?_
  have ag:=RLs.ux rIt hx G
  obtain ⟨av,aJ,M,aK,aT,ai,aK,aZ,a5⟩:=RLs.get ag (by omega:0<x.length)
  obtain ⟨ak,ax,rfl,aF⟩:=a5
  have ag:=(Fl.cel aF).2.1
  have ag:=hdx M (List.mem_of_getElem? ai)
  refine aM.ygw 5 (vq av (aJ+0*2)) rfl (fun F W=>rn_indexE uu26 inf61 ((F.get rfl).trans (by rw [aT])) rfl (by omega:(0:Int)≤0) (by omega:(0:Int)<(x.length:Int)) (by omega))<|Yg 6 (vq av (aJ+0*2+1)) rfl fun _ ag=>have aC:Ex J J:=Ext.refl J;ag.ysg 7 (vl ak M.data.length ax) rfl aC (fun F W hW=>rl F rfl ((fun j u hu=>Ext.keep ((Ext.refl J).trans hW) (aZ j u hu)) 1 _ rfl))<|Yg 8 (vl B y.length d) rfl fun _ aN=>?_
  have ag:=RLs.ext rCg hy G
  obtain ⟨O,aj,a8,av,aU,a2,av,a0,a6⟩:=RLs.get ag (by omega:0<y.length)
  obtain rfl:C=a8:=Option.some.inj (D.symm.trans a2)
  obtain ⟨al,ay,rfl,aG⟩:=a6
  have ag:=(Fl.cel aG).2.1
  have ag:=hdy C (List.mem_of_getElem? D)
  refine aN.ygw 9 (vq O (aj+0*3)) rfl (fun F W=>rn_indexE uu27 inf66 ((F.get rfl).trans (by rw [aU])) rfl (by omega:(0:Int)≤0) (by omega:(0:Int)<(y.length:Int)) (by omega))<|Yg 10 (vq O (aj+0*3)) rfl<|Yg 11 (vq O (aj+0*3+1)) rfl<|Ysg 12 (vl al C.data.length ay) rfl aC (fun F W hW=>rl F rfl ((fun j u hu=>Ext.keep ((Ext.refl J).trans hW) (a0 j u hu)) 1 _ rfl)) fun _ O=>ao 13 rfl<|O.gE (c:=beq_at (v:=(vl ak M.data.length ax)) (u:=(vl al C.data.length ay)) (n:=M.data.length) (m:=C.data.length) M.data C.data _ aF aG) (k:=fun O Y O _ O=>?_)
  refine ⟨fun _ _=>eX,?_⟩
  refine O.yv 14 (.bool (decide (M.data=C.data))) rfl<|Yv 15 (.bool (decide (M.data=C.data))) rfl fun _ ag=>nK aB ?_
  have O:=ag.k [0,1,2,3,21,38,49]
  by_cases aD:M.data=C.data
  ·refine O.ct<|wp_region_lit<|have C:=hq.ux Y;wpl_op (i:=0) rfl<|o_store1 (new:=[(.bool false)]) O rfl rfl rfl rfl (O.get rfl) rfl C inf4 (by simp) rfl rfl fun C I C=>have J:=C.size;wpList_nil<|blk_normal<|ret0 O rfl ?_
   have M:=OwnL.pres rIt hO ((((Pres.refl w).ext G).ext Y).gn C)
   have J:=hp.ug C
   obtain ⟨he1,he2⟩:=astep_same ai D V aD
   have hfin:false=(fn&&aok (x.head?,y.head?)):=by rw [he2];simp
   rw [hfin] at I
   exact ⟨rfl,⟨_,_,_,_,J,I,by rw [he1,List.append_nil];exact M⟩,((((FarX.refl w).ext G).ext Y).gc C)⟩
  refine O.cf<|sX (fun I W=>Ext I W∧Blk W p 26 [(vl A0 n0 c0)]) (fun i=>i==14||i==15) 16 fun I ac M=>have aw:=hp.ux ac;have ah:Ext I I∧Blk I p 26 [(vl A0 n0 c0)]:=⟨(Ext.refl I),aw⟩;O.ys 0 (vl A0 n0 c0) rfl ah (fun F W hW=>rl F rfl (hW.2.rule.1 0))<|Ym 1 rfl fun _ aO=>?_
  have M:=RLs.ux rCg hy ac
  obtain ⟨U,Z,a9,O,aA,a3,O,aE,a7⟩:=RLs.get M (by omega:0<y.length)
  obtain rfl:C=a9:=Option.some.inj (D.symm.trans a3)
  obtain ⟨am,az,rfl,aH⟩:=a7
  have M:=(Fl.cel aH).2.1
  have M:=hdy C (List.mem_of_getElem? D)
  refine aO.yw 2 (vq U (Z+0*3)) rfl (fun F W=>rn_indexE uu27 inf66 ((F.get rfl).trans (by rw [aA])) rfl (by omega:(0:Int)≤0) (by omega:(0:Int)<(y.length:Int)) (by omega))<|Yv 3 (vq U (Z+0*3)) rfl<|Yv 4 (vq U (Z+0*3)) rfl fun _ ar=>anyt_val (i:=5) (v:=(strOf C.name)) [12,13,14,15] ar (fun j hj=>by simp at hj;first | (subst hj;decide) | (rcases hj with rfl | rfl <;> decide)) (by decide +kernel) (by decide +kernel) rfl rfl rfl rfl (fun _ _ _ _ h=>h) rfl ah (fun W hW=>(rl ar rfl ((fun j u hu=>Ext.keep ((Ext.refl I).trans hW.1) (aE j u hu)) 0 _ rfl))) fun M aP=>aP.ym 6 rfl<|Yw 7 (vq U (Z+0*3)) rfl (fun F W=>rn_indexE uu27 inf66 ((F.get rfl).trans (by rw [aA])) rfl (by omega:(0:Int)≤0) (by omega:(0:Int)<(y.length:Int)) (by omega))<|Yv 8 (vq U (Z+0*3)) rfl<|Yv 9 (vq U (Z+0*3+1)) rfl fun _ au=>anyt_val (i:=10) (v:=(vl am C.data.length az)) [11,12,13,14,15] au (fun j hj=>by simp at hj;first | (subst hj;decide) | (rcases hj with rfl | rfl <;> decide)) (by decide +kernel) (by decide +kernel) rfl rfl rfl rfl (fun _ _ _ _ h=>h) rfl ah (fun W hW=>(rl au rfl ((fun j u hu=>Ext.keep ((Ext.refl I).trans hW.1) (aE j u hu)) 1 _ rfl))) fun M aQ=>ao 11 rfl<|aQ.oC (c:=bclone_at (v:=(vl am C.data.length az)) (n:=C.data.length) C.data _ aH (by omega)) (k:= ?_)
  rintro _ aL ⟨aa,ab,rfl,aI,ae⟩
  have J:=(Fl.cel aI).2.1
  refine ⟨_,rfl,?_⟩;intro J J;have M:=ae.size
  have Z:Fl (Clip (fun b=>I.heap.size≤b) aL) aL 1 (vl aa C.data.length ab) C.data.length (byteVals C.data):=aI.clip
  have I:=aw.ext ae
  refine ⟨fun _ _=>⟨eX,I⟩,?_⟩
  refine J.yw 12 (.agg #[(strOf C.name),(vl aa C.data.length ab)]) rfl (fun F W=>rn_build (parts2 (F.get rfl) (F.get rfl)) (by kernel_rfl)) fun _ J=>ao 13 rfl<|J.on (fun g=>(vl (some ⟨g,0,none⟩) 1 1)) [(strOf C.name),(vl aa C.data.length ab)] 61 rfl (fun F=>rn_buildSlice (parts1 (F.get rfl)) (by kernel_rfl)) fun J J _ J M M O M=>?_
  have U:=I.ext M
  refine ⟨fun _ _=>⟨eX,U⟩,?_⟩
  refine ao 14 rfl<|have I:=OwnL.pres rIt hO ((((((Pres.refl w).ext G).ext Y).ext ac).ext ae).ext M);have ag:=(Z.ext M);o_appB (zs:=xs++[(strOf C.name),(vl aa C.data.length ab)]) El26 J rfl rfl rfl rfl rfl (J.get rfl) (J.get rfl) I.1 (Fl.cel (Fl.blk (S:=fun _=>True) (k:=2) (n:=1) (c:=1) (cs:=[(strOf C.name),(vl aa C.data.length ab)]) O rfl (one_cons rfl (one_cons rfl one_nil)) ⟨Nat.le_refl _,by omega⟩ trivial)).2.2 (by omega) (by omega) (by omega) rfl fun Z aa ak J O aj J ab ab ah=>?_;have ab:=J.size
  have ab:=OwnL.snoc (x:=(⟨C.name,C.data⟩:It)) rIt I aj J ah rfl (one_cons rfl (one_cons rfl one_nil)) ⟨_,_,rfl,ag⟩ (fun b _ hb=>⟨by simp only [Clip] at hb;omega,fun C=>by have h5:=own_blk_lt hO.1 b C;simp only [Clip] at hb;omega⟩)
  refine ⟨fun h=>absurd h (by decide),?_⟩
  refine ao 15 rfl<|have C:=(grown_blk I.1 J U (by decide));o_store1 (new:=[(vl Z (n0+1) aa)]) O rfl rfl rfl rfl (O.get rfl) (O.get rfl) C inf26 (by simp) rfl rfl fun C U C=>?_;have Z:=C.size
  refine ⟨fun h=>absurd h (by decide),?_⟩
  refine nN<|blk_normal<|ret0 O rfl ?_
  have Z:=OwnL.pres rIt ab ((Pres.refl ak).gn C)
  have O:=(grown_blk I.1 J (((((hq.ext G).ext Y).ext ac).ext ae).ext M) (by decide)).gn C
  obtain ⟨he1,he2⟩:=astep_ne ai D V aD
  have hfin:fn=(fn&&aok (x.head?,y.head?)):=by rw [he2];simp
  rw [hfin] at O
  exact ⟨rfl,⟨_,_,_,_,U,O,by rw [he1];exact Z⟩,((((((((FarX.refl w).ext G).ext Y).ext ac).ext ae).ext M).row J I.1 (fun b hb h=>by have h6:=h.1;omega)).gc C)⟩
 refine aq.yu 4 rfl<|Yu 5 rfl<|Yu 6 rfl<|Yu 7 rfl<|Yu 8 rfl<|Yu 9 rfl<|Yu 10 rfl<|Yu 11 rfl<|Yu 12 rfl fun _ ae=>ao 13 rfl<|o_skip ae rfl (unwanted_guard rfl rfl rfl ae rfl (decide_eq_false aY) rfl) rfl rfl fun ae ae=>?_
 refine ⟨fun _ _=>(Ext.refl J),?_⟩
 refine ae.yv 14 (.bool false) rfl<|Yv 15 (.bool false) rfl fun _ ae=>nK aB<|have J:=ae.k [0,1,2,3,21,38,49];J.cf<|sX (fun I W=>Ext I W∧Blk W p 26 [(vl A0 n0 c0)]) (fun i=>i==14||i==15) 16 fun I Z ae=>have aj:=hp.ux Z;have ab:Ext I I∧Blk I p 26 [(vl A0 n0 c0)]:=⟨(Ext.refl I),aj⟩;J.ys 0 (vl A0 n0 c0) rfl ab (fun F W hW=>rl F rfl (hW.2.rule.1 0))<|Ym 1 rfl fun _ aw=>?_
 have J:=RLs.ux rCg hy Z
 obtain ⟨M,O,aC,ae,al,az,ae,am,aA⟩:=RLs.get J (by omega:0<y.length)
 obtain rfl:C=aC:=Option.some.inj (D.symm.trans az)
 obtain ⟨ac,ak,rfl,ar⟩:=aA
 have J:=(Fl.cel ar).2.1
 have J:=hdy C (List.mem_of_getElem? D)
 refine aw.yw 2 (vq M (O+0*3)) rfl (fun F W=>rn_indexE uu27 inf66 ((F.get rfl).trans (by rw [al])) rfl (by omega:(0:Int)≤0) (by omega:(0:Int)<(y.length:Int)) (by omega))<|Yv 3 (vq M (O+0*3)) rfl<|Yv 4 (vq M (O+0*3)) rfl fun _ ah=>anyt_val (i:=5) (v:=(strOf C.name)) [12,13,14,15] ah (fun j hj=>by simp at hj;first | (subst hj;decide) | (rcases hj with rfl | rfl <;> decide)) (by decide +kernel) (by decide +kernel) rfl rfl rfl rfl (fun _ _ _ _ h=>h) rfl ab (fun W hW=>(rl ah rfl ((fun j u hu=>Ext.keep ((Ext.refl I).trans hW.1) (am j u hu)) 0 _ rfl))) fun J ax=>ax.ym 6 rfl<|Yw 7 (vq M (O+0*3)) rfl (fun F W=>rn_indexE uu27 inf66 ((F.get rfl).trans (by rw [al])) rfl (by omega:(0:Int)≤0) (by omega:(0:Int)<(y.length:Int)) (by omega))<|Yv 8 (vq M (O+0*3)) rfl<|Yv 9 (vq M (O+0*3+1)) rfl fun _ ai=>anyt_val (i:=10) (v:=(vl ac C.data.length ak)) [11,12,13,14,15] ai (fun j hj=>by simp at hj;first | (subst hj;decide) | (rcases hj with rfl | rfl <;> decide)) (by decide +kernel) (by decide +kernel) rfl rfl rfl rfl (fun _ _ _ _ h=>h) rfl ab (fun W hW=>(rl ai rfl ((fun j u hu=>Ext.keep ((Ext.refl I).trans hW.1) (am j u hu)) 1 _ rfl))) fun J ay=>ao 11 rfl<|ay.oC (c:=bclone_at (v:=(vl ac C.data.length ak)) (n:=C.data.length) C.data _ ar (by omega)) (k:= ?_)
 rintro _ av ⟨U,Y,rfl,au,aa⟩
 have J:=(Fl.cel au).2.1
 refine ⟨_,rfl,?_⟩;intro J J;have M:=aa.size
 have ae:Fl (Clip (fun b=>I.heap.size≤b) av) av 1 (vl U C.data.length Y) C.data.length (byteVals C.data):=au.clip
 have I:=aj.ext aa
 refine ⟨fun _ _=>⟨eX,I⟩,?_⟩
 refine J.yw 12 (.agg #[(strOf C.name),(vl U C.data.length Y)]) rfl (fun F W=>rn_build (parts2 (F.get rfl) (F.get rfl)) (by kernel_rfl)) fun _ J=>ao 13 rfl<|J.on (fun g=>(vl (some ⟨g,0,none⟩) 1 1)) [(strOf C.name),(vl U C.data.length Y)] 61 rfl (fun F=>rn_buildSlice (parts1 (F.get rfl)) (by kernel_rfl)) fun J J _ J M M O M=>?_
 have ab:=I.ext M
 refine ⟨fun _ _=>⟨eX,ab⟩,?_⟩
 refine ao 14 rfl<|have I:=OwnL.pres rIt hO (((((Pres.refl w).ext G).ext Z).ext aa).ext M);have ac:=(ae.ext M);o_appB (zs:=xs++[(strOf C.name),(vl U C.data.length Y)]) El26 J rfl rfl rfl rfl rfl (J.get rfl) (J.get rfl) I.1 (Fl.cel (Fl.blk (S:=fun _=>True) (k:=2) (n:=1) (c:=1) (cs:=[(strOf C.name),(vl U C.data.length Y)]) O rfl (one_cons rfl (one_cons rfl one_nil)) ⟨Nat.le_refl _,by omega⟩ trivial)).2.2 (by omega) (by omega) (by omega) rfl fun U Y ai J O ah J ae ae ag=>?_;have ae:=J.size
 have ae:=OwnL.snoc (x:=(⟨C.name,C.data⟩:It)) rIt I ah J ag rfl (one_cons rfl (one_cons rfl one_nil)) ⟨_,_,rfl,ac⟩ (fun b _ hb=>⟨by simp only [Clip] at hb;omega,fun C=>by have h5:=own_blk_lt hO.1 b C;simp only [Clip] at hb;omega⟩)
 refine ⟨fun h=>absurd h (by decide),?_⟩
 refine ao 15 rfl<|have C:=(grown_blk I.1 J ab (by decide));o_store1 (new:=[(vl U (n0+1) Y)]) O rfl rfl rfl rfl (O.get rfl) (O.get rfl) C inf26 (by simp) rfl rfl fun C U C=>?_;have Y:=C.size
 refine ⟨fun h=>absurd h (by decide),?_⟩
 refine nN<|blk_normal<|ret0 O rfl ?_
 have Y:=OwnL.pres rIt ae ((Pres.refl ai).gn C)
 have O:=(grown_blk I.1 J ((((hq.ext G).ext Z).ext aa).ext M) (by decide)).gn C
 obtain ⟨he1,he2⟩:=astep_y (x:=x) D V (by omega)
 have hfin:fn=(fn&&aok (x.head?,y.head?)):=by rw [he2];simp
 rw [hfin] at O
 exact ⟨rfl,⟨_,_,_,_,U,O,by rw [he1];exact Y⟩,(((((((FarX.refl w).ext G).ext Z).ext aa).ext M).row J I.1 (fun b hb h=>by have h6:=h.1;omega)).gc C)⟩
def JD (p base:Nat) (ps:List (Option It × Option It)) (W:World):Prop:=∃ A n c xs,Blk W p 27 [.slice A n c]∧OwnL RCg 3 66 base W (vl A n c) n xs (ps.flatMap dstep)∧p<base∧base≤W.heap.size
theorem JD.ext {ps:List (Option It × Option It)} (h:JD p base ps W) (k:Ext W W'):JD p base ps W':=by
 obtain ⟨A,n,c,xs,h1,h2,h3,h4⟩:=h
 exact ⟨A,n,c,xs,h1.ext k,h2.ext rCg k,h3,Nat.le_trans h4 k.size⟩
theorem ne_or {α β:Type} {x:List α} {y:List β} (h:¬ (x=[]∧y=[])):0<x.length∨0<y.length:=by
 rcases Nat.eq_zero_or_pos x.length with h1 | h1
 ·rcases Nat.eq_zero_or_pos y.length with h2 | h2
  ·exact absurd ⟨List.eq_nil_of_length_eq_zero h1,List.eq_nil_of_length_eq_zero h2⟩ h
  ·exact .inr h2
 ·exact .inl h1
theorem jd_step (hN:N≤1000000) {a0 b0:List It} (ha:∀ z∈a0,z.data.length≤4294967296) (hb:∀ z∈b0,z.data.length≤4294967296) (ps:List (Option It × Option It)) (u v:Value) (x y:List It) (W:World) (hJ:JD p base ps W) (hx:RLs RIt 2 (fun b=>b<p) W u x) (hy:RLs RIt 2 (fun b=>b<p) W v y) (_:x.length≤1) (_:y.length≤1) (hne:¬ (x=[]∧y=[])) (hyb:∀ z∈y,z∈b0) (hxa:∀ z∈x,z∈a0) (hl:ps.length<N) :
  Calls Tryz.prog 57 #[u,v,.pointer (some ⟨p,0,none⟩)] W (fun e W'=>e=.returned (.tuple #[])∧JD p base (ps++[(x.head?,y.head?)]) W'∧FarX (fun b=>b<p) W W'):=by
 obtain ⟨D,I,G,xs,h1,hO,hpb,hbs⟩:=hJ
 obtain ⟨A,c,rfl,_⟩:=hx.form
 obtain ⟨B,d,rfl,_⟩:=hy.form
 have hn:=hO.2.1
 have hf:=flat_len dstep_len ps
 refine (diff1_any p base D I G xs _ A c x B d y W h1 hO hpb hbs (by omega) hx hy (ne_or hne) (fun z hz=>ha z (hxa z hz)) (fun z hz=>hb z (hyb z hz))).mono ?_
 rintro e W' ⟨rfl,⟨A',n',c',xs',h2,h3⟩,C⟩
 refine ⟨rfl,⟨A',n',c',xs',h2,?_,hpb,Nat.le_trans hbs C.1.1⟩,C.sub fun b hb=>⟨Nat.lt_trans hb hpb,by omega⟩⟩
 rw [List.flatMap_append,List.flatMap_cons,List.flatMap_nil,List.append_nil]
 exact h3
def diffE (a b:List It):Int:=if checkE a≠0 then checkE a else checkE b
def diffV (a b:List It):List Cg:=if diffE a b=0 then diffL a b else []
def JA (p q base:Nat) (ps:List (Option It × Option Cg)) (W:World):Prop:=∃ A n c xs,Blk W p 26 [.slice A n c]∧Blk W q 4 [.bool (ps.all aok)]∧OwnL RIt 2 61 base W (vl A n c) n xs (ps.flatMap astepX)∧(p<base∧q<base∧p<q)∧base≤W.heap.size
theorem JA.ext {ps:List (Option It × Option Cg)} (h:JA p q base ps W) (k:Ext W W'):JA p q base ps W':=by
 obtain ⟨A,n,c,xs,h1,h0,h2,h3,h4⟩:=h
 exact ⟨A,n,c,xs,h1.ext k,h0.ext k,h2.ext rIt k,h3,Nat.le_trans h4 k.size⟩
theorem ja_step (hN:N≤1000000) {a0:List It} {b0:List Cg} (ha:∀ z∈a0,z.data.length≤4294967296) (hb:∀ z∈b0,z.data.length≤4294967296) (ps:List (Option It × Option Cg)) (u v:Value) (x:List It) (y:List Cg) (W:World) (hJ:JA p q base ps W) (hx:RLs RIt 2 (fun b=>b<p) W u x) (hy:RLs RCg 3 (fun b=>b<p) W v y) (_:x.length≤1) (_:y.length≤1) (hne:¬ (x=[]∧y=[])) (hyb:∀ z∈y,z∈b0) (hxa:∀ z∈x,z∈a0) (hl:ps.length<N) :
  Calls Tryz.prog 114 #[u,v,.pointer (some ⟨p,0,none⟩),.pointer (some ⟨q,0,none⟩)] W (fun e W'=>e=.returned (.tuple #[])∧JA p q base (ps++[(x.head?,y.head?)]) W'∧FarX (fun b=>b<p) W W'):=by
 obtain ⟨D,I,G,xs,h1,h0,hO,⟨hpb,hqb,hpq⟩,hbs⟩:=hJ
 obtain ⟨A,c,rfl,_⟩:=hx.form
 obtain ⟨B,d,rfl,_⟩:=hy.form
 have hn:=hO.2.1
 have hf:=flat_len (f:=astepX) astep_len ps
 refine (apply2_any q (ps.all aok) p base D I G xs _ A c x B d y W h1 h0 hqb (by omega) hO hpb hbs (by omega) hx hy (ne_or hne) (fun z hz=>ha z (hxa z hz)) (fun z hz=>hb z (hyb z hz))).mono ?_
 rintro e W' ⟨rfl,⟨A',n',c',xs',h2,h4,h3⟩,C⟩
 refine ⟨rfl,⟨A',n',c',xs',h2,?_,?_,⟨hpb,hqb,hpq⟩,Nat.le_trans hbs C.1.1⟩,C.sub fun b hb=>⟨Nat.lt_trans hb hpb,by omega,by omega⟩⟩
 ·rw [List.all_append,List.all_cons,List.all_nil,Bool.and_true];exact h4
 ·rw [List.flatMap_append,List.flatMap_cons,List.flatMap_nil,List.append_nil];exact h3
theorem check_len {l:List It} (h:checkE l=0):l.length≤65536:=(check_named h).1
theorem diff_any (A:Option Addr) (c:Nat) (a:List It) (B:Option Addr) (d:Nat) (b:List It) (w:World) (h1:RLs RIt 2 S w (vl A a.length c) a) (h2:RLs RIt 2 S w (vl B b.length d) b) (hsa:∀ z∈a,z.data.length≤4294967296) (hsb:∀ z∈b,z.data.length≤4294967296) :
  Calls Tryz.prog 26 #[.slice A a.length c,.slice B b.length d] w (fun e w'=>∃ A c,e=.returned (.tuple #[.slice A (diffV a b).length c,.int .i64 (diffE a b)])∧RLs RCg 3 (fun z=>w.heap.size≤z) w' (vl A (diffV a b).length c) (diffV a b)∧Ext w w'):=by
 have h1c:RLs RIt 2 (Clip S w) w (vl A a.length c) a:=RLs.clip rIt h1
 obtain ⟨-,h1ck,h1cm⟩:=RLs.at h1
 have h2c:RLs RIt 2 (Clip S w) w (vl B b.length d) b:=RLs.clip rIt h2
 obtain ⟨-,h2ck,h2cm⟩:=RLs.at h2
 refine calls_enter Tryz.func26 rfl rfl rfl fun _ C=>wr fun I M=>C.xz [v0] 27 fun C I _ I V V V ac=>I.xv (vi 0) fun _ I=>wn M<|wp_seq_k fun M ae=>wr fun M ai=>I.xm rfl fun _ I=>have M:=(RLs.ext rIt h1c ac);I.xe (pcheck_at (v:=(vl A a.length c)) a _ M) fun I aa I _ I=>I.xa rfl fun _ I=>wn ai<|wr fun M M=>I.xm rfl<|Xv (vd (((checkE a):Int)≠(0:Int))) fun _ I=>wn M ?_
 by_cases G:((checkE a):Int)≠(0:Int)
 ·exact I.ct<|wr fun C J=>I.xm rfl fun _ C=>have D:=(V.ext aa);wpl_op (i:=1) rfl<|o_store1 (new:=[v0]) C rfl rfl rfl rfl (C.get rfl) rfl D inf27 (by simp) rfl rfl fun D I D=>have M:=D.size;C.xa rfl fun _ C=>wn J<|have D:=C.k [0,1,4,5,6,11];wp_ret<|ret_then<|retS1 D rfl rfl rfl I uu27 rfl<|have hE:diffE a b=(checkE a):=if_pos G;have hv:diffV a b=[]:=if_neg (by rw [hE];exact G);⟨none,0,by rw [hv,hE];rfl,by rw [hv];exact RLs.nil _,eX⟩
 refine I.cf<|wp_skip<|ae _ _<|wp_seq_k fun M ai=>wr fun M ae=>I.xm rfl fun _ I=>have M:=(RLs.ux rIt h2c aa);I.xe (pcheck_at (v:=(vl B b.length d)) b _ M) fun J I M _ M=>M.xa rfl fun _ M=>wn ae<|have ae:=M.k [0,1,4,5,6,11,7];wr fun M aj=>ae.xm rfl<|Xv (vd (((checkE b):Int)≠(0:Int))) fun _ M=>wn aj ?_
 by_cases Z:((checkE b):Int)≠(0:Int)
 ·exact M.ct<|wr fun C J=>M.xm rfl fun _ C=>have D:=V.ux I;wpl_op (i:=1) rfl<|o_store1 (new:=[v0]) C rfl rfl rfl rfl (C.get rfl) rfl D inf27 (by simp) rfl rfl fun D D I=>have M:=I.size;C.xa rfl fun _ C=>wn J<|wp_ret<|ret_then<|retS1 C rfl rfl rfl D uu27 rfl<|have hE:diffE a b=(checkE b):=if_neg (fun q=>q (Decidable.not_not.1 G));have hv:diffV a b=[]:=if_neg (by rw [hE];exact Z);⟨none,0,by rw [hv,hE];rfl,by rw [hv];exact RLs.nil _,eX⟩
 refine M.cf<|wp_skip<|ai _ _<|wr fun ae ak=>M.xm rfl<|Xm rfl<|Xw (.func (.func 57) #[] #[(vp C)]) (fun F=>rn_makeFunc (args0 ) (args1 (F.get rfl))) fun _ M=>have hla:=check_len (Decidable.not_not.1 G);have hlb:=check_len (Decidable.not_not.1 Z);have ae:=(RLs.ux rIt h1c I);have ai:=(RLs.ux rIt h2c I);have ha79:RLs RIt 2 (fun b=>b<C) J (vl A a.length c) a:=RLs.sub rIt ae (fun b h=>by have h7:=h.2;omega);have hb80:RLs RIt 2 (fun b=>b<C) J (vl B b.length d) b:=RLs.sub rIt ai (fun b h=>by have h7:=h.2;omega);have ae:=V.ux I;have al:=((((Ext.refl w).trans ac).trans aa).trans I);wpl_op (i:=3) rfl<|o_call M rfl rfl rfl rfl (rn_call (args5 (M.get rfl) (M.get rfl) rfl rfl (M.get rfl)) rfl (by kernel_rfl)) (mergeIt_any A c a B d b (57) #[] #[(vp C)] (fun _ _=>by kernel_rfl) (fun u v=>#[u,v,(vp C)]) (fun u v=>by simp) (JD C J.heap.size) (fun _ _ _ h k=>h.ext k) (a.length+b.length) (jd_step (by omega) hsa hsb) J ha79 hb80 (mrg_len _ _) ⟨none,0,0,[],ae,OwnL.nil _ (Nat.le_refl _),by omega,Nat.le_refl _⟩) ?_
 rintro _ ab ⟨rfl,⟨U,C,Y,am,D,O,C,C⟩,ag⟩
 refine ⟨_,rfl,?_⟩;intro C ah
 have hX94:Ext w ab:=FarX.toExt ((FarX.of_ext al).trans ag) (fun b hb=>by omega)
 have C:=hX94.size;have C:=D.lt
 obtain rfl:=O.2.1
 have O:OwnL RCg 3 66 J.heap.size ab (vl U (diffL a b).length Y) (diffL a b).length am (diffL a b):=O
 have D:=D
 exact wn ak<|have C:=ah.k [0,1,4,5,6,11,7,16];wr fun I J=>C.xw (vl U ((diffL a b).length) Y) (fun F=>rl F rfl (D.rule.1 0)) fun _ C=>wpl_op (i:=1) rfl<|o_store1 (new:=[(vl U ((diffL a b).length) Y)]) C rfl rfl rfl rfl (C.get rfl) (C.get rfl) D inf27 (by simp) rfl rfl fun D I D=>have M:=D.size;C.xv (vi 0) fun _ C=>wn J<|wp_ret<|retS1 C rfl rfl rfl I uu27 rfl<|have hE:diffE a b=0:=(if_neg (fun q=>q (Decidable.not_not.1 G))).trans (Decidable.not_not.1 Z);have hv:diffV a b=diffL a b:=if_pos hE;have C:=OwnL.pres rCg O ((Pres.refl ab).gn D);⟨_,_,by rw [hv,hE],by rw [hv];exact RLs.sub rCg (OwnL.rls rCg C) (fun b hb=>by omega),(((Ext.refl w).trans hX94).gn D)⟩
theorem diff_at (a b:List It) (w:World) (h1:RLs RIt 2 S1 w u a) (h2:RLs RIt 2 S2 w v b) (hsa:∀ z∈a,z.data.length≤4294967296) (hsb:∀ z∈b,z.data.length≤4294967296) :
  Calls Tryz.prog 26 #[u,v] w (fun e w'=>∃ A c,e=.returned (.tuple #[.slice A (diffV a b).length c,.int .i64 (diffE a b)])∧RLs RCg 3 (fun z=>w.heap.size≤z) w' (vl A (diffV a b).length c) (diffV a b)∧Ext w w'):=by
 obtain ⟨A,c,rfl,_⟩:=h1.form
 obtain ⟨B,d,rfl,_⟩:=h2.form
 exact diff_any (S:=fun _=>True) A c a B d b w (h1.sub rIt fun _ _=>trivial) (h2.sub rIt fun _ _=>trivial) hsa hsb
theorem validC_of (h1:decide ((65536:Int)<(l.length:Int))=false) (h2:decide (named (cgNames l))=true) (h3:decide (∀ c∈l,¬ fullC c)=true):validC l:=⟨by have:=of_decide_eq_false h1;omega,of_decide_eq_true h2,of_decide_eq_true h3⟩
theorem validC_no1 (h:decide ((65536:Int)<(l.length:Int))=true):¬ validC l:=fun q=>by have:=of_decide_eq_true h;have:=q.1;omega
theorem validC_no2 (h:decide (named (cgNames l))=false):¬ validC l:=fun q=>of_decide_eq_false h q.2.1
theorem validC_no3 (h:decide (∀ c∈l,¬ fullC c)=false):¬ validC l:=fun q=>of_decide_eq_false h q.2.2
theorem apply_any (A:Option Addr) (c:Nat) (a:List It) (B:Option Addr) (d:Nat) (l:List Cg) (w:World) (h1:RLs RIt 2 S w (vl A a.length c) a) (h2:RLs RCg 3 S w (vl B l.length d) l) (hsa:∀ z∈a,z.data.length≤4294967296) (hsb:∀ z∈l,z.data.length≤4294967296) :
  Calls Tryz.prog 90 #[.slice A a.length c,.slice B l.length d] w (fun e w'=>∃ A c,e=.returned (.tuple #[.slice A (applyV a l).length c,.int .i64 (applyE a l)])∧RLs RIt 2 (fun z=>w.heap.size≤z) w' (vl A (applyV a l).length c) (applyV a l)∧Ext w w'):=by
 have h1c:RLs RIt 2 (Clip S w) w (vl A a.length c) a:=RLs.clip rIt h1
 obtain ⟨-,h1ck,h1cm⟩:=RLs.at h1
 have h2c:RLs RCg 3 (Clip S w) w (vl B l.length d) l:=RLs.clip rCg h2
 obtain ⟨-,h2ck,h2cm⟩:=RLs.at h2
 refine calls_enter Tryz.func90 rfl rfl rfl fun _ I=>wr fun V aa=>I.xz [v0] 26 fun I V _ V z6 z7 J aq=>V.xv (vi 0) fun _ V=>wn aa<|wp_seq_k fun aa ae=>wr fun aa av=>V.xm rfl fun _ V=>have aa:=(RLs.ext rIt h1c aq);V.xe (pcheck_at (v:=(vl A a.length c)) a _ aa) fun V ah V _ V=>V.xa rfl fun _ V=>wn av<|wr fun aa aa=>V.xm rfl<|Xv (vd (((checkE a):Int)≠(0:Int))) fun _ V=>wn aa ?_
 by_cases D:((checkE a):Int)≠(0:Int)
 ·exact V.ct<|wr fun C M=>V.xm rfl fun _ C=>have G:=(J.ext ah);wpl_op (i:=1) rfl<|o_store1 (new:=[v0]) C rfl rfl rfl rfl (C.get rfl) rfl G inf26 (by simp) rfl rfl fun G I G=>have J:=G.size;C.xa rfl fun _ C=>wn M<|have G:=C.k [0,1,4,5,6,12];wp_ret<|ret_then<|retS1 G rfl rfl rfl I uu26 rfl<|have hE:applyE a l=(checkE a):=if_pos D;have C:applyV a l=[]:=if_neg (by rw [hE];exact D);⟨none,0,by rw [C,hE];rfl,by rw [C];exact RLs.nil _,eX⟩
 refine V.cf<|wp_skip<|ae _ _<|wr fun aa aa=>V.xv (.func (.func 109) #[] #[]) fun _ V=>wn aa<|wp_seq_k fun aa ae=>wr fun aa ai=>V.xm rfl<|Xv (vi l.length)<|Xv (vd ((65536:Int)<(l.length:Int)))<|Xm rfl fun _ V=>?_
 by_cases O:(65536:Int)<(l.length:Int)
 ·exact V.xu<|Xu<|Xu<|Xv (.bool true)<|Xm rfl<|Xu<|Xu<|Xu<|Xv (.bool true) fun _ G=>wn ai<|have C:=G.k [0,1,4,5,6,12,7,26];C.ct<|wr fun G I=>have G:=(J.ext ah);wpl_op (i:=0) rfl<|o_store1 (new:=[v0]) C rfl rfl rfl rfl (C.get rfl) rfl G inf26 (by simp) rfl rfl fun G G J=>have M:=J.size;C.xv (vi 400) fun _ C=>wn I<|wp_ret<|ret_then<|retS1 C rfl rfl rfl G uu26 rfl<|have hE:applyE a l=400:=(if_neg (fun q=>q (Decidable.not_not.1 D))).trans (if_pos (validC_no1 (decide_eq_true O)));have C:applyV a l=[]:=if_neg (by rw [hE];decide);⟨none,0,by rw [C,hE];rfl,by rw [C];exact RLs.nil _,eX⟩
 refine V.xg (vl B l.length d) fun _ V=>have aa:=(RLs.ux rCg h2c ah);wpl_op (i:=5) rfl (V.gE (c:=namedCg_at (v:=(vl B l.length d)) l _ aa) (k:=fun V aj V _ V=>V.xgw (.bool (!(decide (named (cgNames l))))) (fun F=>rn_not' (F.get rfl) rfl)<|Xv (.bool (!(decide (named (cgNames l)))))<|Xm rfl fun _ al=>?_))
 by_cases U:named (cgNames l)
 ·refine al.xg (vl B l.length d)<|Xg (.func (.func 109) #[] #[]) fun _ V=>have aa:=(RLs.ux rCg h2c aj);wpl_op (i:=11) rfl (V.gE (c:=contains_at (v:=(vl B l.length d)) l _ aa) (k:=fun V am V _ V=>V.xv (.bool (!decide (∀ c∈l,¬ fullC c))) fun _ V=>wn ai ?_))
  have G:=V.k [0,1,4,5,6,12,7,26]
  by_cases M:∀ c∈l,¬ fullC c
  ·refine G.cf<|wp_skip<|ae _ _<|wr fun V aw=>G.xz [(.bool false)] 4 fun ae V _ aa V V V az=>wpl_op (i:=1) rfl<|o_store1 (new:=[(.bool true)]) aa rfl rfl rfl rfl (aa.get rfl) rfl V inf4 (by simp) rfl rfl fun Y av V=>have ax:=V.size;wn aw<|wr fun aw ay=>aa.xm rfl<|Xm rfl<|Xw (.func (.func 114) #[] #[(vp I),(vp ae)]) (fun F=>rn_makeFunc (args0 ) (args2 (F.get rfl) (F.get rfl))) fun _ aa=>have hla:=check_len (Decidable.not_not.1 D);have hv:=validC_of (decide_eq_false O) (decide_eq_true U) (decide_eq_true M);have hlb:=hv.1;have aw:=(RLs.ug rIt h1c V);have ax:=(RLs.ug rCg h2c V);have ha133:RLs RIt 2 (fun b=>b<I) Y (vl A a.length c) a:=RLs.sub rIt aw (fun b h=>by have h7:=h.2;omega);have hb134:RLs RCg 3 (fun b=>b<I) Y (vl B l.length d) l:=RLs.sub rCg ax (fun b h=>by have h7:=h.2;omega);have aw:=J.ug V;have aA:=(((((((Ext.refl w).trans aq).trans ah).trans aj).trans am).trans az).gn V);wpl_op (i:=3) rfl<|o_call aa rfl rfl rfl rfl (rn_call (args5 (aa.get rfl) (aa.get rfl) rfl rfl (aa.get rfl)) rfl (by kernel_rfl)) (mergeCg_any A c a B d l (114) #[] #[(vp I),(vp ae)] (fun _ _=>by kernel_rfl) (fun u v=>#[u,v,(vp I),(vp ae)]) (fun u v=>by simp) (JA I ae Y.heap.size) (fun _ _ _ h k=>h.ext k) (a.length+l.length) (ja_step (by omega) hsa hsb) Y ha133 hb134 (mrg_len _ _) ⟨none,0,0,[],aw,av,OwnL.nil _ (Nat.le_refl _),⟨by omega,by omega,by omega⟩,Nat.le_refl _⟩) ?_
   rintro _ ak ⟨rfl,⟨Z,I,ac,aB,C,ab,ag,I,I⟩,ar⟩
   refine ⟨_,rfl,?_⟩;intro I au
   have hX148:Ext w ak:=FarX.toExt ((FarX.of_ext aA).trans ar) (fun b hb=>by omega)
   have I:=hX148.size;have I:=C.lt
   have I:=ab.lt
   obtain rfl:=ag.2.1
   have ag:OwnL RIt 2 61 Y.heap.size ak (vl Z (appL a l).length ac) (appL a l).length aB (appL a l):=ag
   have C:=C
   have ab:=ab
   refine wn ay<|have G:=au.k [0,1,4,5,6,12,7,26,8];wp_seq_k fun I J=>wr fun I I=>G.xw (.bool (appOk a l)) (fun F=>rl F rfl (ab.rule.1 0))<|Xw (.bool (!(appOk a l))) (fun F=>rn_not' (F.get rfl) rfl) fun _ G=>wn I ?_
   rcases Bool.eq_false_or_eq_true (appOk a l) with I | I
   ·refine G.cf<|wp_skip<|J _ _<|wp_seq_k fun J J=>wr fun V V=>G.xw (vl Z ((appL a l).length) ac) (fun F=>rl F rfl (C.rule.1 0))<|Xv (vi ((appL a l).length:Nat))<|Xv (vd ((65536:Int)<(((appL a l).length:Nat):Int))) fun _ G=>wn V ?_
    by_cases V:(65536:Int)<(((appL a l).length:Nat):Int)
    ·exact G.ct<|wr fun J Y=>wpl_op (i:=0) rfl<|o_store1 (new:=[v0]) G rfl rfl rfl rfl (G.get rfl) rfl C inf26 (by simp) rfl rfl fun C V J=>have C:=J.size;G.xv (vi 2) fun _ C=>wn Y<|wp_ret<|ret_then<|retS1 C rfl rfl rfl V uu26 rfl<|have hE:applyE a l=2:=(if_neg (fun q=>q (Decidable.not_not.1 D))).trans ((if_neg (fun q=>q (validC_of (decide_eq_false O) (decide_eq_true U) (decide_eq_true M)))).trans ((if_neg (by rw [I];decide)).trans (if_pos (by omega))));have C:applyV a l=[]:=if_neg (by rw [hE];decide);⟨none,0,by rw [C,hE];rfl,by rw [C];exact RLs.nil _,(((Ext.refl w).trans hX148).gn J)⟩
    exact G.cf<|wp_skip<|J _ _<|wr fun J Y=>G.xw (vl Z ((appL a l).length) ac) (fun F=>rl F rfl (C.rule.1 0)) fun _ G=>wpl_op (i:=1) rfl<|o_store1 (new:=[(vl Z ((appL a l).length) ac)]) G rfl rfl rfl rfl (G.get rfl) (G.get rfl) C inf26 (by simp) rfl rfl fun C V J=>have C:=J.size;G.xv (vi 0) fun _ C=>wn Y<|have G:=C.k [0,1,4,5,6,12,7,26,8,32,35];wp_ret<|retS1 G rfl rfl rfl V uu26 rfl<|have hE:applyE a l=0:=(if_neg (fun q=>q (Decidable.not_not.1 D))).trans ((if_neg (fun q=>q (validC_of (decide_eq_false O) (decide_eq_true U) (decide_eq_true M)))).trans ((if_neg (by rw [I];decide)).trans (if_neg (by omega))));have C:applyV a l=appL a l:=if_pos hE;have D:=OwnL.pres rIt ag ((Pres.refl ak).gn J);⟨_,_,by rw [C,hE],by rw [C];exact RLs.sub rIt (OwnL.rls rIt D) (fun b hb=>by omega),(((Ext.refl w).trans hX148).gn J)⟩
   exact G.ct<|wr fun J Y=>wpl_op (i:=0) rfl<|o_store1 (new:=[v0]) G rfl rfl rfl rfl (G.get rfl) rfl C inf26 (by simp) rfl rfl fun C V J=>have C:=J.size;G.xv (vi 400) fun _ C=>wn Y<|wp_ret<|ret_then<|retS1 C rfl rfl rfl V uu26 rfl<|have hE:applyE a l=400:=(if_neg (fun q=>q (Decidable.not_not.1 D))).trans ((if_neg (fun q=>q (validC_of (decide_eq_false O) (decide_eq_true U) (decide_eq_true M)))).trans (if_pos I));have C:applyV a l=[]:=if_neg (by rw [hE];decide);⟨none,0,by rw [C,hE];rfl,by rw [C];exact RLs.nil _,(((Ext.refl w).trans hX148).gn J)⟩
  exact G.ct<|wr fun C O=>have C:=J.ux am;wpl_op (i:=0) rfl<|o_store1 (new:=[v0]) G rfl rfl rfl rfl (G.get rfl) rfl C inf26 (by simp) rfl rfl fun C I C=>have J:=C.size;G.xv (vi 400) fun _ C=>wn O<|wp_ret<|ret_then<|retS1 C rfl rfl rfl I uu26 rfl<|have hE:applyE a l=400:=(if_neg (fun q=>q (Decidable.not_not.1 D))).trans (if_pos (validC_no3 (decide_eq_false M)));have C:applyV a l=[]:=if_neg (by rw [hE];decide);⟨none,0,by rw [C,hE];rfl,by rw [C];exact RLs.nil _,eX⟩
 exact al.xu<|Xu<|Xu<|Xv (.bool true) fun _ G=>wn ai<|have C:=G.k [0,1,4,5,6,12,7,26];C.ct<|wr fun G I=>have G:=J.ux aj;wpl_op (i:=0) rfl<|o_store1 (new:=[v0]) C rfl rfl rfl rfl (C.get rfl) rfl G inf26 (by simp) rfl rfl fun G G J=>have M:=J.size;C.xv (vi 400) fun _ C=>wn I<|wp_ret<|ret_then<|retS1 C rfl rfl rfl G uu26 rfl<|have hE:applyE a l=400:=(if_neg (fun q=>q (Decidable.not_not.1 D))).trans (if_pos (validC_no2 (decide_eq_false U)));have C:applyV a l=[]:=if_neg (by rw [hE];decide);⟨none,0,by rw [C,hE];rfl,by rw [C];exact RLs.nil _,eX⟩
theorem apply_at (a:List It) (l:List Cg) (w:World) (h1:RLs RIt 2 S1 w u a) (h2:RLs RCg 3 S2 w v l) (hsa:∀ z∈a,z.data.length≤4294967296) (hsb:∀ z∈l,z.data.length≤4294967296) :
  Calls Tryz.prog 90 #[u,v] w (fun e w'=>∃ A c,e=.returned (.tuple #[.slice A (applyV a l).length c,.int .i64 (applyE a l)])∧RLs RIt 2 (fun z=>w.heap.size≤z) w' (vl A (applyV a l).length c) (applyV a l)∧Ext w w'):=by
 obtain ⟨A,c,rfl,_⟩:=h1.form
 obtain ⟨B,d,rfl,_⟩:=h2.form
 exact apply_any (S:=fun _=>True) A c a B d l w (h1.sub rIt fun _ _=>trivial) (h2.sub rCg fun _ _=>trivial) hsa hsb
theorem isMany_any (n:Int) (w:World) :
  Calls Tryz.prog 48 #[.int .i64 n] w (fun e w'=>e=.returned (.bool (decide (1≤n∧n≤4096)))∧Ext w w'):=by
 refine calls_enter Tryz.func48 rfl rfl rfl fun _ C=>wr fun D D=>C.xv (.bool false) fun _ C=>wn D<|wr fun D D=>C.xm rfl<|Xv (vd ((1:Int)≤(n:Int)))<|Xm rfl fun _ C=>?_
 by_cases G:(1:Int)≤(n:Int)
 ·exact C.xg (vi n)<|Xg (vd ((n:Int)≤(4096:Int)))<|Xv (vd ((n:Int)≤(4096:Int)))<|Xa rfl fun _ C=>wn D<|have D:=C.k [0,2];wp_ret<|ret1 D rfl rfl<|⟨ret_bool (by simp_all),(Ext.refl w)⟩
 exact C.xu<|Xu<|Xv (.bool false)<|Xa rfl fun _ C=>wn D<|have D:=C.k [0,2];wp_ret<|ret1 D rfl rfl<|⟨ret_bool (by simp_all <;> omega),(Ext.refl w)⟩
theorem number_any (n:Nat) (w:World) (hn:n≤4294967296) :
  Calls Tryz.prog 67 #[.int .i64 (n:Nat)] w (fun e w'=>∃ A c,e=.returned (vl A 8 c)∧Fl (fun b=>w.heap.size≤b) w' 1 (vl A 8 c) 8 (byteVals (numL n 8))∧Ext w w'):=by
 refine calls_enter Tryz.func67 rfl rfl rfl fun _ C=>wr fun I I=>C.xv v0 fun _ C=>wn I<|wr fun I J=>C.xn (fun g=>(vl (some ⟨g,0,none⟩) 8 8)) (byteVals (List.replicate 8 0)) 5 (fun F=>rn_makeN El22 rfl rfl rfl (by omega) (by omega) (by simp [byteVals])) fun D O _ C I I I M=>C.xa rfl fun _ C=>wn J<|wp_seq_k fun J J=>wr fun M M=>C.xm rfl<|Xv (vi 8)<|Xv (vi 0) fun _ C=>wn M<|wp_block<|wp_loop (fun a' W=>∃ (k:Nat) (bb:List UInt8),Sl 26 [(0,(vi n)),(2,v0),(3,(vl (some ⟨D,0,none⟩) 8 8)),(7,(vi 8)),(8,(vi k))] a'∧k≤8∧bb.length=8∧(∀ j,j<k→bb.getD j 0=(numL n 8).getD j 0)∧Ext w W∧Blk W D 5 (byteVals bb)∧O.heap.size≤W.heap.size) (fun a' _=>8 - (intOf (a'.eval (.tmp 8))).toNat) ⟨0,(List.replicate 8 0),C.j,(by omega),rfl,(fun j hj=>absurd hj (by omega)),eX,I,(Nat.le_refl _)⟩ ?_
 rintro C C ⟨k,bb,C,I,M,I,U,G,O⟩
 have O:=C
 have V:=U.size
 have U:=G.lt
 have hbl:bb.length=8:=M
 refine wr fun M M=>C.xv (vd ((k:Int)<(8:Int))) fun _ C=>wn M<|wp_seq_k fun M M=>?_
 by_cases U:(k:Int)<(8:Int)
 ·refine C.ct<|wp_skip<|M _ _<|wp_seq_k fun J J=>wp_block<|wr fun M M=>C.xm rfl<|Xa rfl fun _ C=>wn M<|wp_region_lit<|C.xm rfl<|Xm rfl<|Xm rfl<|Xw (.int .u64 n) (fun F=>rn_convW uu3 uu130 (F.get rfl) (cvn_64 n (by omega)))<|Xm rfl<|Xv (vi 8)<|Xv (vi 7)<|Xm rfl<|Xw (vi (7 - k:Nat)) (fun F=>rn_subN (a:=7) (b:=k) (F.get rfl) (F.get rfl) (by omega) (by omega))<|Xw (vi (8*(7 - k):Nat)) (fun F=>rn_mulN (a:=8) (b:=7 - k) rfl (F.get rfl) (by omega))<|Xw (.int .u64 (n / 2 ^ (8*(7 - k)):Nat)) (fun F=>rn_shrU (a:=n) (n:=8*(7 - k)) (F.get rfl) (F.get rfl) (by omega))<|Xw (.int .u8 ((UInt8.ofNat (n / 2 ^ (8*(7 - k)))).toNat:Nat)) (fun F=>rn_convW uu130 uu5 (F.get rfl) (cvi_8 (n / 2 ^ (8*(7 - k)))))<|Xw (vq D (0+k)) (fun F=>rn_index1 uu22 inf5 (F.get rfl) (F.get rfl) (zl _) (by omega:(k:Int)<((8:Nat):Int))) fun _ C=>wpl_op (i:=13) rfl<|o_store1 (new:=(byteVals (bb.set k (UInt8.ofNat (n / 2 ^ (8*(7 - k))))))) C rfl rfl rfl rfl (C.get rfl) (C.get rfl) G inf5 (by rw [byteVals_len hbl];omega) rfl (byteVals_set (by omega)) fun D G D=>have M:=D.size;wn J<|have D:=C.k [0,2,3,7,8,9,4];wp_region_lit<|D.xv (vi (k+1:Nat))<|Xm rfl fun _ C=>wpList_nil ?_
  refine ⟨⟨(k+1),bb.set k (UInt8.ofNat (n / 2 ^ (8*(7 - k)))),C.j,(by omega),(by rw [List.length_set];exact hbl),(num_step (by omega) hbl I (by omega)),eX,G,(by omega)⟩,?_⟩
  rw [C.get (t:=8) rfl,O.get (t:=8) rfl];simp [intOf] <;> omega
 refine C.cf<|wp_exit<|exit_then<|exit_then<|exit_here<|J _ _<|wr fun J J=>C.xm rfl<|Xa rfl fun _ C=>wn J<|wp_ret<|ret1 C rfl rfl ?_
 have hk:k=8:=by omega
 have hq:=num_all hbl (by rw [hk] at I;exact I)
 subst hq
 exact ⟨_,_,rfl,Fl.sub (Fl.blk (S:=fun b=>b=D) (k:=1) (n:=8) (c:=8) G (by rw [byteVals_len hbl,Nat.mul_one]) (byteVals_one _) (by omega) rfl) (fun b hb=>by omega),eX⟩
theorem number_int (n:Int) (w:World) (h0:0≤n) (hn:n≤4294967296):Calls Tryz.prog 67 #[.int .i64 n] w (fun e w'=>∃ A c,e=.returned (vl A 8 c)∧Fl (fun b=>w.heap.size≤b) w' 1 (vl A 8 c) 8 (byteVals (numL n.toNat 8))∧Ext w w'):=by
 obtain ⟨k,rfl⟩:∃ k:Nat,n=(k:Int):=⟨n.toNat,by omega⟩
 exact number_any k w (by omega)
theorem joined_at (l:List (List UInt8)) (w:World) (hl:RBss S w v l) (he:l.flatten.length=n) (hn:n≤140737488355328) :
  Calls Tryz.prog 66 #[v] w (fun e w'=>∃ A c,e=.returned (vl A n c)∧Fl (fun b=>w.heap.size≤b) w' 1 (vl A n c) n (byteVals l.flatten)∧Ext w w'):=by
 refine calls_enter Tryz.func66 rfl rfl rfl fun _ C=>wr fun D D=>C.xv v0 fun _ C=>wn D<|wr fun D G=>C.xm rfl fun _ C=>C.xc (concat_at l _ (RBss.ext hl (Ext.refl w)) he hn) ?_
 rintro _ M ⟨C,C,rfl,I,J⟩
 refine ⟨_,rfl,?_⟩;intro C C;have D:=J.size
 exact C.xa rfl fun _ C=>wn G<|wp_ret<|ret1 C rfl rfl<|⟨_,_,rfl,Fl.sub (I.ext (Ext.refl M)) (fun b hb=>hb),eX⟩
theorem nofull1 (hx:l[k]?=some x) (h:x.gone=false):∀ y,l[k]?=some y→¬ fullC y:=fun y hy hq=>by
 rw [hx] at hy;injection hy with hy;subst hy
 have h1:=hq.1
 rw [h] at h1;cases h1
theorem nofull2 (hx:l[k]?=some x) (h:x.data.length=0):∀ y,l[k]?=some y→¬ fullC y:=fun y hy hq=>by
 rw [hx] at hy;injection hy with hy;subst hy
 have:=hq.2;omega
theorem valid_all (h:∀ j,j<k→nameAt (cgNames l) j∧∀ x,l[j]?=some x→¬ fullC x) (hk:l.length≤k):decide ((l.length:Int)≤(65536:Int))=decide (validC l):=by
 have h1:named (cgNames l):=fun j hj=>(h j (by simp [cgNames] at hj;omega)).1
 have h2:∀ c∈l,¬ fullC c:=all_mem (fun j hj=>(h j hj).2) hk
 by_cases q:l.length≤65536
 ·rw [decide_eq_true (show (l.length:Int)≤65536 by omega),decide_eq_true (show validC l from ⟨q,h1,h2⟩)]
 ·rw [decide_eq_false (show ¬ (l.length:Int)≤65536 by omega),decide_eq_false (fun z:validC l=>q z.1)]
theorem valid_full (hx:l[k]?=some x) (h:fullC x):¬ validC l:=fun q=>q.2.2 x (List.mem_of_getElem? hx) h
theorem valid_name_no (hk:k<l.length) (h:¬ nameAt (cgNames l) k):¬ validC l:=fun q=>h (q.2.1 k (by simp [cgNames];exact hk))
theorem mvalid_any (A:Option Addr) (c:Nat) (l:List Cg) (w:World) (h:RLs RCg 3 S w (vl A l.length c) l) :
  Calls Tryz.prog 29 #[.slice A l.length c] w (fun e w'=>e=.returned (.bool (decide (validC l)))∧Ext w w'):=by
 have hc:RLs RCg 3 (Clip S w) w (vl A l.length c) l:=RLs.clip rCg h
 obtain ⟨-,hck,hcm⟩:=RLs.at h
 refine calls_enter Tryz.func29 rfl rfl rfl fun _ hF=>wr fun K1 ak=>hF.xv (.bool false) fun _ F3=>wn ak<|wp_seq_k fun K4 aD=>wr fun K5 aq=>F3.xm rfl<|Xv (vi l.length)<|Xv (vi 0) fun _ ak=>wn aq<|wp_block<|wp_loop (fun a' W=>∃ (k:Nat),Sl 55 [(0,(vl A l.length c)),(2,(.bool false)),(6,(vl A l.length c)),(7,(vi l.length)),(8,(vi k))] a'∧k≤l.length∧(∀ j,j<k→nameAt (cgNames l) j∧∀ x,l[j]?=some x→¬ fullC x)∧Ext w W∧w.heap.size≤W.heap.size) (fun a' _=>l.length - (intOf (a'.eval (.tmp 8))).toNat) ⟨0,ak.j,(by omega),(fun j hj=>absurd hj (by omega)),(Ext.refl w),(Nat.le_refl _)⟩ ?_
 rintro ak ak ⟨k,ak,aq,V,aq,aA⟩
 have ac:=ak
 have aA:=aq.size
 refine wr fun aA aA=>ak.xv (vd ((k:Int)<(l.length:Int))) fun _ Z=>wn aA<|wp_seq_k fun ak ak=>?_
 by_cases aA:(k:Int)<(l.length:Int)
 ·refine Z.ct<|wp_skip<|ak _ _<|wp_seq_k fun ak ab=>wp_block<|wr fun ak aB=>Z.xm rfl fun _ au=>?_
  have ak:=RLs.ext rCg hc aq
  obtain ⟨ax,aK,C,aq,az,D,aq,aF,aJ⟩:=RLs.get ak (by omega:k<l.length)
  obtain ⟨O,U,rfl,aH⟩:=aJ
  have ak:=(Fl.cel aH).2.1
  refine au.xw (vq ax (aK+k*3)) (fun F=>rn_indexE uu27 inf66 ((F.get rfl).trans (by rw [az])) (F.get rfl) (zl _) (il (by omega:k<l.length)) (by omega))<|Xw (.agg #[(strOf C.name),(vl O C.data.length U),(.bool C.gone)]) (fun F=>rn_loadN (cs:=[(strOf C.name),(vl O C.data.length U),(.bool C.gone)]) (F.get rfl) uu66 rfl inf66 aF) fun _ ak=>ak.xz [(strOf ([])),v0,(.bool false)] 66 fun G ak _ ak aq aq aq au=>ak.xa rfl fun _ ak=>ak.xs rfl aq (fun aq aq au=>have ax:=au.size;wn aB<|wr fun au au=>ak.xv (vp G)<|Xv (vp G)<|Xw (strOf C.name) (fun F=>rl F rfl (aq.rule.1 0))<|Xw (vi C.name.length) (fun F=>rn_lenS uu9 (F.get rfl))<|Xa rfl fun _ ak=>wn au<|have au:=ak.k [0,2,6,7,8,9,4,3,5];wp_seq_k fun ak J=>sX (fun I W=>Ext I W∧Blk W G 66 [(strOf C.name),(vl O C.data.length U),(.bool C.gone)]) (fun i=>false) 34 fun I ai ak=>au.ym 0 rfl<|Yv 1 (vd ((C.name.length:Int)<(1:Int))) rfl<|Ym 2 rfl fun _ ak=>?_)
  by_cases au:(C.name.length:Int)<(1:Int)
  ·exact ak.yu 3 rfl<|Yu 4 rfl<|Yv 5 (.bool true) rfl<|Ym 6 rfl<|Yu 7 rfl<|Yu 8 rfl<|Yu 9 rfl<|Yn 10 rfl<|Yn 11 rfl<|Yn 12 rfl<|Yn 13 rfl<|Yn 14 rfl<|Yu 15 rfl<|Yv 16 (.bool true) rfl<|Ym 17 rfl<|Yu 18 rfl<|Yu 19 rfl<|Yu 20 rfl<|Yn 21 rfl<|Yn 22 rfl<|Yn 23 rfl<|Yn 24 rfl<|Yn 25 rfl<|Yn 26 rfl<|Yn 27 rfl<|Yn 28 rfl<|Yn 29 rfl<|Yn 30 rfl<|Yn 31 rfl<|Yu 32 rfl<|Yv 33 (.bool true) rfl fun _ G=>nK J<|have C:=G.k [0,2,6,7,8,9,4,3,5,50];C.ct<|wr fun G G=>C.xv (.bool false) fun _ C=>wn G<|wp_ret<|ret_block<|ret_then<|ret_then<|ret_block<|ret_then<|ret1 C rfl rfl<|⟨ret_bool (decide_eq_false (valid_name_no (k:=k) (by omega) (fun hq=>by have h1:=hq.1;rw [getCg D,okN] at h1;omega))).symm,eX⟩
  refine ak.yg 3 (vi C.name.length) rfl<|Yg 4 (vd ((64:Int)<(C.name.length:Int))) rfl<|Yv 5 (vd ((64:Int)<(C.name.length:Int))) rfl<|Ym 6 rfl<|fun _ ak=>?_
  by_cases au:(64:Int)<(C.name.length:Int)
  ·exact ak.yu 7 rfl<|Yu 8 rfl<|Yu 9 rfl<|Yn 10 rfl<|Yn 11 rfl<|Yn 12 rfl<|Yn 13 rfl<|Yn 14 rfl<|Yu 15 rfl<|Yv 16 (.bool true) rfl<|Ym 17 rfl<|Yu 18 rfl<|Yu 19 rfl<|Yu 20 rfl<|Yn 21 rfl<|Yn 22 rfl<|Yn 23 rfl<|Yn 24 rfl<|Yn 25 rfl<|Yn 26 rfl<|Yn 27 rfl<|Yn 28 rfl<|Yn 29 rfl<|Yn 30 rfl<|Yn 31 rfl<|Yu 32 rfl<|Yv 33 (.bool true) rfl fun _ G=>nK J<|have C:=G.k [0,2,6,7,8,9,4,3,5,50];C.ct<|wr fun G G=>C.xv (.bool false) fun _ C=>wn G<|wp_ret<|ret_block<|ret_then<|ret_then<|ret_block<|ret_then<|ret1 C rfl rfl<|⟨ret_bool (decide_eq_false (valid_name_no (k:=k) (by omega) (fun hq=>by have h1:=hq.1;rw [getCg D,okN] at h1;omega))).symm,eX⟩
  refine ak.yg 7 (vq G 2) rfl fun _ ak=>have au:=(aq.ext ai);have M:Ext I I∧Blk I G 66 [(strOf C.name),(vl O C.data.length U),(.bool C.gone)]:=⟨(Ext.refl I),au⟩;ak.ysg 8 (.bool C.gone) rfl M (fun F W hW=>rl F rfl (hW.2.rule.1 2))<|Yg 9 (.bool C.gone) rfl fun _ al=>?_
  rcases Bool.eq_false_or_eq_true C.gone with ae | ae
  ·refine al.yg 10 (vp G) rfl<|Yg 11 (vq G 1) rfl<|Ysg 12 (vl O C.data.length U) rfl M (fun F W hW=>rl F rfl (hW.2.rule.1 1))<|Yg 13 (vi C.data.length) rfl<|Yg 14 (vd ((0:Int)<(C.data.length:Int))) rfl<|Yg 15 (vd ((0:Int)<(C.data.length:Int))) rfl<|Yv 16 (vd ((0:Int)<(C.data.length:Int))) rfl<|Ym 17 rfl<|fun _ O=>?_
   by_cases U:(0:Int)<(C.data.length:Int)
   ·exact O.yu 18 rfl<|Yu 19 rfl<|Yu 20 rfl<|Yn 21 rfl<|Yn 22 rfl<|Yn 23 rfl<|Yn 24 rfl<|Yn 25 rfl<|Yn 26 rfl<|Yn 27 rfl<|Yn 28 rfl<|Yn 29 rfl<|Yn 30 rfl<|Yn 31 rfl<|Yu 32 rfl<|Yv 33 (.bool true) rfl fun _ G=>nK J<|have C:=G.k [0,2,6,7,8,9,4,3,5,50];C.ct<|wr fun G G=>C.xv (.bool false) fun _ C=>wn G<|wp_ret<|ret_block<|ret_then<|ret_then<|ret_block<|ret_then<|ret1 C rfl rfl<|⟨ret_bool (decide_eq_false (valid_full D ⟨ae,by have:=U;omega⟩)).symm,eX⟩
   refine O.yg 18 (vi k) rfl<|Yg 19 (vd ((0:Int)<(k:Int))) rfl<|Yg 20 (vd ((0:Int)<(k:Int))) rfl<|fun _ am=>?_
   by_cases O:(0:Int)<(k:Int)
   ·refine am.yg 21 (vl A l.length c) rfl<|Yg 22 (vi k) rfl<|Ygw 23 (vi (k - 1:Nat)) rfl (fun F W=>rn_subN (a:=k) (b:=1) (F.get rfl) rfl (by omega) (by omega))<|fun _ av=>?_
    have O:=RLs.ux rCg hc ai
    obtain ⟨ag,aj,Y,U,ay,ar,U,aE,aI⟩:=RLs.get O (by omega:(k - 1)<l.length)
    obtain ⟨O,O,rfl,aG⟩:=aI
    have O:=(Fl.cel aG).2.1
    refine av.ygw 24 (.pointer (some ⟨ag,aj+(k - 1)*3,none⟩)) rfl (fun F W=>rn_indexE uu27 inf66 ((F.get rfl).trans (by rw [ay])) (F.get rfl) (by omega:(0:Int)≤(k - 1:Nat)) (by omega:((k - 1:Nat):Int)<(l.length:Int)) (by omega))<|Yg 25 (.pointer (some ⟨ag,aj+(k - 1)*3,none⟩)) rfl<|Yg 26 (.pointer (some ⟨ag,aj+(k - 1)*3,none⟩)) rfl<|Ysg 27 (strOf Y.name) rfl M (fun F W hW=>rl F rfl ((fun j u hu=>Ext.keep ((Ext.refl I).trans hW.1) (aE j u hu)) 0 _ rfl))<|Yg 28 (vp G) rfl<|Yg 29 (vp G) rfl<|Ysg 30 (strOf C.name) rfl M (fun F W hW=>rl F rfl (hW.2.rule.1 0))<|Ygw 31 (.bool (!ltS Y.name C.name)) rfl (fun F W=>rn_geq_s (F.get rfl) (F.get rfl) rfl)<|Yg 32 (.bool (!ltS Y.name C.name)) rfl<|Yv 33 (.bool (!ltS Y.name C.name)) rfl fun _ O=>nK J ?_
    have aa:=O.k [0,2,6,7,8,9,4,3,5,50]
    rcases Bool.eq_false_or_eq_true (ltS Y.name C.name) with ah | ah
    ·refine aa.cf<|wp_skip<|ab _ _<|wp_region_lit<|aa.xv (vi (k+1:Nat))<|Xm rfl fun _ C=>wpList_nil ?_
     refine ⟨⟨(k+1),C.j,(by omega),(all_succ V ⟨name_yes (getCg D) ⟨by omega,by omega⟩ (fun _=>by rw [getCg (show l[k - 1]?=_ from (congrArg (fun z=>l[z]?) (by omega:k - 1=(k - 1))).trans ar),getCg D];exact ah),(nofull2 D (by omega))⟩),eX,(by omega)⟩,?_⟩
     rw [C.get (t:=8) rfl,ac.get (t:=8) rfl];simp [intOf] <;> omega
    exact aa.ct<|wr fun O aC=>aa.xv (.bool false) fun _ aw=>wn aC<|wp_ret<|ret_block<|ret_then<|ret_then<|ret_block<|ret_then<|ret1 aw rfl rfl<|⟨ret_bool (decide_eq_false (valid_name_no (k:=k) (by omega) (fun hq=>by have h1:=hq.2 (by omega);rw [getCg (show l[k - 1]?=_ from (congrArg (fun z=>l[z]?) (by omega:k - 1=(k - 1))).trans ar),getCg D,ah] at h1;cases h1))).symm,eX⟩
   refine am.yu 21 rfl<|Yu 22 rfl<|Yu 23 rfl<|Yu 24 rfl<|Yu 25 rfl<|Yu 26 rfl<|Yu 27 rfl<|Yu 28 rfl<|Yu 29 rfl<|Yu 30 rfl<|Yu 31 rfl<|Yg 32 (.bool false) rfl<|Yv 33 (.bool false) rfl fun _ G=>nK J<|have C:=G.k [0,2,6,7,8,9,4,3,5,50];C.cf<|wp_skip<|ab _ _<|wp_region_lit<|C.xv (vi (k+1:Nat))<|Xm rfl fun _ C=>wpList_nil ?_
   refine ⟨⟨(k+1),C.j,(by omega),(all_succ V ⟨name_yes (getCg D) ⟨by omega,by omega⟩ (fun h0=>absurd h0 (by omega)),(nofull2 D (by omega))⟩),eX,(by omega)⟩,?_⟩
   rw [C.get (t:=8) rfl,ac.get (t:=8) rfl];simp [intOf] <;> omega
  refine al.yu 10 rfl<|Yu 11 rfl<|Yu 12 rfl<|Yu 13 rfl<|Yu 14 rfl<|Yg 15 (.bool false) rfl<|Yv 16 (.bool false) rfl<|Ym 17 rfl<|Yg 18 (vi k) rfl<|Yg 19 (vd ((0:Int)<(k:Int))) rfl<|Yg 20 (vd ((0:Int)<(k:Int))) rfl<|fun _ am=>?_
  by_cases O:(0:Int)<(k:Int)
  ·refine am.yg 21 (vl A l.length c) rfl<|Yg 22 (vi k) rfl<|Ygw 23 (vi (k - 1:Nat)) rfl (fun F W=>rn_subN (a:=k) (b:=1) (F.get rfl) rfl (by omega) (by omega))<|fun _ av=>?_
   have O:=RLs.ux rCg hc ai
   obtain ⟨ag,aj,Y,U,ay,ar,U,aE,aI⟩:=RLs.get O (by omega:(k - 1)<l.length)
   obtain ⟨O,O,rfl,aG⟩:=aI
   have O:=(Fl.cel aG).2.1
   refine av.ygw 24 (.pointer (some ⟨ag,aj+(k - 1)*3,none⟩)) rfl (fun F W=>rn_indexE uu27 inf66 ((F.get rfl).trans (by rw [ay])) (F.get rfl) (by omega:(0:Int)≤(k - 1:Nat)) (by omega:((k - 1:Nat):Int)<(l.length:Int)) (by omega))<|Yg 25 (.pointer (some ⟨ag,aj+(k - 1)*3,none⟩)) rfl<|Yg 26 (.pointer (some ⟨ag,aj+(k - 1)*3,none⟩)) rfl<|Ysg 27 (strOf Y.name) rfl M (fun F W hW=>rl F rfl ((fun j u hu=>Ext.keep ((Ext.refl I).trans hW.1) (aE j u hu)) 0 _ rfl))<|Yg 28 (vp G) rfl<|Yg 29 (vp G) rfl<|Ysg 30 (strOf C.name) rfl M (fun F W hW=>rl F rfl (hW.2.rule.1 0))<|Ygw 31 (.bool (!ltS Y.name C.name)) rfl (fun F W=>rn_geq_s (F.get rfl) (F.get rfl) rfl)<|Yg 32 (.bool (!ltS Y.name C.name)) rfl<|Yv 33 (.bool (!ltS Y.name C.name)) rfl fun _ G=>nK J ?_
   have aa:=G.k [0,2,6,7,8,9,4,3,5,50]
   rcases Bool.eq_false_or_eq_true (ltS Y.name C.name) with ah | ah
   ·refine aa.cf<|wp_skip<|ab _ _<|wp_region_lit<|aa.xv (vi (k+1:Nat))<|Xm rfl fun _ C=>wpList_nil ?_
    refine ⟨⟨(k+1),C.j,(by omega),(all_succ V ⟨name_yes (getCg D) ⟨by omega,by omega⟩ (fun _=>by rw [getCg (show l[k - 1]?=_ from (congrArg (fun z=>l[z]?) (by omega:k - 1=(k - 1))).trans ar),getCg D];exact ah),(nofull1 D ae)⟩),eX,(by omega)⟩,?_⟩
    rw [C.get (t:=8) rfl,ac.get (t:=8) rfl];simp [intOf] <;> omega
   exact aa.ct<|wr fun C aC=>aa.xv (.bool false) fun _ aw=>wn aC<|wp_ret<|ret_block<|ret_then<|ret_then<|ret_block<|ret_then<|ret1 aw rfl rfl<|⟨ret_bool (decide_eq_false (valid_name_no (k:=k) (by omega) (fun hq=>by have h1:=hq.2 (by omega);rw [getCg (show l[k - 1]?=_ from (congrArg (fun z=>l[z]?) (by omega:k - 1=(k - 1))).trans ar),getCg D,ah] at h1;cases h1))).symm,eX⟩
  refine am.yu 21 rfl<|Yu 22 rfl<|Yu 23 rfl<|Yu 24 rfl<|Yu 25 rfl<|Yu 26 rfl<|Yu 27 rfl<|Yu 28 rfl<|Yu 29 rfl<|Yu 30 rfl<|Yu 31 rfl<|Yg 32 (.bool false) rfl<|Yv 33 (.bool false) rfl fun _ G=>nK J<|have C:=G.k [0,2,6,7,8,9,4,3,5,50];C.cf<|wp_skip<|ab _ _<|wp_region_lit<|C.xv (vi (k+1:Nat))<|Xm rfl fun _ C=>wpList_nil ?_
  refine ⟨⟨(k+1),C.j,(by omega),(all_succ V ⟨name_yes (getCg D) ⟨by omega,by omega⟩ (fun h0=>absurd h0 (by omega)),(nofull1 D ae)⟩),eX,(by omega)⟩,?_⟩
  rw [C.get (t:=8) rfl,ac.get (t:=8) rfl];simp [intOf] <;> omega
 exact Z.cf<|wp_exit<|exit_then<|exit_then<|exit_here<|aD _ _<|wr fun C D=>Z.xm rfl<|Xv (vi l.length)<|Xv (vd ((l.length:Int)≤(65536:Int)))<|Xa rfl fun _ C=>wn D<|wp_ret<|ret1 C rfl rfl<|⟨ret_bool (valid_all V (by omega)),eX⟩
theorem mvalid_at (l:List Cg) (w:World) (h:RLs RCg 3 S w v l) :
  Calls Tryz.prog 29 #[v] w (fun e w'=>e=.returned (.bool (decide (validC l)))∧Ext w w'):=by
 obtain ⟨A,c,rfl,_⟩:=h.form
 exact mvalid_any A c l w h
theorem rname_any (s:List UInt8) (w:World) :
  Calls Tryz.prog 72 #[strOf s] w (fun e w'=>e=.returned (.bool (decide (okN s)))∧Ext w w'):=by
 refine calls_enter Tryz.func72 rfl rfl rfl fun _ C=>wr fun D D=>C.xv (.bool false) fun _ C=>wn D<|wr fun D D=>C.xm rfl<|Xw (vi s.length) (fun F=>rn_lenS uu9 (F.get rfl))<|Xv (vd ((1:Int)≤(s.length:Int)))<|Xm rfl fun _ C=>?_
 by_cases G:(1:Int)≤(s.length:Int)
 ·exact C.xg (strOf s)<|Xgw (vi s.length) (fun F=>rn_lenS uu9 (F.get rfl))<|Xg (vd ((s.length:Int)≤(64:Int)))<|Xv (vd ((s.length:Int)≤(64:Int)))<|Xa rfl fun _ C=>wn D<|have D:=C.k [0,2];wp_ret<|ret1 D rfl rfl<|⟨ret_bool (decide_eq_decide.2 ⟨fun q=>⟨by omega,by omega⟩,fun q=>by have:=q.2;omega⟩),(Ext.refl w)⟩
 exact C.xu<|Xu<|Xu<|Xv (.bool false)<|Xa rfl fun _ C=>wn D<|have D:=C.k [0,2];wp_ret<|ret1 D rfl rfl<|⟨ret_bool (decide_eq_false (fun q=>by have:=q.1;omega)).symm,(Ext.refl w)⟩
theorem rcheck_any (A:Option Addr) (c:Nat) (l:List It) (w:World) (h:RLs RIt 2 S w (vl A l.length c) l) :
  Calls Tryz.prog 50 #[.slice A l.length c] w (fun e w'=>e=.returned (vi (checkE l))∧Ext w w'):=by
 have hc:RLs RIt 2 (Clip S w) w (vl A l.length c) l:=RLs.clip rIt h
 obtain ⟨-,hck,hcm⟩:=RLs.at h
 refine calls_enter Tryz.func50 rfl rfl rfl fun _ J=>wr fun K1 ax=>J.xv (vi 0) fun _ J=>wn ax<|wp_seq_k fun K4 ax=>wr fun K5 aA=>J.xm rfl<|Xv (vi l.length)<|Xv (vd ((65536:Int)<(l.length:Int))) fun _ J=>wn aA ?_
 by_cases aA:(65536:Int)<(l.length:Int)
 ·exact J.ct<|wr fun C D=>J.xv (vi 2) fun _ C=>wn D<|wp_ret<|ret_then<|ret1 C rfl rfl<|⟨ret_int (show checkE l=2 from if_pos (by omega)).symm,(Ext.refl w)⟩
 refine J.cf<|wp_skip<|ax _ _<|wp_seq_k fun ax az=>wr fun ax ax=>J.xv (vi 0) fun _ J=>wn ax<|wp_block<|wp_loop (fun a' W=>∃ (k:Nat),Sl 38 [(0,(vl A l.length c)),(2,(vi 0)),(6,(vd ((65536:Int)<(l.length:Int)))),(3,(vi k))] a'∧k≤l.length∧(∀ j,j<k→nameAt (itNames l) j)∧Ext w W∧w.heap.size≤W.heap.size) (fun a' _=>l.length - (intOf (a'.eval (.tmp 3))).toNat) ⟨0,J.j,(by omega),(fun j hj=>absurd hj (by omega)),(Ext.refl w),(Nat.le_refl _)⟩ ?_
 rintro J J ⟨k,J,ax,ab,ax,aA⟩
 have ak:=J
 have aA:=ax.size
 refine wp_seq_k fun ax ax=>wr fun aA aA=>J.xm rfl<|Xm rfl<|Xv (vi l.length)<|Xv (vd ((k:Int)<(l.length:Int))) fun _ O=>wn aA ?_
 by_cases J:(k:Int)<(l.length:Int)
 ·refine O.ct<|wp_skip<|ax _ _<|wp_seq_k fun J aj=>wp_block<|wp_seq_k fun J Y=>sX (fun C W=>Ext C W) (fun i=>false) 25 fun C J ax=>O.ym 0 rfl<|Ym 1 rfl fun _ au=>?_
  have ah:=RLs.ux rIt hc J
  obtain ⟨U,V,D,J,ai,G,J,al,aF⟩:=RLs.get ah (by omega:k<l.length)
  obtain ⟨J,J,rfl,aD⟩:=aF
  have J:=(Fl.cel aD).2.1
  refine au.yw 2 (vq U (V+k*2)) rfl (fun F W=>rn_indexE uu26 inf61 ((F.get rfl).trans (by rw [ai])) (F.get rfl) (zl _) (il (by omega:k<l.length)) (by omega))<|Yv 3 (vq U (V+k*2)) rfl fun _ J=>have au:Ex C C:=Ext.refl C;J.ys 4 (strOf D.name) rfl au (fun F W hW=>rl F rfl ((fun j u hu=>Ext.keep ((Ext.refl C).trans hW) (al j u hu)) 0 _ rfl)) fun _ J=>ao 5 rfl<|J.oe (rname_any D.name _) fun aG J J _ J=>?_
  refine ⟨fun _ _=>eX,?_⟩
  refine J.yw 6 (.bool (!(decide (okN D.name)))) rfl (fun F W=>rn_not' (F.get rfl) rfl)<|Ym 7 rfl<|fun _ ac=>?_
  by_cases aa:okN D.name
  ·refine ac.yg 8 (vi k) rfl<|Yg 9 (vd ((0:Int)<(k:Int))) rfl<|Yg 10 (vd ((0:Int)<(k:Int))) rfl<|fun _ ae=>?_
   by_cases J:(0:Int)<(k:Int)
   ·refine ae.yg 11 (vl A l.length c) rfl<|Yg 12 (vi k) rfl<|Ygw 13 (vi (k - 1:Nat)) rfl (fun F W=>rn_subN (a:=k) (b:=1) (F.get rfl) rfl (by omega) (by omega))<|fun _ av=>?_
    obtain ⟨ag,aq,I,J,aw,am,J,aB,aE⟩:=RLs.get ah (by omega:(k - 1)<l.length)
    obtain ⟨J,J,rfl,aC⟩:=aE
    have J:=(Fl.cel aC).2.1
    refine av.ygw 14 (.pointer (some ⟨ag,aq+(k - 1)*2,none⟩)) rfl (fun F W=>rn_indexE uu26 inf61 ((F.get rfl).trans (by rw [aw])) (F.get rfl) (by omega:(0:Int)≤(k - 1:Nat)) (by omega:((k - 1:Nat):Int)<(l.length:Int)) (by omega))<|Yg 15 (.pointer (some ⟨ag,aq+(k - 1)*2,none⟩)) rfl fun _ ag=>have J:Ext C aG:=eX;ag.ysg 16 (strOf I.name) rfl J (fun F W hW=>rl F rfl ((fun j u hu=>Ext.keep ((Ext.refl C).trans hW) (aB j u hu)) 0 _ rfl))<|Yg 17 (vl A l.length c) rfl<|Yg 18 (vi k) rfl<|Ygw 19 (vq U (V+k*2)) rfl (fun F W=>rn_indexE uu26 inf61 ((F.get rfl).trans (by rw [ai])) (F.get rfl) (zl _) (il (by omega:k<l.length)) (by omega))<|Yg 20 (vq U (V+k*2)) rfl<|Ysg 21 (strOf D.name) rfl J (fun F W hW=>rl F rfl ((fun j u hu=>Ext.keep ((Ext.refl C).trans hW) (al j u hu)) 0 _ rfl))<|Ygw 22 (.bool (!ltS I.name D.name)) rfl (fun F W=>rn_geq_s (F.get rfl) (F.get rfl) rfl)<|Yg 23 (.bool (!ltS I.name D.name)) rfl<|Yv 24 (.bool (!ltS I.name D.name)) rfl fun _ C=>nK Y ?_
    have M:=C.k [0,2,6,3,10,37]
    rcases Bool.eq_false_or_eq_true (ltS I.name D.name) with Z | Z
    ·refine M.cf<|wp_skip<|aj _ _<|wp_region_lit<|M.xm rfl<|Xv (vi (k+1:Nat))<|Xa rfl fun _ C=>wpList_nil ?_
     refine ⟨⟨(k+1),C.j,(by omega),(all_succ ab (name_yes (getIt G) aa (fun _=>by rw [getIt (show l[k - 1]?=_ from (congrArg (fun z=>l[z]?) (by omega:k - 1=(k - 1))).trans am),getIt G];exact Z))),eX,(by omega)⟩,?_⟩
     rw [C.get (t:=3) rfl,ak.get (t:=3) rfl];simp [intOf] <;> omega
    exact M.ct<|wr fun C ay=>M.xv (vi 400) fun _ ar=>wn ay<|wp_ret<|ret_block<|ret_then<|ret_then<|ret_block<|ret_then<|ret1 ar rfl rfl<|⟨ret_int (show checkE l=400 from (if_neg (by omega)).trans (if_neg (named_no (k:=k) (by simp [itNames];omega) (fun hq=>by have h1:=hq.2 (by omega);rw [getIt (show l[k - 1]?=_ from (congrArg (fun z=>l[z]?) (by omega:k - 1=(k - 1))).trans am),getIt G,Z] at h1;cases h1)))).symm,eX⟩
   refine ae.yu 11 rfl<|Yu 12 rfl<|Yu 13 rfl<|Yu 14 rfl<|Yu 15 rfl<|Yu 16 rfl<|Yu 17 rfl<|Yu 18 rfl<|Yu 19 rfl<|Yu 20 rfl<|Yu 21 rfl<|Yu 22 rfl<|Yg 23 (.bool false) rfl<|Yv 24 (.bool false) rfl fun _ D=>nK Y<|have C:=D.k [0,2,6,3,10,37];C.cf<|wp_skip<|aj _ _<|wp_region_lit<|C.xm rfl<|Xv (vi (k+1:Nat))<|Xa rfl fun _ C=>wpList_nil ?_
   refine ⟨⟨(k+1),C.j,(by omega),(all_succ ab (name_yes (getIt G) aa (fun h0=>absurd h0 (by omega)))),eX,(by omega)⟩,?_⟩
   rw [C.get (t:=3) rfl,ak.get (t:=3) rfl];simp [intOf] <;> omega
  exact ac.yu 8 rfl<|Yu 9 rfl<|Yu 10 rfl<|Yn 11 rfl<|Yn 12 rfl<|Yn 13 rfl<|Yn 14 rfl<|Yn 15 rfl<|Yn 16 rfl<|Yn 17 rfl<|Yn 18 rfl<|Yn 19 rfl<|Yn 20 rfl<|Yn 21 rfl<|Yn 22 rfl<|Yu 23 rfl<|Yv 24 (.bool true) rfl fun _ D=>nK Y<|have C:=D.k [0,2,6,3,10,37];C.ct<|wr fun D D=>C.xv (vi 400) fun _ C=>wn D<|wp_ret<|ret_block<|ret_then<|ret_then<|ret_block<|ret_then<|ret1 C rfl rfl<|⟨ret_int (show checkE l=400 from (if_neg (by omega)).trans (if_neg (named_no (k:=k) (by simp [itNames];omega) (fun hq=>by have h1:=hq.1;rw [getIt G] at h1;exact aa h1)))).symm,eX⟩
 exact O.cf<|wp_exit<|exit_then<|exit_then<|exit_here<|az _ _<|wr fun C D=>O.xv (vi 0) fun _ C=>wn D<|wp_ret<|ret1 C rfl rfl<|⟨ret_int (show checkE l=0 from (if_neg (by omega)).trans (if_pos (fun j hj=>ab j (by simp [itNames] at hj;omega)))).symm,eX⟩
theorem rcheck_at (l:List It) (w:World) (h:RLs RIt 2 S w v l) :
  Calls Tryz.prog 50 #[v] w (fun e w'=>e=.returned (vi (checkE l))∧Ext w w'):=by
 obtain ⟨A,c,rfl,_⟩:=h.form
 exact rcheck_any A c l w h
theorem rchanges_any (A:Option Addr) (c:Nat) (l:List Cg) (w:World) (h:RLs RCg 3 S w (vl A l.length c) l) :
  Calls Tryz.prog 34 #[.slice A l.length c] w (fun e w'=>e=.returned (.bool (decide (validC l)))∧Ext w w'):=by
 have hc:RLs RCg 3 (Clip S w) w (vl A l.length c) l:=RLs.clip rCg h
 obtain ⟨-,hck,hcm⟩:=RLs.at h
 refine calls_enter Tryz.func34 rfl rfl rfl fun _ hF=>wr fun K1 ak=>hF.xv (.bool false) fun _ F3=>wn ak<|wp_seq_k fun K4 aF=>wr fun K5 ak=>F3.xv (vi 0) fun _ F7=>wn ak<|wp_block<|wp_loop (fun a' W=>∃ (k:Nat),Sl 58 [(0,(vl A l.length c)),(2,(.bool false)),(3,(vi k))] a'∧k≤l.length∧(∀ j,j<k→nameAt (cgNames l) j∧∀ x,l[j]?=some x→¬ fullC x)∧Ext w W∧w.heap.size≤W.heap.size) (fun a' _=>l.length - (intOf (a'.eval (.tmp 3))).toNat) ⟨0,F7.j,(by omega),(fun j hj=>absurd hj (by omega)),(Ext.refl w),(Nat.le_refl _)⟩ ?_
 rintro a8 w9 ⟨k,ak,aC,Y,aC,aD⟩
 have ac:=ak
 have aD:=aC.size
 refine wp_seq_k fun aC aC=>wr fun aD aD=>ak.xm rfl<|Xm rfl<|Xv (vi l.length)<|Xv (vd ((k:Int)<(l.length:Int))) fun _ aa=>wn aD ?_
 by_cases ak:(k:Int)<(l.length:Int)
 ·refine aa.ct<|wp_skip<|aC _ _<|wp_seq_k fun ak ab=>wp_block<|wp_seq_k fun ak O=>sX (fun J W=>Ext J W) (fun i=>false) 45 fun J ak aC=>aa.ym 0 rfl<|Ym 1 rfl fun _ az=>?_
  have av:=RLs.ux rCg hc ak
  obtain ⟨D,G,C,ak,M,I,ak,U,aJ⟩:=RLs.get av (by omega:k<l.length)
  obtain ⟨aj,au,rfl,aH⟩:=aJ
  have ak:=(Fl.cel aH).2.1
  refine az.yw 2 (vq D (G+k*3)) rfl (fun F W=>rn_indexE uu27 inf66 ((F.get rfl).trans (by rw [M])) (F.get rfl) (zl _) (il (by omega:k<l.length)) (by omega))<|Yv 3 (vq D (G+k*3)) rfl<|Yv 4 (vq D (G+k*3)) rfl fun _ ak=>have az:Ex J J:=Ext.refl J;ak.ys 5 (strOf C.name) rfl az (fun F W hW=>rl F rfl ((fun j u hu=>Ext.keep ((Ext.refl J).trans hW) (U j u hu)) 0 _ rfl)) fun _ ak=>ao 6 rfl<|ak.oe (rname_any C.name _) fun aw ak ak _ ak=>?_
  refine ⟨fun _ _=>eX,?_⟩
  refine ak.yw 7 (.bool (!(decide (okN C.name)))) rfl (fun F W=>rn_not' (F.get rfl) rfl)<|Ym 8 rfl<|fun _ aq=>?_
  by_cases V:okN C.name
  ·refine aq.yg 9 (vi k) rfl<|Yg 10 (vd ((0:Int)<(k:Int))) rfl<|Yg 11 (vd ((0:Int)<(k:Int))) rfl<|fun _ ar=>?_
   by_cases ak:(0:Int)<(k:Int)
   ·refine ar.yg 12 (vl A l.length c) rfl<|Yg 13 (vi k) rfl<|Ygw 14 (vi (k - 1:Nat)) rfl (fun F W=>rn_subN (a:=k) (b:=1) (F.get rfl) rfl (by omega) (by omega))<|fun _ aA=>?_
    obtain ⟨ae,ai,Z,ak,aB,ah,ak,aG,aK⟩:=RLs.get av (by omega:(k - 1)<l.length)
    obtain ⟨ak,ak,rfl,aI⟩:=aK
    have ak:=(Fl.cel aI).2.1
    refine aA.ygw 15 (.pointer (some ⟨ae,ai+(k - 1)*3,none⟩)) rfl (fun F W=>rn_indexE uu27 inf66 ((F.get rfl).trans (by rw [aB])) (F.get rfl) (by omega:(0:Int)≤(k - 1:Nat)) (by omega:((k - 1:Nat):Int)<(l.length:Int)) (by omega))<|Yg 16 (.pointer (some ⟨ae,ai+(k - 1)*3,none⟩)) rfl<|Yg 17 (.pointer (some ⟨ae,ai+(k - 1)*3,none⟩)) rfl fun _ ai=>have ae:Ext J aw:=eX;ai.ysg 18 (strOf Z.name) rfl ae (fun F W hW=>rl F rfl ((fun j u hu=>Ext.keep ((Ext.refl J).trans hW) (aG j u hu)) 0 _ rfl))<|Yg 19 (vl A l.length c) rfl<|Yg 20 (vi k) rfl<|Ygw 21 (vq D (G+k*3)) rfl (fun F W=>rn_indexE uu27 inf66 ((F.get rfl).trans (by rw [M])) (F.get rfl) (zl _) (il (by omega:k<l.length)) (by omega))<|Yg 22 (vq D (G+k*3)) rfl<|Yg 23 (vq D (G+k*3)) rfl<|Ysg 24 (strOf C.name) rfl ae (fun F W hW=>rl F rfl ((fun j u hu=>Ext.keep ((Ext.refl J).trans hW) (U j u hu)) 0 _ rfl))<|Ygw 25 (.bool (!ltS Z.name C.name)) rfl (fun F W=>rn_geq_s (F.get rfl) (F.get rfl) rfl)<|Yg 26 (.bool (!ltS Z.name C.name)) rfl<|Yv 27 (.bool (!ltS Z.name C.name)) rfl<|Ym 28 rfl fun _ al=>?_
    rcases Bool.eq_false_or_eq_true (ltS Z.name C.name) with ag | ag
    ·refine al.yg 29 (vl A l.length c) rfl<|Yg 30 (vi k) rfl<|Ygw 31 (vq D (G+k*3)) rfl (fun F W=>rn_indexE uu27 inf66 ((F.get rfl).trans (by rw [M])) (F.get rfl) (zl _) (il (by omega:k<l.length)) (by omega))<|Yg 32 (vq D (G+k*3+2)) rfl<|Ysg 33 (.bool C.gone) rfl ae (fun F W hW=>rl F rfl ((fun j u hu=>Ext.keep ((Ext.refl J).trans hW) (U j u hu)) 2 _ rfl))<|Yg 34 (.bool C.gone) rfl<|fun _ aa=>?_
     rcases Bool.eq_false_or_eq_true C.gone with Z | Z
     ·refine aa.yg 35 (vl A l.length c) rfl<|Yg 36 (vi k) rfl<|Ygw 37 (vq D (G+k*3)) rfl (fun F W=>rn_indexE uu27 inf66 ((F.get rfl).trans (by rw [M])) (F.get rfl) (zl _) (il (by omega:k<l.length)) (by omega))<|Yg 38 (vq D (G+k*3)) rfl<|Yg 39 (vq D (G+k*3+1)) rfl<|Ysg 40 (vl aj C.data.length au) rfl ae (fun F W hW=>rl F rfl ((fun j u hu=>Ext.keep ((Ext.refl J).trans hW) (U j u hu)) 1 _ rfl))<|Yg 41 (vi C.data.length) rfl<|Yg 42 (vd ((C.data.length:Int)≠(0:Int))) rfl<|Yg 43 (vd ((C.data.length:Int)≠(0:Int))) rfl<|Yv 44 (vd ((C.data.length:Int)≠(0:Int))) rfl fun _ G=>nK O ?_
      have D:=G.k [0,2,3,7,54]
      by_cases G:(C.data.length:Int)≠(0:Int)
      ·exact D.ct<|wr fun C G=>D.xv (.bool false) fun _ C=>wn G<|wp_ret<|ret_block<|ret_then<|ret_then<|ret_block<|ret_then<|ret1 C rfl rfl<|⟨ret_bool (decide_eq_false (valid_full I ⟨Z,by omega⟩)).symm,eX⟩
      refine D.cf<|wp_skip<|ab _ _<|wp_region_lit<|D.xm rfl<|Xv (vi (k+1:Nat))<|Xa rfl fun _ C=>wpList_nil ?_
      refine ⟨⟨(k+1),C.j,(by omega),(all_succ Y ⟨name_yes (getCg I) V (fun _=>by rw [getCg (show l[k - 1]?=_ from (congrArg (fun z=>l[z]?) (by omega:k - 1=(k - 1))).trans ah),getCg I];exact ag),(nofull2 I (by omega))⟩),eX,(by omega)⟩,?_⟩
      rw [C.get (t:=3) rfl,ac.get (t:=3) rfl];simp [intOf] <;> omega
     refine aa.yu 35 rfl<|Yu 36 rfl<|Yu 37 rfl<|Yu 38 rfl<|Yu 39 rfl<|Yu 40 rfl<|Yu 41 rfl<|Yu 42 rfl<|Yg 43 (.bool false) rfl<|Yv 44 (.bool false) rfl fun _ D=>nK O<|have C:=D.k [0,2,3,7,54];C.cf<|wp_skip<|ab _ _<|wp_region_lit<|C.xm rfl<|Xv (vi (k+1:Nat))<|Xa rfl fun _ C=>wpList_nil ?_
     refine ⟨⟨(k+1),C.j,(by omega),(all_succ Y ⟨name_yes (getCg I) V (fun _=>by rw [getCg (show l[k - 1]?=_ from (congrArg (fun z=>l[z]?) (by omega:k - 1=(k - 1))).trans ah),getCg I];exact ag),(nofull1 I Z)⟩),eX,(by omega)⟩,?_⟩
     rw [C.get (t:=3) rfl,ac.get (t:=3) rfl];simp [intOf] <;> omega
    exact al.yu 29 rfl<|Yu 30 rfl<|Yu 31 rfl<|Yu 32 rfl<|Yu 33 rfl<|Yu 34 rfl<|Yn 35 rfl<|Yn 36 rfl<|Yn 37 rfl<|Yn 38 rfl<|Yn 39 rfl<|Yn 40 rfl<|Yn 41 rfl<|Yn 42 rfl<|Yu 43 rfl<|Yv 44 (.bool true) rfl fun _ ax=>nK O<|have am:=ax.k [0,2,3,7,54];am.ct<|wr fun Z aE=>am.xv (.bool false) fun _ ay=>wn aE<|wp_ret<|ret_block<|ret_then<|ret_then<|ret_block<|ret_then<|ret1 ay rfl rfl<|⟨ret_bool (decide_eq_false (valid_name_no (k:=k) (by omega) (fun hq=>by have h1:=hq.2 (by omega);rw [getCg (show l[k - 1]?=_ from (congrArg (fun z=>l[z]?) (by omega:k - 1=(k - 1))).trans ah),getCg I,ag] at h1;cases h1))).symm,eX⟩
   refine ar.yu 12 rfl<|Yu 13 rfl<|Yu 14 rfl<|Yu 15 rfl<|Yu 16 rfl<|Yu 17 rfl<|Yu 18 rfl<|Yu 19 rfl<|Yu 20 rfl<|Yu 21 rfl<|Yu 22 rfl<|Yu 23 rfl<|Yu 24 rfl<|Yu 25 rfl<|Yg 26 (.bool false) rfl<|Yv 27 (.bool false) rfl<|Ym 28 rfl<|Yg 29 (vl A l.length c) rfl<|Yg 30 (vi k) rfl<|Ygw 31 (vq D (G+k*3)) rfl (fun F W=>rn_indexE uu27 inf66 ((F.get rfl).trans (by rw [M])) (F.get rfl) (zl _) (il (by omega:k<l.length)) (by omega))<|Yg 32 (vq D (G+k*3+2)) rfl fun _ Z=>have ae:Ext J aw:=eX;Z.ysg 33 (.bool C.gone) rfl ae (fun F W hW=>rl F rfl ((fun j u hu=>Ext.keep ((Ext.refl J).trans hW) (U j u hu)) 2 _ rfl))<|Yg 34 (.bool C.gone) rfl fun _ aa=>?_
   rcases Bool.eq_false_or_eq_true C.gone with Z | Z
   ·refine aa.yg 35 (vl A l.length c) rfl<|Yg 36 (vi k) rfl<|Ygw 37 (vq D (G+k*3)) rfl (fun F W=>rn_indexE uu27 inf66 ((F.get rfl).trans (by rw [M])) (F.get rfl) (zl _) (il (by omega:k<l.length)) (by omega))<|Yg 38 (vq D (G+k*3)) rfl<|Yg 39 (vq D (G+k*3+1)) rfl<|Ysg 40 (vl aj C.data.length au) rfl ae (fun F W hW=>rl F rfl ((fun j u hu=>Ext.keep ((Ext.refl J).trans hW) (U j u hu)) 1 _ rfl))<|Yg 41 (vi C.data.length) rfl<|Yg 42 (vd ((C.data.length:Int)≠(0:Int))) rfl<|Yg 43 (vd ((C.data.length:Int)≠(0:Int))) rfl<|Yv 44 (vd ((C.data.length:Int)≠(0:Int))) rfl fun _ G=>nK O ?_
    have D:=G.k [0,2,3,7,54]
    by_cases G:(C.data.length:Int)≠(0:Int)
    ·exact D.ct<|wr fun C G=>D.xv (.bool false) fun _ C=>wn G<|wp_ret<|ret_block<|ret_then<|ret_then<|ret_block<|ret_then<|ret1 C rfl rfl<|⟨ret_bool (decide_eq_false (valid_full I ⟨Z,by omega⟩)).symm,eX⟩
    refine D.cf<|wp_skip<|ab _ _<|wp_region_lit<|D.xm rfl<|Xv (vi (k+1:Nat))<|Xa rfl fun _ C=>wpList_nil ?_
    refine ⟨⟨(k+1),C.j,(by omega),(all_succ Y ⟨name_yes (getCg I) V (fun h0=>absurd h0 (by omega)),(nofull2 I (by omega))⟩),eX,(by omega)⟩,?_⟩
    rw [C.get (t:=3) rfl,ac.get (t:=3) rfl];simp [intOf] <;> omega
   refine aa.yu 35 rfl<|Yu 36 rfl<|Yu 37 rfl<|Yu 38 rfl<|Yu 39 rfl<|Yu 40 rfl<|Yu 41 rfl<|Yu 42 rfl<|Yg 43 (.bool false) rfl<|Yv 44 (.bool false) rfl fun _ D=>nK O<|have C:=D.k [0,2,3,7,54];C.cf<|wp_skip<|ab _ _<|wp_region_lit<|C.xm rfl<|Xv (vi (k+1:Nat))<|Xa rfl fun _ C=>wpList_nil ?_
   refine ⟨⟨(k+1),C.j,(by omega),(all_succ Y ⟨name_yes (getCg I) V (fun h0=>absurd h0 (by omega)),(nofull1 I Z)⟩),eX,(by omega)⟩,?_⟩
   rw [C.get (t:=3) rfl,ac.get (t:=3) rfl];simp [intOf] <;> omega
  exact aq.yu 9 rfl<|Yu 10 rfl<|Yu 11 rfl<|Yn 12 rfl<|Yn 13 rfl<|Yn 14 rfl<|Yn 15 rfl<|Yn 16 rfl<|Yn 17 rfl<|Yn 18 rfl<|Yn 19 rfl<|Yn 20 rfl<|Yn 21 rfl<|Yn 22 rfl<|Yn 23 rfl<|Yn 24 rfl<|Yn 25 rfl<|Yu 26 rfl<|Yv 27 (.bool true) rfl<|Ym 28 rfl<|Yu 29 rfl<|Yu 30 rfl<|Yu 31 rfl<|Yu 32 rfl<|Yu 33 rfl<|Yu 34 rfl<|Yn 35 rfl<|Yn 36 rfl<|Yn 37 rfl<|Yn 38 rfl<|Yn 39 rfl<|Yn 40 rfl<|Yn 41 rfl<|Yn 42 rfl<|Yu 43 rfl<|Yv 44 (.bool true) rfl fun _ D=>nK O<|have C:=D.k [0,2,3,7,54];C.ct<|wr fun D D=>C.xv (.bool false) fun _ C=>wn D<|wp_ret<|ret_block<|ret_then<|ret_then<|ret_block<|ret_then<|ret1 C rfl rfl<|⟨ret_bool (decide_eq_false (valid_name_no (k:=k) (by omega) (fun hq=>by have h1:=hq.1;rw [getCg I] at h1;exact V h1))).symm,eX⟩
 exact aa.cf<|wp_exit<|exit_then<|exit_then<|exit_here<|aF _ _<|wr fun C D=>aa.xm rfl<|Xv (vi l.length)<|Xv (vd ((l.length:Int)≤(65536:Int)))<|Xa rfl fun _ C=>wn D<|have D:=C.k [0,2,3,7];wp_ret<|ret1 D rfl rfl<|⟨ret_bool (valid_all Y (by omega)),eX⟩
theorem rchanges_at (l:List Cg) (w:World) (h:RLs RCg 3 S w v l) :
  Calls Tryz.prog 34 #[v] w (fun e w'=>e=.returned (.bool (decide (validC l)))∧Ext w w'):=by
 obtain ⟨A,c,rfl,_⟩:=h.form
 exact rchanges_any A c l w h
theorem str_cells (l:List UInt8):Lib.strCells ⟨l.toArray⟩=byteVals l:=by simp [Lib.strCells,byteVals]
theorem str_size (l:List UInt8):(ByteArray.mk l.toArray).size=l.length:=by simp [ByteArray.size]
section
variable {P:Program} {w:World}
theorem run_app_str {ty e:TypeId} (E:El P t e (.int .u8 0) 1 1) (htx:P.underlying tx=some .string) {v:Value} {n:Nat} {xs:List Value} (hown:w.ownsRow base e 1 v n xs) {l:List UInt8}
    (hb:n+l.length≤140737488355328) (hbase:base≤w.heap.size) :
    ∃ v' w',(Builtin.append_ #[t,tx] ty #[v,strOf l]).run P w=.ok v' w'∧w'.ownsRow base e 1 v' (n+l.length) (xs++byteVals l)∧w.grownBy w' v.ownBlock∧(v'.ownBlock=v.ownBlock∨v'.ownBlock=some w.heap.size):=by
  obtain ⟨i,hi,hz0,hz1,hz2⟩:=info_parts E.hi
  have hs:=str_size l
  obtain ⟨v',w',hr,h1,h2,h3⟩:=Lib.run_append_own_string (P:=P) w base t tx ty e i E.ht htx hi hz0 hz1 hz2 v n xs hown ⟨l.toArray⟩ (by simp only [maxLen];omega) (by omega) hbase
  rw [hs,str_cells] at h1
  refine ⟨v',w',hr,h1,h2,?_⟩
  have hlen:xs.length=n:=by have:=hown.1;omega
  rcases hown.2 with ⟨rfl,rfl⟩ | ⟨g,cap,cur,rfl,hbg,hg,hnc,hcm,hcs,htake⟩
  · by_cases h0:l.length=0
    · rw [h3.2 ⟨rfl,by omega⟩];exact .inl rfl
    · have C:=run_append_nil_string (P:=P) w t tx ty e i (.int .u8 0) E.ht htx hi hz0 ⟨l.toArray⟩ (by omega) (by omega) (by rw [hz2];omega)
      rw [hr] at C
      injection C with C _
      rw [C];exact .inr rfl
  · by_cases hroom:n+(ByteArray.mk l.toArray).size≤cap
    · have C:=Lib.run_append_room_string (P:=P) w t tx ty e i E.ht htx hi hz1 g n cap cur hg ⟨l.toArray⟩ hroom (by omega)
      rw [hr] at C
      injection C with C _
      rw [C];exact .inl rfl
    · have holds:∀ j u,xs[j]?=some u→w.cell? ((⟨g,0,none⟩:Addr).add j)=some u:=hown.cells (g:=g) rfl
      have C:=Lib.run_append_grow_string (P:=P) w t tx ty e i (.int .u8 0) E.ht htx hi hz0 ⟨g,0,none⟩ n cap xs (by rw [hz1];omega) holds ⟨l.toArray⟩ (by omega) (by omega) (by rw [hz2];exact growslice_fits (by omega) (by omega))
      rw [hr] at C
      injection C with C _
      rw [C];exact .inr rfl
end
section
variable {N:Nat} {m:List (Nat × Value)} {a:Act} {P:Program} {ops:Array Oper} {Q:Exit→Act→World→Prop} {i:Nat} {w:World} {o:Oper} {K:Act→World→Prop} {d:Nat}
theorem o_appT {e:TypeId} (E:El P t e (.int .u8 0) 1 1) (htx:P.underlying tx=some .string) (hF:Sl N m a) (ho:ops[i]?=some o) (hw:Region.wanted o (yielded ops a.tmps)=true) (hd:o.dst=some d) (hN:Nat.blt d N=true) {s x:Operand}
    (hop:o.op=.call { callee:=.builtin .append,args:=#[s,x],argTypes:=#[t,tx] }) {B:Option Addr} {n c0:Nat} (hs:a.eval s=.slice B n c0) {l:List UInt8} (hx:a.eval x=strOf l)
    {base:Nat} {xs zs:List Value} (hown:w.ownsRow base e 1 (.slice B n c0) n xs) (hbase:base≤w.heap.size) (hb:n+l.length≤140737488355328) (hz:xs++byteVals l=zs)
    (h:∀ A' c' w' a',Sl N ((d,.slice A' (n+l.length) c')::m) a'→w'.ownsRow base e 1 (.slice A' (n+l.length) c') (n+l.length) zs→w.grownBy w' (Value.slice B n c0).ownBlock→n+l.length≤c'→c'≤9223372036854775807 →
      (∀ g,g<w.heap.size→some g≠(Value.slice B n c0).ownBlock→some g≠(Value.slice A' (n+l.length) c').ownBlock)→K a' w'):wpOp P ops Q i K a w:=by
  subst hz
  obtain ⟨v',w',hrun,h1,h2,h5⟩:=run_app_str (P:=P) (ty:=o.type) E htx hown hb hbase
  refine op_wp ho hw ?_
  unfold Oper.wp execOp
  simp only [hop,resolve,invoke,builtin,Sem.run_bind,Sem.run_pure,Result.andThen_ok,List.map_toArray,List.map_cons,List.map_nil,hs,hx,hrun]
  obtain ⟨A',c',rfl,h3,h4⟩:=own_any h1
  refine h A' c' w' _ (by rw [hd];exact hF.put hN) h1 h2 h3 h4 fun g hg hne=>?_
  rcases h5 with h5 | h5
  · rw [h5];exact hne
  · rw [h5];exact fun e=>by injection e with e;omega
end
theorem rstate_any (A:Option Addr) (c:Nat) (l:List It) (w:World) (h:RLs RIt 2 S w (vl A l.length c) l) (hs:∀ x∈l,x.data.length≤4294967296) (hl:l.length≤4294967296) :
  Calls Tryz.prog 33 #[.slice A l.length c] w (fun e w'=>e=.returned (.tuple #[.agg (byteVals (stateD l)).toArray,.int .i64 (checkE l)])∧Ext w w'):=by
 have hc:RLs RIt 2 (Clip S w) w (vl A l.length c) l:=RLs.clip rIt h
 obtain ⟨-,hck,hcm⟩:=RLs.at h
 refine calls_enter Tryz.func33 rfl rfl rfl fun _ O=>wr fun K1 ay=>O.xz (byteVals (List.replicate 32 0)) 29 fun I O _ O z6 z7 b4 aG=>O.xv (vi 0) fun _ O=>wn ay<|wr fun ay aC=>O.xm rfl fun _ O=>have ay:=(RLs.ext rIt hc aG);O.xe (rcheck_at (v:=(vl A l.length c)) l _ ay) fun O aG O _ O=>O.xa rfl fun _ O=>wn aC<|wp_seq_k fun ay ay=>wr fun aC aC=>O.xm rfl<|Xv (vd (((checkE l):Int)≠(0:Int))) fun _ O=>wn aC ?_
 by_cases M:((checkE l):Int)≠(0:Int)
 ·refine O.ct<|wr fun C I=>O.xw (.agg (byteVals (List.replicate 32 0)).toArray) (fun F=>rn_build parts0 (by kernel_rfl))<|Xm rfl fun _ C=>?_
  have D:=b4.ext aG
  refine C.xs rfl D (fun D G D=>?_) (hk:=byteVals_len (show List.length (List.replicate 32 0)=_ from List.length_replicate));have J:=D.size
  refine C.xa rfl fun _ C=>wn I<|have D:=C.k [0,2,3,4,11];wp_ret<|ret_then ?_
  exact retC1 D rfl rfl rfl G uu29 rfl (sk inf29 (byteVals_len (show List.length (List.replicate 32 0)=_ from List.length_replicate)))<|⟨by rw [show stateD l=List.replicate 32 0 from if_neg M],eX⟩
 refine O.cf<|wp_skip<|ay _ _<|wr fun ay ay=>O.xn (fun g=>(vl (some ⟨g,0,none⟩) 0 0)) [] 29 (fun F=>rn_buildSlice (parts0 ) (by kernel_rfl)) fun J aR _ O aC aC aC aQ=>O.xa rfl fun _ O=>wn ay<|have ay:=O.k [0,2,3,4,11,5];wp_seq_k fun O aF=>wr fun O aG=>ay.xv (vi 0) fun _ O=>wn aG<|wp_block<|have aG:=own_blk0 (k:=32) aC;have ay:=b4.ux aQ;wp_loop (fun a' W=>∃ (k:Nat) (Ap:Option Addr) (np:Nat) (cp:Nat) (ls:List (List UInt8)),Sl 48 [(0,(vl A l.length c)),(2,(vp I)),(3,(vi 0)),(4,(vi (checkE l))),(11,(vd (((checkE l):Int)≠(0:Int)))),(5,(vl Ap np cp)),(6,(vi k))] a'∧(k≤l.length∧np=k)∧ls=(l.take k).map itLeaf∧Ext w W∧Blk W I 29 (byteVals (List.replicate 32 0))∧W.ownsRow J 29 32 (vl Ap np cp) np (digVals ls)∧J≤W.heap.size∧aR.heap.size≤W.heap.size) (fun a' _=>l.length - (intOf (a'.eval (.tmp 6))).toNat) ⟨0,(some ⟨J,0,none⟩),0,0,[],O.j,⟨by omega,by omega⟩,rfl,eX,ay,aG,(by omega),(Nat.le_refl _)⟩ ?_
 rintro O O ⟨k,Ap,np,cp,ls,O,ay,ac,ay,Z,ah,aC,aC⟩
 have aJ:=O
 have aC:=ay.size
 have ay:=Z.lt
 have ay:=own_form0 ah
 have aN:All32 ls:=by rw [ac];exact leaves_32 _
 refine wp_seq_k fun ay ay=>wr fun aC aC=>O.xm rfl<|Xm rfl<|Xv (vi l.length)<|Xv (vd ((k:Int)<(l.length:Int))) fun _ U=>wn aC ?_
 by_cases O:(k:Int)<(l.length:Int)
 ·refine U.ct<|wp_skip<|ay _ _<|wp_seq_k fun O aH=>wp_block<|wp_seq_k fun O aI=>sX (fun D W=>Ext D W) (fun i=>false) 15 fun D ae O=>U.ym 0 rfl<|Ym 1 rfl fun _ aA=>?_
  have O:=RLs.ux rIt hc ae
  obtain ⟨V,Y,C,ay,al,G,ay,am,aO⟩:=RLs.get O (by omega:k<l.length)
  obtain ⟨O,O,rfl,aL⟩:=aO
  have O:=(Fl.cel aL).2.1
  obtain ⟨O,O⟩:=nm_ok (Decidable.not_not.1 M) G;have O:=hs C (List.mem_of_getElem? G)
  refine aA.yw 2 (vq V (Y+k*2)) rfl (fun F W=>rn_indexE uu26 inf61 ((F.get rfl).trans (by rw [al])) (F.get rfl) (zl _) (il (by omega:k<l.length)) (by omega))<|Yv 3 (vq V (Y+k*2)) rfl fun _ ay=>have O:Ex D D:=Ext.refl D;ay.ys 4 (strOf C.name) rfl O (fun F W hW=>rl F rfl ((fun j u hu=>Ext.keep ((Ext.refl D).trans hW) (am j u hu)) 0 _ rfl))<|Yw 5 (vi C.name.length) rfl (fun F W=>rn_lenS uu9 (F.get rfl))<|Ys 6 (.int .u8 ((UInt8.ofNat C.name.length).toNat:Nat)) rfl O (fun F W hW=>rn_convW uu3 uu5 (F.get rfl) (cvi_8 C.name.length))<|Ym 8 rfl<|Ym 9 rfl<|Yw 10 (vq V (Y+k*2)) rfl (fun F W=>rn_indexE uu26 inf61 ((F.get rfl).trans (by rw [al])) (F.get rfl) (zl _) (il (by omega:k<l.length)) (by omega))<|Yv 11 (vq V (Y+k*2)) rfl<|Ys 12 (strOf C.name) rfl O (fun F W hW=>rl F rfl ((fun j u hu=>Ext.keep ((Ext.refl D).trans hW) (am j u hu)) 0 _ rfl)) fun _ D=>ao 7 rfl<|D.on (fun g=>(vl (some ⟨g,0,none⟩) 1 1)) [(.int .u8 ((UInt8.ofNat C.name.length).toNat:Nat))] 5 rfl (fun F=>rn_buildSlice (parts1 (F.get rfl)) (by kernel_rfl)) fun aa Y _ D O O O au=>?_
  refine ⟨fun _ _=>eX,?_⟩
  refine ao 13 rfl<|have V:=(own_blkN (k:=1) (n:=1) (cs:=byteVals ([(UInt8.ofNat C.name.length)])) O rfl (by omega));have ag:=(own_ext (own_ext ah ae) au);have al:=ag;have aB:Apart (vl Ap np cp) (vl (some ⟨aa,0,none⟩) 1 1):=(Apart.types ag (own_blkN (k:=1) (n:=1) (cs:=byteVals ([(UInt8.ofNat C.name.length)])) O rfl (by omega)) (by decide));o_appT (zs:=byteVals (([(UInt8.ofNat C.name.length)])++C.name)) El22 uu9 D rfl rfl rfl rfl rfl (D.get rfl) (D.get rfl) V (by omega) (by omega) (byteVals_app _ _) fun ai ak O D D aw ab V V V=>?_;have V:=ab.size
  have ar:Y.grownBy O (some aa):=ab
  refine ⟨fun _ _=>eX,?_⟩
  refine D.yv 14 (vl ai (1+C.name.length) ak) rfl fun _ D=>nK aI<|have O:=D.k [0,2,3,4,11,5,6,18,7];wp_region_lit<|O.xm rfl<|Xm rfl<|Xm rfl<|Xm rfl fun _ az=>?_
  have D:=RLs.ug rIt hc ar
  obtain ⟨aj,av,aS,O,aE,aM,O,aK,aP⟩:=RLs.get D (by omega:k<l.length)
  obtain rfl:C=aS:=Option.some.inj (G.symm.trans aM)
  obtain ⟨ax,aD,rfl,aq⟩:=aP
  have D:=(Fl.cel aq).2.1
  obtain ⟨D,D⟩:=nm_ok (Decidable.not_not.1 M) G;have D:=hs C (List.mem_of_getElem? G)
  refine az.xw (vq aj (av+k*2)) (fun F=>rn_indexE uu26 inf61 ((F.get rfl).trans (by rw [aE])) (F.get rfl) (zl _) (il (by omega:k<l.length)) (by omega))<|Xv (vq aj (av+k*2+1))<|Xw (vl ax C.data.length aD) (fun F=>rl F rfl (aK 1 _ rfl)) fun _ D=>have Y:=aw;have U:=(own_grownR ag ab aB);have M:=U;have V:Apart (vl Ap np cp) (vl ai (1+C.name.length) ak):=(Apart.types U aw (by decide));wpl_op (i:=7) rfl<|o_appB (zs:=byteVals ((([(UInt8.ofNat C.name.length)])++C.name)++C.data)) El22 D rfl rfl rfl rfl rfl (D.get rfl) (D.get rfl) Y (Fl.cel aq).2.2 (by omega) (by omega) (by omega) (byteVals_app _ _) fun ab ai D D D ak M O O O=>have O:=M.size;D.xE (c:=rtagged_at ([105,116,101,109]) (v:=(vl ab ((1+C.name.length)+C.data.length) ai)) (n:=(1+C.name.length)+C.data.length) ((([(UInt8.ofNat C.name.length)])++C.name)++C.data) _ (Fl.own (S:=fun b=>aa≤b) ak (fun b hb=>hb) (byteVals_one _)) (by decide) (by omega)) (k:=fun D O D _ D=>have ah:=(own_ext (own_grownR U M V) O);have aa:=ah;D.xn (fun g=>(vl (some ⟨g,0,none⟩) 1 1)) (byteVals ((tagged ([105,116,101,109]) ((([(UInt8.ofNat C.name.length)])++C.name)++C.data)))) 29 (fun F=>rn_buildSlice (parts1 (F.get rfl)) (build_wholeE (vs:=[(.agg (byteVals (tagged ([105,116,101,109]) ((([(UInt8.ofNat C.name.length)])++C.name)++C.data))).toArray)]) El30 rfl rfl (fun v hv=>by rw [List.mem_singleton.1 hv];exact (byteVals_len (tagged_len _ _))) (by decide) (by decide) (by simp [Value.cells,byteVals]))) fun D U _ V U U ag U=>have al:=own_new (g:=D) aa (by omega);have aa:=(own_ext ah U);have aj:=aa;have ah:=(((grown_blk Y M (((Z.ext ae).ext au).gn ar) (by decide)).ext O).ext U);have Z:some I≠(Value.slice Ap np cp).ownBlock:=(own_ne aa (by omega:I<J));have J:=ah.lt;have am:some D≠(Value.slice Ap np cp).ownBlock:=al;have J:=ag.lt;have J:=(own_ext (own_ext ak O) U);have ae:=J;have ae:Apart (vl ab ((1+C.name.length)+C.data.length) ai) (vl Ap np cp):=(Apart.types J aa (by decide));wpl_op (i:=10) rfl<|o_appB (zs:=digVals (ls++([tagged ([105,116,101,109]) ((([(UInt8.ofNat C.name.length)])++C.name)++C.data)]))) El30 V rfl rfl rfl rfl rfl (V.get rfl) (V.get rfl) aj (Fl.cel (Fl.digblk (S:=fun b=>b=D) ag (All32.sing (tagged_len _ _)) (by simp [digVals,byteVals]))).2.2 (by omega) (by omega) (by omega) (digVals_app _ _) fun aa ae J J ab ag J V V V=>have ai:=J.size;have ai:=V I (by omega) Z;have I:=V D (by omega) am;ab.xa rfl fun _ D=>?_)
  refine wn aH<|have I:=D.k [0,2,3,4,11,5,6,18,7];wp_region_lit<|I.xm rfl<|Xv (vi (k+1:Nat))<|Xa rfl fun _ D=>wpList_nil ?_
  have I:=ah.grown J Z
  refine ⟨⟨(k+1),aa,np+1,ae,ls++([tagged ([105,116,101,109]) ((([(UInt8.ofNat C.name.length)])++C.name)++C.data)]),D.j,⟨by omega,by omega⟩,(by rw [ac];exact leaves_step G),(ext_row (((ext_row eX M Y (by omega)).trans O).trans U) J aj (by omega)),I,ag,(by omega),(by omega)⟩,?_⟩
  rw [D.get (t:=6) rfl,aJ.get (t:=6) rfl];simp [intOf] <;> omega
 refine U.cf<|wp_exit<|exit_then<|exit_then<|exit_here<|aF _ _<|wr fun C I=>U.xm rfl fun _ C=>have D:=(Fl.own (S:=fun b=>J≤b) ah (fun b hb=>hb) (digVals_one _));C.xE (c:=rtree_at ls _ (n:=np) (v:=(vl Ap np cp)) aN D (by omega)) (k:=fun C G C _ C=>?_)
 have D:=Z.ext G
 refine C.xs rfl D (fun D G D=>?_) (hk:=byteVals_len (treeD_len _));have J:=D.size
 refine C.xv (vi 0) fun _ C=>wn I<|have D:=C.k [0,2,3,4,11,5,6,18];wp_ret ?_
 refine retC1 D rfl rfl rfl G uu29 rfl (sk inf29 (byteVals_len (treeD_len _))) ?_
 have hk:k=l.length:=by omega
 have hl:=ac
 rw [hk,List.take_length] at hl
 exact ⟨by rw [show stateD l=treeD ls from (if_pos (Decidable.not_not.1 M)).trans (by rw [hl]),(Decidable.not_not.1 M)],eX⟩
theorem rstate_at (l:List It) (w:World) (h:RLs RIt 2 S w v l) (hs:∀ x∈l,x.data.length≤4294967296) (hl:l.length≤4294967296) :
  Calls Tryz.prog 33 #[v] w (fun e w'=>e=.returned (.tuple #[.agg (byteVals (stateD l)).toArray,.int .i64 (checkE l)])∧Ext w w'):=by
 obtain ⟨A,c,rfl,_⟩:=h.form
 exact rstate_any A c l w h hs hl
theorem message_any (C:Option Addr) (cc:Nat) (O:Option Addr) (oc:Nat) (E:Option Addr) (ec:Nat) (P:Option Addr) (pc:Nat) (v:Vr) (w:World) (h:RVp S w (vl C v.chs.length cc) (vl O v.sg.op.length oc) (vl E v.sg.cl.length ec) (vl P v.sg.path.length pc) v) (hv:validC v.chs) (hd:∀ x∈v.chs,x.data.length≤4294967296) (h0:0≤v.no) (hno:v.no≤4294967296) (hG:Glob w) :
  Calls Tryz.prog 31 #[(ag ((vi v.no)::dg v.state [(vl C v.chs.length cc),(vi v.sg.index),(vl O v.sg.op.length oc),(vl E v.sg.cl.length ec),(vl P v.sg.path.length pc)]))] w (fun e w'=>∃ A c,e=.returned (vl A 72 c)∧Fl (fun b=>w.heap.size≤b) w' 1 (vl A 72 c) 72 (byteVals v.msg)∧Ext w w'):=by
 have hc:=RVp.subB (S':=Clip S w) h (fun _ hb hs=>⟨hs,hb⟩)
 obtain ⟨-,aq,aq⟩:=RLs.at hc.chs;have aq:=(Fl.cel hc.sg.op).2.1;have aq:=(Fl.cel hc.sg.cl).2.1;have aq:=(Fl.cel hc.sg.path).2.1
 have aq:=hv.1
 refine calls_enter Tryz.func31 rfl rfl rfl fun _ hF=>wr fun K1 ay=>hF.xb rfl fun I w3 _ F9 z6 z7 b4 aq=>F9.xv v0 fun _ aq=>wn ay<|wr fun ay ay=>aq.xv v0 fun _ aq=>wn ay<|wp_seq_k fun ay aK=>wr fun ay ay=>aq.xv (vq I 33)<|Xw (vl C v.chs.length cc) (fun F=>rl F rfl ((b4.rule.1 33).trans ((at_app (k:=0) (byteVals_len hc.st)).trans rfl)))<|Xv (vi v.chs.length)<|Xv (vi 0) fun _ aq=>wn ay<|wp_block<|wp_loop (fun a' W=>∃ (k:Nat) (Ap:Option Addr) (np:Nat) (cp:Nat) (ls:List (List UInt8)),Sl 50 [(0,(ag ((vi v.no)::dg v.state [(vl C v.chs.length cc),(vi v.sg.index),(vl O v.sg.op.length oc),(vl E v.sg.cl.length ec),(vl P v.sg.path.length pc)]))),(1,(vp I)),(2,v0),(3,(vl Ap np cp)),(9,(vl C v.chs.length cc)),(10,(vi v.chs.length)),(11,(vi k))] a'∧(k≤v.chs.length∧np=k)∧ls=(v.chs.take k).map cgLeaf∧Ext w W∧Blk W I 34 ((vi v.no)::dg v.state [(vl C v.chs.length cc),(vi v.sg.index),(vl O v.sg.op.length oc),(vl E v.sg.cl.length ec),(vl P v.sg.path.length pc)])∧W.ownsRow w3.heap.size 29 32 (vl Ap np cp) np (digVals ls)∧w3.heap.size≤W.heap.size∧w3.heap.size≤W.heap.size) (fun a' _=>v.chs.length - (intOf (a'.eval (.tmp 11))).toNat) ⟨0,none,0,0,[],aq.j,⟨by omega,by omega⟩,rfl,eX,b4,(own_nil w3 w3.heap.size 29 32),(by omega),(Nat.le_refl _)⟩ ?_
 rintro aq aE ⟨k,Ap,np,cp,ls,aq,ay,al,ay,aj,ac,aJ,aJ⟩
 have aC:=aq
 have aJ:=ay.size
 have aJ:=aj.lt
 have aJ:=own_form0 ac
 have aN:All32 ls:=by rw [al];exact cgleaves_32 _
 refine wr fun aJ aJ=>aq.xv (vd ((k:Int)<(v.chs.length:Int))) fun _ ah=>wn aJ<|wp_seq_k fun aq aq=>?_
 by_cases aJ:(k:Int)<(v.chs.length:Int)
 ·refine ah.ct<|wp_skip<|aq _ _<|wp_seq_k fun aq aB=>wp_block<|wr fun aq aL=>?_
  have aq:=RLs.ext rCg hc.chs ay
  obtain ⟨aG,aP,D,ay,aH,ak,ay,aM,aO⟩:=RLs.get aq (by omega:k<v.chs.length)
  obtain ⟨V,Y,rfl,aw⟩:=aO
  have aq:=(Fl.cel aw).2.1
  obtain ⟨aq,aq⟩:=valid_name hv ak;have aq:=hd D (List.mem_of_getElem? ak)
  refine ah.xw (vq aG (aP+k*3)) (fun F=>rn_indexE uu27 inf66 ((F.get rfl).trans (by rw [aH])) (F.get rfl) (zl _) (il (by omega:k<v.chs.length)) (by omega))<|Xw (.agg #[(strOf D.name),(vl V D.data.length Y),(.bool D.gone)]) (fun F=>rn_loadN (cs:=[(strOf D.name),(vl V D.data.length Y),(.bool D.gone)]) (F.get rfl) uu66 rfl inf66 aM) fun _ aq=>aq.xz [(strOf ([])),v0,(.bool false)] 66 fun G aq _ aq ay ay ar Z=>aq.xs rfl ar (fun ay ay M=>have aG:=M.size;wn aL<|wr fun aG aH=>aq.xv (vp G)<|Xv (vp G)<|Xw (strOf D.name) (fun F=>rl F rfl (ay.rule.1 0))<|Xw (vi D.name.length) (fun F=>rn_lenS uu9 (F.get rfl))<|Xw (.int .u8 ((UInt8.ofNat D.name.length).toNat:Nat)) (fun F=>rn_convW uu3 uu5 (F.get rfl) (cvi_8 D.name.length)) fun _ aq=>aq.xn (fun g=>(vl (some ⟨g,0,none⟩) 2 2)) [(.int .u8 0),(.int .u8 ((UInt8.ofNat D.name.length).toNat:Nat))] 5 (fun F=>rn_buildSlice (parts2 rfl (F.get rfl)) (by kernel_rfl)) fun J aq _ aq aG aG au U=>aq.xa rfl fun _ aG=>wn aH<|have aq:=aG.k [0,1,2,3,9,10,11,12,5,6];wp_seq_k fun aG aA=>wr fun aG aG=>aq.xv (vq G 2) fun _ aq=>have ai:=(ay.ext U);aq.xw (.bool D.gone) (fun F=>rl F rfl (ai.rule.1 2)) fun _ ae=>wn aG ?_)
  rcases Bool.eq_false_or_eq_true D.gone with av | av
  ·refine ae.ct<|wp_region_lit<|ae.xm rfl<|Xw (vq J (0+0)) (fun F=>rn_index1 uu22 inf5 (F.get rfl) rfl (by omega:(0:Int)≤0) (by omega:(0:Int)<((2:Nat):Int))) fun _ aq=>wpl_op (i:=2) rfl<|o_store1 (new:=[(.int .u8 1),(.int .u8 ((UInt8.ofNat D.name.length).toNat:Nat))]) aq rfl rfl rfl rfl (aq.get rfl) rfl au inf5 (by simp) rfl rfl fun ay az aa=>have ay:=aa.size;wn aA<|wp_region_lit<|aq.xm rfl<|Xm rfl<|Xv (vp G)<|Xv (vp G) fun _ aq=>have ay:=(ai.gn aa);aq.xw (strOf D.name) (fun F=>rl F rfl (ay.rule.1 0)) fun _ aq=>wpl_op (i:=5) rfl<|o_strB (l:=D.name) aq rfl rfl rfl rfl rfl (aq.get rfl) uu9 uu22 uu5 (by omega) fun aJ aH aq aq aq aG aG aG aL am=>aq.xv (vp G)<|Xv (vq G 1) fun _ aq=>have aG:=(ay.ext am);aq.xw (vl V D.data.length Y) (fun F=>rl F rfl (aG.rule.1 1)) fun _ aq=>aq.xn (fun g=>(vl (some ⟨g,0,none⟩) 3 3)) [(vl (some ⟨J,0,none⟩) 2 2),(vl (some ⟨aJ,0,none⟩) D.name.length aH),(vl V D.data.length Y)] 22 (fun F=>rn_buildSlice (parts3 (F.get rfl) (F.get rfl) (F.get rfl)) (by kernel_rfl)) fun aq aq _ aG aq aq aH ab=>?_
   have aq:=az.ux ab
   have ay:=aL.ext ab
   have az:=aw.pres (((((((Pres.refl aE).ext Z).gc M).ext U).gc aa).ext am).ext ab)
   have hn159:=Fl.blen (Fl.blk (S:=fun b=>b=J) (k:=1) (n:=2) (c:=2) (cs:=byteVals [(1:UInt8),(UInt8.ofNat D.name.length)]) aq rfl (byteVals_one _) (by omega) rfl)
   have hn160:=Fl.blen ay
   have hn161:=Fl.blen az
   have hn162:([[(1:UInt8),(UInt8.ofNat D.name.length)],D.name,D.data]).flatten.length=2+D.name.length+D.data.length:=by simp only [List.flatten_cons,List.flatten_nil,List.length_append,List.length_nil];omega
   refine aG.xC (c:=joined_at [[(1:UInt8),(UInt8.ofNat D.name.length)],D.name,D.data] _ (RBss.three aH (Fl.blk (S:=fun b=>b=J) (k:=1) (n:=2) (c:=2) (cs:=byteVals [(1:UInt8),(UInt8.ofNat D.name.length)]) aq rfl (byteVals_one _) (by omega) rfl) ay az) hn162 (by omega)) (k:=?_)
   rintro _ aq ⟨aF,aI,rfl,aD,ax⟩
   rw [show ([[(1:UInt8),(UInt8.ofNat D.name.length)],D.name,D.data]).flatten=([(1:UInt8),(UInt8.ofNat D.name.length)])++D.name++D.data from by simp] at aD
   refine ⟨_,rfl,?_⟩;intro G G;have I:=ax.size
   refine G.xE (c:=tagged_at ([99,104,97,110,103,101]) (v:=(vl aF (2+D.name.length+D.data.length) aI)) (n:=(2+D.name.length+D.data.length)) (([(1:UInt8),(UInt8.ofNat D.name.length)])++D.name++D.data) _ aD (hG.ext eX) (by simp <;> omega) (by omega)) (k:=fun G Y G _ G=>have J:=(own_ext (own_ext (own_ext (own_ext (own_grownT (own_ext (own_grownT (own_ext ac Z) ar M (by decide)) U) au aa (by decide)) am) ab) ax) Y);have ae:=J;G.xn (fun g=>(vl (some ⟨g,0,none⟩) 1 1)) (byteVals ((tagged ([99,104,97,110,103,101]) (([(1:UInt8),(UInt8.ofNat D.name.length)])++D.name++D.data)))) 29 (fun F=>rn_buildSlice (parts1 (F.get rfl)) (build_wholeE (vs:=[(.agg (byteVals (tagged ([99,104,97,110,103,101]) (([(1:UInt8),(UInt8.ofNat D.name.length)])++D.name++D.data))).toArray)]) El30 rfl rfl (fun v hv=>by rw [List.mem_singleton.1 hv];exact (byteVals_len (tagged_len _ _))) (by decide) (by decide) (by simp [Value.cells,byteVals]))) fun G I _ I V V V ac=>have ah:=own_new (g:=G) ae (by omega);have ae:=(own_ext J ac);have J:=ae;have aq:some G≠(Value.slice Ap np cp).ownBlock:=ah;have ae:=V.lt;wpl_op (i:=13) rfl<|o_appB (zs:=digVals (ls++([tagged ([99,104,97,110,103,101]) (([(1:UInt8),(UInt8.ofNat D.name.length)])++D.name++D.data)]))) El30 I rfl rfl rfl rfl rfl (I.get rfl) (I.get rfl) J (Fl.cel (Fl.digblk (S:=fun b=>b=G) V (All32.sing (tagged_len _ _)) (by simp [digVals,byteVals]))).2.2 (by omega) (by omega) (by omega) (digVals_app _ _) fun V ah I I ae ar I ai ai ai=>have au:=I.size;have au:=ai G (by omega) aq;ae.xa rfl fun _ G=>wn aB<|have ae:=G.k [0,1,2,3,9,10,11,12,5,6,22];wp_region_lit<|ae.xv (vi (k+1:Nat))<|Xm rfl fun _ G=>wpList_nil ?_)
   have ae:=grown_blk J I (((((((((aj.ext Z).gn M).ext U).gn aa).ext am).ext ab).ext ax).ext Y).ext ac) (by decide)
   refine ⟨⟨(k+1),V,np+1,ah,ls++([tagged ([99,104,97,110,103,101]) (([(1:UInt8),(UInt8.ofNat D.name.length)])++D.name++D.data)]),G.j,⟨by omega,by omega⟩,(by rw [al];exact cgleaf_step ak (by rw [av];rfl)),(ext_row eX I J (by omega)),ae,ar,(by omega),(by omega)⟩,?_⟩
   rw [G.get (t:=11) rfl,aC.get (t:=11) rfl];simp [intOf] <;> omega
  refine ae.cf<|wp_skip<|aA _ _<|wp_region_lit<|ae.xm rfl<|Xm rfl<|Xv (vp G)<|Xv (vp G)<|Xw (strOf D.name) (fun F=>rl F rfl (ai.rule.1 0)) fun _ ae=>wpl_op (i:=5) rfl<|o_strB (l:=D.name) ae rfl rfl rfl rfl rfl (ae.get rfl) uu9 uu22 uu5 (by omega) fun ay aq ae ae ae aA aA aA aA ab=>ae.xv (vp G)<|Xv (vq G 1) fun _ G=>have ae:=(ai.ext ab);G.xw (vl V D.data.length Y) (fun F=>rl F rfl (ae.rule.1 1)) fun _ G=>G.xn (fun g=>(vl (some ⟨g,0,none⟩) 3 3)) [(vl (some ⟨J,0,none⟩) 2 2),(vl (some ⟨ay,0,none⟩) D.name.length aq),(vl V D.data.length Y)] 22 (fun F=>rn_buildSlice (parts3 (F.get rfl) (F.get rfl) (F.get rfl)) (by kernel_rfl)) fun G G _ ae G G ai aa=>?_
  have G:=au.ux aa
  have V:=aA.ext aa
  have Y:=aw.pres ((((((Pres.refl aE).ext Z).gc M).ext U).ext ab).ext aa)
  have hn249:=Fl.blen (Fl.blk (S:=fun b=>b=J) (k:=1) (n:=2) (c:=2) (cs:=byteVals [(0:UInt8),(UInt8.ofNat D.name.length)]) G rfl (byteVals_one _) (by omega) rfl)
  have hn250:=Fl.blen V
  have hn251:=Fl.blen Y
  have hn252:([[(0:UInt8),(UInt8.ofNat D.name.length)],D.name,D.data]).flatten.length=2+D.name.length+D.data.length:=by simp only [List.flatten_cons,List.flatten_nil,List.length_append,List.length_nil];omega
  refine ae.xC (c:=joined_at [[(0:UInt8),(UInt8.ofNat D.name.length)],D.name,D.data] _ (RBss.three ai (Fl.blk (S:=fun b=>b=J) (k:=1) (n:=2) (c:=2) (cs:=byteVals [(0:UInt8),(UInt8.ofNat D.name.length)]) G rfl (byteVals_one _) (by omega) rfl) V Y) hn252 (by omega)) (k:=?_)
  rintro _ G ⟨az,aD,rfl,ax,am⟩
  rw [show ([[(0:UInt8),(UInt8.ofNat D.name.length)],D.name,D.data]).flatten=([(0:UInt8),(UInt8.ofNat D.name.length)])++D.name++D.data from by simp] at ax
  refine ⟨_,rfl,?_⟩;intro G G;have I:=am.size
  refine G.xE (c:=tagged_at ([99,104,97,110,103,101]) (v:=(vl az (2+D.name.length+D.data.length) aD)) (n:=(2+D.name.length+D.data.length)) (([(0:UInt8),(UInt8.ofNat D.name.length)])++D.name++D.data) _ ax (hG.ext eX) (by simp <;> omega) (by omega)) (k:=fun G Y G _ G=>have J:=(own_ext (own_ext (own_ext (own_ext (own_ext (own_grownT (own_ext ac Z) ar M (by decide)) U) ab) aa) am) Y);have ae:=J;G.xn (fun g=>(vl (some ⟨g,0,none⟩) 1 1)) (byteVals ((tagged ([99,104,97,110,103,101]) (([(0:UInt8),(UInt8.ofNat D.name.length)])++D.name++D.data)))) 29 (fun F=>rn_buildSlice (parts1 (F.get rfl)) (build_wholeE (vs:=[(.agg (byteVals (tagged ([99,104,97,110,103,101]) (([(0:UInt8),(UInt8.ofNat D.name.length)])++D.name++D.data))).toArray)]) El30 rfl rfl (fun v hv=>by rw [List.mem_singleton.1 hv];exact (byteVals_len (tagged_len _ _))) (by decide) (by decide) (by simp [Value.cells,byteVals]))) fun G I _ I V V V ac=>have ah:=own_new (g:=G) ae (by omega);have ae:=(own_ext J ac);have J:=ae;have aq:some G≠(Value.slice Ap np cp).ownBlock:=ah;have ae:=V.lt;wpl_op (i:=13) rfl<|o_appB (zs:=digVals (ls++([tagged ([99,104,97,110,103,101]) (([(0:UInt8),(UInt8.ofNat D.name.length)])++D.name++D.data)]))) El30 I rfl rfl rfl rfl rfl (I.get rfl) (I.get rfl) J (Fl.cel (Fl.digblk (S:=fun b=>b=G) V (All32.sing (tagged_len _ _)) (by simp [digVals,byteVals]))).2.2 (by omega) (by omega) (by omega) (digVals_app _ _) fun V ah I I ae ar I ai ai ai=>have au:=I.size;have au:=ai G (by omega) aq;ae.xa rfl fun _ G=>wn aB<|have ae:=G.k [0,1,2,3,9,10,11,12,5,6,22];wp_region_lit<|ae.xv (vi (k+1:Nat))<|Xm rfl fun _ G=>wpList_nil ?_)
  have ae:=grown_blk J I ((((((((aj.ext Z).gn M).ext U).ext ab).ext aa).ext am).ext Y).ext ac) (by decide)
  refine ⟨⟨(k+1),V,np+1,ah,ls++([tagged ([99,104,97,110,103,101]) (([(0:UInt8),(UInt8.ofNat D.name.length)])++D.name++D.data)]),G.j,⟨by omega,by omega⟩,(by rw [al];exact cgleaf_step ak (by rw [av];rfl)),(ext_row eX I J (by omega)),ae,ar,(by omega),(by omega)⟩,?_⟩
  rw [G.get (t:=11) rfl,aC.get (t:=11) rfl];simp [intOf] <;> omega
 refine ah.cf<|wp_exit<|exit_then<|exit_then<|exit_here<|aK _ _<|wr fun Z aq=>ah.xm rfl fun _ Z=>have ah:=(Fl.own (S:=fun b=>w3.heap.size≤b) ac (fun b hb=>hb) (digVals_one _));Z.xe (tree_at ls _ (n:=np) (v:=(vl Ap np cp)) aN ah (hG.ext eX)) fun Z ah Z _ Z=>have aw:=(own_ext ac ah);have ah:=aw;Z.xz (byteVals (List.replicate 32 0)) 29 fun G Z _ Z ac ac ac aw=>?_
 have aw:=own_new (g:=G) ah (by omega)
 refine Z.xs rfl ac (fun ac ah ac=>?_) (hk:=byteVals_len (treeD_len _));have aw:=ac.size
 refine wn aq<|wp_seq_k fun ac av=>sX (fun D W=>Ext D W∧Blk W I 34 ((vi v.no)::dg v.state [(vl C v.chs.length cc),(vi v.sg.index),(vl O v.sg.op.length oc),(vl E v.sg.cl.length ec),(vl P v.sg.path.length pc)])∧Blk W G 29 (byteVals (treeD ls))) (fun i=>false) 9 fun D ac aq=>Z.yv 0 (vp I) rfl fun _ Z=>have aa:=aj.ux ac;have ab:=(ah.ext ac);have ac:Ext D D∧Blk D I 34 ((vi v.no)::dg v.state [(vl C v.chs.length cc),(vi v.sg.index),(vl O v.sg.op.length oc),(vl E v.sg.cl.length ec),(vl P v.sg.path.length pc)])∧Blk D G 29 (byteVals (treeD ls)):=⟨(Ext.refl D),aa,ab⟩;Z.ys 1 (vi v.no) rfl ac (fun F W hW=>rl F rfl ((hW.2.1.rule.1 0).trans rfl))<|Yv 3 (vq I 1) rfl<|Yw 4 (vl (some ⟨I,1,none⟩) 32 32) rfl (fun F W=>rn_arrAll uu29 inf5 (F.get rfl))<|Yw 5 (vl (some ⟨G,0,none⟩) 32 32) rfl (fun F W=>rn_arrAll uu29 inf5 (F.get rfl)) fun _ Z=>ao 2 rfl<|Z.oC (c:=number_int v.no _ (by omega) (by omega)) (k:= ?_)
 rintro _ am ⟨Y,ae,rfl,ai,U⟩
 have Z:=(Fl.cel ai).2.1
 refine ⟨_,rfl,?_⟩;intro Z ac;have Z:=U.size
 have ah:Fl (Clip (fun b=>D.heap.size≤b) am) am 1 (vl Y 8 ae) 8 (byteVals (numL (v.no).toNat 8)):=ai.clip
 have Z:=aa.ext U
 have aa:=ab.ext U
 refine ⟨fun _ _=>⟨eX,Z,aa⟩,?_⟩
 refine ao 6 rfl (ac.on (fun g=>(vl (some ⟨g,0,none⟩) 3 3)) [(vl Y 8 ae),(vl (some ⟨I,1,none⟩) 32 32),(vl (some ⟨G,0,none⟩) 32 32)] 22 rfl (fun F=>rn_buildSlice (parts3 (F.get rfl) (F.get rfl) (F.get rfl)) (by kernel_rfl)) fun D D _ U D D Y D=>?_)
 have J:=Z.ext D
 have M:=aa.ext D
 refine ⟨fun _ _=>⟨eX,J,M⟩,?_⟩
 refine ao 7 rfl ?_
 have I:=ah.ext D
 have hn366:=Fl.blen I
 have hn367:=Fl.blen (Fl.digB (A:=[(vi v.no)]) (B:=[(vl C v.chs.length cc),(vi v.sg.index),(vl O v.sg.op.length oc),(vl E v.sg.cl.length ec),(vl P v.sg.path.length pc)]) J (by simp) rfl hc.st)
 have hn368:=Fl.blen (Fl.blk (S:=fun b=>b=G) (k:=1) (n:=32) (c:=32) M (by rw [byteVals_len (treeD_len _),Nat.mul_one]) (byteVals_one _) (by omega) rfl)
 have hn369:([numL (v.no).toNat 8,v.state,treeD ls]).flatten.length=8+32+32:=by simp only [List.flatten_cons,List.flatten_nil,List.length_append,List.length_nil];omega
 refine U.oC (c:=joined_at [numL (v.no).toNat 8,v.state,treeD ls] _ (RBss.three Y I (Fl.digB (A:=[(vi v.no)]) (B:=[(vl C v.chs.length cc),(vi v.sg.index),(vl O v.sg.op.length oc),(vl E v.sg.cl.length ec),(vl P v.sg.path.length pc)]) J (by simp) rfl hc.st) (Fl.blk (S:=fun b=>b=G) (k:=1) (n:=32) (c:=32) M (by rw [byteVals_len (treeD_len _),Nat.mul_one]) (byteVals_one _) (by omega) rfl)) hn369 (by omega)) (k:=?_)
 rintro _ D ⟨ar,au,rfl,ak,V⟩
 rw [show ([numL (v.no).toNat 8,v.state,treeD ls]).flatten=(numL (v.no).toNat 8)++v.state++(treeD ls) from by simp] at ak
 refine ⟨_,rfl,?_⟩;intro D D;have G:=V.size
 have G:=J.ext V
 have I:=M.ext V
 refine ⟨fun _ _=>⟨eX,G,I⟩,?_⟩
 refine D.yv 8 (vl ar (8+32+32) au) rfl fun _ D=>nK av<|have G:=D.k [0,1,2,3,9,10,11,12,7];wp_ret<|ret1 G rfl rfl ?_
 have hk:k=v.chs.length:=by omega
 have hl:=al
 rw [hk,List.take_length] at hl
 have hm:(numL (v.no).toNat 8)++v.state++(treeD ls)=v.msg:=by rw [hl];rfl
 have hfin:=ak
 rw [hm] at hfin
 exact ⟨_,_,rfl,Fl.sub hfin (fun b hb=>by first | omega | (simp only [Clip] at hb;omega)),eX⟩
theorem message_at {p:Value} (v:Vr) (w:World) (h:RVp S w c o e p v) (hv:validC v.chs) (hd:∀ x∈v.chs,x.data.length≤4294967296) (h0:0≤v.no) (hno:v.no≤4294967296) (hG:Glob w) :
  Calls Tryz.prog 31 #[ag (vcs v.no v.state c v.sg.index o e p)] w (fun e w'=>∃ A c,e=.returned (vl A 72 c)∧Fl (fun b=>w.heap.size≤b) w' 1 (vl A 72 c) 72 (byteVals v.msg)∧Ext w w'):=by
 obtain ⟨C,cc,rfl,_⟩:=RLs.form h.chs
 obtain ⟨O,oc,rfl,_⟩:=Fl.form h.sg.op
 obtain ⟨E,ec,rfl,_⟩:=Fl.form h.sg.cl
 obtain ⟨P,pc,rfl,_⟩:=Fl.form h.sg.path
 exact message_any C cc O oc E ec P pc v w h hv hd h0 hno hG
theorem numr_step {bb:List UInt8} (hk:k+m=7) (h:bb=(numL n 8).take k):bb++[UInt8.ofNat (n / 2 ^ (8*m))]=(numL n 8).take (k+1):=by
 have h1:=numL_getD n 8 m (by omega)
 rw [show 8 - 1 - m=k by omega,List.getD_eq_getElem?_getD,List.getElem?_eq_getElem (by rw [numL_len];omega),Option.getD_some] at h1
 rw [h,List.take_add_one,List.getElem?_eq_getElem (by rw [numL_len];omega),h1,Nat.pow_mul];rfl
theorem rnumber_any (n:Nat) (w:World) (hn:n≤4294967296) :
  Calls Tryz.prog 78 #[.int .i64 (n:Nat)] w (fun e w'=>∃ A c,e=.returned (vl A 8 c)∧w'.ownsRow w.heap.size 5 1 (vl A 8 c) 8 (byteVals (numL n 8))∧Ext w w'):=by
 refine calls_enter Tryz.func78 rfl rfl rfl fun _ G=>wr fun I I=>G.xv v0 fun _ G=>wn I<|wr fun I U=>G.xn (fun g=>(vl (some ⟨g,0,none⟩) 0 0)) [] 5 (fun F=>rn_buildSlice (parts0 ) (by kernel_rfl)) fun G Z _ I M M M aa=>I.xa rfl fun _ I=>wn U<|wp_seq_k fun U O=>wr fun U U=>I.xv (vi 7) fun _ I=>wn U<|wp_block<|have U:=own_blk0 (k:=1) M;wp_loop (fun a' W=>∃ (k:Nat) (j:Int) (Ap:Option Addr) (np:Nat) (cp:Nat) (bb:List UInt8),Sl 20 [(0,(vi n)),(2,v0),(3,(vl Ap np cp)),(4,(vi j))] a'∧((k:Int)=7 - j∧k≤8∧np=k)∧bb=(numL n 8).take k∧Ext w W∧W.ownsRow G 5 1 (vl Ap np cp) np (byteVals bb)∧G≤W.heap.size∧Z.heap.size≤W.heap.size) (fun a' _=>(intOf (a'.eval (.tmp 4))+1).toNat) ⟨0,7,(some ⟨G,0,none⟩),0,0,[],I.j,⟨by omega,by omega,by omega⟩,rfl,eX,U,(by omega),(Nat.le_refl _)⟩ ?_
 rintro G G ⟨k,j,Ap,np,cp,bb,G,I,J,I,D,M,M⟩
 have Y:=G
 have M:=I.size
 have I:=own_form0 D
 refine wp_seq_k fun I I=>wr fun M M=>G.xm rfl<|Xv (vd ((0:Int)≤(j:Int))) fun _ C=>wn M ?_
 by_cases G:(0:Int)≤(j:Int)
 ·refine C.ct<|wp_skip<|I _ _<|wp_seq_k fun G V=>wp_block ?_
  obtain ⟨m,rfl⟩:∃ m:Nat,j=(m:Int):=⟨j.toNat,by omega⟩
  refine wp_region_lit<|C.xm rfl<|Xm rfl<|Xw (.int .u64 n) (fun F=>rn_convW uu3 uu130 (F.get rfl) (cvn_64 n (by omega)))<|Xm rfl<|Xw (vi (8*m:Nat)) (fun F=>rn_mulN (a:=8) (b:=m) rfl (F.get rfl) (by omega))<|Xw (.int .u64 (n / 2 ^ (8*m):Nat)) (fun F=>rn_shrU (a:=n) (n:=8*m) (F.get rfl) (F.get rfl) (by omega))<|Xw (.int .u8 ((UInt8.ofNat (n / 2 ^ (8*m))).toNat:Nat)) (fun F=>rn_convW uu130 uu5 (F.get rfl) (cvi_8 (n / 2 ^ (8*m)))) fun _ C=>have M:=D;C.xn (fun g=>(vl (some ⟨g,0,none⟩) 1 1)) [(.int .u8 ((UInt8.ofNat (n / 2 ^ (8*m))).toNat:Nat))] 5 (fun F=>rn_buildSlice (parts1 (F.get rfl)) (by kernel_rfl)) fun C G _ G I I I O=>have U:=own_new (g:=C) M (by omega);have M:=(own_ext D O);have D:=M;have Z:some C≠(Value.slice Ap np cp).ownBlock:=U;have M:=I.lt;wpl_op (i:=8) rfl<|o_appB (zs:=byteVals (bb++([(UInt8.ofNat (n / 2 ^ (8*m)))]))) El22 G rfl rfl rfl rfl rfl (G.get rfl) (G.get rfl) D (Fl.cel (Fl.blk (S:=fun b=>b=C) (k:=1) (n:=1) (c:=1) (cs:=byteVals [(UInt8.ofNat (n / 2 ^ (8*m)))]) I rfl (byteVals_one _) (by omega) rfl)).2.2 (by omega) (by omega) (by omega) (byteVals_app _ _) fun I O G G M aa G U U U=>have ab:=G.size;have ab:=U C (by omega) Z;M.xa rfl fun _ C=>wn V<|have M:=C.k [0,2,3,4,7];wp_region_lit<|M.xm rfl<|Xv (vi ((m:Nat) - 1))<|Xa rfl fun _ C=>wpList_nil ?_
  refine ⟨⟨(k+1),((m:Int) - 1),I,np+1,O,bb++([(UInt8.ofNat (n / 2 ^ (8*m)))]),C.j,⟨by omega,by omega,by omega⟩,(numr_step (by omega) J),(ext_row eX G D (by omega)),aa,(by omega),(by omega)⟩,?_⟩
  rw [C.get (t:=4) rfl,Y.get (t:=4) rfl];simp only [intOf];omega
 refine C.cf<|wp_exit<|exit_then<|exit_then<|exit_here<|O _ _<|wr fun G G=>C.xm rfl<|Xa rfl fun _ C=>wn G<|wp_ret<|ret1 C rfl rfl ?_
 have hk:k=8:=by omega
 have hq:=J;rw [hk,List.take_of_length_le (by rw [numL_len];omega)] at hq
 have hr:=own_base D (by omega:w.heap.size≤_)
 subst hq;obtain rfl:np=8:=by omega
 exact ⟨_,_,rfl,hr,eX⟩
theorem rnumber_int (n:Int) (w:World) (h0:0≤n) (hn:n≤4294967296):Calls Tryz.prog 78 #[.int .i64 n] w (fun e w'=>∃ A c,e=.returned (vl A 8 c)∧w'.ownsRow w.heap.size 5 1 (vl A 8 c) 8 (byteVals (numL n.toNat 8))∧Ext w w'):=by
 obtain ⟨k,rfl⟩:∃ k:Nat,n=(k:Int):=⟨n.toNat,by omega⟩
 exact rnumber_any k w (by omega)
theorem rleaf_any (B:Option Addr) (d:Nat) (x:Cg) (w:World) (h:Fl S w 1 (vl B x.data.length d) x.data.length (byteVals x.data)) (hn:x.name.length≤4294967296) (hd:x.data.length≤4294967296) :
  Calls Tryz.prog 77 #[ag [strOf x.name,.slice B x.data.length d,.bool x.gone]] w (fun e w'=>e=.returned (.agg (byteVals (cgLeaf x)).toArray)∧Ext w w'):=by
 have hc:Fl (Clip S w) w 1 (vl B x.data.length d) x.data.length (byteVals x.data):=h.clip;have hm:=(Fl.cel h).2.1
 refine calls_enter Tryz.func77 rfl rfl rfl fun _ C=>wr fun D G=>C.xb rfl fun C D _ D I I I J=>D.xz (byteVals (List.replicate 32 0)) 29 fun D D _ D J J M U=>wn G<|wr fun G G=>D.xv (.int .u8 0) fun _ D=>wn G<|wp_seq_k fun G J=>wr fun G O=>D.xv (vq C 2) fun _ G=>have D:=(I.ext U);G.xw (.bool x.gone) (fun F=>rl F rfl (D.rule.1 2)) fun _ G=>wn O ?_
 rcases Bool.eq_false_or_eq_true x.gone with I | I
 ·refine G.ct<|wp_region_lit<|G.xv (.int .u8 1) fun _ G=>wn J<|wr fun J Y=>G.xm rfl<|Xv (vp C)<|Xv (vp C)<|Xw (strOf x.name) (fun F=>rl F rfl (D.rule.1 0))<|Xw (vi x.name.length) (fun F=>rn_lenS uu9 (F.get rfl))<|Xw (.int .u8 ((UInt8.ofNat x.name.length).toNat:Nat)) (fun F=>rn_convW uu3 uu5 (F.get rfl) (cvi_8 x.name.length)) fun _ G=>G.xn (fun g=>(vl (some ⟨g,0,none⟩) 2 2)) [(.int .u8 1),(.int .u8 ((UInt8.ofNat x.name.length).toNat:Nat))] 5 (fun F=>rn_buildSlice (parts2 (F.get rfl) (F.get rfl)) (by kernel_rfl)) fun O Z _ G J J V U=>G.xv (vp C)<|Xv (vp C) fun _ G=>have J:=(D.ext U);G.xw (strOf x.name) (fun F=>rl F rfl (J.rule.1 0)) fun _ D=>have G:=(own_blkN (k:=1) (n:=2) (cs:=byteVals ([(1:UInt8),(UInt8.ofNat x.name.length)])) V rfl (by omega));wpl_op (i:=10) rfl<|o_appT (zs:=byteVals (([(1:UInt8),(UInt8.ofNat x.name.length)])++x.name)) El22 uu9 D rfl rfl rfl rfl rfl (D.get rfl) (D.get rfl) G (by omega) (by omega) (byteVals_app _ _) fun D D ab D V aa D G G G=>have G:=D.size;have G:Z.grownBy ab (some O):=D;V.xa rfl fun _ D=>wn Y<|have V:=D.k [0,1,2,3,6,4];wr fun D Z=>V.xm rfl<|Xv (vp C)<|Xv (vq C 1) fun _ C=>have D:=(J.gn G);C.xw (vl B x.data.length d) (fun F=>rl F rfl (D.rule.1 1)) fun _ C=>have J:=(hc.ug G);have D:=aa;wpl_op (i:=4) rfl<|o_appB (zs:=byteVals ((([(1:UInt8),(UInt8.ofNat x.name.length)])++x.name)++x.data)) El22 C rfl rfl rfl rfl rfl (C.get rfl) (C.get rfl) D (Fl.cel J).2.2 (by omega) (by omega) (by omega) (byteVals_app _ _) fun J Y C C V aa C ab ab ab=>have ab:=C.size;V.xE (c:=rtagged_at ([99,104,97,110,103,101]) (v:=(vl J ((2+x.name.length)+x.data.length) Y)) (n:=(2+x.name.length)+x.data.length) ((([(1:UInt8),(UInt8.ofNat x.name.length)])++x.name)++x.data) _ (Fl.own (S:=fun b=>O≤b) aa (fun b hb=>hb) (byteVals_one _)) (by decide) (by omega)) (k:=fun J O J _ J=>?_)
  have V:=(grown_blk D C ((M.ext U).gn G) (by decide)).ext O
  refine J.xs rfl V (fun G U G=>?_) (hk:=byteVals_len (tagged_len _ _));have M:=G.size
  exact wn Z<|have M:=J.k [0,1,2,3,6,4];wp_ret<|retC M rfl rfl U uu29 rfl (sk inf29 (byteVals_len (tagged_len _ _)))<|⟨by rw [cgLeaf,bitB,I];rfl,(((ext_row eX C D (by omega)).trans O).gn G)⟩
 refine G.cf<|wp_skip<|J _ _<|wr fun J Y=>G.xm rfl<|Xv (vp C)<|Xv (vp C)<|Xw (strOf x.name) (fun F=>rl F rfl (D.rule.1 0))<|Xw (vi x.name.length) (fun F=>rn_lenS uu9 (F.get rfl))<|Xw (.int .u8 ((UInt8.ofNat x.name.length).toNat:Nat)) (fun F=>rn_convW uu3 uu5 (F.get rfl) (cvi_8 x.name.length)) fun _ G=>G.xn (fun g=>(vl (some ⟨g,0,none⟩) 2 2)) [(.int .u8 0),(.int .u8 ((UInt8.ofNat x.name.length).toNat:Nat))] 5 (fun F=>rn_buildSlice (parts2 (F.get rfl) (F.get rfl)) (by kernel_rfl)) fun O Z _ G J J V U=>G.xv (vp C)<|Xv (vp C) fun _ G=>have J:=(D.ext U);G.xw (strOf x.name) (fun F=>rl F rfl (J.rule.1 0)) fun _ D=>have G:=(own_blkN (k:=1) (n:=2) (cs:=byteVals ([(0:UInt8),(UInt8.ofNat x.name.length)])) V rfl (by omega));wpl_op (i:=10) rfl<|o_appT (zs:=byteVals (([(0:UInt8),(UInt8.ofNat x.name.length)])++x.name)) El22 uu9 D rfl rfl rfl rfl rfl (D.get rfl) (D.get rfl) G (by omega) (by omega) (byteVals_app _ _) fun D D ab D V aa D G G G=>have G:=D.size;have G:Z.grownBy ab (some O):=D;V.xa rfl fun _ D=>wn Y<|have V:=D.k [0,1,2,3,6,4];wr fun D Z=>V.xm rfl<|Xv (vp C)<|Xv (vq C 1) fun _ C=>have D:=(J.gn G);C.xw (vl B x.data.length d) (fun F=>rl F rfl (D.rule.1 1)) fun _ C=>have J:=(hc.ug G);have D:=aa;wpl_op (i:=4) rfl<|o_appB (zs:=byteVals ((([(0:UInt8),(UInt8.ofNat x.name.length)])++x.name)++x.data)) El22 C rfl rfl rfl rfl rfl (C.get rfl) (C.get rfl) D (Fl.cel J).2.2 (by omega) (by omega) (by omega) (byteVals_app _ _) fun J Y C C V aa C ab ab ab=>have ab:=C.size;V.xE (c:=rtagged_at ([99,104,97,110,103,101]) (v:=(vl J ((2+x.name.length)+x.data.length) Y)) (n:=(2+x.name.length)+x.data.length) ((([(0:UInt8),(UInt8.ofNat x.name.length)])++x.name)++x.data) _ (Fl.own (S:=fun b=>O≤b) aa (fun b hb=>hb) (byteVals_one _)) (by decide) (by omega)) (k:=fun J O J _ J=>?_)
 have V:=(grown_blk D C ((M.ext U).gn G) (by decide)).ext O
 refine J.xs rfl V (fun G U G=>?_) (hk:=byteVals_len (tagged_len _ _));have M:=G.size
 exact wn Z<|have M:=J.k [0,1,2,3,6,4];wp_ret<|retC M rfl rfl U uu29 rfl (sk inf29 (byteVals_len (tagged_len _ _)))<|⟨by rw [cgLeaf,bitB,I];rfl,(((ext_row eX C D (by omega)).trans O).gn G)⟩
theorem rleaf_at (x:Cg) (w:World) (h:Fl S w 1 u x.data.length (byteVals x.data)) (hn:x.name.length≤4294967296) (hd:x.data.length≤4294967296):Calls Tryz.prog 77 #[ag [strOf x.name,u,.bool x.gone]] w (fun e w'=>e=.returned (.agg (byteVals (cgLeaf x)).toArray)∧Ext w w'):=by
 obtain ⟨B,d,rfl,_⟩:=h.form
 exact rleaf_any B d x w h hn hd
theorem rleaves_step (hx:l[k]?=some x):(l.take k).map cgLeaf++[cgLeaf x]=(l.take (k+1)).map cgLeaf:=by rw [List.take_add_one,hx,List.map_append];rfl
theorem rmessage_any (C:Option Addr) (cc:Nat) (O:Option Addr) (oc:Nat) (E:Option Addr) (ec:Nat) (P:Option Addr) (pc:Nat) (v:Vr) (w:World) (h:RVp S w (vl C v.chs.length cc) (vl O v.sg.op.length oc) (vl E v.sg.cl.length ec) (vl P v.sg.path.length pc) v) (hv:validC v.chs) (hd:∀ x∈v.chs,x.data.length≤4294967296) (h0:0≤v.no) (hno:v.no≤4294967296) :
  Calls Tryz.prog 36 #[(ag ((vi v.no)::dg v.state [(vl C v.chs.length cc),(vi v.sg.index),(vl O v.sg.op.length oc),(vl E v.sg.cl.length ec),(vl P v.sg.path.length pc)]))] w (fun e w'=>∃ A c,e=.returned (vl A 72 c)∧Fl (fun b=>w.heap.size≤b) w' 1 (vl A 72 c) 72 (byteVals v.msg)∧Ext w w'):=by
 have hc:=RVp.subB (S':=Clip S w) h (fun _ hb hs=>⟨hs,hb⟩)
 obtain ⟨-,ac,ac⟩:=RLs.at hc.chs;have ac:=(Fl.cel hc.sg.op).2.1;have ac:=(Fl.cel hc.sg.cl).2.1;have ac:=(Fl.cel hc.sg.path).2.1
 have ac:=hv.1
 refine calls_enter Tryz.func36 rfl rfl rfl fun _ hF=>wr fun K1 aj=>hF.xb rfl fun G w3 _ F9 z6 z7 b4 ac=>F9.xv v0 fun _ ac=>wn aj<|wr fun aj aq=>ac.xn (fun g=>(vl (some ⟨g,0,none⟩) 0 0)) [] 29 (fun F=>rn_buildSlice (parts0 ) (by kernel_rfl)) fun U aA _ ac aj aj aj av=>ac.xa rfl fun _ ac=>wn aq<|wp_seq_k fun aq au=>wr fun aq aq=>ac.xv (vi 0) fun _ ac=>wn aq<|wp_block<|have aq:=own_blk0 (k:=32) aj;have aj:=(b4.ext av);wp_loop (fun a' W=>∃ (k:Nat) (Ap:Option Addr) (np:Nat) (cp:Nat) (ls:List (List UInt8)),Sl 33 [(0,(ag ((vi v.no)::dg v.state [(vl C v.chs.length cc),(vi v.sg.index),(vl O v.sg.op.length oc),(vl E v.sg.cl.length ec),(vl P v.sg.path.length pc)]))),(1,(vp G)),(2,v0),(3,(vl Ap np cp)),(4,(vi k))] a'∧(k≤v.chs.length∧np=k)∧ls=(v.chs.take k).map cgLeaf∧Ext w W∧Blk W G 34 ((vi v.no)::dg v.state [(vl C v.chs.length cc),(vi v.sg.index),(vl O v.sg.op.length oc),(vl E v.sg.cl.length ec),(vl P v.sg.path.length pc)])∧W.ownsRow U 29 32 (vl Ap np cp) np (digVals ls)∧U≤W.heap.size∧aA.heap.size≤W.heap.size) (fun a' _=>v.chs.length - (intOf (a'.eval (.tmp 4))).toNat) ⟨0,(some ⟨U,0,none⟩),0,0,[],ac.j,⟨by omega,by omega⟩,rfl,eX,aj,aq,(by omega),(Nat.le_refl _)⟩ ?_
 rintro ac ac ⟨k,Ap,np,cp,ls,ac,aj,aa,aj,I,Y,aq,aq⟩
 have aw:=ac
 have aq:=aj.size
 have aq:=I.lt
 have aq:=own_form0 Y
 have ax:All32 ls:=by rw [aa];exact cgleaves_32 _
 refine wp_seq_k fun aq aq=>wr fun av av=>ac.xm rfl<|Xv (vq G 33)<|Xw (vl C v.chs.length cc) (fun F=>rl F rfl ((I.rule.1 33).trans ((at_app (k:=0) (byteVals_len hc.st)).trans rfl)))<|Xv (vi v.chs.length)<|Xv (vd ((k:Int)<(v.chs.length:Int))) fun _ ac=>wn av ?_
 have M:=ac.k [0,1,2,3,4,11]
 by_cases ac:(k:Int)<(v.chs.length:Int)
 ·refine M.ct<|wp_skip<|aq _ _<|wp_seq_k fun ac ak=>wp_block<|wp_region_lit<|M.xm rfl<|Xv (vq G 33)<|Xw (vl C v.chs.length cc) (fun F=>rl F rfl ((I.rule.1 33).trans ((at_app (k:=0) (byteVals_len hc.st)).trans rfl)))<|Xm rfl fun _ ae=>?_
  have ac:=RLs.ext rCg hc.chs aj
  obtain ⟨ah,ar,D,aj,ai,Z,aj,al,am⟩:=RLs.get ac (by omega:k<v.chs.length)
  obtain ⟨J,V,rfl,ab⟩:=am
  have G:=(Fl.cel ab).2.1
  obtain ⟨G,G⟩:=valid_name hv Z;have G:=hd D (List.mem_of_getElem? Z)
  refine ae.xw (vq ah (ar+k*3)) (fun F=>rn_indexE uu27 inf66 ((F.get rfl).trans (by rw [ai])) (F.get rfl) (zl _) (il (by omega:k<v.chs.length)) (by omega))<|Xw (.agg #[(strOf D.name),(vl J D.data.length V),(.bool D.gone)]) (fun F=>rn_loadN (cs:=[(strOf D.name),(vl J D.data.length V),(.bool D.gone)]) (F.get rfl) uu66 rfl inf66 al) fun _ G=>G.xE (c:=rleaf_at (u:=(vl J D.data.length V)) D _ ab (by omega) (by omega)) (k:=fun G V G _ G=>have M:=(own_ext Y V);have ab:=M;G.xn (fun g=>(vl (some ⟨g,0,none⟩) 1 1)) (byteVals ((cgLeaf D))) 29 (fun F=>rn_buildSlice (parts1 (F.get rfl)) (build_wholeE (vs:=[(.agg (byteVals (cgLeaf D)).toArray)]) El30 rfl rfl (fun v hv=>by rw [List.mem_singleton.1 hv];exact (byteVals_len (cgLeaf_len _))) (by decide) (by decide) (by simp [Value.cells,byteVals]))) fun G J _ J U U U Y=>have ac:=own_new (g:=G) ab (by omega);have ab:=(own_ext M Y);have M:=ab;have ah:some G≠(Value.slice Ap np cp).ownBlock:=ac;have ab:=U.lt;wpl_op (i:=8) rfl<|o_appB (zs:=digVals (ls++([cgLeaf D]))) El30 J rfl rfl rfl rfl rfl (J.get rfl) (J.get rfl) M (Fl.cel (Fl.digblk (S:=fun b=>b=G) U (All32.sing (cgLeaf_len _)) (by simp [digVals,byteVals]))).2.2 (by omega) (by omega) (by omega) (digVals_app _ _) fun U ac J J ab ai J ae ae ae=>have aj:=J.size;have aj:=ae G (by omega) ah;ab.xa rfl fun _ G=>wn ak<|have ab:=G.k [0,1,2,3,4,11];wp_region_lit<|ab.xm rfl<|Xv (vi (k+1:Nat))<|Xa rfl fun _ G=>wpList_nil ?_)
  have ab:=grown_blk M J ((I.ext V).ext Y) (by decide)
  refine ⟨⟨(k+1),U,np+1,ac,ls++([cgLeaf D]),G.j,⟨by omega,by omega⟩,(by rw [aa];exact rleaves_step Z),(ext_row eX J M (by omega)),ab,ai,(by omega),(by omega)⟩,?_⟩
  rw [G.get (t:=4) rfl,aw.get (t:=4) rfl];simp [intOf] <;> omega
 refine M.cf<|wp_exit<|exit_then<|exit_then<|exit_here<|au _ _<|wr fun ac ac=>M.xm rfl fun _ M=>have aj:=(Fl.own (S:=fun b=>U≤b) Y (fun b hb=>hb) (digVals_one _));M.xE (c:=rtree_at ls _ (n:=np) (v:=(vl Ap np cp)) ax aj (by omega)) (k:=fun M U M _ M=>have ak:=(own_ext Y U);have Y:=ak;M.xz (byteVals (List.replicate 32 0)) 29 fun J M _ M U U U ay=>?_)
 have az:=own_new (g:=J) Y (by omega)
 refine M.xs rfl U (fun U U ai=>?_) (hk:=byteVals_len (treeD_len _));have Y:=ai.size
 refine wn ac<|wp_seq_k fun Y ar=>sX (fun D W=>Ext D W∧Blk W G 34 ((vi v.no)::dg v.state [(vl C v.chs.length cc),(vi v.sg.index),(vl O v.sg.op.length oc),(vl E v.sg.cl.length ec),(vl P v.sg.path.length pc)])∧Blk W J 29 (byteVals (treeD ls))) (fun i=>false) 9 fun D Z Y=>M.yv 0 (vp G) rfl fun _ M=>have ae:=I.ux Z;have ah:=(U.ext Z);have I:Ext D D∧Blk D G 34 ((vi v.no)::dg v.state [(vl C v.chs.length cc),(vi v.sg.index),(vl O v.sg.op.length oc),(vl E v.sg.cl.length ec),(vl P v.sg.path.length pc)])∧Blk D J 29 (byteVals (treeD ls)):=⟨(Ext.refl D),ae,ah⟩;M.ys 1 (vi v.no) rfl I (fun F W hW=>rl F rfl ((hW.2.1.rule.1 0).trans rfl))<|Yv 3 (vq G 1) rfl<|Yw 4 (vl (some ⟨G,1,none⟩) 32 32) rfl (fun F W=>rn_arrAll uu29 inf5 (F.get rfl))<|Yw 6 (vl (some ⟨J,0,none⟩) 32 32) rfl (fun F W=>rn_arrAll uu29 inf5 (F.get rfl)) fun _ G=>ao 2 rfl<|G.oC (c:=rnumber_int v.no _ (by omega) (by omega)) (k:= ?_)
 rintro _ G ⟨al,am,rfl,ab,V⟩
 have G:=own_form0 ab
 refine ⟨_,rfl,?_⟩;intro G G;have I:=V.size
 have M:=ae.ext V
 have ac:=ah.ext V
 refine ⟨fun _ _=>⟨eX,M,ac⟩,?_⟩
 refine ao 5 rfl<|have I:=ab;have Y:=(own_ext (own_ext (own_grownB (own_ext ak ay) ai az) Z) V);have U:=Y;have ah:Apart (vl Ap np cp) (vl al 8 am):=(Apart.types Y ab (by decide));o_appB (zs:=byteVals ((numL (v.no).toNat 8)++v.state)) El22 G rfl rfl rfl rfl rfl (G.get rfl) (G.get rfl) I (Fl.cel (Fl.digB (A:=[(vi v.no)]) (B:=[(vl C v.chs.length cc),(vi v.sg.index),(vl O v.sg.op.length oc),(vl E v.sg.cl.length ec),(vl P v.sg.path.length pc)]) M (by simp) rfl hc.st)).2.2 (by omega) (by omega) (by omega) (byteVals_app _ _) fun ae ai G G U ab G V V V=>?_;have V:=G.size
 have Z:=grown_blk I G M (by decide)
 have V:=grown_blk I G ac (by decide)
 refine ⟨fun _ _=>⟨(ext_row eX G I (by omega)),Z,V⟩,?_⟩
 refine ao 7 rfl<|have M:=ab;have ac:=(own_grownR Y G ah);have Y:=ac;have Y:Apart (vl Ap np cp) (vl ae (8+32) ai):=(Apart.types ac ab (by decide));o_appB (zs:=byteVals (((numL (v.no).toNat 8)++v.state)++(treeD ls))) El22 U rfl rfl rfl rfl rfl (U.get rfl) (U.get rfl) M (Fl.cel (Fl.blk (S:=fun b=>b=J) (k:=1) (n:=32) (c:=32) V (by rw [byteVals_len (treeD_len _),Nat.mul_one]) (byteVals_one _) (by omega) rfl)).2.2 (by omega) (by omega) (by omega) (byteVals_app _ _) fun U ac J J Y ae J ab ab ab=>?_;have ab:=J.size
 have ab:=grown_blk M J Z (by decide)
 have Z:=grown_blk M J V (by decide)
 refine ⟨fun _ _=>⟨(ext_row (ext_row eX G I (by omega)) J M (by omega)),ab,Z⟩,?_⟩
 refine Y.yv 8 (vl U ((8+32)+32) ac) rfl fun _ U=>nK ar<|have V:=U.k [0,1,2,3,4,11,5];wp_ret<|ret1 V rfl rfl ?_
 have hk:k=v.chs.length:=by omega
 have hl:=aa
 rw [hk,List.take_length] at hl
 have hm:((numL (v.no).toNat 8)++v.state)++(treeD ls)=v.msg:=by rw [hl];rfl
 have hfin:=Fl.own (S:=fun b=>D.heap.size≤b) ae (fun b hb=>hb) (byteVals_one _)
 rw [hm] at hfin
 exact ⟨_,_,rfl,Fl.sub hfin (fun b hb=>by first | omega | (simp only [Clip] at hb;omega)),(ext_row (ext_row eX G I (by omega)) J M (by omega))⟩
theorem rmessage_at {p:Value} (v:Vr) (w:World) (h:RVp S w c o e p v) (hv:validC v.chs) (hd:∀ x∈v.chs,x.data.length≤4294967296) (h0:0≤v.no) (hno:v.no≤4294967296) :
  Calls Tryz.prog 36 #[ag (vcs v.no v.state c v.sg.index o e p)] w (fun e w'=>∃ A c,e=.returned (vl A 72 c)∧Fl (fun b=>w.heap.size≤b) w' 1 (vl A 72 c) 72 (byteVals v.msg)∧Ext w w'):=by
 obtain ⟨C,cc,rfl,_⟩:=RLs.form h.chs
 obtain ⟨O,oc,rfl,_⟩:=Fl.form h.sg.op
 obtain ⟨E,ec,rfl,_⟩:=Fl.form h.sg.cl
 obtain ⟨P,pc,rfl,_⟩:=Fl.form h.sg.path
 exact rmessage_any C cc O oc E ec P pc v w h hv hd h0 hno
theorem verifyv_any (C:Option Addr) (cc:Nat) (O:Option Addr) (oc:Nat) (E:Option Addr) (ec:Nat) (P:Option Addr) (pc:Nat) (pub:List UInt8) (n:Int) (v:Vr) (w:World) (h:RVp S w (vl C v.chs.length cc) (vl O v.sg.op.length oc) (vl E v.sg.cl.length ec) (vl P v.sg.path.length pc) v) (hp:pub.length=32) (hd:∀ x∈v.chs,x.data.length≤4294967296) (hG:Glob w) :
  Calls Tryz.prog 14 #[.agg (byteVals pub).toArray,.int .i64 n,(ag ((vi v.no)::dg v.state [(vl C v.chs.length cc),(vi v.sg.index),(vl O v.sg.op.length oc),(vl E v.sg.cl.length ec),(vl P v.sg.path.length pc)]))] w (fun e w'=>e=.returned (vi (verifyE pub n v))∧Ext w w'):=by
 have hc:=RVp.subB (S':=Clip S w) h (fun _ hb hs=>⟨hs,hb⟩)
 obtain ⟨-,G,G⟩:=RLs.at hc.chs;have G:=(Fl.cel hc.sg.op).2.1;have G:=(Fl.cel hc.sg.cl).2.1;have G:=(Fl.cel hc.sg.path).2.1
 refine calls_enter Tryz.func14 rfl rfl rfl fun _ G=>wr fun J ah=>G.xb rfl fun g2 G _ G J J b4 J=>G.xb rfl fun G J _ J U U U ar=>J.xv (vi 0) fun _ J=>wn ah<|wp_seq_k fun ah av=>wp_block<|wr fun ah ah=>J.xv (vp G)<|Xw (vi v.no) (fun F=>rl F rfl ((U.rule.1 0).trans rfl))<|Xv (vd ((v.no:Int)<(1:Int)))<|Xm rfl fun _ J=>?_
 by_cases ak:(v.no:Int)<(1:Int)
 ·exact J.xu<|Xu<|Xu<|Xv (.bool true)<|Xa rfl fun _ G=>wn ah<|have D:=G.k [0,1,2,3,5,6,7];D.ct<|wr fun G G=>D.xv (vi 420) fun _ D=>wn G<|wp_ret<|ret_block<|ret_then<|ret1 D rfl rfl<|⟨ret_int (show verifyE pub n v=420 from if_pos (by omega)).symm,eX⟩
 refine J.xg (vp G)<|Xgw (vi v.no) (fun F=>rl F rfl ((U.rule.1 0).trans rfl))<|Xg (vd ((4096:Int)<(v.no:Int)))<|Xv (vd ((4096:Int)<(v.no:Int)))<|Xa rfl fun _ ak=>wn ah ?_
 have J:=ak.k [0,1,2,3,5,6,7]
 by_cases ah:(4096:Int)<(v.no:Int)
 ·exact J.ct<|wr fun D G=>J.xv (vi 420) fun _ D=>wn G<|wp_ret<|ret_block<|ret_then<|ret1 D rfl rfl<|⟨ret_int (show verifyE pub n v=420 from if_pos (by omega)).symm,eX⟩
 refine J.cf<|wr fun ah ak=>J.xv (vq G 33)<|Xw (vl C v.chs.length cc) (fun F=>rl F rfl ((U.rule.1 33).trans ((at_app (k:=0) (byteVals_len hc.st)).trans rfl))) fun _ J=>have ah:=(RLs.ux rCg hc.chs ar);J.xe (mvalid_at (v:=(vl C v.chs.length cc)) v.chs _ ah) fun J J J _ J=>J.xw (.bool (!(decide (validC v.chs)))) (fun F=>rn_not' (F.get rfl) rfl)<|Xa rfl fun _ J=>wn ak ?_
 have Z:=J.k [0,1,2,3,5,6,7,16]
 by_cases V:validC v.chs
 ·refine Z.cf<|wp_seq_k fun J aj=>sX (fun D W=>Ext D W∧Blk W G 34 ((vi v.no)::dg v.state [(vl C v.chs.length cc),(vi v.sg.index),(vl O v.sg.op.length oc),(vl E v.sg.cl.length ec),(vl P v.sg.path.length pc)])∧Blk W g2 29 (byteVals pub)) (fun i=>false) 18 fun D J ah=>Z.yv 0 (vq G 34) rfl<|Yv 1 (vq G 34) rfl fun _ ah=>have aa:=U.ux J;have ab:=b4.ux J;have U:Ext D D∧Blk D G 34 ((vi v.no)::dg v.state [(vl C v.chs.length cc),(vi v.sg.index),(vl O v.sg.op.length oc),(vl E v.sg.cl.length ec),(vl P v.sg.path.length pc)])∧Blk D g2 29 (byteVals pub):=⟨(Ext.refl D),aa,ab⟩;ah.ys 2 (vi v.sg.index) rfl U (fun F W hW=>rl F rfl ((hW.2.1.rule.1 34).trans ((at_app (k:=1) (byteVals_len hc.st)).trans rfl)))<|Yv 3 (vp G) rfl<|Ys 4 (vi v.no) rfl U (fun F W hW=>rl F rfl ((hW.2.1.rule.1 0).trans rfl))<|Yv 5 (vi (v.no - 1)) rfl<|Yv 6 (vd ((v.sg.index:Int)≠(v.no - 1:Int))) rfl<|Ym 7 rfl fun _ ah=>?_
  by_cases ak:(v.sg.index:Int)≠(v.no - 1:Int)
  ·refine ah.yu 8 rfl<|Yu 9 rfl<|Yu 10 rfl<|Yu 12 rfl<|Yu 13 rfl fun _ G=>ao 11 rfl<|o_skip G rfl (unwanted_guard rfl rfl rfl G rfl (decide_eq_true ak) rfl) rfl rfl fun G G=>?_
   refine ⟨fun _ _=>⟨(Ext.refl D),aa,ab⟩,?_⟩
   refine ao 14 rfl<|o_skip G rfl (unwanted_guard rfl rfl rfl G rfl (decide_eq_true ak) rfl) rfl rfl fun G G=>?_
   refine ⟨fun _ _=>⟨(Ext.refl D),aa,ab⟩,?_⟩
   exact G.yu 15 rfl<|Yv 16 (.bool true) rfl<|Yv 17 (.bool true) rfl fun _ G=>nK aj<|have D:=G.k [0,1,2,3,5,6,7,16,21];D.ct<|wr fun G G=>D.xv (vi 131) fun _ D=>wn G<|wp_ret<|ret_block<|ret_then<|ret1 D rfl rfl<|⟨ret_int (show verifyE pub n v=131 from (if_neg (by omega)).trans ((if_neg (fun q=>q V)).trans (if_pos (.inl (by omega))))).symm,eX⟩
  refine ah.ysg 8 (.agg (byteVals pub).toArray) rfl U (fun F W hW=>rb F rfl hW.2.2 (hk:=byteVals_len hp))<|Yg 9 (vi n) rfl<|Ysg 10 (ag ((vi v.no)::dg v.state [(vl C v.chs.length cc),(vi v.sg.index),(vl O v.sg.op.length oc),(vl E v.sg.cl.length ec),(vl P v.sg.path.length pc)])) rfl U (fun F W hW=>rb F rfl hW.2.1 (hk:=len_dig1 hc.st))<|Yg 12 (vq G 34) rfl<|Ysg 13 (.agg #[(vi v.sg.index),(vl O v.sg.op.length oc),(vl E v.sg.cl.length ec),(vl P v.sg.path.length pc)]) rfl U (fun F W hW=>rn_loadN (cs:=[(vi v.sg.index),(vl O v.sg.op.length oc),(vl E v.sg.cl.length ec),(vl P v.sg.path.length pc)]) (F.get rfl) uu32 rfl inf32 (Blk.part (A:=((vi v.no)::dg v.state [(vl C v.chs.length cc)])) (M:=[(vi v.sg.index),(vl O v.sg.op.length oc),(vl E v.sg.cl.length ec),(vl P v.sg.path.length pc)]) (B:=[]) hW.2.1 (by simp) (by simp [byteVals_len hc.st]))) fun _ G=>ao 11 rfl<|have U:=(RLs.ux rCg hc.chs J);have ah:=(hc.sg.op.ux J);have ak:=(hc.sg.cl.ux J);have ar:=(hc.sg.path.ux J);G.gC (c:=message_at v _ (⟨hc.st,RLs.sub (S':=fun _=>True) rCg U fun _ _=>trivial,⟨Fl.any ah,Fl.any ak,Fl.any ar,hc.sg.o32,hc.sg.c32,hc.sg.p32⟩⟩:RVp (fun _=>True) _ _ _ _ _ v) V hd (by omega) (by omega) (hG.ext eX)) (k:= ?_)
  rintro _ am ⟨ae,ai,rfl,al,I⟩
  have G:=(Fl.cel al).2.1
  refine ⟨_,rfl,?_⟩;intro G J;have G:=I.size
  have ah:Fl (Clip (fun b=>D.heap.size≤b) am) am 1 (vl ae 72 ai) 72 (byteVals v.msg):=al.clip
  have D:=aa.ext I
  have G:=ab.ext I
  refine ⟨fun _ _=>⟨eX,D,G⟩,?_⟩
  refine ao 14 rfl<|have U:=(hc.sg.op.ux I);have aa:=(hc.sg.cl.ux I);have ab:=(hc.sg.path.ux I);J.gE (c:=verify_at (v:=(vl ae 72 ai)) (m:=72) (u1:=(vl O v.sg.op.length oc)) (u2:=(vl E v.sg.cl.length ec)) (u3:=(vl P v.sg.path.length pc)) (n1:=v.sg.op.length) (n2:=v.sg.cl.length) (n3:=v.sg.path.length) pub n v.msg v.sg _ hp ah U aa ab hc.sg.o32 hc.sg.c32 hc.sg.p32 (hG.ext eX)) (k:=fun I I J _ J=>?_)
  have U:=D.ext I
  have D:=G.ext I
  refine ⟨fun _ _=>⟨eX,U,D⟩,?_⟩
  refine J.ygw 15 (.bool (!(verifyF pub n v.msg v.sg))) rfl (fun F W=>rn_not' (F.get rfl) rfl)<|Yv 16 (.bool (!(verifyF pub n v.msg v.sg))) rfl<|Yv 17 (.bool (!(verifyF pub n v.msg v.sg))) rfl fun _ D=>nK aj ?_
  have Y:=D.k [0,1,2,3,5,6,7,16,21]
  rcases Bool.eq_false_or_eq_true (verifyF pub n v.msg v.sg) with ac | ac
  ·exact Y.cf<|wp_skip<|av _ _<|wr fun D au=>Y.xv (vi 0) fun _ aq=>wn au<|wp_ret<|ret1 aq rfl rfl<|⟨ret_int (show verifyE pub n v=0 from (if_neg (by omega)).trans ((if_neg (fun q=>q V)).trans (if_neg (fun q=>q.elim (fun h1=>h1 (by omega)) (fun h2=>by rw [ac] at h2;cases h2))))).symm,eX⟩
  exact Y.ct<|wr fun D G=>Y.xv (vi 131) fun _ D=>wn G<|wp_ret<|ret_block<|ret_then<|ret1 D rfl rfl<|⟨ret_int (show verifyE pub n v=131 from (if_neg (by omega)).trans ((if_neg (fun q=>q V)).trans (if_pos (.inr ac)))).symm,eX⟩
 exact Z.ct<|wr fun D G=>Z.xv (vi 400) fun _ D=>wn G<|wp_ret<|ret_block<|ret_then<|ret1 D rfl rfl<|⟨ret_int (show verifyE pub n v=400 from (if_neg (by omega)).trans (if_pos V)).symm,eX⟩
theorem verifyv_at {p:Value} (pub:List UInt8) (n:Int) (v:Vr) (w:World) (h:RVp S w c o e p v) (hp:pub.length=32) (hd:∀ x∈v.chs,x.data.length≤4294967296) (hG:Glob w) :
  Calls Tryz.prog 14 #[.agg (byteVals pub).toArray,.int .i64 n,ag (vcs v.no v.state c v.sg.index o e p)] w (fun e w'=>e=.returned (vi (verifyE pub n v))∧Ext w w'):=by
 obtain ⟨C,cc,rfl,_⟩:=RLs.form h.chs
 obtain ⟨O,oc,rfl,_⟩:=Fl.form h.sg.op
 obtain ⟨E,ec,rfl,_⟩:=Fl.form h.sg.cl
 obtain ⟨P,pc,rfl,_⟩:=Fl.form h.sg.path
 exact verifyv_any C cc O oc E ec P pc pub n v w h hp hd hG
theorem join_any (pub:List UInt8) (n:Int) (w:World) (hp:pub.length=32) :
  Calls Tryz.prog 27 #[.agg (byteVals pub).toArray,.int .i64 n] w (fun e w'=>e=.returned (.tuple #[ag (fcs (joinF pub n).pub (joinF pub n).many (joinF pub n).no v0 v0),.int .i64 (joinE n)])∧Ext w w'):=by
 refine calls_enter Tryz.func27 rfl rfl rfl fun _ C=>wr fun D D=>C.xb rfl fun C C _ C G G M G=>C.xz fz 48 fun C C _ C G G G I=>C.xv (vi 0) fun _ C=>wn D<|wp_seq_k fun D I=>wr fun D J=>C.xm rfl fun _ C=>C.xe (isMany_any n _) fun C D C _ C=>C.xw (.bool (!(decide (1≤n∧n≤4096)))) (fun F=>rn_not' (F.get rfl) rfl) fun _ C=>wn J ?_
 by_cases J:1≤n∧n≤4096
 ·refine C.cf<|wp_skip<|I _ _<|wr fun I O=>have I:=M.ux D;C.xw (.agg (byteVals pub).toArray) (fun F=>rb F rfl I (hk:=byteVals_len hp))<|Xm rfl<|Xw (ag (dg pub [(vi n),(vi 0),v0,v0])) (fun F=>rn_build (parts2 (F.get rfl) (F.get rfl)) (build_fo hp)) fun _ C=>?_
  have I:=G.ext D
  refine C.xs rfl I (fun D G D=>?_) (hk:=len_dig hp);have I:=D.size
  refine C.xv (vi 0) fun _ C=>wn O<|have D:=C.k [0,1,2,4,5,8];wp_ret ?_
  exact retC1 D rfl rfl rfl G uu48 rfl (sk inf48 (len_dig hp))<|have hk:=J;have hE:joinE n=0:=if_neg (by omega);have hJ:joinF pub n=⟨pub,n,0,[],[]⟩:=if_pos hE;⟨by rw [hJ,hE] <;> rfl,eX⟩
 refine C.ct<|wr fun I M=>have I:=(G.ext D);C.xw (ag fz) (fun F=>rb F rfl I) fun _ C=>C.xs rfl I (fun D D G=>have I:=G.size;C.xv (vi 40) fun _ C=>wn M<|wp_ret<|ret_then ?_)
 exact retC1 C rfl rfl rfl D uu48 rfl (sk inf48 (len_dig zero32_len))<|have hk:=J;have hE:joinE n=40:=if_pos (by omega);have hJ:joinF pub n=foNil:=if_neg (by rw [hE];decide);⟨by rw [hJ,hE] <;> rfl,eX⟩
theorem wants_any (FA:Option Addr) (fa:Nat) (FE:Option Addr) (fe:Nat) (f:Fo) (w:World) (h:RFo S w (vl FA f.items.length fa) (vl FE f.early.length fe) f) (h0:0≤f.no∧f.no≤4294967296) :
  Calls Tryz.prog 22 #[(ag (dg f.pub [(vi f.many),(vi f.no),(vl FA f.items.length fa),(vl FE f.early.length fe)]))] w (fun e w'=>e=.returned (vi (f.no+1))∧Ext w w'):=by
 have hc:=RFo.subB (S':=Clip S w) h (fun _ hb hs=>⟨hs,hb⟩)
 obtain ⟨-,C,C⟩:=RLs.at hc.items;obtain ⟨-,C,C⟩:=RLs.at hc.early
 exact calls_enter Tryz.func22 rfl rfl rfl fun _ C=>wr fun D I=>C.xb rfl fun G C _ C D D D J=>C.xv (vi 0) fun _ C=>wn I<|wr fun I I=>C.xv (vq G 33)<|Xw (vi f.no) (fun F=>rl F rfl ((D.rule.1 33).trans ((at_app (k:=1) (byteVals_len hc.pub)).trans rfl)))<|Xv (vi (f.no+1))<|Xa rfl fun _ C=>wn I<|wp_ret<|ret1 C rfl rfl<|⟨rfl,eX⟩
theorem wants_at (f:Fo) (w:World) (h:RFo S w c e f) (h0:0≤f.no∧f.no≤4294967296) :
  Calls Tryz.prog 22 #[ag (fcs f.pub f.many f.no c e)] w (fun e w'=>e=.returned (vi (f.no+1))∧Ext w w'):=by
 obtain ⟨FA,fa,rfl,_⟩:=RLs.form h.items
 obtain ⟨FE,fe,rfl,_⟩:=RLs.form h.early
 exact wants_any FA fa FE fe f w h h0
theorem fcheck_any (FA:Option Addr) (fa:Nat) (FE:Option Addr) (fe:Nat) (f:Fo) (w:World) (h:RFo S w (vl FA f.items.length fa) (vl FE f.early.length fe) f) (hdi:∀ x∈f.items,x.data.length≤4294967296) (hde:∀ v∈f.early,∀ x∈v.chs,x.data.length≤4294967296) (hG:Glob w) :
  Calls Tryz.prog 20 #[(ag (dg f.pub [(vi f.many),(vi f.no),(vl FA f.items.length fa),(vl FE f.early.length fe)]))] w (fun e w'=>e=.returned (vi (checkFE f))∧Ext w w'):=by
 have hc:=RFo.subB (S':=Clip S w) h (fun _ hb hs=>⟨hs,hb⟩)
 obtain ⟨-,U,U⟩:=RLs.at hc.items;obtain ⟨-,U,U⟩:=RLs.at hc.early
 refine calls_enter Tryz.func20 rfl rfl rfl fun _ U=>wr fun K1 ay=>U.xb rfl fun D U _ F9 U U U ab=>F9.xv (vi 0) fun _ ab=>wn ay<|wp_seq_k fun ay ay=>wr fun aB aD=>ab.xv (vq D 32)<|Xw (vi f.many) (fun F=>rl F rfl ((U.rule.1 32).trans ((at_app (k:=0) (byteVals_len hc.pub)).trans rfl))) fun _ ab=>ab.xe (isMany_any f.many _) fun ab aB ab _ ab=>ab.xw (.bool (!(decide (1≤f.many∧f.many≤4096)))) (fun F=>rn_not' (F.get rfl) rfl) fun _ Y=>wn aD ?_
 by_cases I:1≤f.many∧f.many≤4096
 ·refine Y.cf<|wp_skip<|ay _ _<|wp_seq_k fun ab aJ=>wr fun ab ay=>Y.xv (vq D 33) fun _ aD=>have ab:=(U.ext aB);aD.xw (vi f.no) (fun F=>rl F rfl ((ab.rule.1 33).trans ((at_app (k:=1) (byteVals_len hc.pub)).trans rfl)))<|Xv (vd ((f.no:Int)<(0:Int)))<|Xm rfl fun _ U=>?_
  by_cases aD:(f.no:Int)<(0:Int)
  ·exact U.xu<|Xu<|Xu<|Xv (.bool true) fun _ D=>wn ay<|have C:=D.k [0,1,2,13,21];C.ct<|wr fun D D=>C.xv (vi 420) fun _ C=>wn D<|wp_ret<|ret_then<|ret1 C rfl rfl<|have hm:=I;⟨ret_int (show checkFE f=420 from (if_neg (by omega)).trans (if_pos (by omega))).symm,eX⟩
  refine U.xg (vq D 33)<|Xgw (vi f.no) (fun F=>rl F rfl ((ab.rule.1 33).trans ((at_app (k:=1) (byteVals_len hc.pub)).trans rfl)))<|Xg (vd ((4096:Int)<(f.no:Int)))<|Xv (vd ((4096:Int)<(f.no:Int))) fun _ aD=>wn ay ?_
  have U:=aD.k [0,1,2,13,21]
  by_cases ay:(4096:Int)<(f.no:Int)
  ·exact U.ct<|wr fun C D=>U.xv (vi 420) fun _ C=>wn D<|wp_ret<|ret_then<|ret1 C rfl rfl<|have hm:=I;⟨ret_int (show checkFE f=420 from (if_neg (by omega)).trans (if_pos (by omega))).symm,eX⟩
  refine U.cf<|wp_skip<|aJ _ _<|wp_seq_k fun ay aD=>wr fun ay aJ=>U.xv (vq D 34)<|Xw (vl FA f.items.length fa) (fun F=>rl F rfl ((ab.rule.1 34).trans ((at_app (k:=2) (byteVals_len hc.pub)).trans rfl))) fun _ U=>have ay:=(RLs.ux rIt hc.items aB);U.xe (pcheck_at (v:=(vl FA f.items.length fa)) f.items _ ay) fun aC aQ U _ U=>U.xa rfl fun _ U=>wn aJ<|wr fun ay aB=>U.xm rfl<|Xv (vd (((checkE f.items):Int)≠(0:Int))) fun _ ay=>wn aB ?_
  have U:=ay.k [0,1,2,13,21,3,26]
  by_cases O:((checkE f.items):Int)≠(0:Int)
  ·exact U.ct<|wr fun C D=>U.xm rfl<|Xa rfl fun _ C=>wn D<|wp_ret<|ret_then<|ret1 C rfl rfl<|have hm:=I;⟨ret_int (show checkFE f=(checkE f.items) from (if_neg (by omega)).trans ((if_neg (by omega)).trans (if_pos O))).symm,eX⟩
  refine U.cf<|wp_skip<|aD _ _<|wp_seq_k fun ay az=>wr fun ay aA=>U.xv (vq D 33) fun _ U=>have J:=(ab.ext aQ);U.xw (vi f.no) (fun F=>rl F rfl ((J.rule.1 33).trans ((at_app (k:=1) (byteVals_len hc.pub)).trans rfl)))<|Xv (vd ((f.no:Int)=(0:Int)))<|Xm rfl fun _ aw=>?_
  by_cases U:(f.no:Int)=(0:Int)
  ·refine aw.xg (vq D 34)<|Xgw (vl FA f.items.length fa) (fun F=>rl F rfl ((J.rule.1 34).trans ((at_app (k:=2) (byteVals_len hc.pub)).trans rfl)))<|Xg (vi f.items.length)<|Xg (vd ((0:Int)<(f.items.length:Int)))<|Xv (vd ((0:Int)<(f.items.length:Int))) fun _ ab=>wn aA ?_
   have U:=ab.k [0,1,2,13,21,3,26,36]
   by_cases ab:(0:Int)<(f.items.length:Int)
   ·exact U.ct<|wr fun C D=>U.xv (vi 400) fun _ C=>wn D<|wp_ret<|ret_then<|ret1 C rfl rfl<|have hm:=I;⟨ret_int (show checkFE f=400 from (if_neg (by omega)).trans ((if_neg (by omega)).trans ((if_neg O).trans (if_pos (by omega))))).symm,eX⟩
   refine U.cf<|wp_skip<|az _ _<|wp_seq_k fun ab ab=>wr fun ay ay=>U.xv (vq D 35)<|Xw (vl FE f.early.length fe) (fun F=>rl F rfl ((J.rule.1 35).trans ((at_app (k:=3) (byteVals_len hc.pub)).trans rfl)))<|Xv (vi f.early.length)<|Xv (vd ((64:Int)<(f.early.length:Int))) fun _ U=>wn ay ?_
   by_cases ay:(64:Int)<(f.early.length:Int)
   ·exact U.ct<|wr fun C D=>U.xv (vi 2) fun _ C=>wn D<|wp_ret<|ret_then<|ret1 C rfl rfl<|have hm:=I;⟨ret_int (show checkFE f=2 from (if_neg (by omega)).trans ((if_neg (by omega)).trans ((if_neg O).trans ((if_neg (by omega)).trans (if_pos (by omega)))))).symm,eX⟩
   refine U.cf<|wp_skip<|ab _ _<|wr fun ab ab=>U.xv (vq D 33)<|Xw (vi f.no) (fun F=>rl F rfl ((J.rule.1 33).trans ((at_app (k:=1) (byteVals_len hc.pub)).trans rfl)))<|Xv (vi (f.no+1))<|Xa rfl fun _ U=>wn ab<|have ab:=U.k [0,1,2,13,21,3,26,36,40,4];wp_seq_k fun U aH=>wr fun U ay=>ab.xv (vq D 35)<|Xw (vl FE f.early.length fe) (fun F=>rl F rfl ((J.rule.1 35).trans ((at_app (k:=3) (byteVals_len hc.pub)).trans rfl)))<|Xv (vi f.early.length)<|Xv (vi 0) fun _ U=>wn ay<|wp_block<|wp_loop (fun a' W=>∃ (k:Nat) (la:Int),Sl 75 [(0,(ag (dg f.pub [(vi f.many),(vi f.no),(vl FA f.items.length fa),(vl FE f.early.length fe)]))),(1,(vp D)),(2,(vi 0)),(13,(.bool (!(decide (1≤f.many∧f.many≤4096))))),(21,(vd ((4096:Int)<(f.no:Int)))),(3,(vi (checkE f.items))),(26,(vd (((checkE f.items):Int)≠(0:Int)))),(36,(vd ((0:Int)<(f.items.length:Int)))),(40,(vd ((64:Int)<(f.early.length:Int)))),(4,(vi la)),(45,(vl FE f.early.length fe)),(46,(vi f.early.length)),(47,(vi k))] a'∧k≤f.early.length∧(∀ j,j<k→lastN (f.no+1) f.early j<(f.early.getD j default).no)∧la=lastN (f.no+1) f.early k∧Ext w W∧Blk W D 48 (dg f.pub [(vi f.many),(vi f.no),(vl FA f.items.length fa),(vl FE f.early.length fe)])∧aC.heap.size≤W.heap.size) (fun a' _=>f.early.length - (intOf (a'.eval (.tmp 47))).toNat) ⟨0,(f.no+1),U.j,(by omega),(fun j hj=>absurd hj (by omega)),rfl,eX,J,(Nat.le_refl _)⟩ ?_
   rintro U aS ⟨k,la,U,ab,ar,ab,ab,aa,ay⟩
   have aM:=U
   have ay:=ab.size
   have ay:=aa.lt
   refine wr fun ay ay=>U.xv (vd ((k:Int)<(f.early.length:Int))) fun _ V=>wn ay<|wp_seq_k fun U U=>?_
   by_cases ay:(k:Int)<(f.early.length:Int)
   ·refine V.ct<|wp_skip<|U _ _<|wp_seq_k fun U av=>wp_block<|wr fun U ax=>?_
    have U:=RLs.ext rVr hc.early ab
    obtain ⟨aq,aG,C,ab,au,Z,ab,aE,aF⟩:=RLs.get U (by omega:k<f.early.length)
    obtain ⟨U,U,U,U,rfl,G⟩:=aF
    obtain ⟨ac,aj,rfl,U,U⟩:=RLs.form G.chs
    obtain ⟨ae,ak,rfl,U,U⟩:=Fl.form G.sg.op
    obtain ⟨ah,al,rfl,U,U⟩:=Fl.form G.sg.cl
    obtain ⟨ai,am,rfl,U,U⟩:=Fl.form G.sg.path
    refine V.xw (vq aq (aG+k*38)) (fun F=>rn_indexE uu25 inf34 ((F.get rfl).trans (by rw [au])) (F.get rfl) (zl _) (il (by omega:k<f.early.length)) (by omega))<|Xw (ag ((vi C.no)::dg C.state [(vl ac C.chs.length aj),(vi C.sg.index),(vl ae C.sg.op.length ak),(vl ah C.sg.cl.length al),(vl ai C.sg.path.length am)])) (fun F=>rn_loadN (cs:=((vi C.no)::dg C.state [(vl ac C.chs.length aj),(vi C.sg.index),(vl ae C.sg.op.length ak),(vl ah C.sg.cl.length al),(vl ai C.sg.path.length am)])) (F.get rfl) uu34 rfl (sk inf34 (len_dig1 G.st)) aE) fun _ D=>D.xz vz 34 fun U D _ D J J J V=>?_
    refine D.xs rfl J (fun J J V=>?_) (hk:=len_dig1 G.st);have G:=V.size
    refine wn ax<|wp_seq_k fun G Y=>wr fun G ab=>D.xv (vp U)<|Xw (vi C.no) (fun F=>rl F rfl ((J.rule.1 0).trans rfl))<|Xm rfl<|Xv (vd ((C.no:Int)≤(la:Int))) fun _ G=>wn ab ?_
    have D:=G.k [0,1,2,13,21,3,26,36,40,4,45,46,47,48,6,54]
    by_cases G:(C.no:Int)≤(la:Int)
    ·exact D.ct<|wr fun C G=>D.xv (vi 420) fun _ C=>wn G<|wp_ret<|ret_then<|ret_block<|ret_then<|ret_then<|ret_block<|ret_then<|ret1 C rfl rfl<|have hm:=I;⟨ret_int (show checkFE f=420 from (if_neg (by omega)).trans ((if_neg (by omega)).trans ((if_neg O).trans ((if_neg (by omega)).trans ((if_neg (by omega)).trans (if_pos (asc_no Z (by omega)))))))).symm,eX⟩
    refine D.cf<|wp_skip<|Y _ _<|wp_region_lit<|D.xv (vp U)<|Xw (vi C.no) (fun F=>rl F rfl ((J.rule.1 0).trans rfl))<|Xa rfl fun _ D=>wn av<|wp_region_lit<|D.xv (vi (k+1:Nat))<|Xm rfl fun _ D=>wpList_nil ?_
    have G:=aa.ug V
    refine ⟨⟨(k+1),C.no,D.j,(by omega),(all_succ ar (asc_step Z (by omega))),(lastN_succ Z),eX,G,(by omega)⟩,?_⟩
    rw [D.get (t:=47) rfl,aM.get (t:=47) rfl];simp [intOf] <;> omega
   refine V.cf<|wp_exit<|exit_then<|exit_then<|exit_here<|aH _ _<|wp_seq_k fun U aI=>wr fun U ab=>V.xv (vq D 35)<|Xw (vl FE f.early.length fe) (fun F=>rl F rfl ((aa.rule.1 35).trans ((at_app (k:=3) (byteVals_len hc.pub)).trans rfl)))<|Xv (vi f.early.length)<|Xv (vi 0) fun _ U=>wn ab<|wp_block<|wp_loop (fun a' W=>∃ (j:Nat),Sl 75 [(0,(ag (dg f.pub [(vi f.many),(vi f.no),(vl FA f.items.length fa),(vl FE f.early.length fe)]))),(1,(vp D)),(2,(vi 0)),(13,(.bool (!(decide (1≤f.many∧f.many≤4096))))),(21,(vd ((4096:Int)<(f.no:Int)))),(3,(vi (checkE f.items))),(26,(vd (((checkE f.items):Int)≠(0:Int)))),(36,(vd ((0:Int)<(f.items.length:Int)))),(40,(vd ((64:Int)<(f.early.length:Int)))),(4,(vi la)),(45,(vl FE f.early.length fe)),(46,(vi f.early.length)),(47,(vi k)),(48,(vd ((k:Int)<(f.early.length:Int)))),(59,(vl FE f.early.length fe)),(60,(vi f.early.length)),(61,(vi (j:Nat)))] a'∧j≤f.early.length∧(∀ i,i<j→∀ x,f.early[i]?=some x→verifyE f.pub f.many x=0)∧Ext w W∧Blk W D 48 (dg f.pub [(vi f.many),(vi f.no),(vl FA f.items.length fa),(vl FE f.early.length fe)])∧aS.heap.size≤W.heap.size) (fun a' _=>f.early.length - (intOf (a'.eval (.tmp 61))).toNat) ⟨0,U.j,(by omega),(fun i hi=>absurd hi (by omega)),eX,aa,(Nat.le_refl _)⟩ ?_
   rintro U U ⟨j,U,V,au,V,ax,aa⟩
   have aN:=U
   have aa:=V.size
   have aa:=ax.lt
   refine wr fun aa aa=>U.xv (vd (((j:Nat):Int)<(f.early.length:Int))) fun _ Z=>wn aa<|wp_seq_k fun U U=>?_
   by_cases aa:((j:Nat):Int)<(f.early.length:Int)
   ·refine Z.ct<|wp_skip<|U _ _<|wp_seq_k fun U aK=>wp_block<|wr fun U aL=>?_
    have U:=RLs.ext rVr hc.early V
    obtain ⟨aE,aR,C,V,aG,aq,V,aO,aP⟩:=RLs.get U (by omega:j<f.early.length)
    obtain ⟨U,U,U,U,rfl,G⟩:=aP
    obtain ⟨ac,aj,rfl,U,U⟩:=RLs.form G.chs
    obtain ⟨ae,ak,rfl,U,U⟩:=Fl.form G.sg.op
    obtain ⟨ah,al,rfl,U,U⟩:=Fl.form G.sg.cl
    obtain ⟨ai,am,rfl,U,U⟩:=Fl.form G.sg.path
    refine Z.xw (vq aE (aR+j*38)) (fun F=>rn_indexE uu25 inf34 ((F.get rfl).trans (by rw [aG])) (F.get rfl) (zl _) (il (by omega:j<f.early.length)) (by omega))<|Xw (ag ((vi C.no)::dg C.state [(vl ac C.chs.length aj),(vi C.sg.index),(vl ae C.sg.op.length ak),(vl ah C.sg.cl.length al),(vl ai C.sg.path.length am)])) (fun F=>rn_loadN (cs:=((vi C.no)::dg C.state [(vl ac C.chs.length aj),(vi C.sg.index),(vl ae C.sg.op.length ak),(vl ah C.sg.cl.length al),(vl ai C.sg.path.length am)])) (F.get rfl) uu34 rfl (sk inf34 (len_dig1 G.st)) aO) fun _ U=>U.xz vz 34 fun U U _ V U U U aa=>?_
    refine V.xs rfl U (fun U ab U=>?_) (hk:=len_dig1 G.st);have aa:=U.size
    refine wn aL<|wr fun aa ay=>V.xv (vp D) fun _ aa=>have V:=ax.ug U;aa.xw (.agg (byteVals f.pub).toArray) (fun F=>rn_loadN (cs:=byteVals f.pub) (F.get rfl) uu29 rfl (sk inf29 (byteVals_len hc.pub)) (Blk.part (A:=[]) (M:=byteVals f.pub) (B:=[(vi f.many),(vi f.no),(vl FA f.items.length fa),(vl FE f.early.length fe)]) V (by simp) rfl))<|Xv (vq D 32)<|Xw (vi f.many) (fun F=>rl F rfl ((V.rule.1 32).trans ((at_app (k:=0) (byteVals_len hc.pub)).trans rfl)))<|Xw (ag ((vi C.no)::dg C.state [(vl ac C.chs.length aj),(vi C.sg.index),(vl ae C.sg.op.length ak),(vl ah C.sg.cl.length al),(vl ai C.sg.path.length am)])) (fun F=>rb F rfl ab (hk:=len_dig1 G.st)) fun _ aa=>have ab:=(RLs.ug rCg G.chs U);have ac:=(G.sg.op.ug U);have ae:=(G.sg.cl.ug U);have ah:=(G.sg.path.ug U);aa.xe (verifyv_at f.pub f.many C _ (⟨G.st,RLs.sub (S':=fun _=>True) rCg ab fun _ _=>trivial,⟨Fl.any ac,Fl.any ae,Fl.any ah,G.sg.o32,G.sg.c32,G.sg.p32⟩⟩:RVp (fun _=>True) _ _ _ _ _ C) hc.pub (hde C (List.mem_of_getElem? aq)) (hG.ext eX)) fun G ab G _ G=>G.xa rfl fun _ G=>wn ay<|have U:=G.k [0,1,2,13,21,3,26,36,40,4,45,46,47,48,59,60,61,62,8,9];wr fun G aa=>U.xm rfl<|Xv (vd (((verifyE f.pub f.many C):Int)≠(0:Int))) fun _ G=>wn aa ?_
    by_cases U:((verifyE f.pub f.many C):Int)≠(0:Int)
    ·exact G.ct<|wr fun D J=>G.xm rfl<|Xa rfl fun _ D=>wn J<|wp_ret<|ret_block<|ret_then<|ret_then<|ret_block<|ret_then<|ret1 D rfl rfl<|have hm:=I;⟨ret_int (show checkFE f=(verifyE f.pub f.many C) from (if_neg (by omega)).trans ((if_neg (by omega)).trans ((if_neg O).trans ((if_neg (by omega)).trans ((if_neg (by omega)).trans ((if_neg (fun q=>q (asc_of ar (by omega)))).trans (first_at au aq (by omega)))))))).symm,eX⟩
    refine G.cf<|wp_skip<|aK _ _<|wp_region_lit<|G.xv (vi (j+1:Nat))<|Xm rfl fun _ av=>wpList_nil ?_
    have aF:=V.ext ab
    refine ⟨⟨(j+1),av.j,(by omega),(all_succ au (fun y hy=>by rw [aq] at hy;injection hy with hy;subst hy;omega)),eX,aF,(by omega)⟩,?_⟩
    rw [av.get (t:=61) rfl,aN.get (t:=61) rfl];simp [intOf] <;> omega
   exact Z.cf<|wp_exit<|exit_then<|exit_then<|exit_here<|aI _ _<|wr fun C D=>Z.xv (vi 0) fun _ C=>wn D<|wp_ret<|ret1 C rfl rfl<|have hm:=I;⟨ret_int (show checkFE f=0 from (if_neg (by omega)).trans ((if_neg (by omega)).trans ((if_neg O).trans ((if_neg (by omega)).trans ((if_neg (by omega)).trans ((if_neg (fun q=>q (asc_of ar (by omega)))).trans (first_all au (by omega)))))))).symm,eX⟩
  refine aw.xu<|Xu<|Xu<|Xu<|Xv (.bool false) fun _ ab=>wn aA<|have U:=ab.k [0,1,2,13,21,3,26,36];U.cf<|wp_skip<|az _ _<|wp_seq_k fun ab ab=>wr fun aw aw=>U.xv (vq D 35)<|Xw (vl FE f.early.length fe) (fun F=>rl F rfl ((J.rule.1 35).trans ((at_app (k:=3) (byteVals_len hc.pub)).trans rfl)))<|Xv (vi f.early.length)<|Xv (vd ((64:Int)<(f.early.length:Int))) fun _ U=>wn aw ?_
  by_cases aw:(64:Int)<(f.early.length:Int)
  ·exact U.ct<|wr fun C D=>U.xv (vi 2) fun _ C=>wn D<|wp_ret<|ret_then<|ret1 C rfl rfl<|have hm:=I;⟨ret_int (show checkFE f=2 from (if_neg (by omega)).trans ((if_neg (by omega)).trans ((if_neg O).trans ((if_neg (by omega)).trans (if_pos (by omega)))))).symm,eX⟩
  refine U.cf<|wp_skip<|ab _ _<|wr fun ab ab=>U.xv (vq D 33)<|Xw (vi f.no) (fun F=>rl F rfl ((J.rule.1 33).trans ((at_app (k:=1) (byteVals_len hc.pub)).trans rfl)))<|Xv (vi (f.no+1))<|Xa rfl fun _ U=>wn ab<|have ab:=U.k [0,1,2,13,21,3,26,36,40,4];wp_seq_k fun U aH=>wr fun U aw=>ab.xv (vq D 35)<|Xw (vl FE f.early.length fe) (fun F=>rl F rfl ((J.rule.1 35).trans ((at_app (k:=3) (byteVals_len hc.pub)).trans rfl)))<|Xv (vi f.early.length)<|Xv (vi 0) fun _ U=>wn aw<|wp_block<|wp_loop (fun a' W=>∃ (k:Nat) (la:Int),Sl 75 [(0,(ag (dg f.pub [(vi f.many),(vi f.no),(vl FA f.items.length fa),(vl FE f.early.length fe)]))),(1,(vp D)),(2,(vi 0)),(13,(.bool (!(decide (1≤f.many∧f.many≤4096))))),(21,(vd ((4096:Int)<(f.no:Int)))),(3,(vi (checkE f.items))),(26,(vd (((checkE f.items):Int)≠(0:Int)))),(36,(.bool false)),(40,(vd ((64:Int)<(f.early.length:Int)))),(4,(vi la)),(45,(vl FE f.early.length fe)),(46,(vi f.early.length)),(47,(vi k))] a'∧k≤f.early.length∧(∀ j,j<k→lastN (f.no+1) f.early j<(f.early.getD j default).no)∧la=lastN (f.no+1) f.early k∧Ext w W∧Blk W D 48 (dg f.pub [(vi f.many),(vi f.no),(vl FA f.items.length fa),(vl FE f.early.length fe)])∧aC.heap.size≤W.heap.size) (fun a' _=>f.early.length - (intOf (a'.eval (.tmp 47))).toNat) ⟨0,(f.no+1),U.j,(by omega),(fun j hj=>absurd hj (by omega)),rfl,eX,J,(Nat.le_refl _)⟩ ?_
  rintro J aS ⟨k,la,J,U,ar,U,U,aa,ab⟩
  have aM:=J
  have ab:=U.size
  have ab:=aa.lt
  refine wr fun ab ab=>J.xv (vd ((k:Int)<(f.early.length:Int))) fun _ V=>wn ab<|wp_seq_k fun J J=>?_
  by_cases ab:(k:Int)<(f.early.length:Int)
  ·refine V.ct<|wp_skip<|J _ _<|wp_seq_k fun J av=>wp_block<|wr fun J ax=>?_
   have J:=RLs.ext rVr hc.early U
   obtain ⟨aq,aG,C,U,au,Z,U,aE,aF⟩:=RLs.get J (by omega:k<f.early.length)
   obtain ⟨J,J,J,J,rfl,G⟩:=aF
   obtain ⟨ac,aj,rfl,J,J⟩:=RLs.form G.chs
   obtain ⟨ae,ak,rfl,J,J⟩:=Fl.form G.sg.op
   obtain ⟨ah,al,rfl,J,J⟩:=Fl.form G.sg.cl
   obtain ⟨ai,am,rfl,J,J⟩:=Fl.form G.sg.path
   refine V.xw (vq aq (aG+k*38)) (fun F=>rn_indexE uu25 inf34 ((F.get rfl).trans (by rw [au])) (F.get rfl) (zl _) (il (by omega:k<f.early.length)) (by omega))<|Xw (ag ((vi C.no)::dg C.state [(vl ac C.chs.length aj),(vi C.sg.index),(vl ae C.sg.op.length ak),(vl ah C.sg.cl.length al),(vl ai C.sg.path.length am)])) (fun F=>rn_loadN (cs:=((vi C.no)::dg C.state [(vl ac C.chs.length aj),(vi C.sg.index),(vl ae C.sg.op.length ak),(vl ah C.sg.cl.length al),(vl ai C.sg.path.length am)])) (F.get rfl) uu34 rfl (sk inf34 (len_dig1 G.st)) aE) fun _ D=>D.xz vz 34 fun U D _ D J J J V=>?_
   refine D.xs rfl J (fun J J V=>?_) (hk:=len_dig1 G.st);have G:=V.size
   refine wn ax<|wp_seq_k fun G Y=>wr fun G ab=>D.xv (vp U)<|Xw (vi C.no) (fun F=>rl F rfl ((J.rule.1 0).trans rfl))<|Xm rfl<|Xv (vd ((C.no:Int)≤(la:Int))) fun _ G=>wn ab ?_
   have D:=G.k [0,1,2,13,21,3,26,36,40,4,45,46,47,48,6,54]
   by_cases G:(C.no:Int)≤(la:Int)
   ·exact D.ct<|wr fun C G=>D.xv (vi 420) fun _ C=>wn G<|wp_ret<|ret_then<|ret_block<|ret_then<|ret_then<|ret_block<|ret_then<|ret1 C rfl rfl<|have hm:=I;⟨ret_int (show checkFE f=420 from (if_neg (by omega)).trans ((if_neg (by omega)).trans ((if_neg O).trans ((if_neg (by omega)).trans ((if_neg (by omega)).trans (if_pos (asc_no Z (by omega)))))))).symm,eX⟩
   refine D.cf<|wp_skip<|Y _ _<|wp_region_lit<|D.xv (vp U)<|Xw (vi C.no) (fun F=>rl F rfl ((J.rule.1 0).trans rfl))<|Xa rfl fun _ D=>wn av<|wp_region_lit<|D.xv (vi (k+1:Nat))<|Xm rfl fun _ D=>wpList_nil ?_
   have G:=aa.ug V
   refine ⟨⟨(k+1),C.no,D.j,(by omega),(all_succ ar (asc_step Z (by omega))),(lastN_succ Z),eX,G,(by omega)⟩,?_⟩
   rw [D.get (t:=47) rfl,aM.get (t:=47) rfl];simp [intOf] <;> omega
  refine V.cf<|wp_exit<|exit_then<|exit_then<|exit_here<|aH _ _<|wp_seq_k fun J aI=>wr fun J U=>V.xv (vq D 35)<|Xw (vl FE f.early.length fe) (fun F=>rl F rfl ((aa.rule.1 35).trans ((at_app (k:=3) (byteVals_len hc.pub)).trans rfl)))<|Xv (vi f.early.length)<|Xv (vi 0) fun _ J=>wn U<|wp_block<|wp_loop (fun a' W=>∃ (j:Nat),Sl 75 [(0,(ag (dg f.pub [(vi f.many),(vi f.no),(vl FA f.items.length fa),(vl FE f.early.length fe)]))),(1,(vp D)),(2,(vi 0)),(13,(.bool (!(decide (1≤f.many∧f.many≤4096))))),(21,(vd ((4096:Int)<(f.no:Int)))),(3,(vi (checkE f.items))),(26,(vd (((checkE f.items):Int)≠(0:Int)))),(36,(.bool false)),(40,(vd ((64:Int)<(f.early.length:Int)))),(4,(vi la)),(45,(vl FE f.early.length fe)),(46,(vi f.early.length)),(47,(vi k)),(48,(vd ((k:Int)<(f.early.length:Int)))),(59,(vl FE f.early.length fe)),(60,(vi f.early.length)),(61,(vi (j:Nat)))] a'∧j≤f.early.length∧(∀ i,i<j→∀ x,f.early[i]?=some x→verifyE f.pub f.many x=0)∧Ext w W∧Blk W D 48 (dg f.pub [(vi f.many),(vi f.no),(vl FA f.items.length fa),(vl FE f.early.length fe)])∧aS.heap.size≤W.heap.size) (fun a' _=>f.early.length - (intOf (a'.eval (.tmp 61))).toNat) ⟨0,J.j,(by omega),(fun i hi=>absurd hi (by omega)),eX,aa,(Nat.le_refl _)⟩ ?_
  rintro J J ⟨j,J,U,au,U,ax,V⟩
  have aN:=J
  have V:=U.size
  have V:=ax.lt
  refine wr fun V V=>J.xv (vd (((j:Nat):Int)<(f.early.length:Int))) fun _ Z=>wn V<|wp_seq_k fun J J=>?_
  by_cases V:((j:Nat):Int)<(f.early.length:Int)
  ·refine Z.ct<|wp_skip<|J _ _<|wp_seq_k fun J aK=>wp_block<|wr fun J aL=>?_
   have J:=RLs.ext rVr hc.early U
   obtain ⟨aE,aR,C,U,aG,aq,U,aO,aP⟩:=RLs.get J (by omega:j<f.early.length)
   obtain ⟨J,J,J,J,rfl,G⟩:=aP
   obtain ⟨ac,aj,rfl,J,J⟩:=RLs.form G.chs
   obtain ⟨ae,ak,rfl,J,J⟩:=Fl.form G.sg.op
   obtain ⟨ah,al,rfl,J,J⟩:=Fl.form G.sg.cl
   obtain ⟨ai,am,rfl,J,J⟩:=Fl.form G.sg.path
   refine Z.xw (vq aE (aR+j*38)) (fun F=>rn_indexE uu25 inf34 ((F.get rfl).trans (by rw [aG])) (F.get rfl) (zl _) (il (by omega:j<f.early.length)) (by omega))<|Xw (ag ((vi C.no)::dg C.state [(vl ac C.chs.length aj),(vi C.sg.index),(vl ae C.sg.op.length ak),(vl ah C.sg.cl.length al),(vl ai C.sg.path.length am)])) (fun F=>rn_loadN (cs:=((vi C.no)::dg C.state [(vl ac C.chs.length aj),(vi C.sg.index),(vl ae C.sg.op.length ak),(vl ah C.sg.cl.length al),(vl ai C.sg.path.length am)])) (F.get rfl) uu34 rfl (sk inf34 (len_dig1 G.st)) aO) fun _ J=>J.xz vz 34 fun J J _ U J J J V=>?_
   refine U.xs rfl J (fun J aa J=>?_) (hk:=len_dig1 G.st);have V:=J.size
   refine wn aL<|wr fun V aw=>U.xv (vp D) fun _ V=>have U:=ax.ug J;V.xw (.agg (byteVals f.pub).toArray) (fun F=>rn_loadN (cs:=byteVals f.pub) (F.get rfl) uu29 rfl (sk inf29 (byteVals_len hc.pub)) (Blk.part (A:=[]) (M:=byteVals f.pub) (B:=[(vi f.many),(vi f.no),(vl FA f.items.length fa),(vl FE f.early.length fe)]) U (by simp) rfl))<|Xv (vq D 32)<|Xw (vi f.many) (fun F=>rl F rfl ((U.rule.1 32).trans ((at_app (k:=0) (byteVals_len hc.pub)).trans rfl)))<|Xw (ag ((vi C.no)::dg C.state [(vl ac C.chs.length aj),(vi C.sg.index),(vl ae C.sg.op.length ak),(vl ah C.sg.cl.length al),(vl ai C.sg.path.length am)])) (fun F=>rb F rfl aa (hk:=len_dig1 G.st)) fun _ D=>have V:=(RLs.ug rCg G.chs J);have aa:=(G.sg.op.ug J);have ab:=(G.sg.cl.ug J);have ac:=(G.sg.path.ug J);D.xe (verifyv_at f.pub f.many C _ (⟨G.st,RLs.sub (S':=fun _=>True) rCg V fun _ _=>trivial,⟨Fl.any aa,Fl.any ab,Fl.any ac,G.sg.o32,G.sg.c32,G.sg.p32⟩⟩:RVp (fun _=>True) _ _ _ _ _ C) hc.pub (hde C (List.mem_of_getElem? aq)) (hG.ext eX)) fun D V D _ D=>D.xa rfl fun _ D=>wn aw<|have G:=D.k [0,1,2,13,21,3,26,36,40,4,45,46,47,48,59,60,61,62,8,9];wr fun D J=>G.xm rfl<|Xv (vd (((verifyE f.pub f.many C):Int)≠(0:Int))) fun _ D=>wn J ?_
   by_cases G:((verifyE f.pub f.many C):Int)≠(0:Int)
   ·exact D.ct<|wr fun G G=>D.xm rfl<|Xa rfl fun _ D=>wn G<|wp_ret<|ret_block<|ret_then<|ret_then<|ret_block<|ret_then<|ret1 D rfl rfl<|have hm:=I;⟨ret_int (show checkFE f=(verifyE f.pub f.many C) from (if_neg (by omega)).trans ((if_neg (by omega)).trans ((if_neg O).trans ((if_neg (by omega)).trans ((if_neg (by omega)).trans ((if_neg (fun q=>q (asc_of ar (by omega)))).trans (first_at au aq (by omega)))))))).symm,eX⟩
   refine D.cf<|wp_skip<|aK _ _<|wp_region_lit<|D.xv (vi (j+1:Nat))<|Xm rfl fun _ av=>wpList_nil ?_
   have aF:=U.ext V
   refine ⟨⟨(j+1),av.j,(by omega),(all_succ au (fun y hy=>by rw [aq] at hy;injection hy with hy;subst hy;omega)),eX,aF,(by omega)⟩,?_⟩
   rw [av.get (t:=61) rfl,aN.get (t:=61) rfl];simp [intOf] <;> omega
  exact Z.cf<|wp_exit<|exit_then<|exit_then<|exit_here<|aI _ _<|wr fun C D=>Z.xv (vi 0) fun _ C=>wn D<|wp_ret<|ret1 C rfl rfl<|have hm:=I;⟨ret_int (show checkFE f=0 from (if_neg (by omega)).trans ((if_neg (by omega)).trans ((if_neg O).trans ((if_neg (by omega)).trans ((if_neg (by omega)).trans ((if_neg (fun q=>q (asc_of ar (by omega)))).trans (first_all au (by omega)))))))).symm,eX⟩
 exact Y.ct<|wr fun C D=>Y.xv (vi 40) fun _ C=>wn D<|wp_ret<|ret_then<|ret1 C rfl rfl<|have hm:=I;⟨ret_int (show checkFE f=40 from if_pos (by omega)).symm,eX⟩
theorem fcheck_at (f:Fo) (w:World) (h:RFo S w c e f) (hdi:∀ x∈f.items,x.data.length≤4294967296) (hde:∀ v∈f.early,∀ x∈v.chs,x.data.length≤4294967296) (hG:Glob w) :
  Calls Tryz.prog 20 #[ag (fcs f.pub f.many f.no c e)] w (fun e w'=>e=.returned (vi (checkFE f))∧Ext w w'):=by
 obtain ⟨FA,fa,rfl,_⟩:=RLs.form h.items
 obtain ⟨FE,fe,rfl,_⟩:=RLs.form h.early
 exact fcheck_any FA fa FE fe f w h hdi hde hG
theorem rverify_at (root:List UInt8) (n:Int) (msg:List UInt8) (sg:Sg) (w:World) (hd:root.length=32) (hm:Fl S w 1 v m (byteVals msg)) (ho:Fl S1 w 32 u1 n1 (digVals sg.op)) (he:Fl S2 w 32 u2 n2 (digVals sg.cl)) (hp:Fl S3 w 32 u3 n3 (digVals sg.path)) (h32o:All32 sg.op) (h32c:All32 sg.cl) (h32p:All32 sg.path) :
  Calls Tryz.prog 40 #[.agg (byteVals root).toArray,.int .i64 n,v,.agg #[.int .i64 sg.index,u1,u2,u3]] w (fun e w'=>e=.returned (.bool (verifyF root n msg sg))∧Ext w w'):=by
 have h1:=hm.blen
 have h2:=Fl.dlen ho h32o
 have h3:=Fl.dlen he h32c
 have h4:=Fl.dlen hp h32p
 subst h1 h2 h3 h4
 obtain ⟨B,cb,rfl,_⟩:=hm.form
 obtain ⟨O,oc,rfl,_⟩:=ho.form
 obtain ⟨C,ec,rfl,_⟩:=he.form
 obtain ⟨P,pc,rfl,_⟩:=hp.form
 exact rverify_any (S:=fun _=>True) root n B cb msg sg.index O oc sg.op C ec sg.cl P pc sg.path w hd (hm.sub fun _ _=>trivial) (ho.sub fun _ _=>trivial) (he.sub fun _ _=>trivial) (hp.sub fun _ _=>trivial) h32o h32c h32p
theorem sames_at {v1 v2 v3:Value} {m1 m2 m3:Nat} {T1 T2 T3:Nat→Prop} (x y:Sg) (w:World) (h1:Fl S1 w 32 u1 n1 (digVals x.op)) (h2:Fl S2 w 32 u2 n2 (digVals x.cl)) (h3:Fl S3 w 32 u3 n3 (digVals x.path)) (a1:All32 x.op) (a2:All32 x.cl) (a3:All32 x.path) (g1:Fl T1 w 32 v1 m1 (digVals y.op)) (g2:Fl T2 w 32 v2 m2 (digVals y.cl)) (g3:Fl T3 w 32 v3 m3 (digVals y.path)) (b1:All32 y.op) (b2:All32 y.cl) (b3:All32 y.path) :
  Calls Tryz.prog 38 #[.agg #[.int .i64 x.index,u1,u2,u3],.agg #[.int .i64 y.index,v1,v2,v3]] w (fun e w'=>e=.returned (.bool (sameS x y))∧Ext w w'):=by
 have Y:=Fl.dlen h1 a1
 have Z:=Fl.dlen h2 a2
 have e3:=Fl.dlen h3 a3
 have e4:=Fl.dlen g1 b1
 have e5:=Fl.dlen g2 b2
 have e6:=Fl.dlen g3 b3
 subst Y Z e3 e4 e5 e6
 obtain ⟨C,I,rfl,_⟩:=h1.form
 obtain ⟨D,J,rfl,_⟩:=h2.form
 obtain ⟨G,M,rfl,_⟩:=h3.form
 obtain ⟨B1,O,rfl,_⟩:=g1.form
 obtain ⟨B2,U,rfl,_⟩:=g2.form
 obtain ⟨B3,V,rfl,_⟩:=g3.form
 have t:∀ {S:Nat→Prop} {v n l},Fl S w 32 v n l→Fl (fun _=>True) w 32 v n l:=fun h=>h.sub fun _ _=>trivial
 exact sames_any (S:=fun _=>True) (S2:=fun _=>True) C D G I J M x B1 B2 B3 O U V y w (t h1) a1 (t h2) a2 (t h3) a3 (t g1) b1 (t g2) b2 (t g3) b3
theorem rverifyv_any (C:Option Addr) (cc:Nat) (O:Option Addr) (oc:Nat) (E:Option Addr) (ec:Nat) (P:Option Addr) (pc:Nat) (pub:List UInt8) (n:Int) (v:Vr) (w:World) (h:RVp S w (vl C v.chs.length cc) (vl O v.sg.op.length oc) (vl E v.sg.cl.length ec) (vl P v.sg.path.length pc) v) (hp:pub.length=32) (hd:∀ x∈v.chs,x.data.length≤4294967296) :
  Calls Tryz.prog 15 #[.agg (byteVals pub).toArray,.int .i64 n,(ag ((vi v.no)::dg v.state [(vl C v.chs.length cc),(vi v.sg.index),(vl O v.sg.op.length oc),(vl E v.sg.cl.length ec),(vl P v.sg.path.length pc)]))] w (fun e w'=>e=.returned (vi (verifyE pub n v))∧Ext w w'):=by
 have hc:=RVp.subB (S':=Clip S w) h (fun _ hb hs=>⟨hs,hb⟩)
 obtain ⟨-,G,G⟩:=RLs.at hc.chs;have G:=(Fl.cel hc.sg.op).2.1;have G:=(Fl.cel hc.sg.cl).2.1;have G:=(Fl.cel hc.sg.path).2.1
 refine calls_enter Tryz.func15 rfl rfl rfl fun _ G=>wr fun J ah=>G.xb rfl fun g2 G _ G J J b4 J=>G.xb rfl fun G J _ J U U U aw=>J.xv (vi 0) fun _ J=>wn ah<|wp_seq_k fun ah ar=>wr fun ah ah=>J.xv (vp G)<|Xw (vi v.no) (fun F=>rl F rfl ((U.rule.1 0).trans rfl))<|Xv (vd ((v.no:Int)<(1:Int)))<|Xm rfl fun _ J=>?_
 by_cases ak:(v.no:Int)<(1:Int)
 ·exact J.xu<|Xu<|Xu<|Xv (.bool true) fun _ G=>wn ah<|have D:=G.k [0,1,2,3,5,6,14];D.ct<|wr fun G G=>D.xv (vi 420) fun _ D=>wn G<|wp_ret<|ret_then<|ret1 D rfl rfl<|⟨ret_int (show verifyE pub n v=420 from if_pos (by omega)).symm,eX⟩
 refine J.xg (vp G)<|Xgw (vi v.no) (fun F=>rl F rfl ((U.rule.1 0).trans rfl))<|Xg (vd ((4096:Int)<(v.no:Int)))<|Xv (vd ((4096:Int)<(v.no:Int))) fun _ ak=>wn ah ?_
 have J:=ak.k [0,1,2,3,5,6,14]
 by_cases ah:(4096:Int)<(v.no:Int)
 ·exact J.ct<|wr fun D G=>J.xv (vi 420) fun _ D=>wn G<|wp_ret<|ret_then<|ret1 D rfl rfl<|⟨ret_int (show verifyE pub n v=420 from if_pos (by omega)).symm,eX⟩
 refine J.cf<|wp_skip<|ar _ _<|wp_seq_k fun ah ak=>wr fun ah ar=>J.xv (vq G 33)<|Xw (vl C v.chs.length cc) (fun F=>rl F rfl ((U.rule.1 33).trans ((at_app (k:=0) (byteVals_len hc.st)).trans rfl))) fun _ J=>have ah:=(RLs.ux rCg hc.chs aw);J.xe (rchanges_at (v:=(vl C v.chs.length cc)) v.chs _ ah) fun J J J _ J=>J.xw (.bool (!(decide (validC v.chs)))) (fun F=>rn_not' (F.get rfl) rfl) fun _ Z=>wn ar ?_
 by_cases V:validC v.chs
 ·refine Z.cf<|wp_skip<|ak _ _<|wp_seq_k fun J av=>wp_seq_k fun J aj=>sX (fun D W=>Ext D W∧Blk W G 34 ((vi v.no)::dg v.state [(vl C v.chs.length cc),(vi v.sg.index),(vl O v.sg.op.length oc),(vl E v.sg.cl.length ec),(vl P v.sg.path.length pc)])∧Blk W g2 29 (byteVals pub)) (fun i=>false) 17 fun D J ah=>Z.yv 0 (vq G 34) rfl<|Yv 1 (vq G 34) rfl fun _ ah=>have aa:=U.ux J;have ab:=b4.ux J;have U:Ext D D∧Blk D G 34 ((vi v.no)::dg v.state [(vl C v.chs.length cc),(vi v.sg.index),(vl O v.sg.op.length oc),(vl E v.sg.cl.length ec),(vl P v.sg.path.length pc)])∧Blk D g2 29 (byteVals pub):=⟨(Ext.refl D),aa,ab⟩;ah.ys 2 (vi v.sg.index) rfl U (fun F W hW=>rl F rfl ((hW.2.1.rule.1 34).trans ((at_app (k:=1) (byteVals_len hc.st)).trans rfl)))<|Yv 3 (vp G) rfl<|Ys 4 (vi v.no) rfl U (fun F W hW=>rl F rfl ((hW.2.1.rule.1 0).trans rfl))<|Yv 5 (vi (v.no - 1)) rfl<|Yv 6 (vd ((v.sg.index:Int)≠(v.no - 1:Int))) rfl<|Ym 7 rfl fun _ ah=>?_
  by_cases ak:(v.sg.index:Int)≠(v.no - 1:Int)
  ·refine ah.yu 8 rfl<|Yu 9 rfl<|Yu 10 rfl<|Yu 12 rfl<|Yu 13 rfl fun _ G=>ao 11 rfl<|o_skip G rfl (unwanted_guard rfl rfl rfl G rfl (decide_eq_true ak) rfl) rfl rfl fun G G=>?_
   refine ⟨fun _ _=>⟨(Ext.refl D),aa,ab⟩,?_⟩
   refine ao 14 rfl<|o_skip G rfl (unwanted_guard rfl rfl rfl G rfl (decide_eq_true ak) rfl) rfl rfl fun G G=>?_
   refine ⟨fun _ _=>⟨(Ext.refl D),aa,ab⟩,?_⟩
   exact G.yu 15 rfl<|Yv 16 (.bool true) rfl fun _ G=>nK aj<|have D:=G.k [0,1,2,3,5,6,14,18,35];D.ct<|wr fun G G=>D.xv (vi 131) fun _ D=>wn G<|wp_ret<|ret_then<|ret1 D rfl rfl<|⟨ret_int (show verifyE pub n v=131 from (if_neg (by omega)).trans ((if_neg (fun q=>q V)).trans (if_pos (.inl (by omega))))).symm,eX⟩
  refine ah.ysg 8 (.agg (byteVals pub).toArray) rfl U (fun F W hW=>rb F rfl hW.2.2 (hk:=byteVals_len hp))<|Yg 9 (vi n) rfl<|Ysg 10 (ag ((vi v.no)::dg v.state [(vl C v.chs.length cc),(vi v.sg.index),(vl O v.sg.op.length oc),(vl E v.sg.cl.length ec),(vl P v.sg.path.length pc)])) rfl U (fun F W hW=>rb F rfl hW.2.1 (hk:=len_dig1 hc.st))<|Yg 12 (vq G 34) rfl<|Ysg 13 (.agg #[(vi v.sg.index),(vl O v.sg.op.length oc),(vl E v.sg.cl.length ec),(vl P v.sg.path.length pc)]) rfl U (fun F W hW=>rn_loadN (cs:=[(vi v.sg.index),(vl O v.sg.op.length oc),(vl E v.sg.cl.length ec),(vl P v.sg.path.length pc)]) (F.get rfl) uu32 rfl inf32 (Blk.part (A:=((vi v.no)::dg v.state [(vl C v.chs.length cc)])) (M:=[(vi v.sg.index),(vl O v.sg.op.length oc),(vl E v.sg.cl.length ec),(vl P v.sg.path.length pc)]) (B:=[]) hW.2.1 (by simp) (by simp [byteVals_len hc.st]))) fun _ G=>ao 11 rfl<|have U:=(RLs.ux rCg hc.chs J);have ah:=(hc.sg.op.ux J);have ak:=(hc.sg.cl.ux J);have ar:=(hc.sg.path.ux J);G.gC (c:=rmessage_at v _ (⟨hc.st,RLs.sub (S':=fun _=>True) rCg U fun _ _=>trivial,⟨Fl.any ah,Fl.any ak,Fl.any ar,hc.sg.o32,hc.sg.c32,hc.sg.p32⟩⟩:RVp (fun _=>True) _ _ _ _ _ v) V hd (show (0:Int)≤v.no by omega) (show v.no≤(4294967296:Int) by omega)) (k:= ?_)
  rintro _ am ⟨ae,ai,rfl,al,I⟩
  have G:=(Fl.cel al).2.1
  refine ⟨_,rfl,?_⟩;intro G J;have G:=I.size
  have ah:Fl (Clip (fun b=>D.heap.size≤b) am) am 1 (vl ae 72 ai) 72 (byteVals v.msg):=al.clip
  have D:=aa.ext I
  have G:=ab.ext I
  refine ⟨fun _ _=>⟨eX,D,G⟩,?_⟩
  refine ao 14 rfl<|have U:=(hc.sg.op.ux I);have aa:=(hc.sg.cl.ux I);have ab:=(hc.sg.path.ux I);J.gE (c:=rverify_at (v:=(vl ae 72 ai)) (m:=72) (u1:=(vl O v.sg.op.length oc)) (u2:=(vl E v.sg.cl.length ec)) (u3:=(vl P v.sg.path.length pc)) (n1:=v.sg.op.length) (n2:=v.sg.cl.length) (n3:=v.sg.path.length) pub n v.msg v.sg _ hp ah U aa ab hc.sg.o32 hc.sg.c32 hc.sg.p32 ) (k:=fun I I J _ J=>?_)
  have U:=D.ext I
  have D:=G.ext I
  refine ⟨fun _ _=>⟨eX,U,D⟩,?_⟩
  refine J.ygw 15 (.bool (!(verifyF pub n v.msg v.sg))) rfl (fun F W=>rn_not' (F.get rfl) rfl)<|Yv 16 (.bool (!(verifyF pub n v.msg v.sg))) rfl fun _ D=>nK aj ?_
  have Y:=D.k [0,1,2,3,5,6,14,18,35]
  rcases Bool.eq_false_or_eq_true (verifyF pub n v.msg v.sg) with ac | ac
  ·exact Y.cf<|wp_skip<|av _ _<|wr fun D au=>Y.xv (vi 0) fun _ aq=>wn au<|wp_ret<|ret1 aq rfl rfl<|⟨ret_int (show verifyE pub n v=0 from (if_neg (by omega)).trans ((if_neg (fun q=>q V)).trans (if_neg (fun q=>q.elim (fun h1=>h1 (by omega)) (fun h2=>by rw [ac] at h2;cases h2))))).symm,eX⟩
  exact Y.ct<|wr fun D G=>Y.xv (vi 131) fun _ D=>wn G<|wp_ret<|ret_then<|ret1 D rfl rfl<|⟨ret_int (show verifyE pub n v=131 from (if_neg (by omega)).trans ((if_neg (fun q=>q V)).trans (if_pos (.inr ac)))).symm,eX⟩
 exact Z.ct<|wr fun D G=>Z.xv (vi 400) fun _ D=>wn G<|wp_ret<|ret_then<|ret1 D rfl rfl<|⟨ret_int (show verifyE pub n v=400 from (if_neg (by omega)).trans (if_pos V)).symm,eX⟩
theorem rverifyv_at {p:Value} (pub:List UInt8) (n:Int) (v:Vr) (w:World) (h:RVp S w c o e p v) (hp:pub.length=32) (hd:∀ x∈v.chs,x.data.length≤4294967296) :
  Calls Tryz.prog 15 #[.agg (byteVals pub).toArray,.int .i64 n,ag (vcs v.no v.state c v.sg.index o e p)] w (fun e w'=>e=.returned (vi (verifyE pub n v))∧Ext w w'):=by
 obtain ⟨C,cc,rfl,_⟩:=RLs.form h.chs
 obtain ⟨O,oc,rfl,_⟩:=Fl.form h.sg.op
 obtain ⟨E,ec,rfl,_⟩:=Fl.form h.sg.cl
 obtain ⟨P,pc,rfl,_⟩:=Fl.form h.sg.path
 exact rverifyv_any C cc O oc E ec P pc pub n v w h hp hd
end Go.Proofs.YtihgmaoghbnnaaaGreatDoor
