/- Several texts in one: MrN, NrJ, MrO, MrP, MrQ, MrR, MrS, MrT, MrV, MrX, MrU, MrY. -/
import Derived.Test.YtihgmaoghbnnaaaGreatDoorProg
import Derived.Test.YtihgmaoghbnnaaaGreatDoorQfF
import Derived.KernelRfl
import Derived.Test.YtihgmaoghbnnaaaGreatDoorQfA
import Derived.Test.YtihgmaoghbnnaaaGreatDoorQfB
import Derived.Test.YtihgmaoghbnnaaaGreatDoorQfD
import Derived.Defers
import Derived.Recover
set_option linter.unusedVariables false
set_option linter.unusedSimpArgs false
set_option maxRecDepth 100000
set_option maxHeartbeats 1000000
namespace Go.Proofs.YtihgmaoghbnnaaaGreatDoor
open Go.RowKit
variable {L L':Array Bool} {b:Bool} {g:Fo} {f:FuncId} {t:Int} {ll:List (List Vr)} {c:List PanicEntry} {xs:List Value} {l l2:List Vr} {base d0 d1 h i id n:Nat} {S S' S1 S2:Nat→Prop} {o0 o1:Oper} {α:Type} {T1 T2 s:TypeId} {c1 e e1 kv o p p1 u v v2:Value} {x:Vr} {w w':World}
theorem Fl.len32 {l:List (List UInt8)} (h:Fl S w 32 v n (digVals l)) (h32:All32 l):Fl S w 32 v l.length (digVals l):=by rw [Fl.dlen h h32];exact h
def keyS (sd:List UInt8) (many used:Int) (nl:Nat) (a:List It) (l:List Cg):List UInt8:=if versionE sd many used nl a l=0 then sd else []
def keyM (sd:List UInt8) (many used:Int) (nl:Nat) (a:List It) (l:List Cg):Int:=if versionE sd many used nl a l=0 then many else 0
def keyU (sd:List UInt8) (many used:Int) (nl:Nat) (a:List It) (l:List Cg):Int:=if versionE sd many used nl a l=0 then used+1 else 0
theorem version_any (A:Option Addr) (c:Nat) (L:Option Addr) (ld:Nat) (B:Option Addr) (d:Nat) (C:Option Addr) (e:Nat) (sd:List UInt8) (many used:Int) (nl:Nat) (a:List It) (l:List Cg) (w:World) (hf:Fl S w 1 (vl A sd.length c) sd.length (byteVals sd)) (h1:RLs RIt 2 S w (vl B a.length d) a) (h2:RLs RCg 3 S w (vl C l.length e) l) (hsi:∀ x∈a,x.data.length≤4294967296) (hli:a.length≤4294967296) (hd:∀ x∈l,x.data.length≤4294967296) (hG:Glob w) {kv0 cv0:Value} (hkv:kv0=.slice A sd.length c) (hcv:cv0=.slice C l.length e) :
  Calls Tryz.prog 10 #[.agg #[.slice A sd.length c,.int .i64 many,.int .i64 used],.slice L nl ld,.slice B a.length d,.slice C l.length e] w (fun e w'=>∃ c o e' p A n cc,e=.returned (.tuple #[ag (vcs (versionV sd many used nl a l).no (versionV sd many used nl a l).state c (versionV sd many used nl a l).sg.index o e' p),.agg #[.slice A n cc,.int .i64 (keyM sd many used nl a l),.int .i64 (keyU sd many used nl a l)],.int .i64 (versionE sd many used nl a l)])∧RVp (Fr S w) w' c o e' p (versionV sd many used nl a l)∧Fl (Fr S w) w' 1 (vl A n cc) n (byteVals (keyS sd many used nl a l))∧RSg (fun b=>w.heap.size≤b) w' o e' p (versionV sd many used nl a l).sg∧(versionE sd many used nl a l=0→c=cv0∧Value.slice A n cc=kv0)∧Ext w w'):=by
 have hc:Fl (Clip S w) w 1 (vl A sd.length c) sd.length (byteVals sd):=hf.clip
 have hcc:=(Fl.cel hc).2.1
 have h1c:RLs RIt 2 (Clip S w) w (vl B a.length d) a:=RLs.clip rIt h1
 obtain ⟨-,h1ck,h1cm⟩:=RLs.at h1
 have h2c:RLs RCg 3 (Clip S w) w (vl C l.length e) l:=RLs.clip rCg h2
 obtain ⟨-,h2ck,h2cm⟩:=RLs.at h2
 refine calls_enter Tryz.func10 rfl rfl rfl fun _ hF=>wr fun K1 aG=>hF.xb rfl fun Y w3 _ F9 z6 z7 b4 ax=>F9.xz vz 34 fun I ax _ ax aD aD am aD=>ax.xz [v0,(vi 0),(vi 0)] 24 fun J ax _ aD ax ax aq ax=>aD.xv (vi 0) fun _ aD=>wn aG<|wp_seq_k fun aG aO=>wr fun aG aP=>have aJ:=b4.ux ax;aD.xw (.agg #[(vl A sd.length c),(vi many),(vi used)]) (fun F=>rb F rfl aJ) fun _ aD=>have aG:=(hc.ux ax);aD.xe (pub_at (v:=(vl A sd.length c)) (m:=sd.length) sd many used _ aG (hG.ext eX)) fun ax ax ax _ ax=>ax.xm rfl<|Xv (.agg (byteVals (pubF sd many used)).toArray)<|Xv (vi (pubE sd many used)) fun _ ax=>ax.xz (byteVals (List.replicate 32 0)) 29 fun ax ax _ ax aD aD aD aG=>?_
 refine ax.xs rfl aD (fun aD aD aD=>?_) (hk:=byteVals_len (pubF_len _ _ _));have aG:=aD.size
 refine ax.xa rfl fun _ ax=>wn aP<|have aG:=ax.k [0,1,2,3,4,8,9,10,12];wr fun ax aP=>aG.xm rfl<|Xv (vd (((pubE sd many used):Int)≠(0:Int))) fun _ ax=>wn aP ?_
 by_cases D:((pubE sd many used):Int)≠(0:Int)
 ·refine ax.ct<|wp_seq_k fun G V=>sX (fun G W=>Ext G W∧Blk W I 34 vz∧Blk W J 24 [v0,(vi 0),(vi 0)]) (fun i=>i==3||i==4) 6 fun G Y O=>have U:=am.ux Y;have O:=aq.ux Y;have Y:Ext G G∧Blk G I 34 vz∧Blk G J 24 [v0,(vi 0),(vi 0)]:=⟨(Ext.refl G),U,O⟩;ax.ys 0 (ag vz) rfl Y (fun F W hW=>rb F rfl hW.2.1)<|Ym 2 rfl fun _ G=>?_
  refine any_two (i:=1) (k:=3) (by decide +kernel) rfl rfl ?_ ?_
  ·refine G.ow (.agg #[v0,(vi 0),(vi 0)]) rfl (fun F=>rb F rfl O) fun _ G=>ap<|ao 3 rfl (G.os rfl U (fun I U I=>an<|have J:=I.size;have J:=(O.gn I);ao 4 rfl (G.os rfl J (fun I O I=>an<|have J:=I.size;G.yv 5 (vi (pubE sd many used)) rfl fun _ G=>nK V<|have J:=G.k [0,1,2,3,4,8,9,10,12,21];wp_ret<|ret_then<|have G:=(U.gn I);retCC1 J rfl rfl rfl rfl G uu34 rfl (sk inf34 (len_dig1 zero32_len)) O uu24 rfl inf24 ?_))))
   have hE:versionE sd many used nl a l=(pubE sd many used):=if_pos D
   have hne:versionE sd many used nl a l≠0:=by rw [hE];exact D
   have hV:versionV sd many used nl a l=vrNil:=if_neg hne
   have D:keyS sd many used nl a l=[]∧keyM sd many used nl a l=0∧keyU sd many used nl a l=0:=⟨if_neg hne,if_neg hne,if_neg hne⟩
   have hne0:=hne;rw [hE] at hne0
   rw [hV,hE,D.1,D.2.1,D.2.2]
   exact ⟨_,_,_,_,_,_,_,rfl,vrNil_at _,Fl.nil _,sgNil_at _,fun q=>absurd q hne0,eX⟩
  refine G.os rfl U (fun I U J=>an<|have I:=J.size;have I:=(O.gn J);ao 1 rfl<|G.ow (.agg #[v0,(vi 0),(vi 0)]) rfl (fun F=>rb F rfl I) fun _ G=>ap<|ao 4 rfl (G.os rfl I (fun I O I=>an<|have J:=I.size;G.yv 5 (vi (pubE sd many used)) rfl fun _ G=>nK V<|have J:=G.k [0,1,2,3,4,8,9,10,12,21];wp_ret<|ret_then<|have G:=(U.gn I);retCC1 J rfl rfl rfl rfl G uu34 rfl (sk inf34 (len_dig1 zero32_len)) O uu24 rfl inf24 ?_)))
  have hE:versionE sd many used nl a l=(pubE sd many used):=if_pos D
  have hne:versionE sd many used nl a l≠0:=by rw [hE];exact D
  have hV:versionV sd many used nl a l=vrNil:=if_neg hne
  have D:keyS sd many used nl a l=[]∧keyM sd many used nl a l=0∧keyU sd many used nl a l=0:=⟨if_neg hne,if_neg hne,if_neg hne⟩
  have hne0:=hne;rw [hE] at hne0
  rw [hV,hE,D.1,D.2.1,D.2.2]
  exact ⟨_,_,_,_,_,_,_,rfl,vrNil_at _,Fl.nil _,sgNil_at _,fun q=>absurd q hne0,eX⟩
 have hko:=kOk_iff.1 (pub_zero (Decidable.not_not.1 D))
 refine ax.cf<|wp_skip<|aO _ _<|wp_seq_k fun aG aO=>wr fun aG aP=>ax.xv (vq Y 2) fun _ ax=>have aG:=aJ.ug aD;ax.xw (vi used) (fun F=>rl F rfl (aG.rule.1 2))<|Xm rfl<|Xv (vi nl)<|Xv (vd ((used:Int)≠(nl:Int))) fun _ aJ=>wn aP ?_
 have ax:=aJ.k [0,1,2,3,4,8,9,10,12,21,29]
 by_cases O:(used:Int)≠(nl:Int)
 ·refine ax.ct<|wp_seq_k fun G Y=>sX (fun G W=>Ext G W∧Blk W I 34 vz∧Blk W J 24 [v0,(vi 0),(vi 0)]) (fun i=>i==2||i==3) 5 fun G Z U=>have V:=am.ux Z;have U:=aq.ux Z;have Z:Ext G G∧Blk G I 34 vz∧Blk G J 24 [v0,(vi 0),(vi 0)]:=⟨(Ext.refl G),V,U⟩;ax.ys 0 (ag vz) rfl Z (fun F W hW=>rb F rfl hW.2.1) fun _ G=>?_
  refine any_two (i:=1) (k:=2) (by decide +kernel) rfl rfl ?_ ?_
  ·refine G.ow (.agg #[v0,(vi 0),(vi 0)]) rfl (fun F=>rb F rfl U) fun _ G=>ap<|ao 2 rfl (G.os rfl V (fun I J I=>an<|have V:=I.size;have V:=(U.gn I);ao 3 rfl (G.os rfl V (fun I U I=>an<|have V:=I.size;G.yv 4 (vi 420) rfl fun _ G=>nK Y<|wp_ret<|ret_then<|have V:=(J.gn I);retCC1 G rfl rfl rfl rfl V uu34 rfl (sk inf34 (len_dig1 zero32_len)) U uu24 rfl inf24 ?_))))
   have hE:versionE sd many used nl a l=420:=(if_neg D).trans (if_pos O)
   have hne:versionE sd many used nl a l≠0:=by rw [hE];exact by decide
   have hV:versionV sd many used nl a l=vrNil:=if_neg hne
   have D:keyS sd many used nl a l=[]∧keyM sd many used nl a l=0∧keyU sd many used nl a l=0:=⟨if_neg hne,if_neg hne,if_neg hne⟩
   have hne0:=hne;rw [hE] at hne0
   rw [hV,hE,D.1,D.2.1,D.2.2]
   exact ⟨_,_,_,_,_,_,_,rfl,vrNil_at _,Fl.nil _,sgNil_at _,fun q=>absurd q hne0,eX⟩
  refine G.os rfl V (fun I V J=>an<|have I:=J.size;have I:=(U.gn J);ao 1 rfl<|G.ow (.agg #[v0,(vi 0),(vi 0)]) rfl (fun F=>rb F rfl I) fun _ G=>ap<|ao 3 rfl (G.os rfl I (fun I J I=>an<|have U:=I.size;G.yv 4 (vi 420) rfl fun _ G=>nK Y<|wp_ret<|ret_then<|have U:=(V.gn I);retCC1 G rfl rfl rfl rfl U uu34 rfl (sk inf34 (len_dig1 zero32_len)) J uu24 rfl inf24 ?_)))
  have hE:versionE sd many used nl a l=420:=(if_neg D).trans (if_pos O)
  have hne:versionE sd many used nl a l≠0:=by rw [hE];exact by decide
  have hV:versionV sd many used nl a l=vrNil:=if_neg hne
  have D:keyS sd many used nl a l=[]∧keyM sd many used nl a l=0∧keyU sd many used nl a l=0:=⟨if_neg hne,if_neg hne,if_neg hne⟩
  have hne0:=hne;rw [hE] at hne0
  rw [hV,hE,D.1,D.2.1,D.2.2]
  exact ⟨_,_,_,_,_,_,_,rfl,vrNil_at _,Fl.nil _,sgNil_at _,fun q=>absurd q hne0,eX⟩
 refine ax.cf<|wp_skip<|aO _ _<|wr fun aJ aP=>ax.xm rfl fun _ ax=>have aJ:=(RLs.ug rIt h1c aD);ax.xe (state_at (v:=(vl B a.length d)) a _ aJ hsi hli (hG.ext eX)) fun ax ax ax _ ax=>ax.xm rfl<|Xv (.agg (byteVals (stateD a)).toArray)<|Xv (vi (checkE a)) fun _ ax=>ax.xz (byteVals (List.replicate 32 0)) 29 fun ax ax _ ax aD aD aD aJ=>?_
 refine ax.xs rfl aD (fun aD aO aD=>?_) (hk:=byteVals_len (stateD_len _));have aJ:=aD.size
 refine ax.xa rfl fun _ ax=>wn aP<|have aJ:=ax.k [0,1,2,3,4,8,9,10,12,21,29,13];wp_seq_k fun ax aP=>wr fun ax aQ=>aJ.xm rfl<|Xv (vd (((checkE a):Int)≠(0:Int))) fun _ ax=>wn aQ ?_
 by_cases U:((checkE a):Int)≠(0:Int)
 ·refine ax.ct<|wp_seq_k fun G Z=>sX (fun G W=>Ext G W∧Blk W I 34 vz∧Blk W J 24 [v0,(vi 0),(vi 0)]) (fun i=>i==3||i==4) 6 fun G aa V=>have Y:=am.ux aa;have V:=aq.ux aa;have aa:Ext G G∧Blk G I 34 vz∧Blk G J 24 [v0,(vi 0),(vi 0)]:=⟨(Ext.refl G),Y,V⟩;ax.ys 0 (ag vz) rfl aa (fun F W hW=>rb F rfl hW.2.1)<|Ym 2 rfl fun _ G=>?_
  refine any_two (i:=1) (k:=3) (by decide +kernel) rfl rfl ?_ ?_
  ·refine G.ow (.agg #[v0,(vi 0),(vi 0)]) rfl (fun F=>rb F rfl V) fun _ G=>ap<|ao 3 rfl (G.os rfl Y (fun I Y I=>an<|have J:=I.size;have J:=(V.gn I);ao 4 rfl (G.os rfl J (fun I V I=>an<|have J:=I.size;G.yv 5 (vi (checkE a)) rfl fun _ G=>nK Z<|have J:=G.k [0,1,2,3,4,8,9,10,12,21,29,13,38];wp_ret<|ret_then<|have G:=(Y.gn I);retCC1 J rfl rfl rfl rfl G uu34 rfl (sk inf34 (len_dig1 zero32_len)) V uu24 rfl inf24 ?_))))
   have hE:versionE sd many used nl a l=(checkE a):=(if_neg D).trans ((if_neg O).trans (if_pos U))
   have hne:versionE sd many used nl a l≠0:=by rw [hE];exact U
   have hV:versionV sd many used nl a l=vrNil:=if_neg hne
   have D:keyS sd many used nl a l=[]∧keyM sd many used nl a l=0∧keyU sd many used nl a l=0:=⟨if_neg hne,if_neg hne,if_neg hne⟩
   have hne0:=hne;rw [hE] at hne0
   rw [hV,hE,D.1,D.2.1,D.2.2]
   exact ⟨_,_,_,_,_,_,_,rfl,vrNil_at _,Fl.nil _,sgNil_at _,fun q=>absurd q hne0,eX⟩
  refine G.os rfl Y (fun I Y J=>an<|have I:=J.size;have I:=(V.gn J);ao 1 rfl<|G.ow (.agg #[v0,(vi 0),(vi 0)]) rfl (fun F=>rb F rfl I) fun _ G=>ap<|ao 4 rfl (G.os rfl I (fun I V I=>an<|have J:=I.size;G.yv 5 (vi (checkE a)) rfl fun _ G=>nK Z<|have J:=G.k [0,1,2,3,4,8,9,10,12,21,29,13,38];wp_ret<|ret_then<|have G:=(Y.gn I);retCC1 J rfl rfl rfl rfl G uu34 rfl (sk inf34 (len_dig1 zero32_len)) V uu24 rfl inf24 ?_)))
  have hE:versionE sd many used nl a l=(checkE a):=(if_neg D).trans ((if_neg O).trans (if_pos U))
  have hne:versionE sd many used nl a l≠0:=by rw [hE];exact U
  have hV:versionV sd many used nl a l=vrNil:=if_neg hne
  have D:keyS sd many used nl a l=[]∧keyM sd many used nl a l=0∧keyU sd many used nl a l=0:=⟨if_neg hne,if_neg hne,if_neg hne⟩
  have hne0:=hne;rw [hE] at hne0
  rw [hV,hE,D.1,D.2.1,D.2.2]
  exact ⟨_,_,_,_,_,_,_,rfl,vrNil_at _,Fl.nil _,sgNil_at _,fun q=>absurd q hne0,eX⟩
 refine ax.cf<|wp_skip<|aP _ _<|wp_seq_k fun aJ aP=>wr fun aJ aQ=>ax.xm rfl fun _ ax=>have aJ:=(RLs.ug rCg h2c aD);ax.xe (mvalid_at (v:=(vl C l.length e)) l _ aJ) fun ax aT ax _ ax=>ax.xw (.bool (!(decide (validC l)))) (fun F=>rn_not' (F.get rfl) rfl) fun _ ay=>wn aQ ?_
 by_cases al:validC l
 ·refine ay.cf<|wp_skip<|aP _ _<|wr fun ax aJ=>ay.xm rfl<|Xv (vi nl)<|Xv (vi (nl+1:Nat)) fun _ ax=>have aD:=(aO.ext aT);ax.xw (.agg (byteVals (stateD a)).toArray) (fun F=>rb F rfl aD (hk:=byteVals_len (stateD_len _)))<|Xm rfl<|Xw (ag ((vi (nl+1:Nat))::dg (stateD a) [(vl C l.length e),(vi 0),v0,v0,v0])) (fun F=>rn_build (parts3 (F.get rfl) (F.get rfl) (F.get rfl)) (build_vr (stateD_len _))) fun _ ax=>ax.xz vz 34 fun av ax _ ax aD aD aD aO=>?_
  refine ax.xs rfl aD (fun aD aO aD=>?_) (hk:=len_dig1 (stateD_len _));have aP:=aD.size
  refine wn aJ<|have aJ:=ax.k [0,1,2,3,4,8,9,10,12,21,29,13,38,44,14];wp_seq_k fun ax aR=>wp_seq_k fun ax aS=>sX (fun V W=>Ext V W∧Blk W Y 24 [(vl A sd.length c),(vi many),(vi used)]∧Blk W av 34 ((vi (nl+1:Nat))::dg (stateD a) [(vl C l.length e),(vi 0),v0,v0,v0])) (fun i=>i==10) 12 fun V aD ax=>have aH:=aG.ux aD;have aI:=(aO.ext aD);have ax:Ext V V∧Blk V Y 24 [(vl A sd.length c),(vi many),(vi used)]∧Blk V av 34 ((vi (nl+1:Nat))::dg (stateD a) [(vl C l.length e),(vi 0),v0,v0,v0]):=⟨(Ext.refl V),aH,aI⟩;aJ.ys 0 (.agg #[(vl A sd.length c),(vi many),(vi used)]) rfl ax (fun F W hW=>rb F rfl hW.2.1)<|Yv 1 (vq Y 2) rfl<|Ys 2 (vi used) rfl ax (fun F W hW=>rl F rfl (hW.2.1.rule.1 2))<|Ys 3 (ag ((vi (nl+1:Nat))::dg (stateD a) [(vl C l.length e),(vi 0),v0,v0,v0])) rfl ax (fun F W hW=>rb F rfl hW.2.2 (hk:=len_dig1 (stateD_len _))) fun _ ax=>ao 4 rfl<|have aG:=(RLs.ux rCg h2c aD);ax.oc (message_at (⟨(nl+1:Nat),stateD a,l,⟨0,[],[],[]⟩⟩:Vr) _ (⟨(stateD_len _),RLs.sub (S':=fun _=>True) rCg aG fun _ _=>trivial,⟨Fl.any (Fl.nil _:Fl (fun _=>True) _ 32 _ _ (digVals [])),Fl.any (Fl.nil _:Fl (fun _=>True) _ 32 _ _ (digVals [])),Fl.any (Fl.nil _:Fl (fun _=>True) _ 32 _ _ (digVals [])),All32.nil,All32.nil,All32.nil⟩⟩:RVp (fun _=>True) _ _ _ _ _ (⟨(nl+1:Nat),stateD a,l,⟨0,[],[],[]⟩⟩:Vr)) al hd (show (0:Int)≤(nl+1:Nat) by omega) (show (nl+1:Nat)≤(4294967296:Int) by omega) (hG.ext eX)) ?_
  rintro _ aw ⟨aF,aM,rfl,aN,az⟩
  have ax:=(Fl.cel aN).2.1
  refine ⟨_,rfl,?_⟩;intro ax ax;have aD:=az.size
  have aD:Fl (Clip (fun b=>V.heap.size≤b) aw) aw 1 (vl aF 72 aM) 72 (byteVals ((⟨(nl+1:Nat),stateD a,l,⟨0,[],[],[]⟩⟩:Vr).msg)):=aN.clip
  have aK:=aH.ext az
  have aL:=aI.ext az
  refine ⟨fun _ _=>⟨eX,aK,aL⟩,?_⟩
  refine ao 5 rfl<|have V:=(hc.ux az);ax.oc (sign_at (v:=(vl A sd.length c)) (m:=sd.length) (u:=(vl aF 72 aM)) (n:=72) sd many used used ((⟨(nl+1:Nat),stateD a,l,⟨0,[],[],[]⟩⟩:Vr).msg) _ V aD (hG.ext eX)) ?_
  obtain ⟨G,ar⟩:∃ z,z=signF sd many used used ((⟨(nl+1:Nat),stateD a,l,⟨0,[],[],[]⟩⟩:Vr).msg):=⟨_,rfl⟩
  rw [← ar]
  rintro _ au ⟨ac,Z,ai,ae,aa,aj,ah,ab,ak,rfl,aA,aB,aC,aE⟩
  have h32327:All32 G.op:=by rw [ar];exact signF_o _ _ _ _ _
  have V:=(Fl.cel aA).2.1;have V:=Fl.dlen aA h32327
  have h32330:All32 G.cl:=by rw [ar];exact signF_c _ _ _ _ _
  have V:=(Fl.cel aB).2.1;have V:=Fl.dlen aB h32330
  have h32333:All32 G.path:=by rw [ar];exact signF_p _ _ _ _ _
  have V:=(Fl.cel aC).2.1;have V:=Fl.dlen aC h32333
  refine ⟨_,rfl,?_⟩;intro V V;have ax:=aE.size
  have aD:Fl (Clip (fun b=>aw.heap.size≤b) au) au 32 (vl ac Z ai) Z (digVals G.op):=aA.clip
  have aA:Fl (Clip (fun b=>aw.heap.size≤b) au) au 32 (vl ae aa aj) aa (digVals G.cl):=aB.clip
  have aB:Fl (Clip (fun b=>aw.heap.size≤b) au) au 32 (vl ah ab ak) ab (digVals G.path):=aC.clip
  have aw:=aK.ext aE
  have au:=aL.ext aE
  refine ⟨fun _ _=>⟨eX,aw,au⟩,?_⟩
  refine V.ym 6 rfl<|Yv 7 (.agg #[(vi G.index),(vl ac Z ai),(vl ae aa aj),(vl ah ab ak)]) rfl<|Yv 8 (vi (signE sd many used used ((⟨(nl+1:Nat),stateD a,l,⟨0,[],[],[]⟩⟩:Vr).msg))) rfl<|Yv 9 (vq av 34) rfl fun _ V=>ao 10 rfl<|o_storeMid (cells:=[(vi G.index),(vl ac Z ai),(vl ae aa aj),(vl ah ab ak)]) (new:=((vi (nl+1:Nat))::dg (stateD a) [(vl C l.length e),(vi G.index),(vl ac Z ai),(vl ae aa aj),(vl ah ab ak)])) V rfl rfl rfl rfl (V.get rfl) (V.get rfl) au inf32 (le_mid (x:=38) (y:=4) (by simp [byteVals_len (stateD_len _)]) rfl (by decide)) (one_cons rfl (one_cons rfl (one_cons rfl (one_cons rfl one_nil)))) (splice_mid (A:=((vi (nl+1:Nat))::dg (stateD a) [(vl C l.length e)])) (M:=[(vi 0),v0,v0,v0]) (B:=[]) (by simp) (by simp [byteVals_len (stateD_len _)]) rfl (by simp)) fun au aE ay=>?_;have au:=ay.size
  refine ⟨fun h=>absurd h (by decide),?_⟩
  refine V.yv 11 (vi (signE sd many used used ((⟨(nl+1:Nat),stateD a,l,⟨0,[],[],[]⟩⟩:Vr).msg))) rfl fun _ V=>nK aS<|have au:=V.k [0,1,2,3,4,8,9,10,12,21,29,13,38,44,14];wr fun V ax=>au.xm rfl<|Xv (vd (((signE sd many used used ((⟨(nl+1:Nat),stateD a,l,⟨0,[],[],[]⟩⟩:Vr).msg)):Int)≠(0:Int))) fun _ V=>wn ax ?_
  by_cases au:((signE sd many used used ((⟨(nl+1:Nat),stateD a,l,⟨0,[],[],[]⟩⟩:Vr).msg)):Int)≠(0:Int)
  ·refine V.ct<|wp_seq_k fun G aa=>sX (fun G W=>Ext G W∧Blk W I 34 vz∧Blk W J 24 [v0,(vi 0),(vi 0)]) (fun i=>i==3||i==4) 6 fun G ab Y=>have Z:=am.ux ab;have Y:=aq.ux ab;have ab:Ext G G∧Blk G I 34 vz∧Blk G J 24 [v0,(vi 0),(vi 0)]:=⟨(Ext.refl G),Z,Y⟩;V.ys 0 (ag vz) rfl ab (fun F W hW=>rb F rfl hW.2.1)<|Ym 2 rfl fun _ G=>?_
   refine any_two (i:=1) (k:=3) (by decide +kernel) rfl rfl ?_ ?_
   ·refine G.ow (.agg #[v0,(vi 0),(vi 0)]) rfl (fun F=>rb F rfl Y) fun _ G=>ap<|ao 3 rfl (G.os rfl Z (fun I V I=>an<|have J:=I.size;have J:=(Y.gn I);ao 4 rfl (G.os rfl J (fun I Y I=>an<|have J:=I.size;G.yv 5 (vi (signE sd many used used ((⟨(nl+1:Nat),stateD a,l,⟨0,[],[],[]⟩⟩:Vr).msg))) rfl fun _ G=>nK aa<|have J:=G.k [0,1,2,3,4,8,9,10,12,21,29,13,38,44,14,64];wp_ret<|ret_then<|have G:=(V.gn I);retCC1 J rfl rfl rfl rfl G uu34 rfl (sk inf34 (len_dig1 zero32_len)) Y uu24 rfl inf24 ?_))))
    have hE:versionE sd many used nl a l=(signE sd many used used ((⟨(nl+1:Nat),stateD a,l,⟨0,[],[],[]⟩⟩:Vr).msg)):=(if_neg D).trans ((if_neg O).trans ((if_neg U).trans ((if_neg (fun q=>q al)).trans rfl)))
    have hne:versionE sd many used nl a l≠0:=by rw [hE];exact au
    have hV:versionV sd many used nl a l=vrNil:=if_neg hne
    have D:keyS sd many used nl a l=[]∧keyM sd many used nl a l=0∧keyU sd many used nl a l=0:=⟨if_neg hne,if_neg hne,if_neg hne⟩
    have hne0:=hne;rw [hE] at hne0
    rw [hV,hE,D.1,D.2.1,D.2.2]
    exact ⟨_,_,_,_,_,_,_,rfl,vrNil_at _,Fl.nil _,sgNil_at _,fun q=>absurd q hne0,eX⟩
   refine G.os rfl Z (fun I V J=>an<|have I:=J.size;have I:=(Y.gn J);ao 1 rfl<|G.ow (.agg #[v0,(vi 0),(vi 0)]) rfl (fun F=>rb F rfl I) fun _ G=>ap<|ao 4 rfl (G.os rfl I (fun I Y I=>an<|have J:=I.size;G.yv 5 (vi (signE sd many used used ((⟨(nl+1:Nat),stateD a,l,⟨0,[],[],[]⟩⟩:Vr).msg))) rfl fun _ G=>nK aa<|have J:=G.k [0,1,2,3,4,8,9,10,12,21,29,13,38,44,14,64];wp_ret<|ret_then<|have G:=(V.gn I);retCC1 J rfl rfl rfl rfl G uu34 rfl (sk inf34 (len_dig1 zero32_len)) Y uu24 rfl inf24 ?_)))
   have hE:versionE sd many used nl a l=(signE sd many used used ((⟨(nl+1:Nat),stateD a,l,⟨0,[],[],[]⟩⟩:Vr).msg)):=(if_neg D).trans ((if_neg O).trans ((if_neg U).trans ((if_neg (fun q=>q al)).trans rfl)))
   have hne:versionE sd many used nl a l≠0:=by rw [hE];exact au
   have hV:versionV sd many used nl a l=vrNil:=if_neg hne
   have D:keyS sd many used nl a l=[]∧keyM sd many used nl a l=0∧keyU sd many used nl a l=0:=⟨if_neg hne,if_neg hne,if_neg hne⟩
   have hne0:=hne;rw [hE] at hne0
   rw [hV,hE,D.1,D.2.1,D.2.2]
   exact ⟨_,_,_,_,_,_,_,rfl,vrNil_at _,Fl.nil _,sgNil_at _,fun q=>absurd q hne0,eX⟩
  refine V.cf<|wp_skip<|aR _ _<|wr fun ax az=>V.xv (vq Y 2) fun _ V=>have ax:=(aw.gn ay);V.xw (vi used) (fun F=>rl F rfl (ax.rule.1 2))<|Xv (vi (used+1))<|Xv (vq Y 2) fun _ V=>wpl_op (i:=4) rfl<|o_store1 (new:=[(vl A sd.length c),(vi many),(vi (used+1))]) V rfl rfl rfl rfl (V.get rfl) (V.get rfl) ax inf3 (by simp) rfl rfl fun aw ay aw=>have ax:=aw.size;wn az<|have aC:=V.k [0,1,2,3,4,8,9,10,12,21,29,13,38,44,14,64];wp_seq_k fun V az=>sX (fun V W=>Ext V W∧Blk W av 34 ((vi (nl+1:Nat))::dg (stateD a) [(vl C l.length e),(vi G.index),(vl ac Z ai),(vl ae aa aj),(vl ah ab ak)])∧Blk W Y 24 [(vl A sd.length c),(vi many),(vi (used+1))]∧Blk W I 34 vz∧Blk W J 24 [v0,(vi 0),(vi 0)]) (fun i=>i==2||i==3) 5 fun V aw ax=>have aF:=aE.ux aw;have ax:=(ay.ext aw);have ay:=am.ux aw;have am:=aq.ux aw;have aq:Ext V V∧Blk V av 34 ((vi (nl+1:Nat))::dg (stateD a) [(vl C l.length e),(vi G.index),(vl ac Z ai),(vl ae aa aj),(vl ah ab ak)])∧Blk V Y 24 [(vl A sd.length c),(vi many),(vi (used+1))]∧Blk V I 34 vz∧Blk V J 24 [v0,(vi 0),(vi 0)]:=⟨(Ext.refl V),aF,ax,ay,am⟩;aC.ys 0 (ag ((vi (nl+1:Nat))::dg (stateD a) [(vl C l.length e),(vi G.index),(vl ac Z ai),(vl ae aa aj),(vl ah ab ak)])) rfl aq (fun F W hW=>rb F rfl hW.2.1 (hk:=len_dig1 (stateD_len _))) fun _ I=>?_
  refine any_two (i:=1) (k:=2) (by decide +kernel) rfl rfl ?_ ?_
  ·refine I.ow (.agg #[(vl A sd.length c),(vi many),(vi (used+1))]) rfl (fun F=>rb F rfl ax) fun _ J=>ap ?_
   refine ao 2 rfl (J.os rfl ay (fun I V I=>an ?_) (hk:=len_dig1 (stateD_len _)));have Y:=I.size
   have Y:=am.gn I
   refine ao 3 rfl (J.os rfl Y (fun I Y I=>an<|have Z:=I.size;J.yv 4 (vi 0) rfl fun _ J=>nK az<|wp_ret<|have Z:=(V.gn I);retCC1 J rfl rfl rfl rfl Z uu34 rfl (sk inf34 (len_dig1 (stateD_len _))) Y uu24 rfl inf24 ?_))
   have hE:versionE sd many used nl a l=0:=(if_neg D).trans ((if_neg O).trans ((if_neg U).trans ((if_neg (fun q=>q al)).trans (dec_ne0 (decide_eq_false au)))))
   have hV:versionV sd many used nl a l=⟨(nl+1:Nat),stateD a,l,G⟩:=(if_pos hE).trans (by rw [ar];rfl)
   have D:keyS sd many used nl a l=sd∧keyM sd many used nl a l=many∧keyU sd many used nl a l=used+1:=⟨if_pos hE,if_pos hE,if_pos hE⟩
   have U:=RLs.ug rCg h2c I
   have G:=aD.ug I
   have J:=aA.ug I
   have O:=aB.ug I
   have V:=hc.ug I
   rw [hV,hE,D.1,D.2.1,D.2.2]
   exact ⟨_,_,_,_,_,_,_,rfl,⟨stateD_len _,RLs.sub rCg U (fun b hb=>.inl hb.1),⟨Fl.sub (Fl.len32 G h32327) (fun b hb=>.inr (by first | omega | (simp only [Clip] at hb;omega) | (have h7:=hb.1;omega))),Fl.sub (Fl.len32 J h32330) (fun b hb=>.inr (by first | omega | (simp only [Clip] at hb;omega) | (have h7:=hb.1;omega))),Fl.sub (Fl.len32 O h32333) (fun b hb=>.inr (by first | omega | (simp only [Clip] at hb;omega) | (have h7:=hb.1;omega))),h32327,h32330,h32333⟩⟩,Fl.sub V (fun b hb=>.inl hb.1),⟨Fl.sub (Fl.len32 G h32327) (fun b hb=>by first | omega | (simp only [Clip] at hb;omega) | (have h7:=hb.1;omega)),Fl.sub (Fl.len32 J h32330) (fun b hb=>by first | omega | (simp only [Clip] at hb;omega) | (have h7:=hb.1;omega)),Fl.sub (Fl.len32 O h32333) (fun b hb=>by first | omega | (simp only [Clip] at hb;omega) | (have h7:=hb.1;omega)),h32327,h32330,h32333⟩,fun _=>⟨hcv.symm,hkv.symm⟩,eX⟩
  refine I.os rfl ay (fun J Y J=>an ?_) (hk:=len_dig1 (stateD_len _));have V:=J.size
  have V:=ax.gn J
  refine ao 1 rfl<|I.ow (.agg #[(vl A sd.length c),(vi many),(vi (used+1))]) rfl (fun F=>rb F rfl V) fun _ V=>ap<|have I:=(am.gn J);ao 3 rfl (V.os rfl I (fun I Z I=>an<|have J:=I.size;V.yv 4 (vi 0) rfl fun _ J=>nK az<|wp_ret<|have V:=(Y.gn I);retCC1 J rfl rfl rfl rfl V uu34 rfl (sk inf34 (len_dig1 (stateD_len _))) Z uu24 rfl inf24 ?_))
  have hE:versionE sd many used nl a l=0:=(if_neg D).trans ((if_neg O).trans ((if_neg U).trans ((if_neg (fun q=>q al)).trans (dec_ne0 (decide_eq_false au)))))
  have hV:versionV sd many used nl a l=⟨(nl+1:Nat),stateD a,l,G⟩:=(if_pos hE).trans (by rw [ar];rfl)
  have D:keyS sd many used nl a l=sd∧keyM sd many used nl a l=many∧keyU sd many used nl a l=used+1:=⟨if_pos hE,if_pos hE,if_pos hE⟩
  have U:=RLs.ug rCg h2c I
  have G:=aD.ug I
  have J:=aA.ug I
  have O:=aB.ug I
  have V:=hc.ug I
  rw [hV,hE,D.1,D.2.1,D.2.2]
  exact ⟨_,_,_,_,_,_,_,rfl,⟨stateD_len _,RLs.sub rCg U (fun b hb=>.inl hb.1),⟨Fl.sub (Fl.len32 G h32327) (fun b hb=>.inr (by first | omega | (simp only [Clip] at hb;omega) | (have h7:=hb.1;omega))),Fl.sub (Fl.len32 J h32330) (fun b hb=>.inr (by first | omega | (simp only [Clip] at hb;omega) | (have h7:=hb.1;omega))),Fl.sub (Fl.len32 O h32333) (fun b hb=>.inr (by first | omega | (simp only [Clip] at hb;omega) | (have h7:=hb.1;omega))),h32327,h32330,h32333⟩⟩,Fl.sub V (fun b hb=>.inl hb.1),⟨Fl.sub (Fl.len32 G h32327) (fun b hb=>by first | omega | (simp only [Clip] at hb;omega) | (have h7:=hb.1;omega)),Fl.sub (Fl.len32 J h32330) (fun b hb=>by first | omega | (simp only [Clip] at hb;omega) | (have h7:=hb.1;omega)),Fl.sub (Fl.len32 O h32333) (fun b hb=>by first | omega | (simp only [Clip] at hb;omega) | (have h7:=hb.1;omega)),h32327,h32330,h32333⟩,fun _=>⟨hcv.symm,hkv.symm⟩,eX⟩
 refine ay.ct<|wp_seq_k fun G Z=>sX (fun G W=>Ext G W∧Blk W I 34 vz∧Blk W J 24 [v0,(vi 0),(vi 0)]) (fun i=>i==2||i==3) 5 fun G aa V=>have Y:=am.ux aa;have V:=aq.ux aa;have aa:Ext G G∧Blk G I 34 vz∧Blk G J 24 [v0,(vi 0),(vi 0)]:=⟨(Ext.refl G),Y,V⟩;ay.ys 0 (ag vz) rfl aa (fun F W hW=>rb F rfl hW.2.1) fun _ G=>?_
 refine any_two (i:=1) (k:=2) (by decide +kernel) rfl rfl ?_ ?_
 ·refine G.ow (.agg #[v0,(vi 0),(vi 0)]) rfl (fun F=>rb F rfl V) fun _ G=>ap<|ao 2 rfl (G.os rfl Y (fun I Y I=>an<|have J:=I.size;have J:=(V.gn I);ao 3 rfl (G.os rfl J (fun I V I=>an<|have J:=I.size;G.yv 4 (vi 400) rfl fun _ G=>nK Z<|have J:=G.k [0,1,2,3,4,8,9,10,12,21,29,13,38,44];wp_ret<|ret_then<|have G:=(Y.gn I);retCC1 J rfl rfl rfl rfl G uu34 rfl (sk inf34 (len_dig1 zero32_len)) V uu24 rfl inf24 ?_))))
  have hE:versionE sd many used nl a l=400:=(if_neg D).trans ((if_neg O).trans ((if_neg U).trans (if_pos al)))
  have hne:versionE sd many used nl a l≠0:=by rw [hE];exact by decide
  have hV:versionV sd many used nl a l=vrNil:=if_neg hne
  have D:keyS sd many used nl a l=[]∧keyM sd many used nl a l=0∧keyU sd many used nl a l=0:=⟨if_neg hne,if_neg hne,if_neg hne⟩
  have hne0:=hne;rw [hE] at hne0
  rw [hV,hE,D.1,D.2.1,D.2.2]
  exact ⟨_,_,_,_,_,_,_,rfl,vrNil_at _,Fl.nil _,sgNil_at _,fun q=>absurd q hne0,eX⟩
 refine G.os rfl Y (fun I Y J=>an<|have I:=J.size;have I:=(V.gn J);ao 1 rfl<|G.ow (.agg #[v0,(vi 0),(vi 0)]) rfl (fun F=>rb F rfl I) fun _ G=>ap<|ao 3 rfl (G.os rfl I (fun I V I=>an<|have J:=I.size;G.yv 4 (vi 400) rfl fun _ G=>nK Z<|have J:=G.k [0,1,2,3,4,8,9,10,12,21,29,13,38,44];wp_ret<|ret_then<|have G:=(Y.gn I);retCC1 J rfl rfl rfl rfl G uu34 rfl (sk inf34 (len_dig1 zero32_len)) V uu24 rfl inf24 ?_)))
 have hE:versionE sd many used nl a l=400:=(if_neg D).trans ((if_neg O).trans ((if_neg U).trans (if_pos al)))
 have hne:versionE sd many used nl a l≠0:=by rw [hE];exact by decide
 have hV:versionV sd many used nl a l=vrNil:=if_neg hne
 have D:keyS sd many used nl a l=[]∧keyM sd many used nl a l=0∧keyU sd many used nl a l=0:=⟨if_neg hne,if_neg hne,if_neg hne⟩
 have hne0:=hne;rw [hE] at hne0
 rw [hV,hE,D.1,D.2.1,D.2.2]
 exact ⟨_,_,_,_,_,_,_,rfl,vrNil_at _,Fl.nil _,sgNil_at _,fun q=>absurd q hne0,eX⟩
theorem version_at (L:Option Addr) (ld:Nat) (sd:List UInt8) (many used:Int) (nl:Nat) (a:List It) (l:List Cg) (w:World) (hf:Fl S w 1 kv n (byteVals sd)) (h1:RLs RIt 2 S w u a) (h2:RLs RCg 3 S w v l) (hsi:∀ x∈a,x.data.length≤4294967296) (hli:a.length≤4294967296) (hd:∀ x∈l,x.data.length≤4294967296) (hG:Glob w) :
  Calls Tryz.prog 10 #[.agg #[kv,.int .i64 many,.int .i64 used],.slice L nl ld,u,v] w (fun e w'=>∃ c o e' p A n cc,e=.returned (.tuple #[ag (vcs (versionV sd many used nl a l).no (versionV sd many used nl a l).state c (versionV sd many used nl a l).sg.index o e' p),.agg #[.slice A n cc,.int .i64 (keyM sd many used nl a l),.int .i64 (keyU sd many used nl a l)],.int .i64 (versionE sd many used nl a l)])∧RVp (Fr S w) w' c o e' p (versionV sd many used nl a l)∧Fl (Fr S w) w' 1 (vl A n cc) n (byteVals (keyS sd many used nl a l))∧RSg (fun b=>w.heap.size≤b) w' o e' p (versionV sd many used nl a l).sg∧(versionE sd many used nl a l=0→c=v∧Value.slice A n cc=kv)∧Ext w w'):=by
 have hm:=hf.blen
 subst hm
 obtain ⟨A,c,rfl,_⟩:=hf.form
 obtain ⟨B,d,rfl,_⟩:=h1.form
 obtain ⟨C,e,rfl,_⟩:=h2.form
 exact version_any A c L ld B d C e sd many used nl a l w hf h1 h2 hsi hli hd hG rfl rfl
theorem rversion_any (A:Option Addr) (c:Nat) (L:Option Addr) (ld:Nat) (B:Option Addr) (d:Nat) (C:Option Addr) (e:Nat) (sd:List UInt8) (many used:Int) (nl:Nat) (a:List It) (l:List Cg) (w:World) (hf:Fl S w 1 (vl A sd.length c) sd.length (byteVals sd)) (h1:RLs RIt 2 S w (vl B a.length d) a) (h2:RLs RCg 3 S w (vl C l.length e) l) (hsi:∀ x∈a,x.data.length≤4294967296) (hli:a.length≤4294967296) (hd:∀ x∈l,x.data.length≤4294967296) :
  Calls Tryz.prog 11 #[.agg #[.slice A sd.length c,.int .i64 many,.int .i64 used],.slice L nl ld,.slice B a.length d,.slice C l.length e] w (fun e w'=>∃ c o e' p A n cc,e=.returned (.tuple #[ag (vcs (versionV sd many used nl a l).no (versionV sd many used nl a l).state c (versionV sd many used nl a l).sg.index o e' p),.agg #[.slice A n cc,.int .i64 (keyM sd many used nl a l),.int .i64 (keyU sd many used nl a l)],.int .i64 (versionE sd many used nl a l)])∧RVp (Fr S w) w' c o e' p (versionV sd many used nl a l)∧Fl (Fr S w) w' 1 (vl A n cc) n (byteVals (keyS sd many used nl a l))∧Ext w w'):=by
 have hc:Fl (Clip S w) w 1 (vl A sd.length c) sd.length (byteVals sd):=hf.clip
 have hcc:=(Fl.cel hc).2.1
 have h1c:RLs RIt 2 (Clip S w) w (vl B a.length d) a:=RLs.clip rIt h1
 obtain ⟨-,h1ck,h1cm⟩:=RLs.at h1
 have h2c:RLs RCg 3 (Clip S w) w (vl C l.length e) l:=RLs.clip rCg h2
 obtain ⟨-,h2ck,h2cm⟩:=RLs.at h2
 refine calls_enter Tryz.func11 rfl rfl rfl fun _ hF=>wr fun K1 aQ=>hF.xb rfl fun G w3 _ F9 z6 z7 b4 ae=>F9.xz vz 34 fun aH ae _ ae ai ai Y ai=>ae.xz [v0,(vi 0),(vi 0)] 24 fun aI ae _ ai ae ae Z ae=>ai.xv (vi 0) fun _ ai=>wn aQ<|wr fun aQ aY=>have aQ:=b4.ux ae;ai.xw (.agg #[(vl A sd.length c),(vi many),(vi used)]) (fun F=>rb F rfl aQ) fun _ ai=>have aW:=(hc.ux ae);ai.xe (rpub_at (v:=(vl A sd.length c)) (m:=sd.length) sd many used _ aW) fun ae ae ae _ ae=>ae.xm rfl<|Xv (.agg (byteVals (pubF sd many used)).toArray)<|Xv (vi (pubE sd many used)) fun _ ae=>ae.xz (byteVals (List.replicate 32 0)) 29 fun ae ae _ ai ae ae ae aW=>?_
 refine ai.xs rfl ae (fun ae ae ae=>?_) (hk:=byteVals_len (pubF_len _ _ _));have aW:=ae.size
 refine ai.xa rfl fun _ ai=>wn aY<|have aW:=ai.k [0,1,2,3,4,8,9,10,12];wp_seq_k fun ai aY=>wr fun ai a0=>aW.xm rfl<|Xv (vd (((pubE sd many used):Int)≠(0:Int))) fun _ ai=>wn a0 ?_
 by_cases U:((pubE sd many used):Int)≠(0:Int)
 ·refine ai.ct<|wr fun D V=>ai.xw (ag vz) (fun F=>rn_build (parts0 ) (by kernel_rfl))<|Xw (.agg #[v0,(vi 0),(vi 0)]) (fun F=>rn_build (parts0 ) (by kernel_rfl))<|Xm rfl fun _ D=>have G:=Y.ug ae;D.xs rfl G (fun G J G=>have I:=G.size;have I:=Z.ug G;D.xs rfl I (fun G O G=>have I:=G.size;D.xa rfl fun _ D=>wn V<|have I:=D.k [0,1,2,3,4,8,9,10,12,24];wp_ret<|ret_then<|have D:=(J.gn G);retCC1 I rfl rfl rfl rfl D uu34 rfl (sk inf34 (len_dig1 zero32_len)) O uu24 rfl inf24 ?_))
  have hE:versionE sd many used nl a l=(pubE sd many used):=if_pos U
  have hne:versionE sd many used nl a l≠0:=by rw [hE];exact U
  have hV:versionV sd many used nl a l=vrNil:=if_neg hne
  have D:keyS sd many used nl a l=[]∧keyM sd many used nl a l=0∧keyU sd many used nl a l=0:=⟨if_neg hne,if_neg hne,if_neg hne⟩
  rw [hV,hE,D.1,D.2.1,D.2.2]
  exact ⟨_,_,_,_,_,_,_,rfl,vrNil_at _,Fl.nil _,eX⟩
 have hko:=kOk_iff.1 (pub_zero (Decidable.not_not.1 U))
 refine ai.cf<|wp_skip<|aY _ _<|wp_seq_k fun aW aW=>wr fun aY aY=>ai.xv (vq G 2) fun _ ai=>have aC:=aQ.ug ae;ai.xw (vi used) (fun F=>rl F rfl (aC.rule.1 2))<|Xm rfl<|Xv (vi nl)<|Xv (vd ((used:Int)≠(nl:Int))) fun _ aQ=>wn aY ?_
 have ai:=aQ.k [0,1,2,3,4,8,9,10,12,24,32]
 by_cases aa:(used:Int)≠(nl:Int)
 ·refine ai.ct<|wr fun D O=>ai.xw (ag vz) (fun F=>rn_build (parts0 ) (by kernel_rfl))<|Xw (.agg #[v0,(vi 0),(vi 0)]) (fun F=>rn_build (parts0 ) (by kernel_rfl)) fun _ D=>have G:=Y.ug ae;D.xs rfl G (fun G I G=>have J:=G.size;have J:=Z.ug G;D.xs rfl J (fun G J G=>have V:=G.size;D.xv (vi 420) fun _ D=>wn O<|wp_ret<|ret_then<|have O:=(I.gn G);retCC1 D rfl rfl rfl rfl O uu34 rfl (sk inf34 (len_dig1 zero32_len)) J uu24 rfl inf24 ?_))
  have hE:versionE sd many used nl a l=420:=(if_neg U).trans (if_pos aa)
  have hne:versionE sd many used nl a l≠0:=by rw [hE];exact by decide
  have hV:versionV sd many used nl a l=vrNil:=if_neg hne
  have D:keyS sd many used nl a l=[]∧keyM sd many used nl a l=0∧keyU sd many used nl a l=0:=⟨if_neg hne,if_neg hne,if_neg hne⟩
  rw [hV,hE,D.1,D.2.1,D.2.2]
  exact ⟨_,_,_,_,_,_,_,rfl,vrNil_at _,Fl.nil _,eX⟩
 refine ai.cf<|wp_skip<|aW _ _<|wr fun aQ a0=>ai.xm rfl fun _ ai=>have aQ:=(RLs.ug rIt h1c ae);ai.xe (rstate_at (v:=(vl B a.length d)) a _ aQ hsi hli) fun ae ae ae _ ae=>ae.xm rfl<|Xv (.agg (byteVals (stateD a)).toArray)<|Xv (vi (checkE a)) fun _ ae=>ae.xz (byteVals (List.replicate 32 0)) 29 fun aY ae _ ae ai ai ai aQ=>?_
 refine ae.xs rfl ai (fun ai aW ai=>?_) (hk:=byteVals_len (stateD_len _));have aQ:=ai.size
 refine ae.xa rfl fun _ ae=>wn a0<|have aQ:=ae.k [0,1,2,3,4,8,9,10,12,24,32,13,14];wp_seq_k fun ae a0=>wr fun ae a1=>aQ.xm rfl<|Xv (vd (((checkE a):Int)≠(0:Int))) fun _ ae=>wn a1 ?_
 by_cases ab:((checkE a):Int)≠(0:Int)
 ·refine ae.ct<|wr fun D V=>ae.xw (ag vz) (fun F=>rn_build (parts0 ) (by kernel_rfl))<|Xw (.agg #[v0,(vi 0),(vi 0)]) (fun F=>rn_build (parts0 ) (by kernel_rfl))<|Xm rfl fun _ D=>have G:=Y.ug ai;D.xs rfl G (fun G J G=>have I:=G.size;have I:=Z.ug G;D.xs rfl I (fun G O G=>have I:=G.size;D.xa rfl fun _ D=>wn V<|have I:=D.k [0,1,2,3,4,8,9,10,12,24,32,13,14,41];wp_ret<|ret_then<|have D:=(J.gn G);retCC1 I rfl rfl rfl rfl D uu34 rfl (sk inf34 (len_dig1 zero32_len)) O uu24 rfl inf24 ?_))
  have hE:versionE sd many used nl a l=(checkE a):=(if_neg U).trans ((if_neg aa).trans (if_pos ab))
  have hne:versionE sd many used nl a l≠0:=by rw [hE];exact ab
  have hV:versionV sd many used nl a l=vrNil:=if_neg hne
  have D:keyS sd many used nl a l=[]∧keyM sd many used nl a l=0∧keyU sd many used nl a l=0:=⟨if_neg hne,if_neg hne,if_neg hne⟩
  rw [hV,hE,D.1,D.2.1,D.2.2]
  exact ⟨_,_,_,_,_,_,_,rfl,vrNil_at _,Fl.nil _,eX⟩
 refine ae.cf<|wp_skip<|a0 _ _<|wp_seq_k fun aQ a0=>wr fun aQ a1=>ae.xm rfl fun _ ae=>have aQ:=(RLs.ug rCg h2c ai);ae.xe (rchanges_at (v:=(vl C l.length e)) l _ aQ) fun ae aV ae _ ae=>ae.xw (.bool (!(decide (validC l)))) (fun F=>rn_not' (F.get rfl) rfl) fun _ aj=>wn a1 ?_
 by_cases ac:validC l
 ·refine aj.cf<|wp_skip<|a0 _ _<|wr fun ae aQ=>aj.xm rfl<|Xv (vi nl)<|Xv (vi (nl+1:Nat)) fun _ ae=>have ai:=(aW.ext aV);ae.xw (.agg (byteVals (stateD a)).toArray) (fun F=>rb F rfl ai (hk:=byteVals_len (stateD_len _)))<|Xm rfl<|Xw (ag ((vi (nl+1:Nat))::dg (stateD a) [(vl C l.length e),(vi 0),v0,v0,v0])) (fun F=>rn_build (parts3 (F.get rfl) (F.get rfl) (F.get rfl)) (build_vr (stateD_len _))) fun _ ae=>ae.xz vz 34 fun O ae _ ai ae ae ae aW=>?_
  refine ai.xs rfl ae (fun ae aP aW=>?_) (hk:=len_dig1 (stateD_len _));have a0:=aW.size
  refine wn aQ ?_
  have aQ:=ai.k [0,1,2,3,4,8,9,10,12,24,32,13,14,41,47,15]
  obtain ⟨D,V⟩:∃ z,z=signF sd many used used (msgV (nl+1:Nat) (stateD a) l):=⟨_,rfl⟩
  have h32220:All32 D.op:=by rw [V];exact signF_o _ _ _ _ _
  have h32221:All32 D.cl:=by rw [V];exact signF_c _ _ _ _ _
  have h32222:All32 D.path:=by rw [V];exact signF_p _ _ _ _ _
  refine wp_meet (fun a' W=>∃ (xg286:Nat) (xA252:Option Addr) (xn253:Nat) (xc254:Nat) (xA255:Option Addr) (xn256:Nat) (xc257:Nat) (xA258:Option Addr) (xn259:Nat) (xc260:Nat),Sl 78 [(0,(.agg #[(vl A sd.length c),(vi many),(vi used)])),(1,(vl L nl ld)),(2,(vl B a.length d)),(3,(vl C l.length e)),(4,(vp G)),(8,(vp aH)),(9,(vp aI)),(10,(vi 0)),(12,(vi (pubE sd many used))),(24,(vd (((pubE sd many used):Int)≠(0:Int)))),(32,(vd ((used:Int)≠(nl:Int)))),(13,(vp aY)),(14,(vi (checkE a))),(41,(vd (((checkE a):Int)≠(0:Int)))),(47,(.bool (!(decide (validC l))))),(15,(vp O)),(16,(vq xg286 0)),(17,(vi (signE sd many used used (msgV (nl+1:Nat) (stateD a) l))))] a'∧Ext ae W∧Blk W xg286 32 [(vi D.index),(vl xA252 xn253 xc254),(vl xA255 xn256 xc257),(vl xA258 xn259 xc260)]∧ae.heap.size≤xg286∧Fl (Clip (fun b=>ae.heap.size≤b) W) W 32 (vl xA252 xn253 xc254) xn253 (digVals D.op)∧Fl (Clip (fun b=>ae.heap.size≤b) W) W 32 (vl xA255 xn256 xc257) xn256 (digVals D.cl)∧Fl (Clip (fun b=>ae.heap.size≤b) W) W 32 (vl xA258 xn259 xc260) xn259 (digVals D.path)) ?_ ?_
  ·refine sX (fun I W=>Ext I W∧Blk W G 24 [(vl A sd.length c),(vi many),(vi used)]∧Blk W O 34 ((vi (nl+1:Nat))::dg (stateD a) [(vl C l.length e),(vi 0),v0,v0,v0])) (fun i=>i==10) 12 fun I ai ae=>have ay:=aC.ux ai;have az:=(aP.ext ai);have ae:Ext I I∧Blk I G 24 [(vl A sd.length c),(vi many),(vi used)]∧Blk I O 34 ((vi (nl+1:Nat))::dg (stateD a) [(vl C l.length e),(vi 0),v0,v0,v0]):=⟨(Ext.refl I),ay,az⟩;aQ.ys 0 (.agg #[(vl A sd.length c),(vi many),(vi used)]) rfl ae (fun F W hW=>rb F rfl hW.2.1)<|Yv 1 (vq G 2) rfl<|Ys 2 (vi used) rfl ae (fun F W hW=>rl F rfl (hW.2.1.rule.1 2))<|Ys 3 (ag ((vi (nl+1:Nat))::dg (stateD a) [(vl C l.length e),(vi 0),v0,v0,v0])) rfl ae (fun F W hW=>rb F rfl hW.2.2 (hk:=len_dig1 (stateD_len _))) fun _ aN=>?_
   refine any_two (i:=4) (k:=9) (by decide +kernel) rfl rfl ?_ ?_
   ·have ae:=(RLs.ux rCg h2c ai)
    refine aN.oc (rmessage_at (⟨(nl+1:Nat),stateD a,l,⟨0,[],[],[]⟩⟩:Vr) _ (⟨(stateD_len _),RLs.sub (S':=fun _=>True) rCg ae fun _ _=>trivial,⟨Fl.any (Fl.nil _:Fl (fun _=>True) _ 32 _ _ (digVals [])),Fl.any (Fl.nil _:Fl (fun _=>True) _ 32 _ _ (digVals [])),Fl.any (Fl.nil _:Fl (fun _=>True) _ 32 _ _ (digVals [])),All32.nil,All32.nil,All32.nil⟩⟩:RVp (fun _=>True) _ _ _ _ _ (⟨(nl+1:Nat),stateD a,l,⟨0,[],[],[]⟩⟩:Vr)) ac hd (show (0:Int)≤(nl+1:Nat) by omega) (show (nl+1:Nat)≤(4294967296:Int) by omega)) ?_
    rintro _ ah ⟨au,aD,rfl,aT,ak⟩
    have ae:=(Fl.cel aT).2.1
    refine ⟨_,rfl,?_⟩;intro ae aO;have ae:=ak.size
    have aU:Fl (Clip (fun b=>I.heap.size≤b) ah) ah 1 (vl au 72 aD) 72 (byteVals ((⟨(nl+1:Nat),stateD a,l,⟨0,[],[],[]⟩⟩:Vr).msg)):=aT.clip
    have aA:=ay.ext ak
    have aB:=az.ext ak
    refine ⟨fun _ _=>⟨eX,aA,aB⟩,?_⟩
    refine any_two (i:=5) (k:=9) (by decide +kernel) rfl rfl ?_ ?_
    ·have I:=(hc.ux ak)
     refine aO.oc (rsign_at (v:=(vl A sd.length c)) (m:=sd.length) (u:=(vl au 72 aD)) (n:=72) sd many used used (msgV (nl+1:Nat) (stateD a) l) _ I aU) ?_
     rw [← V]
     rintro _ J ⟨ar,al,ax,av,am,aE,aw,aq,aF,rfl,aG,aJ,aK,aL⟩
     have G:=(Fl.cel aG).2.1;have G:=Fl.dlen aG h32220
     have G:=(Fl.cel aJ).2.1;have G:=Fl.dlen aJ h32221
     have G:=(Fl.cel aK).2.1;have G:=Fl.dlen aK h32222
     refine ⟨_,rfl,?_⟩;intro G G;have I:=aL.size
     have Y:Fl (Clip (fun b=>ah.heap.size≤b) J) J 32 (vl ar al ax) al (digVals D.op):=aG.clip
     have Z:Fl (Clip (fun b=>ah.heap.size≤b) J) J 32 (vl av am aE) am (digVals D.cl):=aJ.clip
     have aa:Fl (Clip (fun b=>ah.heap.size≤b) J) J 32 (vl aw aq aF) aq (digVals D.path):=aK.clip
     have I:=aA.ext aL
     have J:=aB.ext aL
     refine ⟨fun _ _=>⟨eX,I,J⟩,?_⟩
     refine G.ym 6 rfl<|Yv 7 (.agg #[(vi D.index),(vl ar al ax),(vl av am aE),(vl aw aq aF)]) rfl<|Yv 8 (vi (signE sd many used used (msgV (nl+1:Nat) (stateD a) l))) rfl fun _ D=>ao 9 rfl<|D.oz [(vi 0),v0,v0,v0] 32 rfl fun V D _ G D D O D=>?_
     have U:=I.ext D
     have I:=J.ext D
     refine ⟨fun _ _=>⟨eX,U,I⟩,?_⟩
     exact ao 10 rfl (G.os rfl O (fun D I D=>an<|have J:=D.size;G.yv 11 (vi (signE sd many used used (msgV (nl+1:Nat) (stateD a) l))) rfl fun _ G=>nN<|have J:=(Y.ug D);have O:=(Z.ug D);have U:=(aa.ug D);⟨V,ar,al,ax,av,am,aE,aw,aq,aF,G.j,eX,I,(by omega),(Fl.sub J (fun b hb=>by simp only [Clip] at hb ⊢;omega)),(Fl.sub O (fun b hb=>by simp only [Clip] at hb ⊢;omega)),(Fl.sub U (fun b hb=>by simp only [Clip] at hb ⊢;omega))⟩))
    refine aO.oz [(vi 0),v0,v0,v0] 32 rfl fun aZ aM _ ae I I aX I=>?_
    have aR:=aA.ext I
    have aS:=aB.ext I
    refine ⟨fun _ _=>⟨eX,aR,aS⟩,?_⟩
    refine ao 5 rfl<|have ah:=(hc.ux I);have ai:=(aU.ext I);ae.oc (rsign_at (v:=(vl A sd.length c)) (m:=sd.length) (u:=(vl au 72 aD)) (n:=72) sd many used used (msgV (nl+1:Nat) (stateD a) l) _ ah ai) ?_
    rw [← V]
    rintro _ J ⟨av,am,aE,aw,aq,aF,ax,ar,aG,rfl,aJ,aK,aL,al⟩
    have G:=(Fl.cel aJ).2.1;have G:=Fl.dlen aJ h32220
    have G:=(Fl.cel aK).2.1;have G:=Fl.dlen aK h32221
    have G:=(Fl.cel aL).2.1;have G:=Fl.dlen aL h32222
    refine ⟨_,rfl,?_⟩;intro G G;have I:=al.size
    have O:Fl (Clip (fun b=>aM.heap.size≤b) J) J 32 (vl av am aE) am (digVals D.op):=aJ.clip
    have U:Fl (Clip (fun b=>aM.heap.size≤b) J) J 32 (vl aw aq aF) aq (digVals D.cl):=aK.clip
    have V:Fl (Clip (fun b=>aM.heap.size≤b) J) J 32 (vl ax ar aG) ar (digVals D.path):=aL.clip
    have I:=aR.ext al
    have J:=aS.ext al
    refine ⟨fun _ _=>⟨eX,I,J⟩,?_⟩
    exact G.ym 6 rfl<|Yv 7 (.agg #[(vi D.index),(vl av am aE),(vl aw aq aF),(vl ax ar aG)]) rfl<|Yv 8 (vi (signE sd many used used (msgV (nl+1:Nat) (stateD a) l))) rfl fun _ G=>have D:=(aX.ext al);ao 10 rfl (G.os rfl D (fun D I D=>an<|have J:=D.size;G.yv 11 (vi (signE sd many used used (msgV (nl+1:Nat) (stateD a) l))) rfl fun _ G=>nN<|have J:=(O.ug D);have O:=(U.ug D);have U:=(V.ug D);⟨aZ,av,am,aE,aw,aq,aF,ax,ar,aG,G.j,eX,I,(by omega),(Fl.sub J (fun b hb=>by simp only [Clip] at hb ⊢;omega)),(Fl.sub O (fun b hb=>by simp only [Clip] at hb ⊢;omega)),(Fl.sub U (fun b hb=>by simp only [Clip] at hb ⊢;omega))⟩))
   refine aN.oz [(vi 0),v0,v0,v0] 32 rfl fun aT aU _ ae I I aS I=>?_
   have aJ:=ay.ext I
   have aK:=az.ext I
   refine ⟨fun _ _=>⟨eX,aJ,aK⟩,?_⟩
   refine ao 4 rfl<|have ai:=(RLs.ux rCg h2c I);ae.oc (rmessage_at (⟨(nl+1:Nat),stateD a,l,⟨0,[],[],[]⟩⟩:Vr) _ (⟨(stateD_len _),RLs.sub (S':=fun _=>True) rCg ai fun _ _=>trivial,⟨Fl.any (Fl.nil _:Fl (fun _=>True) _ 32 _ _ (digVals [])),Fl.any (Fl.nil _:Fl (fun _=>True) _ 32 _ _ (digVals [])),Fl.any (Fl.nil _:Fl (fun _=>True) _ 32 _ _ (digVals [])),All32.nil,All32.nil,All32.nil⟩⟩:RVp (fun _=>True) _ _ _ _ _ (⟨(nl+1:Nat),stateD a,l,⟨0,[],[],[]⟩⟩:Vr)) ac hd (show (0:Int)≤(nl+1:Nat) by omega) (show (nl+1:Nat)≤(4294967296:Int) by omega)) ?_
   rintro _ ah ⟨aG,aO,rfl,aR,ak⟩
   have I:=(Fl.cel aR).2.1
   refine ⟨_,rfl,?_⟩;intro I I;have ae:=ak.size
   have ai:Fl (Clip (fun b=>aU.heap.size≤b) ah) ah 1 (vl aG 72 aO) 72 (byteVals ((⟨(nl+1:Nat),stateD a,l,⟨0,[],[],[]⟩⟩:Vr).msg)):=aR.clip
   have aL:=aJ.ext ak
   have aM:=aK.ext ak
   refine ⟨fun _ _=>⟨eX,aL,aM⟩,?_⟩
   refine ao 5 rfl<|have ae:=(hc.ux ak);I.oc (rsign_at (v:=(vl A sd.length c)) (m:=sd.length) (u:=(vl aG 72 aO)) (n:=72) sd many used used (msgV (nl+1:Nat) (stateD a) l) _ ae ai) ?_
   rw [← V]
   rintro _ J ⟨au,am,ax,av,aq,aA,aw,ar,aB,rfl,aD,aE,aF,al⟩
   have G:=(Fl.cel aD).2.1;have G:=Fl.dlen aD h32220
   have G:=(Fl.cel aE).2.1;have G:=Fl.dlen aE h32221
   have G:=(Fl.cel aF).2.1;have G:=Fl.dlen aF h32222
   refine ⟨_,rfl,?_⟩;intro G G;have I:=al.size
   have O:Fl (Clip (fun b=>ah.heap.size≤b) J) J 32 (vl au am ax) am (digVals D.op):=aD.clip
   have U:Fl (Clip (fun b=>ah.heap.size≤b) J) J 32 (vl av aq aA) aq (digVals D.cl):=aE.clip
   have V:Fl (Clip (fun b=>ah.heap.size≤b) J) J 32 (vl aw ar aB) ar (digVals D.path):=aF.clip
   have I:=aL.ext al
   have J:=aM.ext al
   refine ⟨fun _ _=>⟨eX,I,J⟩,?_⟩
   exact G.ym 6 rfl<|Yv 7 (.agg #[(vi D.index),(vl au am ax),(vl av aq aA),(vl aw ar aB)]) rfl<|Yv 8 (vi (signE sd many used used (msgV (nl+1:Nat) (stateD a) l))) rfl fun _ G=>have D:=aS.ux al;ao 10 rfl (G.os rfl D (fun D I D=>an<|have J:=D.size;G.yv 11 (vi (signE sd many used used (msgV (nl+1:Nat) (stateD a) l))) rfl fun _ G=>nN<|have J:=(O.ug D);have O:=(U.ug D);have U:=(V.ug D);⟨aT,au,am,ax,av,aq,aA,aw,ar,aB,G.j,eX,I,(by omega),(Fl.sub J (fun b hb=>by simp only [Clip] at hb ⊢;omega)),(Fl.sub O (fun b hb=>by simp only [Clip] at hb ⊢;omega)),(Fl.sub U (fun b hb=>by simp only [Clip] at hb ⊢;omega))⟩))
  ·rintro I ak ⟨xg286,xA252,xn253,xc254,xA255,xn256,xc257,xA258,xn259,xc260,I,J,ae,ah,f428,f429,f430⟩
   have ah:=J.size
   have ah:=ae.lt
   have ah:=(Fl.cel f428).2.1;have ah:=Fl.dlen f428 h32220
   have ah:=(Fl.cel f429).2.1;have ah:=Fl.dlen f429 h32221
   have ah:=(Fl.cel f430).2.1;have ah:=Fl.dlen f430 h32222
   refine wp_seq_k fun ah ah=>wr fun ai ai=>I.xm rfl<|Xv (vd (((signE sd many used used (msgV (nl+1:Nat) (stateD a) l)):Int)≠(0:Int))) fun _ I=>wn ai ?_
   by_cases ar:((signE sd many used used (msgV (nl+1:Nat) (stateD a) l)):Int)≠(0:Int)
   ·refine I.ct<|wr fun D V=>I.xw (ag vz) (fun F=>rn_build (parts0 ) (by kernel_rfl))<|Xw (.agg #[v0,(vi 0),(vi 0)]) (fun F=>rn_build (parts0 ) (by kernel_rfl))<|Xm rfl fun _ D=>have G:=Y.ux J;D.xs rfl G (fun G J G=>have I:=G.size;have I:=Z.ug G;D.xs rfl I (fun G O G=>have I:=G.size;D.xa rfl fun _ D=>wn V<|have I:=D.k [0,1,2,3,4,8,9,10,12,24,32,13,14,41,47,15,16,17,66];wp_ret<|ret_then<|have D:=(J.gn G);retCC1 I rfl rfl rfl rfl D uu34 rfl (sk inf34 (len_dig1 zero32_len)) O uu24 rfl inf24 ?_))
    have hE:versionE sd many used nl a l=(signE sd many used used (msgV (nl+1:Nat) (stateD a) l)):=(if_neg U).trans ((if_neg aa).trans ((if_neg ab).trans ((if_neg (fun q=>q ac)).trans rfl)))
    have hne:versionE sd many used nl a l≠0:=by rw [hE];exact ar
    have hV:versionV sd many used nl a l=vrNil:=if_neg hne
    have D:keyS sd many used nl a l=[]∧keyM sd many used nl a l=0∧keyU sd many used nl a l=0:=⟨if_neg hne,if_neg hne,if_neg hne⟩
    rw [hV,hE,D.1,D.2.1,D.2.2]
    exact ⟨_,_,_,_,_,_,_,rfl,vrNil_at _,Fl.nil _,eX⟩
   refine I.cf<|wp_skip<|ah _ _<|wr fun ah ah=>I.xw (.agg #[(vi D.index),(vl xA252 xn253 xc254),(vl xA255 xn256 xc257),(vl xA258 xn259 xc260)]) (fun F=>rb F rfl ae)<|Xv (vq O 34) fun _ I=>have ae:=(aP.ext J);wpl_op (i:=2) rfl<|o_storeMid (cells:=[(vi D.index),(vl xA252 xn253 xc254),(vl xA255 xn256 xc257),(vl xA258 xn259 xc260)]) (new:=((vi (nl+1:Nat))::dg (stateD a) [(vl C l.length e),(vi D.index),(vl xA252 xn253 xc254),(vl xA255 xn256 xc257),(vl xA258 xn259 xc260)])) I rfl rfl rfl rfl (I.get rfl) (I.get rfl) ae inf32 (le_mid (x:=38) (y:=4) (by simp [byteVals_len (stateD_len _)]) rfl (by decide)) (one_cons rfl (one_cons rfl (one_cons rfl (one_cons rfl one_nil)))) (splice_mid (A:=((vi (nl+1:Nat))::dg (stateD a) [(vl C l.length e)])) (M:=[(vi 0),v0,v0,v0]) (B:=[]) (by simp) (by simp [byteVals_len (stateD_len _)]) rfl (by simp)) fun J aj ae=>have J:=ae.size;wn ah<|wr fun J ai=>I.xv (vq G 2) fun _ I=>have J:=aC.ug ae;I.xw (vi used) (fun F=>rl F rfl (J.rule.1 2))<|Xv (vi (used+1))<|Xv (vq G 2) fun _ I=>wpl_op (i:=4) rfl<|o_store1 (new:=[(vl A sd.length c),(vi many),(vi (used+1))]) I rfl rfl rfl rfl (I.get rfl) (I.get rfl) J inf3 (by simp) rfl rfl fun J am ah=>have al:=ah.size;wn ai<|have al:=I.k [0,1,2,3,4,8,9,10,12,24,32,13,14,41,47,15,16,17,66];wp_seq_k fun I au=>?_
   have I:∃ W,J.drew=W∧Ext J W:=⟨_,rfl,(Ext.refl _).drew⟩
   obtain ⟨J,ai,I⟩:=I
   have aq:=I.size
   refine anyg_start (fun W=>Ext J W∧Blk W O 34 ((vi (nl+1:Nat))::dg (stateD a) [(vl C l.length e),(vi D.index),(vl xA252 xn253 xc254),(vl xA255 xn256 xc257),(vl xA258 xn259 xc260)])∧Blk W G 24 [(vl A sd.length c),(vi many),(vi (used+1))]∧Blk W aH 34 vz∧Blk W aI 24 [v0,(vi 0),(vi 0)]) (fun i=>i==2||i==3) (fun W=>Blk W O 34 ((vi (nl+1:Nat))::dg (stateD a) [(vl C l.length e),(vi D.index),(vl xA252 xn253 xc254),(vl xA255 xn256 xc257),(vl xA258 xn259 xc260)])∧Blk W G 24 [(vl A sd.length c),(vi many),(vi (used+1))]) 5 #[false,false,false,false,false] rfl rfl rfl ?_
   rw [ai];clear ai
   have ai:=aj.ux I
   have aj:=am.ext I
   have am:=Y.ux I
   have aq:=Z.ux I
   have Y:Ext J J∧Blk J O 34 ((vi (nl+1:Nat))::dg (stateD a) [(vl C l.length e),(vi D.index),(vl xA252 xn253 xc254),(vl xA255 xn256 xc257),(vl xA258 xn259 xc260)])∧Blk J G 24 [(vl A sd.length c),(vi many),(vi (used+1))]∧Blk J aH 34 vz∧Blk J aI 24 [v0,(vi 0),(vi 0)]:=⟨(Ext.refl J),ai,aj,am,aq⟩
   refine gs 0 (ag ((vi (nl+1:Nat))::dg (stateD a) [(vl C l.length e),(vi D.index),(vl xA252 xn253 xc254),(vl xA255 xn256 xc257),(vl xA258 xn259 xc260)])) al rfl rfl Y (fun W hW=>(rb al rfl hW.2.1 (hk:=len_dig1 (stateD_len _)))) fun _ Y=>?_
   have Z:Blk J O 34 ((vi (nl+1:Nat))::dg (stateD a) [(vl C l.length e),(vi D.index),(vl xA252 xn253 xc254),(vl xA255 xn256 xc257),(vl xA258 xn259 xc260)])∧Blk J G 24 [(vl A sd.length c),(vi many),(vi (used+1))]:=⟨ai,aj⟩
   refine anyg_val2 (i:=1) (v:=(.agg #[(vl A sd.length c),(vi many),(vi (used+1))])) Y (by decide +kernel) (by decide +kernel) rfl rfl rfl rfl (fun _ _ _ _ h=>h) rfl Z (fun W hW=>(rb Y rfl hW.2)) fun G O=>anyg_one (i:=2) (by decide +kernel) rfl ?_
   refine O.os rfl am (fun G al J=>?_) (hk:=len_dig1 (stateD_len _));have G:=J.size
   have Y:=ai.gn J
   have Z:=aj.gn J
   refine ⟨⟨fun h=>absurd h (by decide),fun _=>⟨Y,Z⟩⟩,?_⟩
   refine anyg_one (i:=3) (by decide +kernel) rfl<|have G:=(aq.gn J);O.os rfl G (fun G ai G=>?_);have aj:=G.size
   have aj:=Y.gn G
   have Y:=Z.gn G
   refine ⟨⟨fun h=>absurd h (by decide),fun _=>⟨aj,Y⟩⟩,?_⟩
   refine gp 4 (vi 0) O rfl rfl (fun W=>(rn_assign rfl)) fun _ O=>?_
   refine anyg_nil (by decide +kernel)<|au _ _<|wp_ret<|have Y:=(al.gn G);retCC1 O rfl rfl rfl rfl Y uu34 rfl (sk inf34 (len_dig1 (stateD_len _))) ai uu24 rfl inf24 ?_
   have hE:versionE sd many used nl a l=0:=(if_neg U).trans ((if_neg aa).trans ((if_neg ab).trans ((if_neg (fun q=>q ac)).trans (dec_ne0 (decide_eq_false ar)))))
   have hV:versionV sd many used nl a l=⟨(nl+1:Nat),stateD a,l,D⟩:=(if_pos hE).trans (congrArg (fun z=>(⟨(nl+1:Nat),stateD a,l,z⟩:Vr)) V.symm)
   have D:keyS sd many used nl a l=sd∧keyM sd many used nl a l=many∧keyU sd many used nl a l=used+1:=⟨if_pos hE,if_pos hE,if_pos hE⟩
   have O:=RLs.ug rCg h2c G
   have U:=f428.pres ((((((Pres.refl ak).gc ae).gc ah).ext I).gc J).gc G)
   have V:=f429.pres ((((((Pres.refl ak).gc ae).gc ah).ext I).gc J).gc G)
   have Y:=f430.pres ((((((Pres.refl ak).gc ae).gc ah).ext I).gc J).gc G)
   have I:=hc.ug G
   rw [hV,hE,D.1,D.2.1,D.2.2]
   exact ⟨_,_,_,_,_,_,_,rfl,⟨stateD_len _,RLs.sub rCg O (fun b hb=>.inl hb.1),⟨Fl.sub (Fl.len32 U h32220) (fun b hb=>.inr (by first | omega | (simp only [Clip] at hb;omega) | (have h7:=hb.1;omega))),Fl.sub (Fl.len32 V h32221) (fun b hb=>.inr (by first | omega | (simp only [Clip] at hb;omega) | (have h7:=hb.1;omega))),Fl.sub (Fl.len32 Y h32222) (fun b hb=>.inr (by first | omega | (simp only [Clip] at hb;omega) | (have h7:=hb.1;omega))),h32220,h32221,h32222⟩⟩,Fl.sub I (fun b hb=>.inl hb.1),eX⟩
 refine aj.ct<|wr fun D V=>aj.xw (ag vz) (fun F=>rn_build (parts0 ) (by kernel_rfl))<|Xw (.agg #[v0,(vi 0),(vi 0)]) (fun F=>rn_build (parts0 ) (by kernel_rfl)) fun _ D=>have G:=Y.ux aV;D.xs rfl G (fun G J G=>have I:=G.size;have I:=Z.ug G;D.xs rfl I (fun G O G=>have I:=G.size;D.xv (vi 400) fun _ D=>wn V<|have I:=D.k [0,1,2,3,4,8,9,10,12,24,32,13,14,41,47];wp_ret<|ret_then<|have D:=(J.gn G);retCC1 I rfl rfl rfl rfl D uu34 rfl (sk inf34 (len_dig1 zero32_len)) O uu24 rfl inf24 ?_))
 have hE:versionE sd many used nl a l=400:=(if_neg U).trans ((if_neg aa).trans ((if_neg ab).trans (if_pos ac)))
 have hne:versionE sd many used nl a l≠0:=by rw [hE];exact by decide
 have hV:versionV sd many used nl a l=vrNil:=if_neg hne
 have D:keyS sd many used nl a l=[]∧keyM sd many used nl a l=0∧keyU sd many used nl a l=0:=⟨if_neg hne,if_neg hne,if_neg hne⟩
 rw [hV,hE,D.1,D.2.1,D.2.2]
 exact ⟨_,_,_,_,_,_,_,rfl,vrNil_at _,Fl.nil _,eX⟩
theorem rversion_at (L:Option Addr) (ld:Nat) (sd:List UInt8) (many used:Int) (nl:Nat) (a:List It) (l:List Cg) (w:World) (hf:Fl S w 1 kv n (byteVals sd)) (h1:RLs RIt 2 S w u a) (h2:RLs RCg 3 S w v l) (hsi:∀ x∈a,x.data.length≤4294967296) (hli:a.length≤4294967296) (hd:∀ x∈l,x.data.length≤4294967296) :
  Calls Tryz.prog 11 #[.agg #[kv,.int .i64 many,.int .i64 used],.slice L nl ld,u,v] w (fun e w'=>∃ c o e' p A n cc,e=.returned (.tuple #[ag (vcs (versionV sd many used nl a l).no (versionV sd many used nl a l).state c (versionV sd many used nl a l).sg.index o e' p),.agg #[.slice A n cc,.int .i64 (keyM sd many used nl a l),.int .i64 (keyU sd many used nl a l)],.int .i64 (versionE sd many used nl a l)])∧RVp (Fr S w) w' c o e' p (versionV sd many used nl a l)∧Fl (Fr S w) w' 1 (vl A n cc) n (byteVals (keyS sd many used nl a l))∧Ext w w'):=by
 have hm:=hf.blen
 subst hm
 obtain ⟨A,c,rfl,_⟩:=hf.form
 obtain ⟨B,d,rfl,_⟩:=h1.form
 obtain ⟨C,e,rfl,_⟩:=h2.form
 exact rversion_any A c L ld B d C e sd many used nl a l w hf h1 h2 hsi hli hd
section
variable {N:Nat} {m:List (Nat × Value)} {a:Act} {ds:List Deferred}
theorem SlD.k {l:List (Nat × Value)} (hF:SlD ds N m a) (ts:List Nat) (h:pk m ts=some l:=by rfl):SlD ds N l a:=⟨hF.1.k ts h,hF.2⟩
theorem SlD.j {l:List (Nat × Value)} (hF:SlD ds N m a) (h:Pj m l:=by repeat' first | exact Pj.n | refine Pj.c rfl (by first | rfl | (congr 1;omega) | (simp only [List.length_drop]) | (congr 1;done)) ?_):SlD ds N l a:=⟨hF.1.j h,hF.2⟩
theorem calls_enterD {P:Program} {fn:Func} {c:Code} {l:List Value} {w:World} {R:Ending→World→Prop} (hf:P.funcs[f]?=some fn) (hb:fn.body=some c) (hn:fn.ntmps=N) (hl:Nat.ble l.length N=true)
  (h:∀ a,Sl N (argList 0 l) a→c.wp P (bodyPostD P fn R) a w):Calls P f l.toArray w R:=by
 refine calls_of_wp_defers hf hb (h _ ?_)
 rw [hn]
 refine Sl.args l _ N ?_
 have:l.length≤N:=by simpa using hl
 simp;omega
section
variable {P:Program} {ops:Array Oper} {Q:Exit→Act→World→Prop} {S:World→Prop} {F:Nat→Bool} {i:Nat} {w w':World} {o:Oper} {v:Value} {K:Act→World→Prop} {d:Nat}
theorem o_defer (hF:Sl N m a) (ho:ops[i]?=some o) (hw:Region.wanted o (yielded ops a.tmps)=true) (hd:o.dst=none) {D:Deferred} (hr:(execOp a.eval o).run P w=.ok (.defer D) w) (h:∀ a',SlD [D] N m a'→K a' w):wpOp P ops Q i K a w:=by
 unfold wpOp
 rw [ho]
 simp only [hw,if_true]
 refine .inl ?_
 unfold Oper.wp
 rw [hr]
 show K ({ a with defers:=D::a.defers }.put o.dst undef) w
 rw [hd,hF.2.1]
 exact h _ (SlD.of hF)
theorem oD_call (hF:SlD ds N m a) (ho:ops[i]?=some o) (hw:Region.wanted o (yielded ops a.tmps)=true) (hd:o.dst=some d) (hN:Nat.blt d N=true) {f:FuncId} {args:Array Value} (hr:(execOp a.eval o).run P w=.ok (.enter f args) w)
  {R:Ending→World→Prop} (hc:Calls P f args w R) (h:∀ e w',R e w'→∃ v,e=.returned v∧∀ a',SlD ds N ((d,v)::m) a'→K a' w'):wpOp P ops Q i K a w :=
 op_call ho hw hr hc fun e w' hR=>by
  obtain ⟨v,he,hk⟩:=h e w' hR
  exact ⟨v,he,hk _ (by rw [hd];exact hF.put hN)⟩
theorem oD_callP (_hF:SlD ds N m a) (ho:ops[i]?=some o) (hw:Region.wanted o (yielded ops a.tmps)=true) {f:FuncId} {args:Array Value} (hr:(execOp a.eval o).run P w=.ok (.enter f args) w)
  {R:Ending→World→Prop} (hc:Calls P f args w R) (h:∀ e w',R e w'→∃ ch,e=.panicked ch∧Q (.panic ch) a w'):wpOp P ops Q i K a w:=by
 unfold wpOp
 rw [ho]
 simp only [hw,if_true]
 refine .inl ?_
 unfold Oper.wp
 rw [hr]
 refine hc.mono fun e w'' hR=>?_
 obtain ⟨ch,rfl,hq⟩:=h e w'' hR
 exact hq
theorem o_panic (ho:ops[i]?=some o) (hw:Region.wanted o (yielded ops a.tmps)=true) {x:Operand} {u:TypeId} {pv:Value} (hop:o.op=.panic x) (hx:a.eval x=.iface u pv) (h:Q (.panic [{ v:=.iface u pv,recovered:=false }]) a w):wpOp P ops Q i K a w:=by
 unfold wpOp
 rw [ho]
 simp only [hw,if_true]
 refine .inl ?_
 unfold Oper.wp
 have hr:∀ ρ:Operand→Value,ρ x=.iface u pv→(execOp ρ o).run P w=.halt (.panic (.iface u pv)) w:=fun ρ h=>by simp [execOp,hop,h,Instr.panic,goPanic,go_sem]
 rw [hr _ hx]
 exact h
theorem anyD_val (hF:SlD ds N m a) (hs:Region.noSelect ops=true) (hb:lightB ops F L i=true) (hL:L.setIfInBounds i true=L') (ho:ops[i]?=some o) (hd:o.dst=some d) (hN:Nat.blt d N=true)
  (hQ:∀ c a w v,Q (.panic c) (a.put (some d) v) w→Q (.panic c) a w) (hw:Region.wanted o (yielded ops a.tmps)=true) (hS:S w)
  (hr:∀ W,S W→(execOp a.eval o).run P W=.ok (.value v) W) (h:∀ a',SlD ds N ((d,v)::m) a'→wpAnyF P ops Q S F n L' a' w):wpAnyF P ops Q S F (n+1) L a w :=
 any_light hs hb hL ho (by rw [hd];exact fun c a w=>hQ c a w _) hw hS hr (h _ (by rw [hd];exact hF.put hN))
theorem anyD_pure (hF:SlD ds N m a) (hs:Region.noSelect ops=true) (hb:freeB ops L i=true) (hL:L.setIfInBounds i true=L') (ho:ops[i]?=some o) (hd:o.dst=some d) (hN:Nat.blt d N=true)
  (hQ:∀ c a w v,Q (.panic c) (a.put (some d) v) w→Q (.panic c) a w) (hw:Region.wanted o (yielded ops a.tmps)=true)
  (hr:∀ W,(execOp a.eval o).run P W=.ok (.value v) W) (h:∀ a',SlD ds N ((d,v)::m) a'→wpAnyF P ops Q S F n L' a' w):wpAnyF P ops Q S F (n+1) L a w :=
 any_pureY hs hb hL ho (by rw [hd];exact fun c a w=>hQ c a w _) (.inl ⟨hw,hr⟩) (h _ (by rw [hd];exact hF.put hN))
theorem cD_true {t:Nat} (hF:SlD ds N m a) (hv:look m t=some (.bool b)) (hb:b=true):a.eval (.tmp t)=.bool true:=by subst hb;exact hF.get hv
theorem cD_false {t:Nat} (hF:SlD ds N m a) (hv:look m t=some (.bool b)) (hb:b=false):a.eval (.tmp t)=.bool false:=by subst hb;exact hF.get hv
end
section
variable {P:Program} {ρ:Operand→Value} {W:World} {d:Option Tmp} {t:TypeId} {p:String} {af:Array Edge} {g:Option (Nat × Bool)} {v:Value} {x y:Operand}
theorem rn_defer {first cap:Array Value} (hx:ρ x=.func (.func f) first cap):(execOp ρ ⟨d,.defer { callee:=.value x,args:=#[],argTypes:=#[] },t,p,af,g⟩).run P W=.ok (.defer { target:=.fn (.func f) cap,args:=first }) W:=by
 simp [execOp,resolve,hx,Deferred.ofValue]
theorem rn_mkIface (hx:ρ x=u) (hb:(Instr.makeInterface s u).run P W=.ok v W):(execOp ρ ⟨d,.makeInterface s x,t,p,af,g⟩).run P W=.ok (.value v) W:=by simp [execOp,hx,hb]
theorem rn_tassert {u:TypeId} {z:Value} (hx:ρ x=z) (hb:(Instr.typeAssert z s u b).run P W=.ok v W):(execOp ρ ⟨d,.typeAssert x s u b,t,p,af,g⟩).run P W=.ok (.value v) W:=by simp [execOp,hx,hb]
end
section
variable {P:Program} {fn:Func} {R:Ending→World→Prop} {w:World}
theorem results_put {d:Nat} {v:Value} (hr:fn.results=#[.cell 4 T1,.cell 5 T2]) (h4:d≠4) (h5:d≠5) (a:Act):results fn (a.put (some d) v).tmps=results fn a.tmps:=by
 simp [results,hr,Act.put,Array.getD_eq_getD_getElem?,Array.getElem?_setIfInBounds,h4,h5]
theorem leaves_res {t1 t2:Array Value} (h:results fn t1=results fn t2):∀ (ds:List Deferred) (u:FrameMode) (w:World),Leaves P fn t1 R ds u w→Leaves P fn t2 R ds u w
 | [],.returning,w,⟨v,h1,h2⟩=>⟨v,h ▸ h1,h2⟩
 | [],.panicking _,_,h1=>h1
 | [],.run,_,h1=>h1
 | d::ds,u,w,⟨h1,fv,cap,f,args,h2,h3,h4⟩=>⟨h1,fv,cap,f,args,h2,h3,h4.mono fun e u' w' hq=>by
   cases e with
   | returned v=>exact leaves_res h ds _ _ hq
   | panicked c=>exact leaves_res h ds _ _ hq
   | outgrown=>exact hq⟩
theorem leaves_put {d:Nat} {v:Value} {u:FrameMode} (hr:fn.results=#[.cell 4 T1,.cell 5 T2]) (h4:d≠4) (h5:d≠5) (h:Leaves P fn (a.put (some d) v).tmps R (a.put (some d) v).defers u w):Leaves P fn a.tmps R a.defers u w :=
 leaves_res (results_put hr h4 h5 a) _ _ _ h
theorem results_two {tt tt2:TypeId} {b g:Nat} {cs:List Value} {td td2:TypeDesc} (hr:fn.results=#[.cell 4 T1,.cell 5 T2]) (h4:a.eval (.tmp 4)=.pointer (some ⟨b,0,none⟩)) (h5:a.eval (.tmp 5)=.pointer (some ⟨g,0,none⟩))
  (hB:Blk w b tt cs) (hty:P.underlying T1=some td) (hd:aggTy td=true) (hi:(P.info? T1).map (·.size)=some cs.length) (hG:Blk w g tt2 [v2]) (hty2:P.underlying T2=some td2) (hd2:aggTy td2=false):(results fn a.tmps).run P w=.ok (.tuple #[.agg cs.toArray,v2]) w:=by
 simp only [Act.eval,Array.getD_eq_getD_getElem?] at h4 h5
 have D:=run_loadVar_row (P:=P) w b tt T1 cs.toArray (0,0) td hB hty (by cases td <;> simp_all [aggTy]) (by simpa using hi)
 have C:(isAgg T2).run P w=.ok false w:=by cases td2 <;> simp_all [isAgg,run_underlying hty2,aggTy]
 have hc:w.cell? ⟨g,0,none⟩=some v2:=by rw [hG.rule.1];rfl
 have G:(loadVar T2 ⟨g,0,none⟩).run P w=.ok v2 w:=by simp [loadVar,go_sem,C,hc]
 simp [results,hr,h4,h5,asAddr,D,G]
end
theorem wpS_rec {P:Program} {Q:Exit→Act→List Frame→World→Prop} {cs cs':List Frame} {w:World} {v:Value} (hw0:∀ y,Region.wanted o0 y=true) (hw1:∀ y,Region.wanted o1 y=true) (h0:(execOp a.eval o0).run P w=.ok .recover w) (hd0:o0.dst=some d0)
  (hr:recoverD cs=some (v,cs')∨(recoverD cs=none∧v=.nilIface∧cs'=cs)) (h1:(execOp (a.put (some d0) v).eval o1).run P w=.ok (.value v) w) (hd1:o1.dst=some d1) (h:Q .normal ((a.put (some d0) v).put (some d1) v) cs' w):(Code.region id #[o0,o1] false).wpS P Q a cs w:=by
 refine wpS_region ?_
 show wpOpsS P #[o0,o1] Q [0,1] a cs w
 have h2:wpOpsS P #[o0,o1] Q [1] (a.put (some d0) v) cs' w:=by
  rw [wpOpsS]
  simp only [List.getElem?_toArray,List.getElem?_cons_succ,List.getElem?_cons_zero,hw1,if_true,h1,Oper.upon,hd1]
  exact h
 rw [wpOpsS]
 simp only [List.getElem?_toArray,List.getElem?_cons_zero,hw0,if_true,h0,hd0]
 rcases hr with hr | ⟨hr,rfl,rfl⟩
 ·simp only [hr];exact h2
 ·simp only [hr];exact h2
theorem pan_then {K:Act→World→Prop} {Q:Exit→Act→World→Prop} {w:World} (h:Q (.panic c) a w):Exit.then K Q (.panic c) a w:=h
theorem pan0 {P:Program} {fn:Func} {R:Ending→World→Prop} {w:World} (hF:Sl N m a) (h:R (.panicked c) w):bodyPost P fn R (.panic c) a w:=⟨hF.2.1,h⟩
theorem callsD_rec {P:Program} {fn:Func} {rest:Code} {l:List Value} {v:Value} {u u':FrameMode} {w:World} {R:Ending→FrameMode→World→Prop} (hf:P.funcs[f]?=some fn) (hb:fn.body=some (.seq (.region id #[o0,o1] false) rest)) (hn:fn.ntmps=N) (hl:Nat.ble l.length N=true)
  (hw0:∀ y,Region.wanted o0 y=true) (hw1:∀ y,Region.wanted o1 y=true) (h0:∀ ρ,(execOp ρ o0).run P w=.ok .recover w) (hd0:o0.dst=some d0) (hN0:Nat.blt d0 N=true) (h1:∀ (ρ:Operand→Value),ρ (.tmp d0)=v→(execOp ρ o1).run P w=.ok (.value v) w) (hd1:o1.dst=some d1) (hN1:Nat.blt d1 N=true)
  (hr:∀ (c₀:Frame) (cs:List Frame),c₀.mode=u→recoverD (c₀::cs)=some (v,{ c₀ with mode:=u' }::cs)∨(recoverD (c₀::cs)=none∧v=.nilIface∧{ c₀ with mode:=u' }::cs=c₀::cs))
  (h:∀ a,Sl N ((d1,v)::(d0,v)::argList 0 l) a→rest.wp P (bodyPost P fn (fun e w'=>R e u' w')) a w):CallsD P f l.toArray u w R:=by
 have hlen:l.length≤N:=by simpa using hl
 refine callsD_of_wpS hf hb fun c₀ cs hu=>?_
 have hS:Sl N (argList 0 l) { tmps:=l.toArray++Array.replicate (fn.ntmps - l.toArray.size) undef,defers:=[] }:=by
  rw [hn]
  refine Sl.args l _ N ?_
  simp;omega
 refine wpS_seq<|wpS_rec hw0 hw1 (h0 _) hd0 (hr c₀ cs hu) (h1 _ ((hS.put (v:=v) hN0).get (t:=d0) (by simp [look]))) hd1<|wpS_of_wp<|Go.wp_mono (h _ ((hS.put hN0).put hN1)) fun e a' w' hq=>?_
 cases e with
 | normal=>obtain ⟨q1,v',q2,q3⟩:=hq;exact ⟨q1,u',rfl,v',q2,q3⟩
 | ret=>obtain ⟨q1,v',q2,q3⟩:=hq;exact ⟨q1,u',rfl,v',q2,q3⟩
 | panic c=>obtain ⟨q1,q2⟩:=hq;exact ⟨q1,u',rfl,q2⟩
 | outgrown=>exact ⟨u',hq⟩
 | exit id=>exact hq.elim
 | goto l=>exact hq.elim
end
theorem must_it_ok (A:Option Addr) (n c:Nat) {e:Int} (w:World) (he:e=0) :
  Calls Tryz.prog 89 #[.slice A n c,.int .i64 e] w (fun e w'=>e=.returned (vl A n c)∧Ext w w'):=by
 refine calls_enter Tryz.func89 rfl rfl rfl fun _ C=>wr fun D D=>C.xv v0 fun _ C=>wn D<|wp_seq_k fun D D=>wr fun G G=>C.xm rfl<|Xv (vd ((e:Int)≠(0:Int))) fun _ C=>wn G ?_
 by_cases G:(e:Int)≠(0:Int)
 ·refine C.ct ?_
  exfalso;omega
 exact C.cf<|wp_skip<|D _ _<|wr fun D D=>C.xm rfl<|Xa rfl fun _ C=>wn D<|wp_ret<|ret1 C rfl rfl<|⟨rfl,(Ext.refl w)⟩
theorem must_it_no (A:Option Addr) (n c:Nat) {e:Int} (w:World) (he:¬ e=0) :
  Calls Tryz.prog 89 #[.slice A n c,.int .i64 e] w (fun en w'=>en=.panicked [{ v:=.iface 116 (.agg #[]),recovered:=false }]∧Ext w w'):=by
 refine calls_enter Tryz.func89 rfl rfl rfl fun _ C=>wr fun D D=>C.xv v0 fun _ C=>wn D<|wp_seq_k fun D D=>wr fun G G=>C.xm rfl<|Xv (vd ((e:Int)≠(0:Int))) fun _ C=>wn G ?_
 by_cases G:(e:Int)≠(0:Int)
 ·exact C.ct<|wp_region_lit<|C.xw (.agg #[]) (fun F=>rn_build (parts0 ) (by kernel_rfl))<|Xw (.iface 116 (.agg #[])) (fun F=>rn_mkIface (F.get rfl) (by kernel_rfl)) fun _ C=>wpl_op (i:=2) rfl<|o_panic rfl rfl rfl (C.get rfl)<|pan_then<|pan0 C<|⟨rfl,(Ext.refl w)⟩
 refine C.cf<|wp_skip<|D _ _<|wr fun D D=>C.xm rfl<|Xa rfl fun _ C=>wn D<|wp_ret<|ret1 C rfl rfl ?_
 exfalso;omega
theorem must_d_ok (d:List UInt8) {e:Int} (w:World) (he:e=0) (hd:d.length=32) :
  Calls Tryz.prog 91 #[.agg (byteVals d).toArray,.int .i64 e] w (fun e w'=>e=.returned (.agg (byteVals d).toArray)∧Ext w w'):=by
 refine calls_enter Tryz.func91 rfl rfl rfl fun _ C=>wr fun D G=>C.xb rfl fun C C _ C D D I D=>C.xz (byteVals (List.replicate 32 0)) 29 fun C C _ C D D D M=>wn G<|wp_seq_k fun G G=>wr fun J J=>C.xm rfl<|Xv (vd ((e:Int)≠(0:Int))) fun _ C=>wn J ?_
 by_cases J:(e:Int)≠(0:Int)
 ·refine C.ct ?_
  exfalso;omega
 refine C.cf<|wp_skip<|G _ _<|wr fun G J=>have G:=(I.ext M);C.xw (.agg (byteVals d).toArray) (fun F=>rb F rfl G (hk:=byteVals_len hd)) fun _ C=>?_
 refine C.xs rfl D (fun D D G=>?_) (hk:=byteVals_len hd);have I:=G.size
 exact wn J<|wp_ret<|retC C rfl rfl D uu29 rfl (sk inf29 (byteVals_len hd))<|⟨rfl,eX⟩
theorem must_d_no (d:List UInt8) {e:Int} (w:World) (he:¬ e=0) (hd:d.length=32) :
  Calls Tryz.prog 91 #[.agg (byteVals d).toArray,.int .i64 e] w (fun en w'=>en=.panicked [{ v:=.iface 116 (.agg #[]),recovered:=false }]∧Ext w w'):=by
 refine calls_enter Tryz.func91 rfl rfl rfl fun _ C=>wr fun D G=>C.xb rfl fun C C _ C D D I D=>C.xz (byteVals (List.replicate 32 0)) 29 fun C C _ C D D D M=>wn G<|wp_seq_k fun G G=>wr fun J J=>C.xm rfl<|Xv (vd ((e:Int)≠(0:Int))) fun _ C=>wn J ?_
 by_cases J:(e:Int)≠(0:Int)
 ·exact C.ct<|wp_region_lit<|C.xw (.agg #[]) (fun F=>rn_build (parts0 ) (by kernel_rfl))<|Xw (.iface 116 (.agg #[])) (fun F=>rn_mkIface (F.get rfl) (by kernel_rfl)) fun _ C=>wpl_op (i:=2) rfl<|o_panic rfl rfl rfl (C.get rfl)<|pan_then<|pan0 C<|⟨rfl,eX⟩
 refine C.cf<|wp_skip<|G _ _<|wr fun G J=>have G:=(I.ext M);C.xw (.agg (byteVals d).toArray) (fun F=>rb F rfl G (hk:=byteVals_len hd)) fun _ C=>?_
 refine C.xs rfl D (fun D D G=>?_) (hk:=byteVals_len hd);have I:=G.size
 refine wn J<|wp_ret<|retC C rfl rfl D uu29 rfl (sk inf29 (byteVals_len hd)) ?_
 exfalso;omega
theorem catch_pan (f x k:Nat) (b0:Bool) (pub:List UInt8) (many no:Int) (FA:Option Addr) (fn fa:Nat) (FE:Option Addr) (en fe:Nat) (w:World) (hf:Blk w f 48 (dg pub [.int .i64 many,.int .i64 no,.slice FA fn fa,.slice FE en fe])) (hx:Blk w x 48 (dg zero32 [.int .i64 0,.int .i64 0,.slice none 0 0,.slice none 0 0])) (hk:Blk w k 4 [.bool b0]) (hp:pub.length=32) (h1:f≠x) (h2:f≠k) (h3:x≠k) :
  CallsD Tryz.prog 88 #[.pointer (some ⟨f,0,none⟩),.pointer (some ⟨x,0,none⟩),.pointer (some ⟨k,0,none⟩)] (.panicking [{ v:=.iface 116 (.agg #[]),recovered:=false }]) w (fun e u' w'=>e=.returned (.tuple #[])∧u'=.panicking [{ v:=.iface 116 (.agg #[]),recovered:=true }]∧Blk w' x 48 (dg pub [.int .i64 many,.int .i64 no,.slice FA fn fa,.slice FE en fe])∧Blk w' k 4 [.bool false]∧FarX (fun b=>b≠x∧b≠k∧b<w.heap.size) w w'):=by
 have hfl:=hf.lt;have hxl:=hx.lt;have hkl:=hk.lt
 refine callsD_rec (v:=(.iface 116 (.agg #[]))) (d0:=6) (d1:=3) (l:=[(vq f 0),(vq x 0),(vq k 0)]) (u':=.panicking [{ v:=.iface 116 (.agg #[]),recovered:=true }]) Tryz.func88 rfl rfl rfl (fun _=>rfl) (fun _=>rfl) (fun _=>rfl) rfl rfl (fun _ h=>rn_assign h) rfl rfl (fun c₀ cs hu=>.inl (by cases c₀;simp only at hu;subst hu;rfl)) (fun aA Z=>wr fun K1 aa=>Z.xm rfl<|Xw (.bool true) (fun F=>rn_bin (F.get rfl) rfl (by kernel_rfl) (by kernel_rfl)) fun _ J=>wn aa<|J.ct<|wp_seq_k fun K6 ac=>wr fun K7 ae=>J.xm rfl<|Xw (.tuple #[(.agg #[]),(.bool true)]) (fun F=>rn_tassert (F.get rfl) (by kernel_rfl))<|Xm rfl<|Xv (.agg #[])<|Xv (.bool true) fun _ M=>M.xz [] 116 fun ai ai _ G ai ai V ah=>G.xs rfl V (fun ai ai D=>have ai:=D.size;G.xa rfl fun _ O=>wn ae<|have U:=O.k [0,1,2,3,8,5];wr fun ai ab=>U.xm rfl<|Xw (.bool false) (fun F=>rn_not' (F.get rfl) rfl) fun _ I=>wn ab<|I.cf<|wp_skip<|ac _ _<|wp_region_lit<|have Y:=hf.ug D;I.xw (ag (dg pub [(vi many),(vi no),(vl FA fn fa),(vl FE en fe)])) (fun F=>rb F rfl Y (hk:=len_dig hp)) fun _ C=>?_))
 have G:=hx.ug D
 refine C.xs rfl G (fun G J G=>?_) (hk:=len_dig hp);have I:=G.size
 have I:=hk.ug G
 exact wpl_op (i:=2) rfl<|o_store1 (new:=[(.bool false)]) C rfl rfl rfl rfl (C.get rfl) rfl I inf4 (by simp) rfl rfl fun I M I=>have O:=I.size;wpList_nil<|ret0 C rfl<|have C:=(J.gn I);⟨rfl,rfl,C,M,(((((FarX.refl w).ext ah).grownN D (fun h=>by have h9:=h.2.2;omega)).grownN G (fun h=>h.1 rfl)).gc I)⟩
theorem catch_idle (p q r:Value) (w:World) :
  CallsD Tryz.prog 88 #[p,q,r] .returning w (fun e u' w'=>e=.returned (.tuple #[])∧u'=.returning∧w'=w):=by
 exact callsD_rec (v:=.nilIface) (d0:=6) (d1:=3) (l:=[p,q,r]) (u':=.returning) Tryz.func88 rfl rfl rfl (fun _=>rfl) (fun _=>rfl) (fun _=>rfl) rfl rfl (fun _ h=>rn_assign h) rfl rfl (fun c₀ cs hu=>.inr ⟨by cases c₀;simp only at hu;subst hu;rfl,rfl,by cases c₀;simp only at hu;subst hu;rfl⟩) (fun aA D=>wr fun I G=>D.xm rfl<|Xw (.bool false) (fun F=>rn_bin (F.get rfl) rfl (by kernel_rfl) (by kernel_rfl)) fun _ C=>wn G<|C.cf<|wp_skip<|ret0 C rfl<|⟨rfl,rfl,rfl⟩)
theorem applyV_sm {a:List It} {l:List Cg} (ha:∀ x∈a,x.data.length≤4294967296) (hl:∀ x∈l,x.data.length≤4294967296):∀ x∈applyV a l,x.data.length≤4294967296:=by
 intro x hx
 unfold applyV at hx
 split at hx
 ·obtain ⟨p,hp,hq⟩:=List.mem_flatMap.1 hx
  obtain ⟨h1,h2,-⟩:=mrg_mem a l p hp
  split at hq
  ·rcases p with ⟨_ | y,_ | z⟩ <;> simp only [astep] at hq
   ·exact absurd hq (by simp)
   ·split at hq
    ·exact absurd hq (by simp)
    ·rw [List.mem_singleton.1 hq];exact hl z (h2 z rfl)
   ·rw [List.mem_singleton.1 hq];exact ha y (h1 y rfl)
   ·split at hq
    ·exact absurd hq (by simp)
    ·rw [List.mem_singleton.1 hq];exact hl z (h2 z rfl)
  ·exact absurd hq (by simp)
 ·exact absurd hx (by simp)
theorem applyV_len (a:List It) (l:List Cg):(applyV a l).length≤65536:=by
 unfold applyV
 split
 ·rename_i h
  unfold applyE at h
  repeat (first | (split at h) | omega)
 ·simp
section
variable {N:Nat} {m:List (Nat × Value)} {a:Act} {f x k:Nat} {b0:Bool} {pub:List UInt8} {many no:Int} {FA:Option Addr} {fn fa:Nat} {FE:Option Addr} {en fe:Nat} {W:World} {R:Ending→World→Prop} {fc:List Value}
theorem ap_pan (hF:SlD [{ target:=.fn (.func 88) #[.pointer (some ⟨f,0,none⟩),.pointer (some ⟨x,0,none⟩),.pointer (some ⟨k,0,none⟩)],args:=#[] }] N m a) (h4:look m 4=some (vq x 0)) (h5:look m 5=some (vq k 0))
  (hf:Blk W f 48 (dg pub [.int .i64 many,.int .i64 no,.slice FA fn fa,.slice FE en fe])) (hx:Blk W x 48 (dg zero32 [.int .i64 0,.int .i64 0,.slice none 0 0,.slice none 0 0])) (hk:Blk W k 4 [.bool b0]) (hp:pub.length=32) (h1:f≠x) (h2:f≠k) (h3:x≠k)
  (hR:∀ W',FarX (fun b=>b≠x∧b≠k∧b<W.heap.size) W W'→R (.returned (.tuple #[ag (dg pub [.int .i64 many,.int .i64 no,.slice FA fn fa,.slice FE en fe]),.bool false])) W'):bodyPostD Tryz.prog Tryz.f45 R (.panic [{ v:=.iface 116 (.agg #[]),recovered:=false }]) a W:=by
 show Leaves Tryz.prog _ a.tmps R a.defers _ W
 rw [hF.2]
 refine leaves_cons (f:=88) (args:=#[.pointer (some ⟨f,0,none⟩),.pointer (some ⟨x,0,none⟩),.pointer (some ⟨k,0,none⟩)]) (by simp) (by simp [go_sem])<|(catch_pan f x k b0 pub many no FA fn fa FE en fe W hf hx hk hp h1 h2 h3).mono ?_
 rintro e u' W' ⟨rfl,rfl,hx',hk',hE⟩
 show Leaves Tryz.prog _ a.tmps R [] .returning W'
 exact ⟨_,results_two rfl (hF.get h4) (hF.get h5) hx' uu48 rfl (sk inf48 (len_dig hp)) hk' uu4 rfl,hR W' hE⟩
theorem ap_ret {D1 D2 D3:Value} (hF:SlD [{ target:=.fn (.func 88) #[D1,D2,D3],args:=#[] }] N m a) (h4:look m 4=some (vq x 0)) (h5:look m 5=some (vq k 0))
  (hx:Blk W x 48 fc) (hk:Blk W k 4 [v2]) (hl:fc.length=36) (hR:R (.returned (.tuple #[.agg fc.toArray,v2])) W):bodyPostD Tryz.prog Tryz.f45 R .ret a W:=by
 show Leaves Tryz.prog _ a.tmps R a.defers _ W
 rw [hF.2]
 refine leaves_cons (f:=88) (args:=#[D1,D2,D3]) (by simp) (by simp [go_sem])<|(catch_idle D1 D2 D3 W).mono ?_
 rintro e u' W' ⟨rfl,rfl,rfl⟩
 show Leaves Tryz.prog _ a.tmps R [] .returning _
 exact ⟨_,results_two rfl (hF.get h4) (hF.get h5) hx uu48 rfl (inf48.trans (congrArg some hl.symm)) hk uu4 rfl,hR⟩
end
theorem mapply_any (FA:Option Addr) (fa:Nat) (FE:Option Addr) (fe:Nat) (C:Option Addr) (cc:Nat) (O:Option Addr) (oc:Nat) (E:Option Addr) (ec:Nat) (P:Option Addr) (pc:Nat) (f:Fo) (v:Vr) (w:World) (hf:RFo S w (vl FA f.items.length fa) (vl FE f.early.length fe) f) (hv:RVp S w (vl C v.chs.length cc) (vl O v.sg.op.length oc) (vl E v.sg.cl.length ec) (vl P v.sg.path.length pc) v) (hdi:∀ x∈f.items,x.data.length≤4294967296) (hdv:∀ x∈v.chs,x.data.length≤4294967296) (hG:Glob w) :
  Calls Tryz.prog 45 #[(ag (dg f.pub [(vi f.many),(vi f.no),(vl FA f.items.length fa),(vl FE f.early.length fe)])),(ag ((vi v.no)::dg v.state [(vl C v.chs.length cc),(vi v.sg.index),(vl O v.sg.op.length oc),(vl E v.sg.cl.length ec),(vl P v.sg.path.length pc)]))] w (fun en w'=>∃ c' e',en=.returned (.tuple #[ag (fcs (stepF f v).pub (stepF f v).many (stepF f v).no c' e'),.bool (decide (fits f v))])∧RFo (Fr S w) w' c' e' (stepF f v)∧Ext w w'):=by
 have hfc:=RFo.subB (S':=Clip S w) hf (fun _ hb hs=>⟨hs,hb⟩)
 obtain ⟨-,hfc1,hfc2⟩:=RLs.at hfc.items;obtain ⟨-,hfc3,hfc4⟩:=RLs.at hfc.early
 have hvc:=RVp.subB (S':=Clip S w) hv (fun _ hb hs=>⟨hs,hb⟩)
 obtain ⟨-,hvc1,hvc2⟩:=RLs.at hvc.chs;have hvc3:=(Fl.cel hvc.sg.op).2.1;have hvc4:=(Fl.cel hvc.sg.cl).2.1;have hvc5:=(Fl.cel hvc.sg.path).2.1
 refine calls_enterD (l:=[(ag (dg f.pub [(vi f.many),(vi f.no),(vl FA f.items.length fa),(vl FE f.early.length fe)])),(ag ((vi v.no)::dg v.state [(vl C v.chs.length cc),(vi v.sg.index),(vl O v.sg.op.length oc),(vl E v.sg.cl.length ec),(vl P v.sg.path.length pc)]))]) Tryz.func45 rfl rfl rfl (fun aA hF=>wr fun K1 az=>hF.xb rfl fun g2 w3 _ F9 z6 z7 b4 ai=>F9.xb rfl fun I ai _ ai aj aj ax aj=>ai.xz fz 48 fun al ai _ ai aj aj ab aj=>ai.xz [(.bool false)] 4 fun ay aG _ aj ai ai ac ai=>wn az<|wr fun az az=>aj.xw (.func (.func 88) #[] #[(vp g2),(vp al),(vp ay)]) (fun F=>rn_makeFunc (args0 ) (args3 (F.get rfl) (F.get rfl) (F.get rfl))) fun _ aj=>wpl_op (i:=1) rfl<|o_defer aj rfl rfl rfl (rn_defer (aj.get rfl)) fun aj aj=>wn az<|wr fun ay aB=>wpl_op (i:=0) rfl<|oD_val (v:=(vq g2 34)) aj rfl rfl rfl rfl (rn_field uu48 rfl (by kernel_rfl) (aj.get rfl) rfl) fun aj aj=>have Z:=b4.ux ai;wpl_op (i:=1) rfl<|oD_val (v:=(vl FA f.items.length fa)) aj rfl rfl rfl rfl (rn_load (isAgg_no uu26 rfl) (aj.get rfl) ((Z.rule.1 34).trans ((at_app (k:=2) (byteVals_len hfc.pub)).trans rfl))) fun aj aj=>wpl_op (i:=2) rfl<|oD_val (v:=(vq I 33)) aj rfl rfl rfl rfl (rn_field uu34 rfl (by kernel_rfl) (aj.get rfl) rfl) fun aj aj=>have ak:=ax.ux ai;wpl_op (i:=3) rfl<|oD_val (v:=(vl C v.chs.length cc)) aj rfl rfl rfl rfl (rn_load (isAgg_no uu27 rfl) (aj.get rfl) ((ak.rule.1 33).trans ((at_app (k:=0) (byteVals_len hvc.st)).trans rfl))) fun aj aj=>have ax:=(RLs.ux rIt hfc.items ai);have ay:=(RLs.ux rCg hvc.chs ai);wpl_op (i:=4) rfl<|oD_call aj rfl rfl rfl rfl (rn_call (args2 (aj.get rfl) (aj.get rfl)) rfl (by kernel_rfl)) (apply_at (u:=(vl FA f.items.length fa)) (v:=(vl C v.chs.length cc)) f.items v.chs _ ax ay hdi hdv) ?_)
 rintro _ aw ⟨D,G,rfl,au,aE⟩
 refine ⟨_,rfl,?_⟩;intro ai ai;have aj:=aE.size
 have am:RLs RIt 2 (Clip (fun z=>aG.heap.size≤z) aw) aw (vl D ((applyV f.items v.chs).length) G) (applyV f.items v.chs):=RLs.clip rIt au
 obtain ⟨-,aj,aj⟩:=RLs.at au
 refine wpl_op (i:=5) rfl<|oD_val (v:=(vl D ((applyV f.items v.chs).length) G)) ai rfl rfl rfl rfl (rn_extract (ai.get rfl) rfl) fun ai ai=>wpl_op (i:=6) rfl<|oD_val (v:=(vi (applyE f.items v.chs))) ai rfl rfl rfl rfl (rn_extract (ai.get rfl) rfl) fun ai J=>?_
 by_cases U:(applyE f.items v.chs:Int)=(0:Int)
 ·refine wpl_op (i:=7) rfl (oD_call J rfl rfl rfl rfl (rn_call (args2 (J.get rfl) (J.get rfl)) rfl (by kernel_rfl)) (must_it_ok D ((applyV f.items v.chs).length) G (e:=(applyE f.items v.chs)) _ U) ?_)
  rintro _ ai ⟨rfl,aF⟩
  refine ⟨_,rfl,?_⟩;intro ai ai;have aj:=aF.size
  refine wpl_op (i:=8) rfl<|oD_val (v:=(vl D ((applyV f.items v.chs).length) G)) ai rfl rfl rfl rfl (rn_assign (ai.get rfl)) fun ai ai=>wn aB<|have aa:=ai.k [0,1,2,3,4,5,6];wp_seq_k fun ai aC=>wp_seq_k fun ai aD=>?_
  by_cases ae:(checkE (applyV f.items v.chs):Int)=(0:Int)
  ·refine sX (fun Y W=>Ext Y W∧Blk W I 34 ((vi v.no)::dg v.state [(vl C v.chs.length cc),(vi v.sg.index),(vl O v.sg.op.length oc),(vl E v.sg.cl.length ec),(vl P v.sg.path.length pc)])) (fun i=>false) 8 fun Y ai ah=>anyD_pure (i:=0) (v:=(vl D ((applyV f.items v.chs).length) G)) aa (by decide +kernel) (by decide +kernel) rfl rfl rfl rfl (fun _ _ _ _ h=>leaves_put rfl (by decide) (by decide) h) rfl (fun W=>(rn_move (aa.get rfl))) fun ah ah=>anyD_pure (i:=5) (v:=(vq I 1)) ah (by decide +kernel) (by decide +kernel) rfl rfl rfl rfl (fun _ _ _ _ h=>leaves_put rfl (by decide) (by decide) h) rfl (fun W=>(rn_field uu34 rfl (by kernel_rfl) (ah.get rfl) rfl)) fun ah ah=>have aq:=ak.ux ai;have aj:Ext Y Y∧Blk Y I 34 ((vi v.no)::dg v.state [(vl C v.chs.length cc),(vi v.sg.index),(vl O v.sg.op.length oc),(vl E v.sg.cl.length ec),(vl P v.sg.path.length pc)]):=⟨(Ext.refl Y),aq⟩;anyD_val (i:=6) (v:=(.agg (byteVals v.state).toArray)) ah (by decide +kernel) (by decide +kernel) rfl rfl rfl rfl (fun _ _ _ _ h=>leaves_put rfl (by decide) (by decide) h) rfl aj (fun W hW=>(rn_loadN (cs:=byteVals v.state) (ah.get rfl) uu29 rfl (sk inf29 (byteVals_len hvc.st)) (Blk.part (A:=[(vi v.no)]) (M:=byteVals v.state) (B:=[(vl C v.chs.length cc),(vi v.sg.index),(vl O v.sg.op.length oc),(vl E v.sg.cl.length ec),(vl P v.sg.path.length pc)]) hW.2 (by simp) rfl))) fun Y Y=>ao 1 rfl<|have ah:=(RLs.ux rIt am ai);oD_call Y rfl rfl rfl rfl (rn_call (args1 (Y.get rfl)) rfl (by kernel_rfl)) (state_at (v:=(vl D ((applyV f.items v.chs).length) G)) (applyV f.items v.chs) _ ah (applyV_sm hdi hdv) (by have:=applyV_len f.items v.chs;omega) (hG.ext eX)) ?_
   rintro _ Y ⟨rfl,av⟩
   refine ⟨_,rfl,?_⟩;intro Y Y;have ah:=av.size
   have ar:=aq.ext av
   refine ⟨fun _ _=>⟨eX,ar⟩,?_⟩
   refine anyD_pure (i:=2) (v:=(.agg (byteVals (stateD (applyV f.items v.chs))).toArray)) Y (by decide +kernel) (by decide +kernel) rfl rfl rfl rfl (fun _ _ _ _ h=>leaves_put rfl (by decide) (by decide) h) rfl (fun W=>(rn_extract (Y.get rfl) rfl)) fun Y Y=>anyD_pure (i:=3) (v:=(vi (checkE (applyV f.items v.chs)))) Y (by decide +kernel) (by decide +kernel) rfl rfl rfl rfl (fun _ _ _ _ h=>leaves_put rfl (by decide) (by decide) h) rfl (fun W=>(rn_extract (Y.get rfl) rfl)) fun Y Y=>ao 4 rfl<|oD_call Y rfl rfl rfl rfl (rn_call (args2 (Y.get rfl) (Y.get rfl)) rfl (by kernel_rfl)) (must_d_ok (stateD (applyV f.items v.chs)) (e:=(checkE (applyV f.items v.chs))) _ ae (stateD_len _)) ?_
   rintro _ Y ⟨rfl,V⟩
   refine ⟨_,rfl,?_⟩;intro J J;have Y:=V.size
   have aa:=ar.ext V
   refine ⟨fun _ _=>⟨eX,aa⟩,?_⟩
   refine anyD_pure (i:=7) (v:=(.bool (!decide (stateD (applyV f.items v.chs)=v.state)))) J (by decide +kernel) (by decide +kernel) rfl rfl rfl rfl (fun _ _ _ _ h=>leaves_put rfl (by decide) (by decide) h) rfl (fun W=>(rn_neA uu29 uu5 inf5 (by kernel_rfl) (J.get rfl) (J.get rfl) (stateD_len _) hvc.st)) fun J Y=>nK aD ?_
   have J:=Y.k [0,1,2,3,4,5,6,23]
   by_cases Y:stateD (applyV f.items v.chs)=v.state
   ·refine wp_cond_false (cD_false J rfl (not_t (decide_eq_true Y)))<|wp_skip<|aC _ _<|wr fun ah ai=>have ah:=Z.ux V;wpl_op (i:=0) rfl<|oD_val (v:=(ag (dg f.pub [(vi f.many),(vi f.no),(vl FA f.items.length fa),(vl FE f.early.length fe)]))) J rfl rfl rfl rfl (rn_loadBlk (J.get rfl) ah uu48 rfl (sk inf48 (len_dig hfc.pub))) fun J J=>have Z:=ab.ux V;wpl_op (i:=1) rfl<|oD_store (cells:=(dg f.pub [(vi f.many),(vi f.no),(vl FA f.items.length fa),(vl FE f.early.length fe)])) J rfl rfl rfl rfl (J.get rfl) (J.get rfl) Z (sk inf48 (len_dig hfc.pub)) (show List.length fz=List.length (dg f.pub [(vi f.many),(vi f.no),(vl FA f.items.length fa),(vl FE f.early.length fe)]) from (show List.length fz=36 from (by simp [byteVals_len zero32_len])).trans (Eq.symm (show List.length (dg f.pub [(vi f.many),(vi f.no),(vl FA f.items.length fa),(vl FE f.early.length fe)])=36 from (by simp [byteVals_len hfc.pub])))) (one_app (byteVals_one _) (one_cons rfl (one_cons rfl (one_cons rfl (one_cons rfl one_nil))))) fun V Z V=>have ab:=V.size;wn ai<|wr fun ab ab=>wpl_op (i:=0) rfl<|oD_val (v:=(vp I)) J rfl rfl rfl rfl (rn_field uu34 rfl (by kernel_rfl) (J.get rfl) rfl) fun I I=>have J:=(aa.gn V);wpl_op (i:=1) rfl<|oD_val (v:=(vi v.no)) I rfl rfl rfl rfl (rn_load (isAgg_no uu3 rfl) (I.get rfl) ((J.rule.1 0).trans rfl)) fun I I=>wpl_op (i:=2) rfl<|oD_val (v:=(vl D ((applyV f.items v.chs).length) G)) I rfl rfl rfl rfl (rn_move (I.get rfl)) fun I I=>wpl_op (i:=3) rfl<|oD_val (v:=(vq al 33)) I rfl rfl rfl rfl (rn_field uu48 rfl (by kernel_rfl) (I.get rfl) rfl) fun I I=>wpl_op (i:=4) rfl<|oD_store1 (new:=(dg f.pub [(vi f.many),(vi v.no),(vl FA f.items.length fa),(vl FE f.early.length fe)])) I rfl rfl rfl rfl (I.get rfl) (I.get rfl) Z inf3 (le_mid (x:=36) (b:=1) (y:=1) (by simp [byteVals_len hfc.pub]) rfl (by decide)) rfl (set_app (k:=1) (byteVals_len hfc.pub)) fun J J V=>have Z:=V.size;wpl_op (i:=5) rfl<|oD_val (v:=(vq al 34)) I rfl rfl rfl rfl (rn_field uu48 rfl (by kernel_rfl) (I.get rfl) rfl) fun I I=>wpl_op (i:=6) rfl<|oD_store1 (new:=(dg f.pub [(vi f.many),(vi v.no),(vl D ((applyV f.items v.chs).length) G),(vl FE f.early.length fe)])) I rfl rfl rfl rfl (I.get rfl) (I.get rfl) J inf26 (le_mid (x:=36) (b:=1) (y:=1) (by simp [byteVals_len hfc.pub]) rfl (by decide)) rfl (set_app (k:=2) (byteVals_len hfc.pub)) fun J V J=>have Z:=J.size;wn ab<|have J:=I.k [0,1,2,3,4,5,6,23];wr fun I Z=>?_
    refine wpl_op (i:=0) rfl<|oD_val (v:=(ag (dg f.pub [(vi f.many),(vi v.no),(vl D ((applyV f.items v.chs).length) G),(vl FE f.early.length fe)]))) J rfl rfl rfl rfl (rn_loadBlk (J.get rfl) V uu48 rfl (sk inf48 (len_dig hfc.pub))) fun I I=>wpl_op (i:=1) rfl<|oD_store (cells:=(dg f.pub [(vi f.many),(vi v.no),(vl D ((applyV f.items v.chs).length) G),(vl FE f.early.length fe)])) I rfl rfl rfl rfl (I.get rfl) (I.get rfl) V (sk inf48 (len_dig hfc.pub)) (show List.length (dg f.pub [(vi f.many),(vi v.no),(vl D ((applyV f.items v.chs).length) G),(vl FE f.early.length fe)])=List.length (dg f.pub [(vi f.many),(vi v.no),(vl D ((applyV f.items v.chs).length) G),(vl FE f.early.length fe)]) from (show List.length (dg f.pub [(vi f.many),(vi v.no),(vl D ((applyV f.items v.chs).length) G),(vl FE f.early.length fe)])=36 from (by simp [byteVals_len hfc.pub])).trans (Eq.symm (show List.length (dg f.pub [(vi f.many),(vi v.no),(vl D ((applyV f.items v.chs).length) G),(vl FE f.early.length fe)])=36 from (by simp [byteVals_len hfc.pub])))) (one_app (byteVals_one _) (one_cons rfl (one_cons rfl (one_cons rfl (one_cons rfl one_nil))))) fun D G D=>have J:=D.size;have J:=ac.ug D;wpl_op (i:=2) rfl<|oD_store1 (new:=[(.bool true)]) I rfl rfl rfl rfl (I.get rfl) rfl J inf4 (by simp) rfl rfl fun D J D=>have V:=D.size;wn Z<|wp_ret<|have V:=ah.ug D;have V:=(G.gn D);ap_ret I rfl rfl V J (by simp [byteVals_len hfc.pub]) ?_
    have hA:applyV f.items v.chs=appL f.items v.chs:=if_pos U
    have hfit:fits f v:=⟨U,by rw [← hA];exact ae,by rw [← hA];exact Y⟩
    have hst:stepF f v={ f with no:=v.no,items:=applyV f.items v.chs }:=(if_pos hfit).trans (by rw [hA])
    rw [hst,decide_eq_true hfit]
    have G:=RLs.ug rIt am D
    have I:=RLs.ug rVr hfc.early D
    exact ⟨_,_,rfl,⟨hfc.pub,RLs.sub rIt G (fun b hb=>.inr (by first | omega | (simp only [Clip] at hb;omega))),RLs.sub rVr I (fun b hb=>.inl hb.1)⟩,eX⟩
   refine wp_cond_true (cD_true J rfl (not_f (decide_eq_false Y)))<|wp_region_lit<|wpl_op (i:=0) rfl<|oD_val (v:=(.agg #[])) J rfl rfl rfl rfl (rn_build (parts0 ) (by kernel_rfl)) fun D D=>wpl_op (i:=1) rfl<|oD_val (v:=(.iface 116 (.agg #[]))) D rfl rfl rfl rfl (rn_mkIface (D.get rfl) (by kernel_rfl)) fun D D=>wpl_op (i:=2) rfl<|o_panic rfl rfl rfl (D.get rfl)<|pan_then<|have G:=Z.ux V;have I:=ab.ux V;have J:=ac.ux V;ap_pan D rfl rfl G I J hfc.pub (by omega) (by omega) (by omega) (fun W' hW=>?_)
   have hX165:Ext w W':=FarX.toExt ((FarX.of_ext eX).trans (hW.sub (S:=fun b=>b<w.heap.size) (fun b hb=>⟨by omega,by omega,by omega⟩))) (fun b hb=>hb)
   have hA:applyV f.items v.chs=appL f.items v.chs:=if_pos U
   have hnf:¬ fits f v:=(fun q=>Y (by rw [hA];exact q.2.2))
   have hst:stepF f v=f:=if_neg hnf
   rw [hst,decide_eq_false hnf]
   exact ⟨_,_,rfl,RFo.subB (RFo.pres hfc (Pres.of_ext hX165)) (fun b _ hb=>.inl hb.1),hX165⟩
  refine sX (fun V W=>Ext V W∧Blk W I 34 ((vi v.no)::dg v.state [(vl C v.chs.length cc),(vi v.sg.index),(vl O v.sg.op.length oc),(vl E v.sg.cl.length ec),(vl P v.sg.path.length pc)])) (fun i=>false) 8 fun V ai aj=>anyD_pure (i:=0) (v:=(vl D ((applyV f.items v.chs).length) G)) aa (by decide +kernel) (by decide +kernel) rfl rfl rfl rfl (fun _ _ _ _ h=>leaves_put rfl (by decide) (by decide) h) rfl (fun W=>(rn_move (aa.get rfl))) fun aa aa=>anyD_pure (i:=5) (v:=(vq I 1)) aa (by decide +kernel) (by decide +kernel) rfl rfl rfl rfl (fun _ _ _ _ h=>leaves_put rfl (by decide) (by decide) h) rfl (fun W=>(rn_field uu34 rfl (by kernel_rfl) (aa.get rfl) rfl)) fun aa aa=>have aq:=ak.ux ai;have aj:Ext V V∧Blk V I 34 ((vi v.no)::dg v.state [(vl C v.chs.length cc),(vi v.sg.index),(vl O v.sg.op.length oc),(vl E v.sg.cl.length ec),(vl P v.sg.path.length pc)]):=⟨(Ext.refl V),aq⟩;anyD_val (i:=6) (v:=(.agg (byteVals v.state).toArray)) aa (by decide +kernel) (by decide +kernel) rfl rfl rfl rfl (fun _ _ _ _ h=>leaves_put rfl (by decide) (by decide) h) rfl aj (fun W hW=>(rn_loadN (cs:=byteVals v.state) (aa.get rfl) uu29 rfl (sk inf29 (byteVals_len hvc.st)) (Blk.part (A:=[(vi v.no)]) (M:=byteVals v.state) (B:=[(vl C v.chs.length cc),(vi v.sg.index),(vl O v.sg.op.length oc),(vl E v.sg.cl.length ec),(vl P v.sg.path.length pc)]) hW.2 (by simp) rfl))) fun I I=>ao 1 rfl<|have V:=(RLs.ux rIt am ai);oD_call I rfl rfl rfl rfl (rn_call (args1 (I.get rfl)) rfl (by kernel_rfl)) (state_at (v:=(vl D ((applyV f.items v.chs).length) G)) (applyV f.items v.chs) _ V (applyV_sm hdi hdv) (by have:=applyV_len f.items v.chs;omega) (hG.ext eX)) ?_
  rintro _ I ⟨rfl,ar⟩
  refine ⟨_,rfl,?_⟩;intro I I;have V:=ar.size
  have V:=aq.ext ar
  refine ⟨fun _ _=>⟨eX,V⟩,?_⟩
  refine anyD_pure (i:=2) (v:=(.agg (byteVals (stateD (applyV f.items v.chs))).toArray)) I (by decide +kernel) (by decide +kernel) rfl rfl rfl rfl (fun _ _ _ _ h=>leaves_put rfl (by decide) (by decide) h) rfl (fun W=>(rn_extract (I.get rfl) rfl)) fun I I=>anyD_pure (i:=3) (v:=(vi (checkE (applyV f.items v.chs)))) I (by decide +kernel) (by decide +kernel) rfl rfl rfl rfl (fun _ _ _ _ h=>leaves_put rfl (by decide) (by decide) h) rfl (fun W=>(rn_extract (I.get rfl) rfl)) fun I Y=>ao 4 rfl<|oD_callP Y rfl rfl (rn_call (args2 (Y.get rfl) (Y.get rfl)) rfl (by kernel_rfl)) (must_d_no (stateD (applyV f.items v.chs)) (e:=(checkE (applyV f.items v.chs))) _ ae (stateD_len _)) ?_
  rintro _ I ⟨rfl,ah⟩
  refine ⟨_,rfl,?_⟩;have D:=ah.size
  refine pan_then<|pan_then<|have D:=Z.ux ah;have G:=ab.ux ah;have I:=ac.ux ah;ap_pan Y rfl rfl D G I hfc.pub (by omega) (by omega) (by omega) (fun W' hW=>?_)
  have hX195:Ext w W':=FarX.toExt ((FarX.of_ext eX).trans (hW.sub (S:=fun b=>b<w.heap.size) (fun b hb=>⟨by omega,by omega,by omega⟩))) (fun b hb=>hb)
  have hA:applyV f.items v.chs=appL f.items v.chs:=if_pos U
  have hnf:¬ fits f v:=(fun q=>ae (by rw [hA];exact q.2.1))
  have hst:stepF f v=f:=if_neg hnf
  rw [hst,decide_eq_false hnf]
  exact ⟨_,_,rfl,RFo.subB (RFo.pres hfc (Pres.of_ext hX195)) (fun b _ hb=>.inl hb.1),hX195⟩
 refine wpl_op (i:=7) rfl (oD_callP J rfl rfl (rn_call (args2 (J.get rfl) (J.get rfl)) rfl (by kernel_rfl)) (must_it_no D ((applyV f.items v.chs).length) G (e:=(applyE f.items v.chs)) _ U) ?_)
 rintro _ D ⟨rfl,V⟩
 refine ⟨_,rfl,?_⟩;have D:=V.size
 refine pan_then<|have D:=Z.ux V;have G:=ab.ux V;have I:=ac.ux V;ap_pan J rfl rfl D G I hfc.pub (by omega) (by omega) (by omega) (fun W' hW=>?_)
 have hX202:Ext w W':=FarX.toExt ((FarX.of_ext eX).trans (hW.sub (S:=fun b=>b<w.heap.size) (fun b hb=>⟨by omega,by omega,by omega⟩))) (fun b hb=>hb)
 have hnf:¬ fits f v:=(fun q=>U q.1)
 have hst:stepF f v=f:=if_neg hnf
 rw [hst,decide_eq_false hnf]
 exact ⟨_,_,rfl,RFo.subB (RFo.pres hfc (Pres.of_ext hX202)) (fun b _ hb=>.inl hb.1),hX202⟩
theorem mapply_at {c o1:Value} (f:Fo) (v:Vr) (w:World) (hf:RFo S w c e f) (hv:RVp S w c1 o1 e1 p1 v) (hdi:∀ x∈f.items,x.data.length≤4294967296) (hdv:∀ x∈v.chs,x.data.length≤4294967296) (hG:Glob w) :
  Calls Tryz.prog 45 #[ag (fcs f.pub f.many f.no c e),ag (vcs v.no v.state c1 v.sg.index o1 e1 p1)] w (fun en w'=>∃ c' e',en=.returned (.tuple #[ag (fcs (stepF f v).pub (stepF f v).many (stepF f v).no c' e'),.bool (decide (fits f v))])∧RFo (Fr S w) w' c' e' (stepF f v)∧Ext w w'):=by
 obtain ⟨FA,fa,rfl,_⟩:=RLs.form hf.items
 obtain ⟨FE,fe,rfl,_⟩:=RLs.form hf.early
 obtain ⟨C,cc,rfl,_⟩:=RLs.form hv.chs
 obtain ⟨O,oc,rfl,_⟩:=Fl.form hv.sg.op
 obtain ⟨E,ec,rfl,_⟩:=Fl.form hv.sg.cl
 obtain ⟨P,pc,rfl,_⟩:=Fl.form hv.sg.path
 exact mapply_any FA fa FE fe C cc O oc E ec P pc f v w hf hv hdi hdv hG
def noAt (l:List Vr) (i:Nat):Int:=(l.getD i default).no
theorem noAt_of (h:l[i]?=some x):noAt l i=x.no:=by simp [noAt,List.getD_eq_getElem?_getD,h]
def upV (l:List Vr):Prop:=∀ p q,p<q→q<l.length→noAt l p<noAt l q
theorem up_of_asc {n:Int} (h:asc n l):upV l:=by
 have key:∀ d p,p+d+1<l.length→noAt l p<noAt l (p+d+1):=by
  intro d
  induction d with
  | zero=>intro p hp;have:=h (p+1) (by omega);simpa [noAt] using this
  | succ d ih=>intro p hp;have h1:=ih p (by omega);have h2:=h (p+(d+1)+1) (by omega);rw [if_neg (by omega),show p+(d+1)+1 - 1=p+d+1 by omega] at h2;exact Int.lt_trans h1 h2
 intro p q hpq hq
 have:=key (q - p - 1) p (by omega)
 rwa [show p+(q - p - 1)+1=q by omega] at this
theorem cmpI_spec (a b:Int):(cmpI a b<0↔a<b)∧(cmpI a b=0↔a=b):=by
 unfold cmpI;split
 ·omega
 ·split <;> omega
theorem bs_lo (hu:upV l) (hx:l[h]?=some x) (hl:x.no<t):∀ p,p<h+1→noAt l p<t:=fun p hp=>by
 have hh:h<l.length:=(List.getElem?_eq_some_iff.1 hx).1
 have e:=noAt_of hx
 by_cases q:p=h
 ·rw [q,e];exact hl
 ·have:=hu p h (by omega) hh;omega
theorem bs_hi (hu:upV l) (hx:l[h]?=some x) (hl:¬ x.no<t):∀ p,h≤p→p<l.length→t≤noAt l p:=fun p hp hq=>by
 have e:=noAt_of hx
 by_cases q:p=h
 ·rw [q,e];omega
 ·have:=hu h p (by omega) hq;omega
theorem below_eq:∀ {l:List Vr} {t:Int} {i:Nat},(∀ p,p<i→noAt l p<t)→(∀ p,i≤p→p<l.length→t≤noAt l p)→i≤l.length→below t l=i
 | [],_,i,_,_,h=>by simp at h;subst h;rfl
 | x::l,t,0,_,h2,_=>by
  have h3:=h2 0 (Nat.le_refl _) (by simp)
  have e:noAt (x::l) 0=x.no:=rfl
  rw [e] at h3
  unfold below
  rw [List.takeWhile_cons,if_neg (by simp;omega)];rfl
 | x::l,t,i+1,h1,h2,h=>by
  have h3:=h1 0 (by omega)
  have e:noAt (x::l) 0=x.no:=rfl
  rw [e] at h3
  have ih:=below_eq (l:=l) (t:=t) (i:=i) (fun p hp=>h1 (p+1) (by omega)) (fun p hp hq=>h2 (p+1) (by omega) (by simp;omega)) (by simpa using h)
  unfold below at ih ⊢
  rw [List.takeWhile_cons,if_pos (by simpa using h3),List.length_cons,ih]
theorem met_eq (h1:∀ p,p<i→noAt l p<t) (hu:upV l) (h2:∀ p,i≤p→p<l.length→t≤noAt l p):(∃ w∈l,w.no=t)↔∃ x,l[i]?=some x∧x.no=t:=by
 constructor
 ·rintro ⟨w,hw,e⟩
  obtain ⟨j,hj,rfl⟩:=List.getElem_of_mem hw
  have ej:noAt l j=t:=by rw [noAt_of (List.getElem?_eq_getElem hj)];exact e
  by_cases q:j=i
  ·subst q;exact ⟨_,List.getElem?_eq_getElem hj,e⟩
  ·by_cases q2:j<i
   ·have:=h1 j q2;omega
   ·have h3:=h2 i (Nat.le_refl _) (by omega);have h4:=hu i j (by omega) hj;omega
 ·rintro ⟨x,hx,e⟩
  exact ⟨x,List.mem_of_getElem? hx,e⟩
theorem met_fin (hm:(∃ w∈l,w.no=t)↔∃ x,l[i]?=some x∧x.no=t) (hx:l[i]?=some x):decide ((cmpI x.no t:Int)=(0:Int))=decide (∃ w∈l,w.no=t) :=
 decide_eq_decide.2 ⟨fun h=>hm.2 ⟨x,hx,(cmpI_spec _ _).2.1 h⟩,fun h=>by
  obtain ⟨y,hy,e⟩:=hm.1 h
  rw [hx] at hy;injection hy with hy;subst hy
  exact (cmpI_spec _ _).2.2 e⟩
theorem met_no (hm:(∃ w∈l,w.no=t)↔∃ x,l[i]?=some x∧x.no=t) (hi:l.length≤i):¬ ∃ w∈l,w.no=t:=fun q=>by
 obtain ⟨x,hx,_⟩:=hm.1 q
 have:=(List.getElem?_eq_some_iff.1 hx).1
 omega
theorem rcv1_any (no:Int) (st:List UInt8) (c:Value) (i:Int) (o e p:Value) (t:Int) (w:World) (hst:st.length=32) :
  Calls Tryz.prog 42 #[ag (vcs no st c i o e p),.int .i64 t] w (fun e w'=>e=.returned (vi (cmpI no t))∧Ext w w'):=by
 exact calls_enter Tryz.func42 rfl rfl rfl fun _ C=>wr fun D I=>C.xb rfl fun G C _ C D D D J=>C.xv (vi 0) fun _ C=>wn I<|wr fun I I=>C.xv (vp G)<|Xw (vi no) (fun F=>rl F rfl ((D.rule.1 0).trans rfl))<|Xm rfl fun _ C=>C.xe (cmpi_any no t _) fun C C C _ C=>C.xa rfl fun _ C=>wn I<|have D:=C.k [0,1,2,4];wp_ret<|ret1 D rfl rfl<|⟨rfl,eX⟩
theorem bsearch_any (A:Option Addr) (c:Nat) (l:List Vr) (t:Int) (w:World) (h:RLs RVr 38 S w (vl A l.length c) l) (hu:upV l) (hl:l.length≤4294967296) :
  Calls Tryz.prog 41 #[.slice A l.length c,.int .i64 t,.func (.func 42) #[] #[]] w (fun e w'=>e=.returned (.tuple #[.int .i64 (below t l:Nat),.bool (decide (∃ w∈l,w.no=t))])∧Ext w w'):=by
 have hc:RLs RVr 38 (Clip S w) w (vl A l.length c) l:=RLs.clip rVr h
 obtain ⟨-,hck,hcm⟩:=RLs.at h
 refine calls_enter Tryz.func41 rfl rfl rfl fun _ hF=>wr fun K1 ab=>hF.xv (vi 0)<|Xv (.bool false) fun _ F5=>wn ab<|wr fun K6 aq=>F5.xm rfl<|Xv (vi l.length)<|Xa rfl fun _ ab=>wn aq<|wr fun aq aq=>ab.xm rfl<|Xv (vi 0)<|Xa rfl fun _ ab=>wn aq<|wp_seq_k fun aq ar=>wp_block<|wp_loop (fun a' W=>∃ (i1:Nat) (j1:Nat),Sl 49 [(0,(vl A l.length c)),(1,(vi t)),(2,(.func (.func 42) #[] #[])),(6,(vi 0)),(7,(.bool false)),(8,(vi l.length)),(9,(vi i1)),(10,(vi j1))] a'∧(i1≤j1∧j1≤l.length)∧(∀ p,p<i1→noAt l p<t)∧(∀ p,j1≤p→p<l.length→t≤noAt l p)∧Ext w W∧w.heap.size≤W.heap.size) (fun a' _=>(intOf (a'.eval (.tmp 10))).toNat - (intOf (a'.eval (.tmp 9))).toNat) ⟨0,l.length,ab.j,⟨by omega,by omega⟩,(fun p hp=>absurd hp (by omega)),(fun p hp hq=>absurd hq (by omega)),(Ext.refl w),(Nat.le_refl _)⟩ ?_
 rintro ab ab ⟨i1,j1,ab,aq,G,I,O,aq⟩
 have M:=ab
 have aq:=O.size
 refine wp_seq_k fun aq aq=>wr fun au au=>ab.xm rfl<|Xm rfl<|Xv (vd ((i1:Int)<(j1:Int))) fun _ J=>wn au ?_
 by_cases ab:(i1:Int)<(j1:Int)
 ·refine J.ct<|wp_skip<|aq _ _<|wp_block<|wr fun ab aj=>J.xm rfl<|Xm rfl<|Xv (vi (i1+j1:Nat))<|Xw (.int .u64 (i1+j1:Nat)) (fun F=>rn_convW uu3 uu112 (F.get rfl) (cvn_64 (i1+j1) (by omega)))<|Xw (.int .u64 ((i1+j1) / 2 ^ 1:Nat)) (fun F=>rn_shrU (a:=i1+j1) (n:=1) (F.get rfl) rfl (by omega))<|Xw (vi ((i1+j1) / 2 ^ 1:Nat)) (fun F=>rn_conv uu112 uu3 (F.get rfl) (IntWalk.i64_in _ (by omega)))<|Xa rfl fun _ ab=>wn aj<|have aj:=ab.k [0,1,2,6,7,8,9,10,17,11];wr fun ab av=>aj.xm rfl<|Xm rfl<|Xm rfl fun _ ak=>?_
  have ab:=RLs.ext rVr hc O
  obtain ⟨al,ay,C,aj,am,ai,aj,aw,ax⟩:=RLs.get ab (by omega:((i1+j1) / 2 ^ 1)<l.length)
  obtain ⟨ab,ab,ab,ab,rfl,D⟩:=ax
  obtain ⟨U,aa,rfl,ab,ab⟩:=RLs.form D.chs
  obtain ⟨V,ac,rfl,ab,ab⟩:=Fl.form D.sg.op
  obtain ⟨Y,ae,rfl,ab,ab⟩:=Fl.form D.sg.cl
  obtain ⟨Z,ah,rfl,ab,ab⟩:=Fl.form D.sg.path
  refine ak.xw (.pointer (some ⟨al,ay+((i1+j1) / 2 ^ 1)*38,none⟩)) (fun F=>rn_indexE uu25 inf34 ((F.get rfl).trans (by rw [am])) (F.get rfl) (by omega:(0:Int)≤((i1+j1) / 2 ^ 1:Nat)) (by omega:(((i1+j1) / 2 ^ 1:Nat):Int)<(l.length:Int)) (by omega))<|Xw (ag ((vi C.no)::dg C.state [(vl U C.chs.length aa),(vi C.sg.index),(vl V C.sg.op.length ac),(vl Y C.sg.cl.length ae),(vl Z C.sg.path.length ah)])) (fun F=>rn_loadN (cs:=((vi C.no)::dg C.state [(vl U C.chs.length aa),(vi C.sg.index),(vl V C.sg.op.length ac),(vl Y C.sg.cl.length ae),(vl Z C.sg.path.length ah)])) (F.get rfl) uu34 rfl (sk inf34 (len_dig1 D.st)) aw)<|Xm rfl fun _ J=>have O:=cmpI_spec C.no t;J.xE (c:=rcv1_any C.no C.state _ C.sg.index _ _ _ t _ D.st) (k:=fun D D D _ D=>D.xv (vd (((cmpI C.no t):Int)<(0:Int))) fun _ J=>wn av ?_)
  have D:=J.k [0,1,2,6,7,8,9,10,17,11,31]
  by_cases J:((cmpI C.no t):Int)<(0:Int)
  ·refine D.ct<|wp_region_lit<|D.xm rfl<|Xw (vi (((i1+j1) / 2 ^ 1)+1:Nat)) (fun F=>rn_addN (a:=(i1+j1) / 2 ^ 1) (b:=1) (F.get rfl) rfl (by omega))<|Xa rfl fun _ C=>wpList_nil ?_
   refine ⟨⟨(((i1+j1) / 2 ^ 1)+1),j1,C.j,⟨by omega,by omega⟩,(bs_lo hu ai (by omega)),I,eX,(by omega)⟩,?_⟩
   rw [C.get (t:=9) rfl,C.get (t:=10) rfl,M.get (t:=9) rfl,M.get (t:=10) rfl];simp only [intOf];omega
  refine D.cf<|wp_region_lit<|D.xm rfl<|Xa rfl fun _ C=>wpList_nil ?_
  refine ⟨⟨i1,((i1+j1) / 2 ^ 1),C.j,⟨by omega,by omega⟩,G,(bs_hi hu ai (by omega)),eX,(by omega)⟩,?_⟩
  rw [C.get (t:=9) rfl,C.get (t:=10) rfl,M.get (t:=9) rfl,M.get (t:=10) rfl];simp only [intOf];omega
 refine J.cf<|wp_exit<|exit_then<|exit_then<|exit_here<|ar _ _<|wr fun M aj=>J.xm rfl<|Xm rfl<|Xm rfl<|Xv (vd ((i1:Int)<(l.length:Int)))<|Xm rfl fun _ aa=>?_
 by_cases J:(i1:Int)<(l.length:Int)
 ·refine aa.xg (.func (.func 42) #[] #[])<|Xg (vl A l.length c)<|Xg (vi i1)<|fun _ ak=>?_
  have J:=RLs.ext rVr hc O
  obtain ⟨al,ay,C,M,am,aw,M,av,ax⟩:=RLs.get J (by omega:i1<l.length)
  obtain ⟨J,J,J,J,rfl,D⟩:=ax
  obtain ⟨U,ac,rfl,J,J⟩:=RLs.form D.chs
  obtain ⟨V,ae,rfl,J,J⟩:=Fl.form D.sg.op
  obtain ⟨Y,ah,rfl,J,J⟩:=Fl.form D.sg.cl
  obtain ⟨Z,ai,rfl,J,J⟩:=Fl.form D.sg.path
  refine ak.xgw (vq al (ay+i1*38)) (fun F=>rn_indexE uu25 inf34 ((F.get rfl).trans (by rw [am])) (F.get rfl) (zl _) (il (by omega:i1<l.length)) (by omega))<|Xgw (ag ((vi C.no)::dg C.state [(vl U C.chs.length ac),(vi C.sg.index),(vl V C.sg.op.length ae),(vl Y C.sg.cl.length ah),(vl Z C.sg.path.length ai)])) (fun F=>rn_loadN (cs:=((vi C.no)::dg C.state [(vl U C.chs.length ac),(vi C.sg.index),(vl V C.sg.op.length ae),(vl Y C.sg.cl.length ah),(vl Z C.sg.path.length ai)])) (F.get rfl) uu34 rfl (sk inf34 (len_dig1 D.st)) av)<|Xg (vi t) fun _ J=>have M:=cmpI_spec C.no t;wpl_op (i:=11) rfl (J.gE (c:=rcv1_any C.no C.state _ C.sg.index _ _ _ t _ D.st) (k:=fun D D D _ D=>D.xg (vd (((cmpI C.no t):Int)=(0:Int)))<|Xv (vd (((cmpI C.no t):Int)=(0:Int)))<|Xa rfl<|Xa rfl fun _ C=>wn aj<|have D:=C.k [0,1,2,6,7,8,9,10,17];wp_ret<|ret2 D rfl rfl rfl ?_))
  have hij:j1=i1:=by omega
  subst hij
  have hb:=below_eq G I (by omega)
  have hm:=met_eq G hu I
  exact ⟨by rw [hb,← met_fin hm aw],eX⟩
 refine aa.xu<|Xu<|Xu<|Xu<|Xu<|Xu<|Xu<|Xu<|Xv (.bool false)<|Xa rfl<|Xa rfl fun _ C=>wn aj<|have D:=C.k [0,1,2,6,7,8,9,10,17];wp_ret<|ret2 D rfl rfl rfl ?_
 have hij:j1=i1:=by omega
 subst hij
 have hb:=below_eq G I (by omega)
 have hm:=met_eq G hu I
 exact ⟨by rw [hb,decide_eq_false (met_no hm (by clear hm;omega))],eX⟩
theorem bsearch_at (l:List Vr) (t:Int) (w:World) (h:RLs RVr 38 S w v l) (hu:upV l) (hl:l.length≤4294967296) :
  Calls Tryz.prog 41 #[v,.int .i64 t,.func (.func 42) #[] #[]] w (fun e w'=>e=.returned (.tuple #[.int .i64 (below t l:Nat),.bool (decide (∃ w∈l,w.no=t))])∧Ext w w'):=by
 obtain ⟨A,c,rfl,_⟩:=h.form
 exact bsearch_any A c l t w h hu hl
theorem El25:El Tryz.prog 25 34 (ag (vcs 0 zero32 v0 0 v0 v0 v0)) 38 144:=⟨uu25,by kernel_rfl,rfl,by decide⟩
def RVv (S:Nat→Prop) (w:World) (cs:List Value) (l:List Vr):Prop:=∃ u,cs=[u]∧RLs RVr 38 S w u l
theorem rVv:Rel RVv:=⟨fun ⟨u,h1,h2⟩ hp=>⟨u,h1,h2.pres rVr hp⟩,fun ⟨u,h1,h2⟩ hs=>⟨u,h1,h2.subB rVr hs⟩⟩
theorem vs_three {g:Nat} {t:TypeId} {v1 v3:Value} {l1 l3:List Vr} (h:Blk w g t [v1,v2,v3]) (h1:RLs RVr 38 S w v1 l1) (h2:RLs RVr 38 S w v2 l2) (h3:RLs RVr 38 S w v3 l3) (hg:S g):RLs RVv 1 S w (vl (some ⟨g,0,none⟩) 3 3) [l1,l2,l3]:=by
 obtain ⟨C,C,rfl,_⟩:=h1.form
 obtain ⟨C,C,rfl,_⟩:=h2.form
 obtain ⟨C,C,rfl,_⟩:=h3.form
 refine ⟨some ⟨g,0,none⟩,3,_,rfl,⟨Nat.le_refl _,by omega⟩,⟨rfl,one_cons rfl (one_cons rfl (one_cons rfl one_nil)),fun _=>⟨g,0,rfl,h.lt,fun j u hu=>by rw [Nat.zero_add,h.rule.1];exact hu⟩⟩,fun i hi=>?_,fun _=>⟨g,0,rfl,hg⟩⟩
 simp only [List.length_cons,List.length_nil] at hi
 rcases (show i=0∨i=1∨i=2 by omega) with rfl | rfl | rfl
 ·exact ⟨_,rfl,h1⟩
 ·exact ⟨_,rfl,h2⟩
 ·exact ⟨_,rfl,h3⟩
def OwnV (S:Nat→Prop) (base:Nat) (w:World) (v:Value) (n:Nat) (xs:List Value) (l:List Vr):Prop :=
 w.ownsRow base 34 38 v n xs∧n=l.length∧(∀ u∈xs,u.oneCell'=true)∧(∀ b,S b→b<base)∧∀ i (h:i<l.length),RVr S w (chunk 38 xs i) l[i]
theorem OwnV.app {v':Value} {ys:List Value} (h:OwnV S base w v n xs l) (hr:w'.ownsRow base 34 38 v' (n+l2.length) (xs++ys)) (hg:w.grownBy w' v.ownBlock)
  (h1:∀ u∈ys,u.oneCell'=true) (hx:∀ i (h:i<l2.length),RVr S w (chunk 38 ys i) l2[i]):OwnV S base w' v' (n+l2.length) (xs++ys) (l++l2):=by
 obtain ⟨q1,q2,q3,q5,q4⟩:=h
 have hge:∀ b,S b→some b≠v.ownBlock:=fun b hb e=>by have:=own_ge q1 b e;have:=q5 b hb;omega
 have mv:∀ {cs:List Value} {x:Vr},RVr S w cs x→RVr S w' cs x:=fun hq=>rVr.pres hq ⟨hg.size,fun b hb hl=>hg.block b hl (hge b hb)⟩
 have hxl:xs.length=n*38:=q1.1
 refine ⟨hr,by simp [q2],fun u hu=>?_,q5,fun i hi=>?_⟩
 ·rcases List.mem_append.1 hu with hu | hu
  ·exact q3 u hu
  ·exact h1 u hu
 ·by_cases C:i<l.length
  ·rw [List.getElem_append_left C,chunk_append_left hxl (by omega)]
   exact mv (q4 i C)
  ·simp only [List.length_append] at hi
   have C:chunk 38 (xs++ys) i=chunk 38 ys (i - l.length):=by rw [chunk_append_right hxl (by omega),q2]
   rw [C,List.getElem_append_right (by omega)]
   exact mv (hx (i - l.length) (by omega))
theorem OwnV.ext (h:OwnV S base w v n xs l) (he:Ext w w'):OwnV S base w' v n xs l:=⟨own_ext h.1 he,h.2.1,h.2.2.1,h.2.2.2.1,fun i hi=>rVr.ext (h.2.2.2.2 i hi) he⟩
theorem OwnV.rls (h:OwnV S base w v n xs l):RLs RVr 38 (fun b=>S b∨base≤b) w v l:=by
 obtain ⟨h1,h2,h3,_,h4⟩:=h
 exact RSl.own h1 (fun b hb=>.inr hb) h2 h3 fun i hi=>rVr.sub (h4 i hi) fun b hb=>.inl hb
theorem fl_len_take {k:Nat} {x:List Vr} (hx:ll[k]?=some x):(ll.take (k+1)).flatten=(ll.take k).flatten++x:=by
 rw [List.take_add_one,hx,List.flatten_append];simp
theorem fl_len_le {k:Nat} {x:List Vr} (hx:ll[k]?=some x):(ll.take k).flatten.length+x.length≤ll.flatten.length:=by
 have h1:(ll.take (k+1)).flatten.length≤ll.flatten.length:=by
  have h2:=congrArg (fun z=>z.flatten.length) (List.take_append_drop (k+1) ll)
  simp only [List.flatten_append,List.length_append] at h2
  omega
 rw [fl_len_take hx,List.length_append] at h1
 exact h1
theorem growv_any (n:Nat) (w:World) (hn:n≤4294967296) :
  Calls Tryz.prog 87 #[.slice none 0 0,.int .i64 (n:Nat)] w (fun e w'=>∃ A c,e=.returned (vl A 0 c)∧w'.ownsRow w.heap.size 34 38 (vl A 0 c) 0 []∧Ext w w'):=by
 refine calls_enter Tryz.func87 rfl rfl rfl fun _ C=>wr fun D D=>C.xv v0 fun _ C=>wn D<|wp_seq_k fun D D=>wr fun G G=>C.xm rfl<|Xv (vd ((n:Int)<(0:Int))) fun _ C=>wn G ?_
 by_cases G:(n:Int)<(0:Int)
 ·refine C.ct ?_
  exfalso;omega
 refine C.cf<|wp_skip<|D _ _<|wp_seq_k fun D D=>wr fun G G=>C.xm rfl<|Xm rfl<|Xw (vi 0) (fun F=>rn_cap uu25 (F.get rfl))<|Xm rfl<|Xv (vi 0)<|Xv (vi 0)<|Xw (vi (n - 0:Nat)) (fun F=>rn_subN (a:=n) (b:=0) (F.get rfl) (F.get rfl) (by omega) (by omega))<|Xa rfl fun _ C=>wn G<|have G:=C.k [0,1,4,6];wr fun C I=>G.xm rfl<|Xv (vd ((0:Int)<((n - 0:Nat):Int))) fun _ C=>wn I ?_
 by_cases G:(0:Int)<((n - 0:Nat):Int)
 ·exact C.ct<|wp_region_lit<|C.xm rfl<|Xm rfl<|Xw (vi 0) (fun F=>rn_cap uu25 (F.get rfl))<|Xw v0 (fun F=>rn_sliceHi uu25 inf34 (F.get rfl) (F.get rfl) (by omega:(0:Int)≤0) (by omega:(0:Int)≤((0:Nat):Int)))<|Xm rfl fun _ C=>wpl_op (i:=5) rfl<|o_zeros El25 C rfl rfl rfl rfl rfl uu3 (C.get rfl) (C.get rfl) (by omega) (by omega) (by omega) fun J C G G G I G G G G M=>have M:=own_lt G;I.xm rfl<|Xv (vi 0)<|Xw (vl (some ⟨J,0,none⟩) 0 C) (fun F=>rn_sliceHi uu25 inf34 (F.get rfl) (F.get rfl) (by omega:(0:Int)≤0) (by omega:(0:Int)≤((C:Nat):Int)))<|Xa rfl fun _ C=>wn D<|have D:=C.k [0,1,4,6,16];wr fun C I=>D.xm rfl<|Xa rfl fun _ C=>wn I<|wp_ret<|ret1 C rfl rfl<|⟨_,_,rfl,own_zero G,eX⟩
 exact C.cf<|wp_skip<|D _ _<|wr fun D D=>C.xm rfl<|Xa rfl fun _ C=>wn D<|wp_ret<|ret1 C rfl rfl<|⟨none,0,rfl,own_nil _ _ _ _,(Ext.refl w)⟩
theorem concatv_any (A:Option Addr) (c:Nat) (ll:List (List Vr)) (w:World) (h:RLs RVv 1 S w (vl A ll.length c) ll) (hS:∀ b,S b→b<w.heap.size) (hn:ll.flatten.length≤1000000) :
  Calls Tryz.prog 44 #[.slice A ll.length c] w (fun e w'=>∃ A c,e=.returned (vl A ll.flatten.length c)∧RLs RVr 38 (Fr S w) w' (vl A ll.flatten.length c) ll.flatten∧Ext w w'):=by
 obtain ⟨-,C,ae⟩:=RLs.at h
 refine calls_enter Tryz.func44 rfl rfl rfl fun _ C=>wr fun U U=>C.xv v0 fun _ C=>wn U<|wr fun U U=>C.xv (vi 0) fun _ C=>wn U<|wp_seq_k fun U aw=>wr fun U U=>C.xm rfl<|Xv (vi ll.length)<|Xv (vi 0) fun _ C=>wn U<|wp_block<|wp_loop (fun a' W=>∃ (k:Nat),Sl 36 [(0,(vl A ll.length c)),(2,v0),(3,(vi ((ll.take k).flatten.length:Nat))),(9,(vl A ll.length c)),(10,(vi ll.length)),(11,(vi k))] a'∧k≤ll.length∧(ll.take k).flatten.length≤ll.flatten.length∧Ext w W∧w.heap.size≤W.heap.size) (fun a' _=>ll.length - (intOf (a'.eval (.tmp 11))).toNat) ⟨0,((((((C.nil.cons (q_get C (t:=11) rfl (by first | rfl | (congr 1;omega)))).cons (q_get C (t:=10) rfl rfl)).cons (q_get C (t:=9) rfl rfl)).cons (q_get C (t:=3) rfl (by first | rfl | (congr 1;omega)))).cons (q_get C (t:=2) rfl rfl)).cons (q_get C (t:=0) rfl rfl)),(by omega),(by simp),(Ext.refl w),(Nat.le_refl _)⟩ ?_
 rintro C ai ⟨k,C,U,U,U,av⟩
 have aA:=C
 have av:=U.size
 refine wr fun av av=>C.xv (vd ((k:Int)<(ll.length:Int))) fun _ M=>wn av<|wp_seq_k fun C C=>?_
 by_cases av:(k:Int)<(ll.length:Int)
 ·refine M.ct<|wp_skip<|C _ _<|wp_seq_k fun C Z=>wp_block<|wr fun C aa=>?_
  have C:=RLs.ext rVv h U
  obtain ⟨O,ag,D,U,Y,I,U,G,ac⟩:=RLs.get C (by omega:k<ll.length)
  obtain ⟨C,rfl,ab⟩:=ac
  obtain ⟨J,V,rfl,C,C⟩:=RLs.form ab
  have C:=fl_len_le I
  have hz9:=congrArg List.length (fl_len_take I);simp only [List.length_append] at hz9
  simp only [Nat.mul_one] at G
  refine M.xw (vq O (ag+k)) (fun F=>rn_index1 uu113 inf25 ((F.get rfl).trans (by rw [Y])) (F.get rfl) (zl _) (il (by omega:k<ll.length)))<|Xw (vl J D.length V) (fun F=>rl F rfl (G 0 _ rfl))<|Xa rfl fun _ C=>wn aa<|wr fun G G=>C.xm rfl<|Xm rfl<|Xv (vi D.length)<|Xw (vi (((ll.take k).flatten.length)+D.length:Nat)) (fun F=>rn_addN (a:=(ll.take k).flatten.length) (b:=D.length) (F.get rfl) (F.get rfl) (by omega))<|Xa rfl fun _ C=>wn G<|have G:=C.k [0,2,3,9,10,11,12,5];wr fun C I=>G.xm rfl<|Xv (vd (((((ll.take k).flatten.length)+D.length:Nat):Int)<(0:Int))) fun _ C=>wn I ?_
  by_cases G:((((ll.take k).flatten.length)+D.length:Nat):Int)<(0:Int)
  ·refine C.ct ?_
   exfalso;omega
  refine C.cf<|wp_skip<|Z _ _<|wp_region_lit<|C.xv (vi (k+1:Nat))<|Xm rfl fun _ C=>wpList_nil ?_
  refine ⟨⟨(k+1),((((((C.nil.cons (q_get C (t:=11) rfl (by first | rfl | (congr 1;omega)))).cons (q_get C (t:=10) rfl rfl)).cons (q_get C (t:=9) rfl rfl)).cons (q_get C (t:=3) rfl (by first | rfl | (congr 1;omega)))).cons (q_get C (t:=2) rfl rfl)).cons (q_get C (t:=0) rfl rfl)),(by omega),(by omega),eX,(by omega)⟩,?_⟩
  rw [C.get (t:=11) rfl,aA.get (t:=11) rfl];simp [intOf] <;> omega
 refine M.cf<|wp_exit<|exit_then<|exit_then<|exit_here<|aw _ _<|wr fun C ax=>M.xm rfl fun _ C=>C.xC (c:=growv_any ((ll.take k).flatten.length) _ (by omega)) (k:= ?_)
 rintro _ aj ⟨Z,aa,rfl,ah,aC⟩
 have C:=own_form0 ah
 refine ⟨_,rfl,?_⟩;intro C C;have M:=aC.size
 have av:OwnV S ai.heap.size aj (vl Z 0 aa) 0 [] []:=⟨ah,rfl,one_nil,fun b hb=>by have:=hS b hb;omega,fun i hi=>absurd hi (by simp)⟩
 refine C.xa rfl fun _ C=>wn ax<|wp_seq_k fun M ay=>wr fun M M=>C.xm rfl<|Xv (vi ll.length)<|Xv (vi 0) fun _ C=>wn M<|wp_block<|wp_loop (fun a' W=>∃ (D:Nat) (M:Option Addr) (U:Nat) (I:Nat) (O:List Value) (l6:List Vr),Sl 36 [(0,(vl A ll.length c)),(2,v0),(3,(vi ((ll.take k).flatten.length:Nat))),(9,(vl A ll.length c)),(10,(vi ll.length)),(11,(vi k)),(12,(vd ((k:Int)<(ll.length:Int)))),(6,(vl M I U)),(25,(vl A ll.length c)),(26,(vi ll.length)),(27,(vi D))] a'∧(D≤ll.length∧I=(ll.take D).flatten.length)∧l6=(ll.take D).flatten∧Ext w W∧OwnV S ai.heap.size W (vl M I U) I O l6∧aj.heap.size≤W.heap.size) (fun a' _=>ll.length - (intOf (a'.eval (.tmp 27))).toNat) ⟨0,Z,aa,0,[],[],(((((((((((C.nil.cons (q_get C (t:=27) rfl (by first | rfl | (congr 1;omega)))).cons (q_get C (t:=26) rfl rfl)).cons (q_get C (t:=25) rfl rfl)).cons (q_get C (t:=6) rfl (by first | rfl | (congr 1;omega)))).cons (q_get C (t:=12) rfl rfl)).cons (q_get C (t:=11) rfl rfl)).cons (q_get C (t:=10) rfl rfl)).cons (q_get C (t:=9) rfl rfl)).cons (q_get C (t:=3) rfl rfl)).cons (q_get C (t:=2) rfl rfl)).cons (q_get C (t:=0) rfl rfl)),⟨by omega,by simp⟩,(by simp),eX,av,(Nat.le_refl _)⟩ ?_
 rintro C C ⟨D,M,U,I,O,l6,C,M,ag,M,G,U⟩
 have az:=C
 have U:=M.size
 have U:=own_form0 G.1
 refine wr fun U U=>C.xv (vd ((D:Int)<(ll.length:Int))) fun _ J=>wn U<|wp_seq_k fun C C=>?_
 by_cases U:(D:Int)<(ll.length:Int)
 ·refine J.ct<|wp_skip<|C _ _<|wp_seq_k fun C ar=>wp_block<|wr fun C au=>?_
  have C:=RLs.ext rVv h M
  obtain ⟨al,aD,Y,M,aq,V,M,ab,aB⟩:=RLs.get C (by omega:D<ll.length)
  obtain ⟨C,rfl,ac⟩:=aB
  obtain ⟨ak,am,rfl,C,C⟩:=RLs.form ac
  have C:=fl_len_le V
  have hz9:=congrArg List.length (fl_len_take V);simp only [List.length_append] at hz9
  simp only [Nat.mul_one] at ab
  refine J.xw (vq al (aD+D)) (fun F=>rn_index1 uu113 inf25 ((F.get rfl).trans (by rw [aq])) (F.get rfl) (zl _) (il (by omega:D<ll.length)))<|Xw (vl ak Y.length am) (fun F=>rl F rfl (ab 0 _ rfl))<|Xa rfl fun _ C=>wn au<|wp_region_lit<|C.xm rfl<|Xm rfl fun _ C=>?_
  obtain ⟨J,J,U,M,he146⟩:=RSl.cel ac
  refine wpl_op (i:=2) rfl<|o_appB (zs:=O++U) El25 C rfl rfl rfl rfl rfl (C.get rfl) (C.get rfl) G.1 M (by omega) (by omega) (by omega) rfl fun Z aa C C C ac J ab ab ab=>have ab:=J.size;have ab:=OwnV.app G ac J M.2.1 he146;C.xa rfl fun _ C=>wn ar<|have M:=C.k [0,2,3,9,10,11,12,6,25,26,27,28,8];wp_region_lit<|M.xv (vi (D+1:Nat))<|Xm rfl fun _ C=>wpList_nil ?_
  refine ⟨⟨(D+1),Z,aa,I+Y.length,(O++U),(l6++Y),(((((((((((C.nil.cons (q_get C (t:=27) rfl (by first | rfl | (congr 1;omega)))).cons (q_get C (t:=26) rfl rfl)).cons (q_get C (t:=25) rfl rfl)).cons (q_get C (t:=6) rfl (by first | rfl | (congr 1;omega)))).cons (q_get C (t:=12) rfl rfl)).cons (q_get C (t:=11) rfl rfl)).cons (q_get C (t:=10) rfl rfl)).cons (q_get C (t:=9) rfl rfl)).cons (q_get C (t:=3) rfl rfl)).cons (q_get C (t:=2) rfl rfl)).cons (q_get C (t:=0) rfl rfl)),⟨by omega,by omega⟩,(by rw [fl_len_take V,← ag]),(ext_row eX J G.1 (by omega)),ab,(by omega)⟩,?_⟩
  rw [C.get (t:=27) rfl,az.get (t:=27) rfl];simp [intOf] <;> omega
 refine J.cf<|wp_exit<|exit_then<|exit_then<|exit_here<|ay _ _<|wr fun C I=>J.xm rfl<|Xa rfl fun _ C=>wn I<|wp_ret<|ret1 C rfl rfl ?_
 have ae:D=ll.length:=by omega
 have hfl:=ag;rw [ae,List.take_length] at hfl
 obtain rfl:=G.2.1
 subst hfl
 exact ⟨_,_,rfl,RLs.sub rVr (OwnV.rls G) (fun b hb=>hb.elim .inl (fun h=>.inr (by omega))),eX⟩
theorem concatv_at (ll:List (List Vr)) (w:World) (h:RLs RVv 1 S w v ll) (hS:∀ b,S b→b<w.heap.size) (hn:ll.flatten.length≤1000000) :
  Calls Tryz.prog 44 #[v] w (fun e w'=>∃ A c,e=.returned (vl A ll.flatten.length c)∧RLs RVr 38 (Fr S w) w' (vl A ll.flatten.length c) ll.flatten∧Ext w w'):=by
 obtain ⟨A,c,rfl,_⟩:=h.form
 exact concatv_any A c ll w h hS hn
theorem check_asc {f:Fo} (h:checkFE f=0):f.many≤4096∧1≤f.many∧0≤f.no∧f.no≤4096∧f.early.length≤64∧checkE f.items=0∧asc (f.no+1) f.early∧firstE (verifyE f.pub f.many) f.early=0:=by
 unfold checkFE at h
 split at h
 ·cases h
 ·split at h
  ·cases h
  ·split at h
   ·rename_i h1;exact absurd h h1
   ·split at h
    ·cases h
    ·split at h
     ·cases h
     ·split at h
      ·cases h
      ·rename_i h1 h2 h3 h4 h5 h6
       exact ⟨by omega,by omega,by omega,by omega,by omega,Decidable.not_not.1 h3,Decidable.not_not.1 h6,h⟩
theorem first_zero {g:Vr→Int}:∀ {l:List Vr},firstE g l=0→∀ x∈l,g x=0
 | [],_,x,hx=>absurd hx (by simp)
 | y::l,h,x,hx=>by
  unfold firstE at h
  split at h
  ·rename_i h1;exact absurd h h1
  ·rename_i h1
   rcases List.mem_cons.1 hx with rfl | hx
   ·exact Decidable.not_not.1 h1
   ·exact first_zero h x hx
theorem verify_zero {pub:List UInt8} {many:Int} {v:Vr} (h:verifyE pub many v=0):1≤v.no∧v.no≤4096∧validC v.chs∧v.sg.index=v.no - 1∧verifyF pub many v.msg v.sg=true:=by
 unfold verifyE at h
 split at h
 ·cases h
 ·split at h
  ·cases h
  ·split at h
   ·cases h
   ·rename_i h1 h2 h3
    refine ⟨by omega,by omega,Decidable.not_not.1 h2,Decidable.not_not.1 (fun q=>h3 (.inl q)),?_⟩
    cases hv:verifyF pub many v.msg v.sg
    ·exact absurd (.inr hv) h3
    ·rfl
theorem early_no {f:Fo} (h:checkFE f=0) {x:Vr} (hx:x∈f.early):1≤x.no∧x.no≤4096:=by
 have:=verify_zero (first_zero (check_asc h).2.2.2.2.2.2.2 x hx)
 exact ⟨this.1,this.2.1⟩
theorem below_le (t:Int) (l:List Vr):below t l≤l.length:=by
 unfold below;exact (List.takeWhile_prefix _).length_le
theorem stepF_early (g:Fo) (x:Vr) (l:List Vr):stepF ⟨g.pub,g.many,g.no,g.items,l⟩ x={ stepF g x with early:=l }:=by
 unfold stepF
 by_cases h:fits g x
 ·have h':fits ⟨g.pub,g.many,g.no,g.items,l⟩ x:=h
  rw [if_pos h,if_pos h']
 ·have h':¬ fits ⟨g.pub,g.many,g.no,g.items,l⟩ x:=h
  rw [if_neg h,if_neg h']
theorem drain_early:∀ (l:List Vr) (g:Fo) (z:List Vr),drain { g with early:=z } l=drain g l
 | [],_,_=>rfl
 | x::l,g,z=>by
  unfold drain
  by_cases h:x.no=g.no+1
  ·rw [if_pos h,if_pos h,stepF_early g x z,drain_early l]
  ·rw [if_neg h,if_neg h]
theorem drain_step (hx:g.early[0]?=some x) (h:x.no=g.no+1):drain (stepF ⟨g.pub,g.many,g.no,g.items,g.early.drop 1⟩ x) (g.early.drop 1)=drain g g.early:=by
 cases he:g.early with
 | nil=>rw [he] at hx;simp at hx
 | cons y l =>
  rw [he] at hx;simp at hx;subst hx
  rw [stepF_early,drain_early]
  show drain (stepF g y) l=drain g (y::l)
  rw [drain,if_pos h]
theorem drain_end (h:∀ x,g.early[0]?=some x→x.no≠g.no+1):drain g g.early=g:=by
 cases he:g.early with
 | nil=>cases g;simp only at he;subst he;rfl
 | cons y l=>rw [drain,if_neg (h y (by rw [he];rfl)),← he]
theorem stepF_facts (g:Fo) (x:Vr):(stepF g x).pub=g.pub∧(stepF g x).many=g.many∧(stepF g x).early=g.early∧((stepF g x).no=g.no∨(stepF g x).no=x.no):=by
 unfold stepF;split
 ·exact ⟨rfl,rfl,rfl,.inr rfl⟩
 ·exact ⟨rfl,rfl,rfl,.inl rfl⟩
theorem stepF_sm (ha:∀ y∈g.items,y.data.length≤4294967296) (hl:∀ y∈x.chs,y.data.length≤4294967296):∀ y∈(stepF g x).items,y.data.length≤4294967296:=by
 unfold stepF;split
 ·rename_i h
  intro y hy
  have e:applyV g.items x.chs=appL g.items x.chs:=if_pos h.1
  exact applyV_sm ha hl y (by rw [e];exact hy)
 ·exact ha
def lenCell (W:World) (b o:Nat):Nat:=match W.cell? ⟨b,o,none⟩ with
 | some (Value.slice _ n _)=>n
 | _=>0
theorem lenCell_of {W:World} {b o c:Nat} {A:Option Addr} (h:W.cell? ⟨b,o,none⟩=some (vl A n c)):lenCell W b o=n:=by unfold lenCell;rw [h]
def Fz (S:Nat→Prop) (w:World) (p q r x:Nat):Prop:=Fr S w x∧x≠p∧x≠q∧x≠r
theorem flat3 {v:Vr}:([l.take n,[v],l.drop n]:List (List Vr)).flatten=l.take n++[v]++l.drop n:=by simp
theorem receive_any (FA:Option Addr) (fa:Nat) (FE:Option Addr) (fe:Nat) (C:Option Addr) (cc:Nat) (O:Option Addr) (oc:Nat) (E:Option Addr) (ec:Nat) (P:Option Addr) (pc:Nat) (f:Fo) (v:Vr) (w:World) (hf:RFo S w (vl FA f.items.length fa) (vl FE f.early.length fe) f) (hv:RVp S w (vl C v.chs.length cc) (vl O v.sg.op.length oc) (vl E v.sg.cl.length ec) (vl P v.sg.path.length pc) v) (hdi:∀ x∈f.items,x.data.length≤4294967296) (hde:∀ v∈f.early,∀ x∈v.chs,x.data.length≤4294967296) (hdv:∀ x∈v.chs,x.data.length≤4294967296) (hG:Glob w) :
  Calls Tryz.prog 17 #[(ag (dg f.pub [(vi f.many),(vi f.no),(vl FA f.items.length fa),(vl FE f.early.length fe)])),(ag ((vi v.no)::dg v.state [(vl C v.chs.length cc),(vi v.sg.index),(vl O v.sg.op.length oc),(vl E v.sg.cl.length ec),(vl P v.sg.path.length pc)]))] w (fun en w'=>∃ c' e',en=.returned (.tuple #[ag (fcs (recF f v).pub (recF f v).many (recF f v).no c' e'),.int .i64 (recE f v)])∧RFo (Fr S w) w' c' e' (recF f v)∧Ext w w'):=by
 have hfc:=RFo.subB (S':=Clip S w) hf (fun _ hb hs=>⟨hs,hb⟩)
 obtain ⟨-,hfc1,hfc2⟩:=RLs.at hfc.items;obtain ⟨-,hfc3,hfc4⟩:=RLs.at hfc.early
 have hvc:=RVp.subB (S':=Clip S w) hv (fun _ hb hs=>⟨hs,hb⟩)
 obtain ⟨-,hvc1,hvc2⟩:=RLs.at hvc.chs;have hvc3:=(Fl.cel hvc.sg.op).2.1;have hvc4:=(Fl.cel hvc.sg.cl).2.1;have hvc5:=(Fl.cel hvc.sg.path).2.1
 have hsub:∀ x∈f.early,x∈f.early:=fun _ h=>h
 refine calls_enter Tryz.func17 rfl rfl rfl fun _ hF=>wr fun K1 aU=>hF.xb rfl fun G w3 _ F9 z6 z7 b4 aj=>F9.xb rfl fun J aj _ aj aF aF bn aF=>aj.xz fz 48 fun U aj _ aF aj aj ae aj=>aF.xv (vi 0) fun _ aF=>wn aU<|wp_seq_k fun aU bp=>wr fun aU bq=>have a3:=b4.ux aj;aF.xw (ag (dg f.pub [(vi f.many),(vi f.no),(vl FA f.items.length fa),(vl FE f.early.length fe)])) (fun F=>rb F rfl a3 (hk:=len_dig hfc.pub)) fun _ aF=>have aU:=(RLs.ux rIt hfc.items aj);have a8:=(RLs.ux rVr hfc.early aj);aF.xe (fcheck_at f _ (⟨hfc.pub,RLs.sub rIt aU (fun b hb=>⟨.inl hb.1,by have h8:=hb.2;omega,by have h8:=hb.2;omega,by have h8:=hb.2;omega⟩),RLs.sub rVr a8 (fun b hb=>⟨.inl hb.1,by have h8:=hb.2;omega,by have h8:=hb.2;omega,by have h8:=hb.2;omega⟩)⟩:RFo (Fz S w G J U) _ _ _ f) hdi hde (hG.ext eX)) fun aj aj aF _ aF=>aF.xa rfl fun _ aF=>wn bq<|wr fun aU aU=>aF.xm rfl<|Xv (vd (((checkFE f):Int)≠(0:Int))) fun _ aF=>wn aU ?_
 by_cases Z:((checkFE f):Int)≠(0:Int)
 ·refine aF.ct<|wr fun D J=>have G:=(ae.ext aj);aF.xw (ag fz) (fun F=>rb F rfl G)<|Xm rfl fun _ D=>D.xs rfl G (fun G I G=>have U:=G.size;D.xa rfl fun _ D=>wn J<|have G:=D.k [0,1,2,3,4,5,6,14];wp_ret<|ret_then ?_)
  refine retC1 G rfl rfl rfl I uu48 rfl (sk inf48 (len_dig zero32_len)) ?_
  have hE:recE f v=(checkFE f):=if_pos Z
  have D:recF f v=foNil:=if_pos (by rw [hE];exact Z)
  rw [D,hE]
  exact ⟨_,_,rfl,foNil_at _,eX⟩
 have hck:checkFE f=0:=Decidable.not_not.1 Z
 obtain ⟨aU,aU,aU,aU,aU,aU,bC,aU⟩:=check_asc hck
 refine aF.cf<|wp_skip<|bp _ _<|wp_seq_k fun aU bw=>wr fun aU bx=>aF.xv (vp G) fun _ aF=>have aU:=(a3.ext aj);aF.xw (.agg (byteVals f.pub).toArray) (fun F=>rn_loadN (cs:=byteVals f.pub) (F.get rfl) uu29 rfl (sk inf29 (byteVals_len hfc.pub)) (Blk.part (A:=[]) (M:=byteVals f.pub) (B:=[(vi f.many),(vi f.no),(vl FA f.items.length fa),(vl FE f.early.length fe)]) aU (by simp) rfl))<|Xv (vq G 32)<|Xw (vi f.many) (fun F=>rl F rfl ((aU.rule.1 32).trans ((at_app (k:=0) (byteVals_len hfc.pub)).trans rfl))) fun _ aF=>have a8:=bn.ux aj;aF.xw (ag ((vi v.no)::dg v.state [(vl C v.chs.length cc),(vi v.sg.index),(vl O v.sg.op.length oc),(vl E v.sg.cl.length ec),(vl P v.sg.path.length pc)])) (fun F=>rb F rfl a8 (hk:=len_dig1 hvc.st)) fun _ aF=>have a3:=(RLs.ux rCg hvc.chs aj);have bn:=(hvc.sg.op.ux aj);have bp:=(hvc.sg.cl.ux aj);have bq:=(hvc.sg.path.ux aj);aF.xe (verifyv_at f.pub f.many v _ (⟨hvc.st,RLs.sub (S':=fun _=>True) rCg a3 fun _ _=>trivial,⟨Fl.any bn,Fl.any bp,Fl.any bq,hvc.sg.o32,hvc.sg.c32,hvc.sg.p32⟩⟩:RVp (fun _=>True) _ _ _ _ _ v) hfc.pub hdv (hG.ext eX)) fun aj aF aj _ aj=>aj.xa rfl fun _ aj=>wn bx<|have a3:=aj.k [0,1,2,3,4,5,6,14,7];wr fun aj bn=>a3.xm rfl<|Xv (vd (((verifyE f.pub f.many v):Int)≠(0:Int))) fun _ aj=>wn bn ?_
 by_cases ab:((verifyE f.pub f.many v):Int)≠(0:Int)
 ·refine aj.ct<|wr fun D I=>have G:=ae.ux aF;aj.xw (ag fz) (fun F=>rb F rfl G)<|Xm rfl fun _ D=>D.xs rfl G (fun G G J=>have U:=J.size;D.xa rfl fun _ D=>wn I<|wp_ret<|ret_then ?_)
  refine retC1 D rfl rfl rfl G uu48 rfl (sk inf48 (len_dig zero32_len)) ?_
  have hE:recE f v=(verifyE f.pub f.many v):=(if_neg Z).trans (if_pos ab)
  have D:recF f v=foNil:=if_pos (by rw [hE];exact ab)
  rw [D,hE]
  exact ⟨_,_,rfl,foNil_at _,eX⟩
 have hvz:verifyE f.pub f.many v=0:=Decidable.not_not.1 ab
 obtain ⟨a3,a3,a3,a3,-⟩:=verify_zero hvz
 refine aj.cf<|wp_skip<|bw _ _<|wr fun a3 bn=>aj.xv (vq G 35) fun _ aj=>have a3:=(aU.ext aF);aj.xw (vl FE f.early.length fe) (fun F=>rl F rfl ((a3.rule.1 35).trans ((at_app (k:=3) (byteVals_len hfc.pub)).trans rfl)))<|Xv (vp J) fun _ aj=>have aU:=(a8.ext aF);aj.xw (vi v.no) (fun F=>rl F rfl ((aU.rule.1 0).trans rfl)) fun _ aj=>have a8:=(RLs.ux rVr hfc.early aF);have aF:=below_le v.no f.early;aj.xE (c:=bsearch_at (v:=(vl FE f.early.length fe)) f.early v.no _ a8 (up_of_asc bC) (by omega)) (k:=fun aj aa aj _ aj=>aj.xm rfl<|Xv (vi (below v.no f.early:Nat))<|Xv (vd (∃ w∈f.early,w.no=v.no))<|Xa rfl<|Xa rfl fun _ aj=>wn bn<|have a8:=aj.k [0,1,2,3,4,5,6,14,7,24,8,9];wp_seq_k fun aj bn=>wr fun aj aF=>a8.xm rfl<|Xm rfl fun _ aj=>?_)
 by_cases az:∃ w∈f.early,w.no=v.no
 ·refine aj.xu<|Xu<|Xu<|Xu<|Xu<|Xv (.bool true) fun _ G=>wn aF<|have D:=G.k [0,1,2,3,4,5,6,14,7,24,8,9,42];D.ct<|wr fun G I=>have G:=ae.ux aa;D.xw (ag fz) (fun F=>rb F rfl G) fun _ D=>D.xs rfl G (fun G G J=>have U:=J.size;D.xv (vi 420) fun _ D=>wn I<|wp_ret<|ret_then ?_)
  refine retC1 D rfl rfl rfl G uu48 rfl (sk inf48 (len_dig zero32_len)) ?_
  have hE:recE f v=420:=(if_neg Z).trans ((if_neg ab).trans ( if_pos (.inl az)))
  have D:recF f v=foNil:=if_pos (by rw [hE];decide)
  rw [D,hE]
  exact ⟨_,_,rfl,foNil_at _,eX⟩
 refine aj.xg (vp J) fun _ aj=>have aB:=(aU.ext aa);aj.xgw (vi v.no) (fun F=>rl F rfl ((aB.rule.1 0).trans rfl))<|Xg (vq G 33) fun _ aj=>have au:=(a3.ext aa);aj.xgw (vi f.no) (fun F=>rl F rfl ((au.rule.1 33).trans ((at_app (k:=1) (byteVals_len hfc.pub)).trans rfl)))<|Xg (vd ((v.no:Int)≤(f.no:Int)))<|Xv (vd ((v.no:Int)≤(f.no:Int))) fun _ aU=>wn aF ?_
 have aj:=aU.k [0,1,2,3,4,5,6,14,7,24,8,9,42]
 by_cases aF:(v.no:Int)≤(f.no:Int)
 ·refine aj.ct<|wr fun D I=>have G:=ae.ux aa;aj.xw (ag fz) (fun F=>rb F rfl G) fun _ D=>D.xs rfl G (fun G G J=>have U:=J.size;D.xv (vi 420) fun _ D=>wn I<|wp_ret<|ret_then ?_)
  refine retC1 D rfl rfl rfl G uu48 rfl (sk inf48 (len_dig zero32_len)) ?_
  have hE:recE f v=420:=(if_neg Z).trans ((if_neg ab).trans ( if_pos (.inr (by omega))))
  have D:recF f v=foNil:=if_pos (by rw [hE];decide)
  rw [D,hE]
  exact ⟨_,_,rfl,foNil_at _,eX⟩
 refine aj.cf<|wp_skip<|bn _ _<|wp_seq_k fun aF bt=>wr fun aF aF=>aj.xv (vp J)<|Xw (vi v.no) (fun F=>rl F rfl ((aB.rule.1 0).trans rfl))<|Xv (vq G 33)<|Xw (vi f.no) (fun F=>rl F rfl ((au.rule.1 33).trans ((at_app (k:=1) (byteVals_len hfc.pub)).trans rfl)))<|Xv (vi (f.no+1))<|Xv (vd ((f.no+1:Int)<(v.no:Int))) fun _ aj=>wn aF ?_
 have aD:=aj.k [0,1,2,3,4,5,6,14,7,24,8,9,42,49]
 by_cases aj:(f.no+1:Int)<(v.no:Int)
 ·refine aD.ct<|wp_seq_k fun D D=>wr fun I ac=>aD.xv (vq G 35)<|Xw (vl FE f.early.length fe) (fun F=>rl F rfl ((au.rule.1 35).trans ((at_app (k:=3) (byteVals_len hfc.pub)).trans rfl)))<|Xv (vi f.early.length)<|Xv (vd ((f.early.length:Int)=(64:Int))) fun _ I=>wn ac ?_
  by_cases ac:(f.early.length:Int)=(64:Int)
  ·refine I.ct<|wr fun D J=>have G:=ae.ux aa;I.xw (ag fz) (fun F=>rb F rfl G) fun _ D=>D.xs rfl G (fun G I G=>have U:=G.size;D.xv (vi 2) fun _ D=>wn J<|have G:=D.k [0,1,2,3,4,5,6,14,7,24,8,9,42,49,53];wp_ret<|ret_then<|ret_then ?_)
   refine retC1 G rfl rfl rfl I uu48 rfl (sk inf48 (len_dig zero32_len)) ?_
   have hE:recE f v=2:=(if_neg Z).trans ((if_neg ab).trans ( (if_neg (fun q=>q.elim (fun h=>az h) (fun h=>by omega))).trans ((if_pos (by omega)).trans (if_pos (by omega)))))
   have D:recF f v=foNil:=if_pos (by rw [hE];decide)
   rw [D,hE]
   exact ⟨_,_,rfl,foNil_at _,eX⟩
  refine I.cf<|wp_skip<|D _ _<|wp_seq_k fun D ax=>sX (fun D W=>Ext D W∧Blk W G 48 (dg f.pub [(vi f.many),(vi f.no),(vl FA f.items.length fa),(vl FE f.early.length fe)])∧Blk W J 34 ((vi v.no)::dg v.state [(vl C v.chs.length cc),(vi v.sg.index),(vl O v.sg.op.length oc),(vl E v.sg.cl.length ec),(vl P v.sg.path.length pc)])) (fun i=>i==13) 14 fun D ac ai=>I.yv 0 (vq G 35) rfl fun _ ak=>have ai:=(au.ext ac);have aj:=(aB.ext ac);have I:Ext D D∧Blk D G 48 (dg f.pub [(vi f.many),(vi f.no),(vl FA f.items.length fa),(vl FE f.early.length fe)])∧Blk D J 34 ((vi v.no)::dg v.state [(vl C v.chs.length cc),(vi v.sg.index),(vl O v.sg.op.length oc),(vl E v.sg.cl.length ec),(vl P v.sg.path.length pc)]):=⟨(Ext.refl D),ai,aj⟩;ak.ys 1 (vl FE f.early.length fe) rfl I (fun F W hW=>rl F rfl ((hW.2.1.rule.1 35).trans ((at_app (k:=3) (byteVals_len hfc.pub)).trans rfl)))<|Ym 2 rfl<|Yw 3 (vl FE (below v.no f.early) fe) rfl (fun F W=>rn_sliceHi uu25 inf34 (F.get rfl) (F.get rfl) (by omega:(0:Int)≤(below v.no f.early:Nat)) (by omega:((below v.no f.early:Nat):Int)≤(fe:Int)))<|Ys 4 (ag ((vi v.no)::dg v.state [(vl C v.chs.length cc),(vi v.sg.index),(vl O v.sg.op.length oc),(vl E v.sg.cl.length ec),(vl P v.sg.path.length pc)])) rfl I (fun F W hW=>rb F rfl hW.2.2 (hk:=len_dig1 hvc.st))<|Yv 6 (vq G 35) rfl<|Ys 7 (vl FE f.early.length fe) rfl I (fun F W hW=>rl F rfl ((hW.2.1.rule.1 35).trans ((at_app (k:=3) (byteVals_len hfc.pub)).trans rfl)))<|Ym 8 rfl<|Yw 9 (vl (cutA FE fe (below v.no f.early) 38) (f.early.length - (below v.no f.early)) (fe - (below v.no f.early))) rfl (fun F W=>rn_cutLo (l:=(below v.no f.early)) uu25 inf34 (F.get rfl) (F.get rfl) (by omega)) fun _ D=>ao 5 rfl<|D.on (fun g=>(vl (some ⟨g,0,none⟩) 1 1)) ((vi v.no)::dg v.state [(vl C v.chs.length cc),(vi v.sg.index),(vl O v.sg.op.length oc),(vl E v.sg.cl.length ec),(vl P v.sg.path.length pc)]) 34 rfl (fun F=>rn_buildSlice (parts1 (F.get rfl)) (build_wholeE (vs:=[(ag ((vi v.no)::dg v.state [(vl C v.chs.length cc),(vi v.sg.index),(vl O v.sg.op.length oc),(vl E v.sg.cl.length ec),(vl P v.sg.path.length pc)]))]) El25 rfl rfl (fun D hz0=>by rw [List.mem_singleton.1 hz0];exact (show List.length ((vi v.no)::dg v.state [(vl C v.chs.length cc),(vi v.sg.index),(vl O v.sg.op.length oc),(vl E v.sg.cl.length ec),(vl P v.sg.path.length pc)])=38 from (by simp [byteVals_len hvc.st]))) (by decide) (by decide) (by simp [Value.cells]))) fun ac aC _ I D D ak D=>?_
  have aq:=RLs.ux rCg hvc.chs D
  have ar:=hvc.sg.op.ux D
  have av:=hvc.sg.cl.ux D
  have aw:=hvc.sg.path.ux D
  have aA:RLs RVr 38 (Fz S w G J U) aC (vl (some ⟨ac,0,none⟩) 1 1) [v]:=RLs.one ak (show List.length ((vi v.no)::dg v.state [(vl C v.chs.length cc),(vi v.sg.index),(vl O v.sg.op.length oc),(vl E v.sg.cl.length ec),(vl P v.sg.path.length pc)])=38 from (by simp [byteVals_len hvc.st])) (one_cons rfl (one_app (byteVals_one _) (one_cons rfl (one_cons rfl (one_cons rfl (one_cons rfl (one_cons rfl one_nil))))))) ⟨.inr (by omega),by omega,by omega,by omega⟩ ⟨_,_,_,_,rfl,(⟨hvc.st,RLs.sub rCg aq (fun b hb=>⟨.inl hb.1,by have h8:=hb.2;omega,by have h8:=hb.2;omega,by have h8:=hb.2;omega⟩),⟨Fl.sub ar (fun b hb=>⟨.inl hb.1,by have h8:=hb.2;omega,by have h8:=hb.2;omega,by have h8:=hb.2;omega⟩),Fl.sub av (fun b hb=>⟨.inl hb.1,by have h8:=hb.2;omega,by have h8:=hb.2;omega,by have h8:=hb.2;omega⟩),Fl.sub aw (fun b hb=>⟨.inl hb.1,by have h8:=hb.2;omega,by have h8:=hb.2;omega,by have h8:=hb.2;omega⟩),hvc.sg.o32,hvc.sg.c32,hvc.sg.p32⟩⟩:RVp (Fz S w G J U) _ _ _ _ _ v)⟩
  have ak:=ai.ext D
  have ai:=aj.ext D
  refine ⟨fun _ _=>⟨eX,ak,ai⟩,?_⟩
  refine ao 10 rfl (I.on (fun g=>(vl (some ⟨g,0,none⟩) 3 3)) [(vl FE (below v.no f.early) fe),(vl (some ⟨ac,0,none⟩) 1 1),(vl (cutA FE fe (below v.no f.early) 38) (f.early.length - (below v.no f.early)) (fe - (below v.no f.early)))] 25 rfl (fun F=>rn_buildSlice (parts3 (F.get rfl) (F.get rfl) (F.get rfl)) (by kernel_rfl)) fun D D _ aq I I aj I=>?_)
  have al:=ak.ext I
  have am:=ai.ext I
  refine ⟨fun _ _=>⟨eX,al,am⟩,?_⟩
  refine ao 11 rfl<|have ai:=(RLs.ux rVr hfc.early I);have ak:=(RLs.ext rVr aA I);have I:RLs RVr 38 (Clip (Fz S w G J U) D) D (vl FE (below v.no f.early) fe) (f.early.take (below v.no f.early)):=RLs.clip rVr (RLs.sub rVr (RLs.take ai (by omega:(below v.no f.early)≤f.early.length)) (fun b hb=>⟨.inl hb.1,by have h8:=hb.2;omega,by have h8:=hb.2;omega,by have h8:=hb.2;omega⟩));have ar:RLs RVr 38 (Clip (Fz S w G J U) D) D (vl (some ⟨ac,0,none⟩) 1 1) ([v]):=RLs.clip rVr (RLs.sub rVr ak (fun b hb=>hb));have ac:RLs RVr 38 (Clip (Fz S w G J U) D) D (vl (cutA FE fe (below v.no f.early) 38) (f.early.length - (below v.no f.early)) (fe - (below v.no f.early))) (f.early.drop (below v.no f.early)):=RLs.clip rVr (RLs.sub rVr (RLs.cut ai (by omega:(below v.no f.early)≤f.early.length)) (fun b hb=>⟨.inl hb.1,by have h8:=hb.2;omega,by have h8:=hb.2;omega,by have h8:=hb.2;omega⟩));aq.oC (c:=concatv_at ([f.early.take (below v.no f.early),[v],f.early.drop (below v.no f.early)]:List (List Vr)) _ (vs_three aj I ar ac ⟨⟨.inr (by omega),by omega,by omega,by omega⟩,aj.lt⟩) (fun b hb=>hb.2) (by simp;omega)) (k:= ?_)
  rintro _ aE ⟨V,Y,rfl,ay,ah⟩
  refine ⟨_,rfl,?_⟩;intro D D;have I:=ah.size
  have aa:RLs RVr 38 (Fz S w G J U) aE (vl V (([f.early.take (below v.no f.early),[v],f.early.drop (below v.no f.early)]:List (List Vr)).flatten.length) Y) ([f.early.take (below v.no f.early),[v],f.early.drop (below v.no f.early)]:List (List Vr)).flatten:=RLs.sub rVr ay (fun b hb=>hb.elim (fun h=>h.1) (fun h=>⟨.inr (by omega),by omega,by omega,by omega⟩))
  obtain ⟨-,I,I⟩:=RLs.at aa
  have I:=al.ext ah
  have ac:=am.ext ah
  refine ⟨fun _ _=>⟨eX,I,ac⟩,?_⟩
  refine D.yv 12 (vq G 35) rfl fun _ D=>ao 13 rfl<|o_store1 (new:=(dg f.pub [(vi f.many),(vi f.no),(vl FA f.items.length fa),(vl V (([f.early.take (below v.no f.early),[v],f.early.drop (below v.no f.early)]:List (List Vr)).flatten.length) Y)])) D rfl rfl rfl rfl (D.get rfl) (D.get rfl) I inf25 (le_mid (x:=36) (b:=1) (y:=1) (by simp [byteVals_len hfc.pub]) rfl (by decide)) rfl (set_app (k:=3) (byteVals_len hfc.pub)) fun I ah I=>?_;have ac:=I.size
  refine ⟨fun h=>absurd h (by decide),?_⟩
  refine nK ax<|have ac:=D.k [0,1,2,3,4,5,6,14,7,24,8,9,42,49,53];wr fun D ai=>ac.xw (ag (dg f.pub [(vi f.many),(vi f.no),(vl FA f.items.length fa),(vl V (([f.early.take (below v.no f.early),[v],f.early.drop (below v.no f.early)]:List (List Vr)).flatten.length) Y)])) (fun F=>rb F rfl ah (hk:=len_dig hfc.pub)) fun _ D=>?_
  have V:=ae.ug I
  refine D.xs rfl V (fun I V I=>?_) (hk:=len_dig hfc.pub);have Y:=I.size
  refine D.xv (vi 0) fun _ D=>wn ai<|wp_ret<|ret_then ?_
  refine retC1 D rfl rfl rfl V uu48 rfl (sk inf48 (len_dig hfc.pub)) ?_
  have hE:recE f v=0:=(if_neg Z).trans ((if_neg ab).trans ( (if_neg (fun q=>q.elim (fun h=>az h) (fun h=>by omega))).trans ((if_pos (by omega)).trans (if_neg (by omega)))))
  have D:recF f v=⟨f.pub,f.many,f.no,f.items,([f.early.take (below v.no f.early),[v],f.early.drop (below v.no f.early)]:List (List Vr)).flatten⟩:=(if_neg (fun q=>q hE)).trans ((if_pos (by omega)).trans (by rw [flat3]))
  rw [D,hE]
  have D:=RLs.ug rIt hfc.items I
  have V:=RLs.ug rVr aa I
  exact ⟨_,_,rfl,RFo.subB (⟨hfc.pub,RLs.sub rIt D (fun b hb=>⟨.inl hb.1,by have h8:=hb.2;omega,by have h8:=hb.2;omega,by have h8:=hb.2;omega⟩),RLs.sub rVr V (fun b hb=>hb)⟩:RFo (Fz S w G J U) _ _ _ (⟨f.pub,f.many,f.no,f.items,([f.early.take (below v.no f.early),[v],f.early.drop (below v.no f.early)]:List (List Vr)).flatten⟩:Fo)) (fun b _ hb=>hb.1),eX⟩
 refine aD.cf<|wp_skip<|bt _ _<|wr fun aj bu=>aD.xw (ag (dg f.pub [(vi f.many),(vi f.no),(vl FA f.items.length fa),(vl FE f.early.length fe)])) (fun F=>rb F rfl au (hk:=len_dig hfc.pub))<|Xw (ag ((vi v.no)::dg v.state [(vl C v.chs.length cc),(vi v.sg.index),(vl O v.sg.op.length oc),(vl E v.sg.cl.length ec),(vl P v.sg.path.length pc)])) (fun F=>rb F rfl aB (hk:=len_dig1 hvc.st)) fun _ aj=>have aD:=(RLs.ux rIt hfc.items aa);have aF:=(RLs.ux rVr hfc.early aa);have aU:=(RLs.ux rCg hvc.chs aa);have a3:=(hvc.sg.op.ux aa);have a8:=(hvc.sg.cl.ux aa);have bn:=(hvc.sg.path.ux aa);aj.xc (mapply_at (S:=(Fz S w G J U)) f v _ (⟨hfc.pub,RLs.sub rIt aD (fun b hb=>⟨.inl hb.1,by have h8:=hb.2;omega,by have h8:=hb.2;omega,by have h8:=hb.2;omega⟩),RLs.sub rVr aF (fun b hb=>⟨.inl hb.1,by have h8:=hb.2;omega,by have h8:=hb.2;omega,by have h8:=hb.2;omega⟩)⟩:RFo (Fz S w G J U) _ _ _ f) (⟨hvc.st,RLs.sub rCg aU (fun b hb=>⟨.inl hb.1,by have h8:=hb.2;omega,by have h8:=hb.2;omega,by have h8:=hb.2;omega⟩),⟨Fl.sub a3 (fun b hb=>⟨.inl hb.1,by have h8:=hb.2;omega,by have h8:=hb.2;omega,by have h8:=hb.2;omega⟩),Fl.sub a8 (fun b hb=>⟨.inl hb.1,by have h8:=hb.2;omega,by have h8:=hb.2;omega,by have h8:=hb.2;omega⟩),Fl.sub bn (fun b hb=>⟨.inl hb.1,by have h8:=hb.2;omega,by have h8:=hb.2;omega,by have h8:=hb.2;omega⟩),hvc.sg.o32,hvc.sg.c32,hvc.sg.p32⟩⟩:RVp (Fz S w G J U) _ _ _ _ _ v) hdi hdv (hG.ext eX)) ?_
 obtain ⟨Y,aL⟩:∃ z,z=stepF f v:=⟨_,rfl⟩
 rw [← aL]
 rintro _ aa ⟨aa,aa,rfl,aX,bi⟩
 obtain ⟨aQ,aV,rfl,aa,aa⟩:=RLs.form aX.items;obtain ⟨aR,aW,rfl,aa,aa⟩:=RLs.form aX.early
 have aa:=RFo.subB (S':=(Fz S w G J U)) aX (fun b _ hb=>hb.elim (fun h=>h) (fun h=>⟨.inr (by omega),by omega,by omega,by omega⟩))
 refine ⟨_,rfl,?_⟩;intro aj aj;have aD:=bi.size
 refine aj.xm rfl<|Xv (ag (dg Y.pub [(vi Y.many),(vi Y.no),(vl aQ Y.items.length aV),(vl aR Y.early.length aW)]))<|Xv (vd (fits f v))<|fun _ aj=>?_
 have aD:=au.ext bi
 refine aj.xs rfl aD (fun aX aF aA=>?_) (hk:=len_dig aa.pub) (hl:=len_dig hfc.pub);have au:=aA.size
 refine aj.xa rfl fun _ aj=>wn bu<|have au:=aj.k [0,1,2,3,4,5,6,14,7,24,8,9,42,49,10];wp_seq_k fun aj aj=>wr fun aD aD=>au.xm rfl<|Xw (.bool (!(decide (fits f v)))) (fun F=>rn_not' (F.get rfl) rfl) fun _ aE=>wn aD ?_
 by_cases aZ:fits f v
 ·refine aE.cf<|wp_skip<|aj _ _<|wp_seq_k fun aj bb=>wp_block ?_
  have hsf0:=stepF_facts f v;rw [← aL] at hsf0;obtain ⟨aj,aj,aD,aj⟩:=hsf0
  have aj:=RLs.ug rIt aa.items aA
  have au:=RLs.ug rVr aa.early aA
  have aU:=aB.ug aA
  have aB:=ae.ug aA
  refine wp_loop (fun a' W=>∃ (g:Fo) (GA:Option Addr) (ga:Nat) (GE:Option Addr) (ge:Nat) (u:Vr) (TA:Option Addr) (ta:Nat) (TO:Option Addr) (to:Nat) (TE:Option Addr) (te:Nat) (TP:Option Addr) (tp:Nat),Sl 108 [(0,(ag (dg f.pub [(vi f.many),(vi f.no),(vl FA f.items.length fa),(vl FE f.early.length fe)]))),(1,(ag ((vi v.no)::dg v.state [(vl C v.chs.length cc),(vi v.sg.index),(vl O v.sg.op.length oc),(vl E v.sg.cl.length ec),(vl P v.sg.path.length pc)]))),(2,(vp G)),(3,(vp J)),(4,(vp U)),(5,(vi 0)),(6,(vi (checkFE f))),(14,(vd (((checkFE f):Int)≠(0:Int)))),(7,(vi (verifyE f.pub f.many v))),(24,(vd (((verifyE f.pub f.many v):Int)≠(0:Int)))),(8,(vi (below v.no f.early:Nat))),(9,(vd (∃ w∈f.early,w.no=v.no))),(42,(vd ((v.no:Int)≤(f.no:Int)))),(49,(vd ((f.no+1:Int)<(v.no:Int)))),(10,(vd (fits f v))),(76,(.bool (!(decide (fits f v)))))] a'∧drain g g.early=drain (stepF f v) f.early∧(0≤g.no∧g.no≤4096)∧((∀ y∈g.items,y.data.length≤4294967296))∧((∀ x∈g.early,x∈f.early))∧u.state.length=32∧Ext w W∧Blk W G 48 (dg g.pub [(vi g.many),(vi g.no),(vl GA g.items.length ga),(vl GE g.early.length ge)])∧Blk W J 34 ((vi u.no)::dg u.state [(vl TA u.chs.length ta),(vi u.sg.index),(vl TO u.sg.op.length to),(vl TE u.sg.cl.length te),(vl TP u.sg.path.length tp)])∧Blk W U 48 fz∧RLs RIt 2 (Fz S w G J U) W (vl aQ Y.items.length aV) Y.items∧RLs RVr 38 (Fz S w G J U) W (vl aR Y.early.length aW) Y.early∧RFo (Fz S w G J U) W (vl GA g.items.length ga) (vl GE g.early.length ge) g∧aX.heap.size≤W.heap.size) (fun _ W'=>lenCell W' G 35) ⟨Y,aQ,aV,aR,aW,v,C,cc,O,oc,E,ec,P,pc,aE.j,(by rw [aD,aL]),⟨by omega,by omega⟩,(by rw [aL];exact stepF_sm hdi hdv),(by rw [aD];exact fun _ h=>h),hvc.st,eX,aF,aU,aB,aj,au,(⟨aa.pub,RLs.sub rIt aj (fun b hb=>hb),RLs.sub rVr au (fun b hb=>hb)⟩:RFo (Fz S w G J U) _ _ _ Y),(Nat.le_refl _)⟩ ?_
  rintro Y Y ⟨g,GA,ga,GE,ge,u,TA,ta,TO,to,TE,te,TP,tp,Y,aN,aa,aa,aj,au,aB,aH,a4,aC,bg,bh,I,aD⟩
  have aD:=Y
  have aD:=aB.size
  have aB:=aH.lt
  have aB:=a4.lt
  have aB:=aC.lt
  obtain ⟨-,aB,aB⟩:=RLs.at I.items;obtain ⟨-,aB,aB⟩:=RLs.at I.early
  have hul:u.state.length=32:=au
  have hgi:=aa;have hsub:=aj
  have hge:∀ v∈g.early,∀ x∈v.chs,x.data.length≤4294967296:=fun v h=>hde v (hsub v h)
  refine wp_seq_k fun aa bv=>wp_seq_k fun aa bc=>sX (fun ak W=>Ext ak W∧Blk W G 48 (dg g.pub [(vi g.many),(vi g.no),(vl GA g.items.length ga),(vl GE g.early.length ge)])) (fun i=>false) 15 fun ak aP aa=>Y.yv 0 (vq G 35) rfl fun _ Y=>have aI:=(aH.ext aP);have aK:Ext ak ak∧Blk ak G 48 (dg g.pub [(vi g.many),(vi g.no),(vl GA g.items.length ga),(vl GE g.early.length ge)]):=⟨(Ext.refl ak),aI⟩;Y.ys 1 (vl GE g.early.length ge) rfl aK (fun F W hW=>rl F rfl ((hW.2.rule.1 35).trans ((at_app (k:=3) (byteVals_len I.pub)).trans rfl)))<|Yv 2 (vi g.early.length) rfl<|Yv 3 (vd ((0:Int)<(g.early.length:Int))) rfl<|Ym 4 rfl fun _ a2=>?_
  by_cases Y:(0:Int)<(g.early.length:Int)
  ·refine a2.yg 5 (vq G 35) rfl<|Ysg 6 (vl GE g.early.length ge) rfl aK (fun F W hW=>rl F rfl ((hW.2.rule.1 35).trans ((at_app (k:=3) (byteVals_len I.pub)).trans rfl)))<|fun _ bl=>?_
   have Y:=RLs.ext rVr I.early aP
   obtain ⟨a5,bk,D,aa,br,ac,aa,bz,bD⟩:=RLs.get Y (by omega:0<g.early.length)
   obtain ⟨Y,Y,Y,Y,rfl,aO⟩:=bD
   obtain ⟨Y,Y,rfl,Y,Y⟩:=RLs.form aO.chs
   obtain ⟨Y,Y,rfl,Y,Y⟩:=Fl.form aO.sg.op
   obtain ⟨Y,Y,rfl,Y,Y⟩:=Fl.form aO.sg.cl
   obtain ⟨Y,Y,rfl,Y,Y⟩:=Fl.form aO.sg.path
   refine bl.ygw 7 (vq a5 (bk+0*38)) rfl (fun F W=>rn_indexE uu25 inf34 ((F.get rfl).trans (by rw [br])) rfl (by omega:(0:Int)≤0) (by omega:(0:Int)<(g.early.length:Int)) (by omega))<|Yg 8 (vq a5 (bk+0*38)) rfl<|Ysg 9 (vi D.no) rfl aK (fun F W hW=>rl F rfl ((fun j u hu=>Ext.keep ((Ext.refl ak).trans hW.1) (bz j u hu)) 0 _ rfl))<|Yg 10 (vq G 33) rfl<|Ysg 11 (vi g.no) rfl aK (fun F W hW=>rl F rfl ((hW.2.rule.1 33).trans ((at_app (k:=1) (byteVals_len I.pub)).trans rfl)))<|Yg 12 (vi (g.no+1)) rfl<|Yg 13 (vd ((D.no:Int)=(g.no+1:Int))) rfl<|Yv 14 (vd ((D.no:Int)=(g.no+1:Int))) rfl fun _ Y=>nK bc ?_
   have aG:=Y.k [0,1,2,3,4,5,6,14,7,24,8,9,42,49,10,76,92]
   by_cases Y:(D.no:Int)=(g.no+1:Int)
   ·refine aG.ct<|wp_skip<|bv _ _<|wp_block<|wp_seq_k fun Y bd=>sX (fun ai W=>Ext ai W∧Blk W G 48 (dg g.pub [(vi g.many),(vi g.no),(vl GA g.items.length ga),(vl GE g.early.length ge)])∧Blk W J 34 ((vi u.no)::dg u.state [(vl TA u.chs.length ta),(vi u.sg.index),(vl TO u.sg.op.length to),(vl TE u.sg.cl.length te),(vl TP u.sg.path.length tp)])) (fun i=>i==7||i==9) 10 fun ai Y aa=>aG.yv 0 (vq G 35) rfl fun _ aa=>have aJ:=(aI.ext Y);have aT:=a4.ux Y;have bf:Ext ai ai∧Blk ai G 48 (dg g.pub [(vi g.many),(vi g.no),(vl GA g.items.length ga),(vl GE g.early.length ge)])∧Blk ai J 34 ((vi u.no)::dg u.state [(vl TA u.chs.length ta),(vi u.sg.index),(vl TO u.sg.op.length to),(vl TE u.sg.cl.length te),(vl TP u.sg.path.length tp)]):=⟨(Ext.refl ai),aJ,aT⟩;aa.ys 1 (vl GE g.early.length ge) rfl bf (fun F W hW=>rl F rfl ((hW.2.1.rule.1 35).trans ((at_app (k:=3) (byteVals_len I.pub)).trans rfl))) fun _ bm=>?_
    have aa:=RLs.ux rVr I.early Y
    obtain ⟨bo,bF,bG,Y,bs,bB,Y,bA,bE⟩:=RLs.get aa (by omega:0<g.early.length)
    obtain rfl:D=bG:=Option.some.inj (ac.symm.trans bB)
    obtain ⟨Y,Y,Y,Y,rfl,V⟩:=bE
    obtain ⟨al,av,rfl,Y,Y⟩:=RLs.form V.chs
    obtain ⟨am,aw,rfl,Y,Y⟩:=Fl.form V.sg.op
    obtain ⟨aq,ax,rfl,Y,Y⟩:=Fl.form V.sg.cl
    obtain ⟨ar,ay,rfl,Y,Y⟩:=Fl.form V.sg.path
    refine bm.yw 2 (vq bo (bF+0*38)) rfl (fun F W=>rn_indexE uu25 inf34 ((F.get rfl).trans (by rw [bs])) rfl (by omega:(0:Int)≤0) (by omega:(0:Int)<(g.early.length:Int)) (by omega))<|Ys 3 (ag ((vi D.no)::dg D.state [(vl al D.chs.length av),(vi D.sg.index),(vl am D.sg.op.length aw),(vl aq D.sg.cl.length ax),(vl ar D.sg.path.length ay)])) rfl bf (fun F W hW=>rn_loadN (cs:=((vi D.no)::dg D.state [(vl al D.chs.length av),(vi D.sg.index),(vl am D.sg.op.length aw),(vl aq D.sg.cl.length ax),(vl ar D.sg.path.length ay)])) (F.get rfl) uu34 rfl (sk inf34 (len_dig1 V.st)) (fun j u hu=>Ext.keep ((Ext.refl ai).trans hW.1) (bA j u hu)))<|Yv 4 (vq G 35) rfl<|fun _ aS=>?_
    refine any_two (i:=5) (k:=7) (by decide +kernel) rfl rfl ?_ ?_
    ·refine aS.ow (vl GE g.early.length ge) rfl (fun F=>rl F rfl ((aJ.rule.1 35).trans ((at_app (k:=3) (byteVals_len I.pub)).trans rfl))) fun _ Y=>ap<|Y.yv 6 (vl (cutA GE ge 1 38) (g.early.length - 1) (ge - 1)) rfl fun _ Y=>?_
     refine ao 7 rfl (Y.os rfl aT (fun aa aj ai=>an ?_) (hk:=len_dig1 V.st) (hl:=len_dig1 hul));have aa:=ai.size
     refine Y.yv 8 (vq G 35) rfl fun _ aa=>ao 9 rfl<|have Y:=(aJ.gn ai);o_store1 (new:=(dg g.pub [(vi g.many),(vi g.no),(vl GA g.items.length ga),(vl (cutA GE ge 1 38) (g.early.length - 1) (ge - 1))])) aa rfl rfl rfl rfl (aa.get rfl) (aa.get rfl) Y inf25 (le_mid (x:=36) (b:=1) (y:=1) (by simp [byteVals_len I.pub]) rfl (by decide)) rfl (set_app (k:=3) (byteVals_len I.pub)) fun Y a6 Y=>?_;have ai:=Y.size
     refine ⟨fun h=>absurd h (by decide),?_⟩
     refine nK bd<|have ai:=aa.k [0,1,2,3,4,5,6,14,7,24,8,9,42,49,10,76,92];wp_region_lit<|ai.xw (ag (dg g.pub [(vi g.many),(vi g.no),(vl GA g.items.length ga),(vl (cutA GE ge 1 38) (g.early.length - 1) (ge - 1))])) (fun F=>rb F rfl a6 (hk:=len_dig I.pub)) fun _ aa=>have a7:=(aj.gn Y);aa.xw (ag ((vi D.no)::dg D.state [(vl al D.chs.length av),(vi D.sg.index),(vl am D.sg.op.length aw),(vl aq D.sg.cl.length ax),(vl ar D.sg.path.length ay)])) (fun F=>rb F rfl a7 (hk:=len_dig1 V.st)) fun _ aa=>have ai:=(RLs.ug rIt I.items Y);have aj:=(RLs.ug rVr I.early Y);have ak:=(RLs.ug rCg V.chs Y);have au:=(V.sg.op.ug Y);have aB:=(V.sg.cl.ug Y);have aD:=(V.sg.path.ug Y);aa.xC (c:=mapply_at (S:=(Fz S w G J U)) (⟨g.pub,g.many,g.no,g.items,g.early.drop 1⟩:Fo) D _ (⟨I.pub,RLs.sub rIt ai (fun b hb=>hb),RLs.sub rVr (RLs.cut aj (by omega:1≤g.early.length)) (fun b hb=>hb)⟩:RFo (Fz S w G J U) _ _ _ (⟨g.pub,g.many,g.no,g.items,g.early.drop 1⟩:Fo)) (⟨V.st,RLs.sub rCg ak (fun b hb=>hb),⟨Fl.sub au (fun b hb=>hb),Fl.sub aB (fun b hb=>hb),Fl.sub aD (fun b hb=>hb),V.sg.o32,V.sg.c32,V.sg.p32⟩⟩:RVp (Fz S w G J U) _ _ _ _ _ D) hgi (hde D (hsub D (List.mem_of_getElem? ac))) (hG.ext eX)) (k:= ?_)
     obtain ⟨ah,aM⟩:∃ z,z=stepF (⟨g.pub,g.many,g.no,g.items,g.early.drop 1⟩:Fo) D:=⟨_,rfl⟩
     rw [← aM]
     rintro _ Y ⟨Y,Y,rfl,aY,bj⟩
     obtain ⟨a0,a9,rfl,Y,Y⟩:=RLs.form aY.items;obtain ⟨a1,ba,rfl,Y,Y⟩:=RLs.form aY.early
     have Z:=RFo.subB (S':=(Fz S w G J U)) aY (fun b _ hb=>hb.elim (fun h=>h) (fun h=>⟨.inr (by omega),by omega,by omega,by omega⟩))
     refine ⟨_,rfl,?_⟩;intro Y Y;have aa:=bj.size
     refine Y.xm rfl<|Xv (ag (dg ah.pub [(vi ah.many),(vi ah.no),(vl a0 ah.items.length a9),(vl a1 ah.early.length ba)]))<|Xv (vd (fits (⟨g.pub,g.many,g.no,g.items,g.early.drop 1⟩:Fo) D))<|fun _ ab=>?_
     have Y:=a6.ext bj
     refine ab.xs rfl Y (fun Y ae Y=>?_) (hk:=len_dig Z.pub) (hl:=len_dig I.pub);have aa:=Y.size
     refine wpList_nil ?_
     have hsf:=stepF_facts (⟨g.pub,g.many,g.no,g.items,g.early.drop 1⟩:Fo) D
     rw [← aM] at hsf;simp only at hsf
     obtain ⟨hs1,hs2,hs3,hs4⟩:=hsf
     have hxe:=early_no hck (hsub D (List.mem_of_getElem? ac))
     have aa:D.no=g.no+1:=by omega
     have ak:=RLs.ug rIt bg Y
     have au:=RLs.ug rVr bh Y
     have az:=RLs.ug rIt Z.items Y
     have aA:=RLs.ug rVr Z.early Y
     have ai:=a7.ug Y
     have aj:=aC.ug Y
     refine ⟨⟨ah,a0,a9,a1,ba,D,al,av,am,aw,aq,ax,ar,ay,ab.j,(by rw [show ah.early=g.early.drop 1 from hs3,aM];exact (drain_step ac aa).trans aN),⟨by omega,by omega⟩,(by rw [aM];exact stepF_sm hgi (hde D (hsub D (List.mem_of_getElem? ac)))),(by rw [hs3];exact fun x h=>hsub x (List.mem_of_mem_drop h)),V.st,eX,ae,ai,aj,ak,au,(⟨Z.pub,RLs.sub rIt az (fun b hb=>hb),RLs.sub rVr aA (fun b hb=>hb)⟩:RFo (Fz S w G J U) _ _ _ ah),(by omega)⟩,?_⟩
     rw [lenCell_of ((ae.rule.1 35).trans ((at_app (k:=3) (byteVals_len Z.pub)).trans rfl)),lenCell_of ((aH.rule.1 35).trans ((at_app (k:=3) (byteVals_len I.pub)).trans rfl))];have h5:=congrArg List.length hs3;simp only [List.length_drop] at h5;omega
    refine aS.os rfl aT (fun Y aj aa=>an ?_) (hk:=len_dig1 V.st) (hl:=len_dig1 hul);have Y:=aa.size
    have Y:=aJ.gn aa
    refine ao 5 rfl<|aS.ow (vl GE g.early.length ge) rfl (fun F=>rl F rfl ((Y.rule.1 35).trans ((at_app (k:=3) (byteVals_len I.pub)).trans rfl))) fun _ aa=>ap<|aa.yv 6 (vl (cutA GE ge 1 38) (g.early.length - 1) (ge - 1)) rfl<|Yv 8 (vq G 35) rfl fun _ aa=>ao 9 rfl<|o_store1 (new:=(dg g.pub [(vi g.many),(vi g.no),(vl GA g.items.length ga),(vl (cutA GE ge 1 38) (g.early.length - 1) (ge - 1))])) aa rfl rfl rfl rfl (aa.get rfl) (aa.get rfl) Y inf25 (le_mid (x:=36) (b:=1) (y:=1) (by simp [byteVals_len I.pub]) rfl (by decide)) rfl (set_app (k:=3) (byteVals_len I.pub)) fun Y a6 Y=>?_;have ai:=Y.size
    refine ⟨fun h=>absurd h (by decide),?_⟩
    refine nK bd<|have ai:=aa.k [0,1,2,3,4,5,6,14,7,24,8,9,42,49,10,76,92];wp_region_lit<|ai.xw (ag (dg g.pub [(vi g.many),(vi g.no),(vl GA g.items.length ga),(vl (cutA GE ge 1 38) (g.early.length - 1) (ge - 1))])) (fun F=>rb F rfl a6 (hk:=len_dig I.pub)) fun _ aa=>have a7:=(aj.gn Y);aa.xw (ag ((vi D.no)::dg D.state [(vl al D.chs.length av),(vi D.sg.index),(vl am D.sg.op.length aw),(vl aq D.sg.cl.length ax),(vl ar D.sg.path.length ay)])) (fun F=>rb F rfl a7 (hk:=len_dig1 V.st)) fun _ aa=>have ai:=(RLs.ug rIt I.items Y);have aj:=(RLs.ug rVr I.early Y);have ak:=(RLs.ug rCg V.chs Y);have au:=(V.sg.op.ug Y);have aB:=(V.sg.cl.ug Y);have aD:=(V.sg.path.ug Y);aa.xC (c:=mapply_at (S:=(Fz S w G J U)) (⟨g.pub,g.many,g.no,g.items,g.early.drop 1⟩:Fo) D _ (⟨I.pub,RLs.sub rIt ai (fun b hb=>hb),RLs.sub rVr (RLs.cut aj (by omega:1≤g.early.length)) (fun b hb=>hb)⟩:RFo (Fz S w G J U) _ _ _ (⟨g.pub,g.many,g.no,g.items,g.early.drop 1⟩:Fo)) (⟨V.st,RLs.sub rCg ak (fun b hb=>hb),⟨Fl.sub au (fun b hb=>hb),Fl.sub aB (fun b hb=>hb),Fl.sub aD (fun b hb=>hb),V.sg.o32,V.sg.c32,V.sg.p32⟩⟩:RVp (Fz S w G J U) _ _ _ _ _ D) hgi (hde D (hsub D (List.mem_of_getElem? ac))) (hG.ext eX)) (k:= ?_)
    obtain ⟨ah,aM⟩:∃ z,z=stepF (⟨g.pub,g.many,g.no,g.items,g.early.drop 1⟩:Fo) D:=⟨_,rfl⟩
    rw [← aM]
    rintro _ Y ⟨Y,Y,rfl,aY,bj⟩
    obtain ⟨a0,a9,rfl,Y,Y⟩:=RLs.form aY.items;obtain ⟨a1,ba,rfl,Y,Y⟩:=RLs.form aY.early
    have Z:=RFo.subB (S':=(Fz S w G J U)) aY (fun b _ hb=>hb.elim (fun h=>h) (fun h=>⟨.inr (by omega),by omega,by omega,by omega⟩))
    refine ⟨_,rfl,?_⟩;intro Y Y;have aa:=bj.size
    refine Y.xm rfl<|Xv (ag (dg ah.pub [(vi ah.many),(vi ah.no),(vl a0 ah.items.length a9),(vl a1 ah.early.length ba)]))<|Xv (vd (fits (⟨g.pub,g.many,g.no,g.items,g.early.drop 1⟩:Fo) D))<|fun _ ab=>?_
    have Y:=a6.ext bj
    refine ab.xs rfl Y (fun Y ae Y=>?_) (hk:=len_dig Z.pub) (hl:=len_dig I.pub);have aa:=Y.size
    refine wpList_nil ?_
    have hsf:=stepF_facts (⟨g.pub,g.many,g.no,g.items,g.early.drop 1⟩:Fo) D
    rw [← aM] at hsf;simp only at hsf
    obtain ⟨hs1,hs2,hs3,hs4⟩:=hsf
    have hxe:=early_no hck (hsub D (List.mem_of_getElem? ac))
    have aa:D.no=g.no+1:=by omega
    have ak:=RLs.ug rIt bg Y
    have au:=RLs.ug rVr bh Y
    have az:=RLs.ug rIt Z.items Y
    have aA:=RLs.ug rVr Z.early Y
    have ai:=a7.ug Y
    have aj:=aC.ug Y
    refine ⟨⟨ah,a0,a9,a1,ba,D,al,av,am,aw,aq,ax,ar,ay,ab.j,(by rw [show ah.early=g.early.drop 1 from hs3,aM];exact (drain_step ac aa).trans aN),⟨by omega,by omega⟩,(by rw [aM];exact stepF_sm hgi (hde D (hsub D (List.mem_of_getElem? ac)))),(by rw [hs3];exact fun x h=>hsub x (List.mem_of_mem_drop h)),V.st,eX,ae,ai,aj,ak,au,(⟨Z.pub,RLs.sub rIt az (fun b hb=>hb),RLs.sub rVr aA (fun b hb=>hb)⟩:RFo (Fz S w G J U) _ _ _ ah),(by omega)⟩,?_⟩
    rw [lenCell_of ((ae.rule.1 35).trans ((at_app (k:=3) (byteVals_len Z.pub)).trans rfl)),lenCell_of ((aH.rule.1 35).trans ((at_app (k:=3) (byteVals_len I.pub)).trans rfl))];have h5:=congrArg List.length hs3;simp only [List.length_drop] at h5;omega
   refine aG.cf<|wp_exit<|exit_then<|exit_then<|exit_here<|bb _ _<|wr fun D aa=>aG.xw (ag (dg g.pub [(vi g.many),(vi g.no),(vl GA g.items.length ga),(vl GE g.early.length ge)])) (fun F=>rb F rfl aI (hk:=len_dig I.pub)) fun _ D=>?_
   have Y:=aC.ext aP
   refine D.xs rfl Y (fun Y Y V=>?_) (hk:=len_dig I.pub);have ah:=V.size
   refine D.xv (vi 0) fun _ D=>wn aa<|wp_ret ?_
   refine retC1 D rfl rfl rfl Y uu48 rfl (sk inf48 (len_dig I.pub)) ?_
   have hE:recE f v=0:=(if_neg Z).trans ((if_neg ab).trans ( (if_neg (fun q=>q.elim (fun h=>az h) (fun h=>by omega))).trans ((if_neg (by omega)).trans (if_pos aZ))))
   have hend:drain g g.early=g:=drain_end (fun x hx=>by rw [ac] at hx;injection hx with hx;subst hx;omega)
   have D:recF f v=g:=(if_neg (fun q=>q hE)).trans ((if_neg (by omega)).trans (by rw [← aN];exact hend))
   rw [D,hE]
   have D:=RLs.ug rIt I.items V
   have Y:=RLs.ug rVr I.early V
   exact ⟨_,_,rfl,RFo.subB (⟨I.pub,RLs.sub rIt D (fun b hb=>hb),RLs.sub rVr Y (fun b hb=>hb)⟩:RFo (Fz S w G J U) _ _ _ g) (fun b _ hb=>hb.1),eX⟩
  refine a2.yu 5 rfl<|Yu 6 rfl<|Yu 7 rfl<|Yu 8 rfl<|Yu 9 rfl<|Yu 10 rfl<|Yu 11 rfl<|Yu 12 rfl<|Yu 13 rfl<|Yv 14 (.bool false) rfl fun _ V=>nK bc<|have D:=V.k [0,1,2,3,4,5,6,14,7,24,8,9,42,49,10,76,92];D.cf<|wp_exit<|exit_then<|exit_then<|exit_here<|bb _ _<|wr fun V aa=>D.xw (ag (dg g.pub [(vi g.many),(vi g.no),(vl GA g.items.length ga),(vl GE g.early.length ge)])) (fun F=>rb F rfl aI (hk:=len_dig I.pub)) fun _ D=>?_
  have V:=aC.ext aP
  refine D.xs rfl V (fun V Y V=>?_) (hk:=len_dig I.pub);have ac:=V.size
  refine D.xv (vi 0) fun _ D=>wn aa<|wp_ret ?_
  refine retC1 D rfl rfl rfl Y uu48 rfl (sk inf48 (len_dig I.pub)) ?_
  have hE:recE f v=0:=(if_neg Z).trans ((if_neg ab).trans ( (if_neg (fun q=>q.elim (fun h=>az h) (fun h=>by omega))).trans ((if_neg (by omega)).trans (if_pos aZ))))
  have hend:drain g g.early=g:=drain_end (fun x hx=>by have:=(List.getElem?_eq_some_iff.1 hx).1;omega)
  have D:recF f v=g:=(if_neg (fun q=>q hE)).trans ((if_neg (by omega)).trans (by rw [← aN];exact hend))
  rw [D,hE]
  have D:=RLs.ug rIt I.items V
  have Y:=RLs.ug rVr I.early V
  exact ⟨_,_,rfl,RFo.subB (⟨I.pub,RLs.sub rIt D (fun b hb=>hb),RLs.sub rVr Y (fun b hb=>hb)⟩:RFo (Fz S w G J U) _ _ _ g) (fun b _ hb=>hb.1),eX⟩
 refine aE.ct<|wr fun D I=>have G:=ae.ug aA;aE.xw (ag fz) (fun F=>rb F rfl G) fun _ D=>D.xs rfl G (fun G G J=>have U:=J.size;D.xv (vi 400) fun _ D=>wn I<|wp_ret<|ret_then ?_)
 refine retC1 D rfl rfl rfl G uu48 rfl (sk inf48 (len_dig zero32_len)) ?_
 have hE:recE f v=400:=(if_neg Z).trans ((if_neg ab).trans ( (if_neg (fun q=>q.elim (fun h=>az h) (fun h=>by omega))).trans ((if_neg (by omega)).trans (if_neg aZ))))
 have D:recF f v=foNil:=if_pos (by rw [hE];decide)
 rw [D,hE]
 exact ⟨_,_,rfl,foNil_at _,eX⟩
theorem receive_at {c o1:Value} (f:Fo) (v:Vr) (w:World) (hf:RFo S w c e f) (hv:RVp S w c1 o1 e1 p1 v) (hdi:∀ x∈f.items,x.data.length≤4294967296) (hde:∀ v∈f.early,∀ x∈v.chs,x.data.length≤4294967296) (hdv:∀ x∈v.chs,x.data.length≤4294967296) (hG:Glob w) :
  Calls Tryz.prog 17 #[ag (fcs f.pub f.many f.no c e),ag (vcs v.no v.state c1 v.sg.index o1 e1 p1)] w (fun en w'=>∃ c' e',en=.returned (.tuple #[ag (fcs (recF f v).pub (recF f v).many (recF f v).no c' e'),.int .i64 (recE f v)])∧RFo (Fr S w) w' c' e' (recF f v)∧Ext w w'):=by
 obtain ⟨FA,fa,rfl,_⟩:=RLs.form hf.items
 obtain ⟨FE,fe,rfl,_⟩:=RLs.form hf.early
 obtain ⟨C,cc,rfl,_⟩:=RLs.form hv.chs
 obtain ⟨O,oc,rfl,_⟩:=Fl.form hv.sg.op
 obtain ⟨E,ec,rfl,_⟩:=Fl.form hv.sg.cl
 obtain ⟨P,pc,rfl,_⟩:=Fl.form hv.sg.path
 exact receive_any FA fa FE fe C cc O oc E ec P pc f v w hf hv hdi hde hdv hG
def fewIt (x:It):Prop:=x.name.length≤100∧x.data.length≤300
instance (x:It):Decidable (fewIt x):=inferInstanceAs (Decidable (_∧_))
def fewI (l:List It):Prop:=l.length≤12∧∀ x∈l,fewIt x
instance (l:List It):Decidable (fewI l):=inferInstanceAs (Decidable (_∧∀ x∈l,fewIt x))
def fewCg (x:Cg):Prop:=x.name.length≤100∧x.data.length≤300
instance (x:Cg):Decidable (fewCg x):=inferInstanceAs (Decidable (_∧_))
def fewC (l:List Cg):Prop:=l.length≤12∧∀ x∈l,fewCg x
instance (l:List Cg):Decidable (fewC l):=inferInstanceAs (Decidable (_∧∀ x∈l,fewCg x))
def fewV (v:Vr):Prop:=((fewC v.chs∧v.sg.op.length≤70)∧v.sg.cl.length≤70)∧v.sg.path.length≤20
instance (v:Vr):Decidable (fewV v):=inferInstanceAs (Decidable (((_∧_)∧_)∧_))
theorem few_yes {p:α→Prop} {l:List α} {k:Nat} (h:∀ j,j<k→∀ x,l[j]?=some x→p x) (hk:l.length≤k):∀ x∈l,p x:=fun c hc=>by
 obtain ⟨i,hi,rfl⟩:=List.getElem_of_mem hc
 exact h i (by omega) _ (List.getElem?_eq_getElem hi)
theorem few_at {p:α→Prop} {l:List α} {k:Nat} {x:α} (hx:l[k]?=some x) (h:p x):∀ y,l[k]?=some y→p y:=fun y hy=>by rw [hx] at hy;injection hy with hy;subst hy;exact h
theorem len_few {p q:Prop} [Decidable p] [Decidable q] (hq:q↔n≤12∧p) (hp:p):decide ((n:Int)≤(12:Int))=decide q:=decide_eq_decide.2 ⟨fun h=>hq.2 ⟨by omega,hp⟩,fun h=>by have:=(hq.1 h).1;omega⟩
theorem same_yes {a b:List α} {k:Nat} (hl:a.length=b.length) (h:∀ j,j<k→a[j]?=b[j]?) (hk:a.length≤k):a=b:=by
 refine List.ext_getElem? fun i=>?_
 by_cases hi:i<k
 ·exact h i hi
 ·rw [List.getElem?_eq_none (by omega),List.getElem?_eq_none (by omega)]
theorem same_no {a b:List α} {k:Nat} {x y:α} (hx:a[k]?=some x) (hy:b[k]?=some y) (h:x≠y):a≠b:=fun e=>h (by rw [e,hy] at hx;injection hx with hx;exact hx.symm)
theorem cg_eq {x y:Cg} (h0:x.gone=y.gone) (h1:x.name=y.name) (h2:x.data=y.data):x=y:=by cases x;cases y;simp_all
theorem few40_any (A:Option Addr) (c:Nat) (l:List It) (w:World) (h:RLs RIt 2 S w (vl A l.length c) l) :
  Calls Tryz.prog 7 #[.slice A l.length c] w (fun e w'=>e=.returned (.bool (decide (fewI l)))∧Ext w w'):=by
 have hc:RLs RIt 2 (Clip S w) w (vl A l.length c) l:=RLs.clip rIt h
 obtain ⟨-,hck,hcm⟩:=RLs.at h
 refine calls_enter Tryz.func7 rfl rfl rfl fun _ M=>wr fun Z Z=>M.xv (.bool false) fun _ M=>wn Z<|wp_seq_k fun Z ai=>wr fun Z Z=>M.xv (vi 0) fun _ M=>wn Z<|wp_block<|wp_loop (fun a' W=>∃ (k:Nat),Sl 29 [(0,(vl A l.length c)),(2,(.bool false)),(3,(vi k))] a'∧k≤l.length∧(∀ j,j<k→∀ x,l[j]?=some x→fewIt x)∧Ext w W∧w.heap.size≤W.heap.size) (fun a' _=>l.length - (intOf (a'.eval (.tmp 3))).toNat) ⟨0,M.j,(by omega),(fun j hj=>absurd hj (by omega)),(Ext.refl w),(Nat.le_refl _)⟩ ?_
 rintro M M ⟨k,M,Z,Y,Z,ae⟩
 have aj:=M
 have ae:=Z.size
 refine wp_seq_k fun ae ae=>wr fun ag ag=>M.xm rfl<|Xm rfl<|Xv (vi l.length)<|Xv (vd ((k:Int)<(l.length:Int))) fun _ D=>wn ag ?_
 by_cases M:(k:Int)<(l.length:Int)
 ·refine D.ct<|wp_skip<|ae _ _<|wp_seq_k fun M ah=>wp_block<|wr fun M U=>D.xm rfl<|Xm rfl fun _ ab=>?_
  have M:=RLs.ext rIt hc Z
  obtain ⟨G,I,C,Z,O,J,Z,V,al⟩:=RLs.get M (by omega:k<l.length)
  obtain ⟨aa,ac,rfl,ak⟩:=al
  have D:=(Fl.cel ak).2.1
  refine ab.xw (vq G (I+k*2)) (fun F=>rn_indexE uu26 inf61 ((F.get rfl).trans (by rw [O])) (F.get rfl) (zl _) (il (by omega:k<l.length)) (by omega))<|Xv (vq G (I+k*2))<|Xw (strOf C.name) (fun F=>rl F rfl (V 0 _ rfl))<|Xw (vi C.name.length) (fun F=>rn_lenS uu9 (F.get rfl))<|Xv (vd ((100:Int)<(C.name.length:Int)))<|Xm rfl<|fun _ D=>?_
  by_cases M:(100:Int)<(C.name.length:Int)
  ·exact D.xu<|Xu<|Xu<|Xu<|Xu<|Xu<|Xu<|Xv (.bool true) fun _ G=>wn U<|have D:=G.k [0,2,3,7,25];D.ct<|wr fun G G=>D.xv (.bool false) fun _ D=>wn G<|wp_ret<|ret_block<|ret_then<|ret_then<|ret_block<|ret_then<|ret1 D rfl rfl<|⟨ret_bool (decide_eq_false (fun q:fewI l=>by have h1:=q.2 C (List.mem_of_getElem? J);have h2:=h1.1;have h3:=h1.2;omega)).symm,eX⟩
  refine D.xg (vl A l.length c)<|Xg (vi k)<|Xgw (vq G (I+k*2)) (fun F=>rn_indexE uu26 inf61 ((F.get rfl).trans (by rw [O])) (F.get rfl) (zl _) (il (by omega:k<l.length)) (by omega))<|Xg (vq G (I+k*2+1))<|Xgw (vl aa C.data.length ac) (fun F=>rl F rfl (V 1 _ rfl))<|Xg (vi C.data.length)<|Xg (vd ((300:Int)<(C.data.length:Int)))<|Xv (vd ((300:Int)<(C.data.length:Int))) fun _ G=>wn U ?_
  have D:=G.k [0,2,3,7,25]
  by_cases G:(300:Int)<(C.data.length:Int)
  ·exact D.ct<|wr fun G G=>D.xv (.bool false) fun _ D=>wn G<|wp_ret<|ret_block<|ret_then<|ret_then<|ret_block<|ret_then<|ret1 D rfl rfl<|⟨ret_bool (decide_eq_false (fun q:fewI l=>by have h1:=q.2 C (List.mem_of_getElem? J);have h2:=h1.1;have h3:=h1.2;omega)).symm,eX⟩
  refine D.cf<|wp_skip<|ah _ _<|wp_region_lit<|D.xm rfl<|Xv (vi (k+1:Nat))<|Xa rfl fun _ D=>wpList_nil ?_
  refine ⟨⟨(k+1),D.j,(by omega),(all_succ Y (few_at J (show fewIt C from ⟨by omega,by omega⟩))),eX,(by omega)⟩,?_⟩
  rw [D.get (t:=3) rfl,aj.get (t:=3) rfl];simp [intOf] <;> omega
 exact D.cf<|wp_exit<|exit_then<|exit_then<|exit_here<|ai _ _<|wr fun C G=>D.xm rfl<|Xv (vi l.length)<|Xv (vd ((l.length:Int)≤(12:Int)))<|Xa rfl fun _ C=>wn G<|have D:=C.k [0,2,3,7];wp_ret<|ret1 D rfl rfl<|⟨ret_bool (len_few (q:=fewI l) Iff.rfl (few_yes Y (by omega))),eX⟩
theorem few40_at (l:List It) (w:World) (h:RLs RIt 2 S w v l) :
  Calls Tryz.prog 7 #[v] w (fun e w'=>e=.returned (.bool (decide (fewI l)))∧Ext w w'):=by
 obtain ⟨A,c,rfl,_⟩:=h.form
 exact few40_any A c l w h
theorem fewc_any (A:Option Addr) (c:Nat) (l:List Cg) (w:World) (h:RLs RCg 3 S w (vl A l.length c) l) :
  Calls Tryz.prog 8 #[.slice A l.length c] w (fun e w'=>e=.returned (.bool (decide (fewC l)))∧Ext w w'):=by
 have hc:RLs RCg 3 (Clip S w) w (vl A l.length c) l:=RLs.clip rCg h
 obtain ⟨-,hck,hcm⟩:=RLs.at h
 refine calls_enter Tryz.func8 rfl rfl rfl fun _ J=>wr fun Z Z=>J.xv (.bool false) fun _ J=>wn Z<|wp_seq_k fun Z aj=>wr fun Z Z=>J.xv (vi 0) fun _ J=>wn Z<|wp_block<|wp_loop (fun a' W=>∃ (k:Nat),Sl 21 [(0,(vl A l.length c)),(2,(.bool false)),(3,(vi k))] a'∧k≤l.length∧(∀ j,j<k→∀ x,l[j]?=some x→fewCg x)∧Ext w W∧w.heap.size≤W.heap.size) (fun a' _=>l.length - (intOf (a'.eval (.tmp 3))).toNat) ⟨0,J.j,(by omega),(fun j hj=>absurd hj (by omega)),(Ext.refl w),(Nat.le_refl _)⟩ ?_
 rintro J J ⟨k,J,Z,Y,Z,ae⟩
 have ak:=J
 have ae:=Z.size
 refine wp_seq_k fun ae ae=>wr fun ag ag=>J.xm rfl<|Xm rfl<|Xv (vi l.length)<|Xv (vd ((k:Int)<(l.length:Int))) fun _ G=>wn ag ?_
 by_cases J:(k:Int)<(l.length:Int)
 ·refine G.ct<|wp_skip<|ae _ _<|wp_seq_k fun J ah=>wp_block<|wr fun J ai=>G.xm rfl<|Xm rfl fun _ ab=>?_
  have J:=RLs.ext rCg hc Z
  obtain ⟨O,aa,C,Z,ac,V,Z,al,am⟩:=RLs.get J (by omega:k<l.length)
  obtain ⟨D,I,rfl,U⟩:=am
  have G:=(Fl.cel U).2.1
  refine ab.xw (vq O (aa+k*3)) (fun F=>rn_indexE uu27 inf66 ((F.get rfl).trans (by rw [ac])) (F.get rfl) (zl _) (il (by omega:k<l.length)) (by omega))<|Xv (vq O (aa+k*3))<|Xw (.agg #[(strOf C.name),(vl D C.data.length I)]) (fun F=>rn_loadN (cs:=[(strOf C.name),(vl D C.data.length I)]) (F.get rfl) uu61 rfl inf61 (cells_part (A:=[]) (M:=[(strOf C.name),(vl D C.data.length I)]) (B:=[(.bool C.gone)]) al (by simp) rfl)) fun _ G=>G.xn (fun g=>(vl (some ⟨g,0,none⟩) 1 1)) [(strOf C.name),(vl D C.data.length I)] 61 (fun F=>rn_buildSlice (parts1 (F.get rfl)) (by kernel_rfl)) fun J D _ D G G G O=>have I:=(U.ext O);D.xe (few40_at (v:=(vl (some ⟨J,0,none⟩) 1 1)) [⟨C.name,C.data⟩] _ (RLs.one (S:=fun _=>True) (R:=RIt) G rfl (one_cons rfl (one_cons rfl one_nil)) trivial ⟨_,_,rfl,Fl.any I⟩)) fun D D D _ D=>D.xw (.bool (!(decide (fewI [⟨C.name,C.data⟩])))) (fun F=>rn_not' (F.get rfl) rfl) fun _ G=>wn ai ?_
  have D:=G.k [0,2,3,7,17]
  by_cases G:fewI [⟨C.name,C.data⟩]
  ·refine D.cf<|wp_skip<|ah _ _<|wp_region_lit<|D.xm rfl<|Xv (vi (k+1:Nat))<|Xa rfl fun _ D=>wpList_nil ?_
   refine ⟨⟨(k+1),D.j,(by omega),(all_succ Y (few_at V (show fewCg C from G.2 _ (List.mem_singleton.2 rfl)))),eX,(by omega)⟩,?_⟩
   rw [D.get (t:=3) rfl,ak.get (t:=3) rfl];simp [intOf] <;> omega
  exact D.ct<|wr fun I I=>D.xv (.bool false) fun _ D=>wn I<|wp_ret<|ret_block<|ret_then<|ret_then<|ret_block<|ret_then<|ret1 D rfl rfl<|⟨ret_bool (decide_eq_false (fun q:fewC l=>G ⟨by simp,fun y hy=>by rw [List.mem_singleton.1 hy];exact q.2 C (List.mem_of_getElem? V)⟩)).symm,eX⟩
 exact G.cf<|wp_exit<|exit_then<|exit_then<|exit_here<|aj _ _<|wr fun C D=>G.xm rfl<|Xv (vi l.length)<|Xv (vd ((l.length:Int)≤(12:Int)))<|Xa rfl fun _ C=>wn D<|have D:=C.k [0,2,3,7];wp_ret<|ret1 D rfl rfl<|⟨ret_bool (len_few (q:=fewC l) Iff.rfl (few_yes Y (by omega))),eX⟩
theorem fewc_at (l:List Cg) (w:World) (h:RLs RCg 3 S w v l) :
  Calls Tryz.prog 8 #[v] w (fun e w'=>e=.returned (.bool (decide (fewC l)))∧Ext w w'):=by
 obtain ⟨A,c,rfl,_⟩:=h.form
 exact fewc_any A c l w h
theorem fewv_any (C:Option Addr) (cc:Nat) (O:Option Addr) (oc:Nat) (E:Option Addr) (ec:Nat) (P:Option Addr) (pc:Nat) (v:Vr) (w:World) (h:RVp S w (vl C v.chs.length cc) (vl O v.sg.op.length oc) (vl E v.sg.cl.length ec) (vl P v.sg.path.length pc) v) :
  Calls Tryz.prog 9 #[(ag ((vi v.no)::dg v.state [(vl C v.chs.length cc),(vi v.sg.index),(vl O v.sg.op.length oc),(vl E v.sg.cl.length ec),(vl P v.sg.path.length pc)]))] w (fun en w'=>en=.returned (.bool (decide (fewV v)))∧Ext w w'):=by
 have hc:=RVp.subB (S':=Clip S w) h (fun _ hb hs=>⟨hs,hb⟩)
 obtain ⟨-,D,D⟩:=RLs.at hc.chs;have D:=(Fl.cel hc.sg.op).2.1;have D:=(Fl.cel hc.sg.cl).2.1;have D:=(Fl.cel hc.sg.path).2.1
 refine calls_enter Tryz.func9 rfl rfl rfl fun _ D=>wr fun G J=>D.xb rfl fun D G _ G I I M U=>G.xv (.bool false) fun _ I=>wn J<|wr fun G G=>I.xv (vq D 33)<|Xw (vl C v.chs.length cc) (fun F=>rl F rfl ((M.rule.1 33).trans ((at_app (k:=0) (byteVals_len hc.st)).trans rfl))) fun _ I=>have J:=(RLs.ext rCg hc.chs U);I.xe (fewc_at (v:=(vl C v.chs.length cc)) v.chs _ J) fun I V I _ I=>I.xm rfl fun _ J=>?_
 by_cases I:fewC v.chs
 ·refine J.xg (vq D 34)<|Xg (vq D 35) fun _ U=>have J:=(M.ext V);U.xgw (vl O v.sg.op.length oc) (fun F=>rl F rfl ((J.rule.1 35).trans ((at_app (k:=2) (byteVals_len hc.st)).trans rfl)))<|Xg (vi v.sg.op.length)<|Xg (vd ((v.sg.op.length:Int)≤(70:Int)))<|Xv (vd ((v.sg.op.length:Int)≤(70:Int)))<|Xm rfl fun _ M=>?_
  by_cases U:(v.sg.op.length:Int)≤(70:Int)
  ·refine M.xg (vq D 34)<|Xg (vq D 36)<|Xgw (vl E v.sg.cl.length ec) (fun F=>rl F rfl ((J.rule.1 36).trans ((at_app (k:=3) (byteVals_len hc.st)).trans rfl)))<|Xg (vi v.sg.cl.length)<|Xg (vd ((v.sg.cl.length:Int)≤(70:Int)))<|Xv (vd ((v.sg.cl.length:Int)≤(70:Int)))<|Xm rfl<|fun _ M=>?_
   by_cases U:(v.sg.cl.length:Int)≤(70:Int)
   ·exact M.xg (vq D 34)<|Xg (vq D 37)<|Xgw (vl P v.sg.path.length pc) (fun F=>rl F rfl ((J.rule.1 37).trans ((at_app (k:=4) (byteVals_len hc.st)).trans rfl)))<|Xg (vi v.sg.path.length)<|Xg (vd ((v.sg.path.length:Int)≤(20:Int)))<|Xv (vd ((v.sg.path.length:Int)≤(20:Int)))<|Xa rfl fun _ D=>wn G<|have G:=D.k [0,1,2];wp_ret<|ret1 G rfl rfl<|have h9:=I;⟨ret_bool (show decide ((v.sg.path.length:Int)≤(20:Int))=decide (fewV v) from decide_eq_decide.2 ⟨fun h=>⟨⟨⟨h9,by omega⟩,by omega⟩,by omega⟩,fun q=>by obtain ⟨⟨⟨-,q1⟩,q2⟩,q3⟩:=q;omega⟩),eX⟩
   exact M.xu<|Xu<|Xu<|Xu<|Xu<|Xv (.bool false)<|Xa rfl fun _ D=>wn G<|have G:=D.k [0,1,2];wp_ret<|ret1 G rfl rfl<|have h9:=I;⟨ret_bool (decide_eq_false (fun q:fewV v=>by obtain ⟨⟨⟨-,q1⟩,q2⟩,q3⟩:=q;omega)).symm,eX⟩
  exact M.xu<|Xu<|Xu<|Xu<|Xu<|Xv (.bool false)<|Xm rfl<|Xu<|Xu<|Xu<|Xu<|Xu<|Xv (.bool false)<|Xa rfl fun _ D=>wn G<|have G:=D.k [0,1,2];wp_ret<|ret1 G rfl rfl<|have h9:=I;⟨ret_bool (decide_eq_false (fun q:fewV v=>by obtain ⟨⟨⟨-,q1⟩,q2⟩,q3⟩:=q;omega)).symm,eX⟩
 exact J.xu<|Xu<|Xu<|Xu<|Xu<|Xv (.bool false)<|Xm rfl<|Xu<|Xu<|Xu<|Xu<|Xu<|Xv (.bool false)<|Xm rfl<|Xu<|Xu<|Xu<|Xu<|Xu<|Xv (.bool false)<|Xa rfl fun _ D=>wn G<|have G:=D.k [0,1,2];wp_ret<|ret1 G rfl rfl<|have h9:=I;⟨ret_bool (decide_eq_false (fun q:fewV v=>by exact h9 q.1.1.1)).symm,eX⟩
theorem fewv_at {c:Value} (v:Vr) (w:World) (h:RVp S w c o e p v) :
  Calls Tryz.prog 9 #[ag (vcs v.no v.state c v.sg.index o e p)] w (fun en w'=>en=.returned (.bool (decide (fewV v)))∧Ext w w'):=by
 obtain ⟨C,cc,rfl,_⟩:=RLs.form h.chs
 obtain ⟨O,oc,rfl,_⟩:=Fl.form h.sg.op
 obtain ⟨E,ec,rfl,_⟩:=Fl.form h.sg.cl
 obtain ⟨P,pc,rfl,_⟩:=Fl.form h.sg.path
 exact fewv_any C cc O oc E ec P pc v w h
theorem samec_any (A:Option Addr) (c:Nat) (a:List Cg) (B:Option Addr) (d:Nat) (b:List Cg) (w:World) (h1:RLs RCg 3 S w (vl A a.length c) a) (h2:RLs RCg 3 S w (vl B b.length d) b) :
  Calls Tryz.prog 37 #[.slice A a.length c,.slice B b.length d] w (fun e w'=>e=.returned (.bool (decide (a=b)))∧Ext w w'):=by
 have h1c:RLs RCg 3 (Clip S w) w (vl A a.length c) a:=RLs.clip rCg h1
 obtain ⟨-,h1ck,h1cm⟩:=RLs.at h1
 have h2c:RLs RCg 3 (Clip S w) w (vl B b.length d) b:=RLs.clip rCg h2
 obtain ⟨-,h2ck,h2cm⟩:=RLs.at h2
 refine calls_enter Tryz.func37 rfl rfl rfl fun _ hF=>wr fun K1 ai=>hF.xv (.bool false) fun _ F3=>wn ai<|wp_seq_k fun K4 aI=>wr fun K5 ai=>F3.xm rfl<|Xv (vi a.length)<|Xm rfl<|Xv (vi b.length)<|Xv (vd ((a.length:Int)≠(b.length:Int))) fun _ aB=>wn ai ?_
 have ai:=aB.k [0,1,4,10]
 by_cases aB:(a.length:Int)≠(b.length:Int)
 ·exact ai.ct<|wr fun C D=>ai.xv (.bool false) fun _ C=>wn D<|wp_ret<|ret_then<|ret1 C rfl rfl<|⟨ret_bool (decide_eq_false (fun q=>by have h9:=congrArg List.length q;omega)).symm,(Ext.refl w)⟩
 refine ai.cf<|wp_skip<|aI _ _<|wp_seq_k fun aB aG=>wr fun aB aB=>ai.xv (vi 0) fun _ ai=>wn aB<|wp_block<|wp_loop (fun a' W=>∃ (k:Nat),Sl 60 [(0,(vl A a.length c)),(1,(vl B b.length d)),(4,(.bool false)),(10,(vd ((a.length:Int)≠(b.length:Int)))),(5,(vi k))] a'∧k≤a.length∧(∀ j,j<k→a[j]?=b[j]?)∧Ext w W∧w.heap.size≤W.heap.size) (fun a' _=>a.length - (intOf (a'.eval (.tmp 5))).toNat) ⟨0,ai.j,(by omega),(fun j hj=>absurd hj (by omega)),(Ext.refl w),(Nat.le_refl _)⟩ ?_
 rintro ai ai ⟨k,ai,aB,aq,aB,aI⟩
 have az:=ai
 have aI:=aB.size
 refine wp_seq_k fun aB aB=>wr fun aI aI=>ai.xm rfl<|Xm rfl<|Xv (vi a.length)<|Xv (vd ((k:Int)<(a.length:Int))) fun _ aj=>wn aI ?_
 by_cases ai:(k:Int)<(a.length:Int)
 ·refine aj.ct<|wp_skip<|aB _ _<|wp_seq_k fun ai ay=>wp_block<|wp_seq_k fun ai aa=>sX (fun G W=>Ext G W) (fun i=>false) 43 fun G aA ai=>aj.ym 0 rfl<|Ym 1 rfl fun _ aE=>?_
  have ai:=RLs.ux rCg h1c aA
  obtain ⟨I,O,D,aB,ab,Y,aB,ag,aJ⟩:=RLs.get ai (by omega:k<a.length)
  obtain ⟨ar,aw,rfl,al⟩:=aJ
  have ai:=(Fl.cel al).2.1
  refine aE.yw 2 (vq I (O+k*3)) rfl (fun F W=>rn_indexE uu27 inf66 ((F.get rfl).trans (by rw [ab])) (F.get rfl) (zl _) (il (by omega:k<a.length)) (by omega))<|Yv 3 (vq I (O+k*3+2)) rfl fun _ ai=>have M:Ex G G:=Ext.refl G;ai.ys 4 (.bool D.gone) rfl M (fun F W hW=>rl F rfl ((fun j u hu=>Ext.keep ((Ext.refl G).trans hW) (ag j u hu)) 2 _ rfl))<|Ym 5 rfl<|Ym 6 rfl fun _ aF=>?_
  have ai:=RLs.ux rCg h2c aA
  obtain ⟨J,U,C,aA,ac,Z,aA,ah,aK⟩:=RLs.get ai (by omega:k<b.length)
  obtain ⟨au,ax,rfl,am⟩:=aK
  have ai:=(Fl.cel am).2.1
  refine aF.yw 7 (vq J (U+k*3)) rfl (fun F W=>rn_indexE uu27 inf66 ((F.get rfl).trans (by rw [ac])) (F.get rfl) (zl _) (il (by omega:k<b.length)) (by omega))<|Yv 8 (vq J (U+k*3+2)) rfl<|Ys 9 (.bool C.gone) rfl M (fun F W hW=>rl F rfl ((fun j u hu=>Ext.keep ((Ext.refl G).trans hW) (ah j u hu)) 2 _ rfl))<|fun _ ak=>?_
  rcases Bool.eq_false_or_eq_true D.gone with V | V
  ·rcases Bool.eq_false_or_eq_true C.gone with ae | ae
   ·refine ak.yw 10 (.bool false) rfl (fun F W=>rn_neB uu4 (F.get rfl) (F.get rfl) (show _=true from V) (show _=true from ae) rfl)<|Ym 11 rfl<|Yg 12 (vl A a.length c) rfl<|Yg 13 (vi k) rfl<|Ygw 14 (vq I (O+k*3)) rfl (fun F W=>rn_indexE uu27 inf66 ((F.get rfl).trans (by rw [ab])) (F.get rfl) (zl _) (il (by omega:k<a.length)) (by omega))<|Yg 15 (vq I (O+k*3)) rfl<|Yg 16 (vq I (O+k*3)) rfl<|Ysg 17 (strOf D.name) rfl M (fun F W hW=>rl F rfl ((fun j u hu=>Ext.keep ((Ext.refl G).trans hW) (ag j u hu)) 0 _ rfl))<|Yg 18 (vl B b.length d) rfl<|Yg 19 (vi k) rfl<|Ygw 20 (vq J (U+k*3)) rfl (fun F W=>rn_indexE uu27 inf66 ((F.get rfl).trans (by rw [ac])) (F.get rfl) (zl _) (il (by omega:k<b.length)) (by omega))<|Yg 21 (vq J (U+k*3)) rfl<|Yg 22 (vq J (U+k*3)) rfl<|Ysg 23 (strOf C.name) rfl M (fun F W hW=>rl F rfl ((fun j u hu=>Ext.keep ((Ext.refl G).trans hW) (ah j u hu)) 0 _ rfl))<|Ygw 24 (.bool (!decide (D.name=C.name))) rfl (fun F W=>rn_nes (F.get rfl) (F.get rfl) rfl)<|Yv 25 (.bool (!decide (D.name=C.name))) rfl<|Ym 26 rfl<|fun _ ai=>?_
    by_cases aj:D.name=C.name
    ·refine ai.yg 27 (vl A a.length c) rfl<|Yg 28 (vi k) rfl<|Ygw 29 (vq I (O+k*3)) rfl (fun F W=>rn_indexE uu27 inf66 ((F.get rfl).trans (by rw [ab])) (F.get rfl) (zl _) (il (by omega:k<a.length)) (by omega))<|Yg 30 (vq I (O+k*3)) rfl<|Yg 31 (vq I (O+k*3+1)) rfl<|Ysg 32 (vl ar D.data.length aw) rfl M (fun F W hW=>rl F rfl ((fun j u hu=>Ext.keep ((Ext.refl G).trans hW) (ag j u hu)) 1 _ rfl))<|Ysg 33 (strOf D.data) rfl M (fun F W hW=>rn_str (F.get rfl) (Fl.rbs (al.ext hW)) uu22 uu5 uu9)<|Yg 34 (vl B b.length d) rfl<|Yg 35 (vi k) rfl<|Ygw 36 (vq J (U+k*3)) rfl (fun F W=>rn_indexE uu27 inf66 ((F.get rfl).trans (by rw [ac])) (F.get rfl) (zl _) (il (by omega:k<b.length)) (by omega))<|Yg 37 (vq J (U+k*3)) rfl<|Yg 38 (vq J (U+k*3+1)) rfl<|Ysg 39 (vl au C.data.length ax) rfl M (fun F W hW=>rl F rfl ((fun j u hu=>Ext.keep ((Ext.refl G).trans hW) (ah j u hu)) 1 _ rfl))<|Ysg 40 (strOf C.data) rfl M (fun F W hW=>rn_str (F.get rfl) (Fl.rbs (am.ext hW)) uu22 uu5 uu9)<|Ygw 41 (.bool (!decide (D.data=C.data))) rfl (fun F W=>rn_nes (F.get rfl) (F.get rfl) rfl)<|Yv 42 (.bool (!decide (D.data=C.data))) rfl fun _ I=>nK aa ?_
     have G:=I.k [0,1,4,10,5,14,59]
     by_cases I:D.data=C.data
     ·refine G.cf<|wp_skip<|ay _ _<|wp_region_lit<|G.xm rfl<|Xv (vi (k+1:Nat))<|Xa rfl fun _ C=>wpList_nil ?_
      refine ⟨⟨(k+1),C.j,(by omega),(all_succ aq (by rw [Y,Z,cg_eq (V.trans (Eq.symm ae)) aj I])),eX,(by omega)⟩,?_⟩
      rw [C.get (t:=5) rfl,az.get (t:=5) rfl];simp [intOf] <;> omega
     exact G.ct<|wr fun C D=>G.xv (.bool false) fun _ C=>wn D<|wp_ret<|ret_block<|ret_then<|ret_then<|ret_block<|ret_then<|ret1 C rfl rfl<|⟨ret_bool (decide_eq_false (same_no Y Z (fun q=>I (congrArg (·.data) q)))).symm,eX⟩
    exact ai.yu 27 rfl<|Yu 28 rfl<|Yu 29 rfl<|Yu 30 rfl<|Yu 31 rfl<|Yu 32 rfl<|Yu 33 rfl<|Yu 34 rfl<|Yu 35 rfl<|Yu 36 rfl<|Yu 37 rfl<|Yu 38 rfl<|Yu 39 rfl<|Yu 40 rfl<|Yu 41 rfl<|Yv 42 (.bool true) rfl fun _ D=>nK aa<|have C:=D.k [0,1,4,10,5,14,59];C.ct<|wr fun D D=>C.xv (.bool false) fun _ C=>wn D<|wp_ret<|ret_block<|ret_then<|ret_then<|ret_block<|ret_then<|ret1 C rfl rfl<|⟨ret_bool (decide_eq_false (same_no Y Z (fun q=>aj (congrArg (·.name) q)))).symm,eX⟩
   exact ak.yw 10 (.bool true) rfl (fun F W=>rn_neB uu4 (F.get rfl) (F.get rfl) (show _=true from V) (show _=false from ae) rfl)<|Ym 11 rfl<|Yu 12 rfl<|Yu 13 rfl<|Yu 14 rfl<|Yu 15 rfl<|Yu 16 rfl<|Yu 17 rfl<|Yu 18 rfl<|Yu 19 rfl<|Yu 20 rfl<|Yu 21 rfl<|Yu 22 rfl<|Yu 23 rfl<|Yu 24 rfl<|Yv 25 (.bool true) rfl<|Ym 26 rfl<|Yu 27 rfl<|Yu 28 rfl<|Yu 29 rfl<|Yu 30 rfl<|Yu 31 rfl<|Yu 32 rfl<|Yu 33 rfl<|Yu 34 rfl<|Yu 35 rfl<|Yu 36 rfl<|Yu 37 rfl<|Yu 38 rfl<|Yu 39 rfl<|Yu 40 rfl<|Yu 41 rfl<|Yv 42 (.bool true) rfl fun _ aC=>nK aa<|have av:=aC.k [0,1,4,10,5,14,59];av.ct<|wr fun ai aH=>av.xv (.bool false) fun _ aD=>wn aH<|wp_ret<|ret_block<|ret_then<|ret_then<|ret_block<|ret_then<|ret1 aD rfl rfl<|⟨ret_bool (decide_eq_false (same_no Y Z (fun q=>by have h8:=V;have h9:=ae;rw [q] at h8;rw [h9] at h8;cases h8))).symm,eX⟩
  rcases Bool.eq_false_or_eq_true C.gone with ae | ae
  ·exact ak.yw 10 (.bool true) rfl (fun F W=>rn_neB uu4 (F.get rfl) (F.get rfl) (show _=false from V) (show _=true from ae) rfl)<|Ym 11 rfl<|Yu 12 rfl<|Yu 13 rfl<|Yu 14 rfl<|Yu 15 rfl<|Yu 16 rfl<|Yu 17 rfl<|Yu 18 rfl<|Yu 19 rfl<|Yu 20 rfl<|Yu 21 rfl<|Yu 22 rfl<|Yu 23 rfl<|Yu 24 rfl<|Yv 25 (.bool true) rfl<|Ym 26 rfl<|Yu 27 rfl<|Yu 28 rfl<|Yu 29 rfl<|Yu 30 rfl<|Yu 31 rfl<|Yu 32 rfl<|Yu 33 rfl<|Yu 34 rfl<|Yu 35 rfl<|Yu 36 rfl<|Yu 37 rfl<|Yu 38 rfl<|Yu 39 rfl<|Yu 40 rfl<|Yu 41 rfl<|Yv 42 (.bool true) rfl fun _ aC=>nK aa<|have av:=aC.k [0,1,4,10,5,14,59];av.ct<|wr fun ai aH=>av.xv (.bool false) fun _ aD=>wn aH<|wp_ret<|ret_block<|ret_then<|ret_then<|ret_block<|ret_then<|ret1 aD rfl rfl<|⟨ret_bool (decide_eq_false (same_no Y Z (fun q=>by have h8:=V;have h9:=ae;rw [q] at h8;rw [h9] at h8;cases h8))).symm,eX⟩
  refine ak.yw 10 (.bool false) rfl (fun F W=>rn_neB uu4 (F.get rfl) (F.get rfl) (show _=false from V) (show _=false from ae) rfl)<|Ym 11 rfl<|Yg 12 (vl A a.length c) rfl<|Yg 13 (vi k) rfl<|Ygw 14 (vq I (O+k*3)) rfl (fun F W=>rn_indexE uu27 inf66 ((F.get rfl).trans (by rw [ab])) (F.get rfl) (zl _) (il (by omega:k<a.length)) (by omega))<|Yg 15 (vq I (O+k*3)) rfl<|Yg 16 (vq I (O+k*3)) rfl<|Ysg 17 (strOf D.name) rfl M (fun F W hW=>rl F rfl ((fun j u hu=>Ext.keep ((Ext.refl G).trans hW) (ag j u hu)) 0 _ rfl))<|Yg 18 (vl B b.length d) rfl<|Yg 19 (vi k) rfl<|Ygw 20 (vq J (U+k*3)) rfl (fun F W=>rn_indexE uu27 inf66 ((F.get rfl).trans (by rw [ac])) (F.get rfl) (zl _) (il (by omega:k<b.length)) (by omega))<|Yg 21 (vq J (U+k*3)) rfl<|Yg 22 (vq J (U+k*3)) rfl<|Ysg 23 (strOf C.name) rfl M (fun F W hW=>rl F rfl ((fun j u hu=>Ext.keep ((Ext.refl G).trans hW) (ah j u hu)) 0 _ rfl))<|Ygw 24 (.bool (!decide (D.name=C.name))) rfl (fun F W=>rn_nes (F.get rfl) (F.get rfl) rfl)<|Yv 25 (.bool (!decide (D.name=C.name))) rfl<|Ym 26 rfl<|fun _ ai=>?_
  by_cases aj:D.name=C.name
  ·refine ai.yg 27 (vl A a.length c) rfl<|Yg 28 (vi k) rfl<|Ygw 29 (vq I (O+k*3)) rfl (fun F W=>rn_indexE uu27 inf66 ((F.get rfl).trans (by rw [ab])) (F.get rfl) (zl _) (il (by omega:k<a.length)) (by omega))<|Yg 30 (vq I (O+k*3)) rfl<|Yg 31 (vq I (O+k*3+1)) rfl<|Ysg 32 (vl ar D.data.length aw) rfl M (fun F W hW=>rl F rfl ((fun j u hu=>Ext.keep ((Ext.refl G).trans hW) (ag j u hu)) 1 _ rfl))<|Ysg 33 (strOf D.data) rfl M (fun F W hW=>rn_str (F.get rfl) (Fl.rbs (al.ext hW)) uu22 uu5 uu9)<|Yg 34 (vl B b.length d) rfl<|Yg 35 (vi k) rfl<|Ygw 36 (vq J (U+k*3)) rfl (fun F W=>rn_indexE uu27 inf66 ((F.get rfl).trans (by rw [ac])) (F.get rfl) (zl _) (il (by omega:k<b.length)) (by omega))<|Yg 37 (vq J (U+k*3)) rfl<|Yg 38 (vq J (U+k*3+1)) rfl<|Ysg 39 (vl au C.data.length ax) rfl M (fun F W hW=>rl F rfl ((fun j u hu=>Ext.keep ((Ext.refl G).trans hW) (ah j u hu)) 1 _ rfl))<|Ysg 40 (strOf C.data) rfl M (fun F W hW=>rn_str (F.get rfl) (Fl.rbs (am.ext hW)) uu22 uu5 uu9)<|Ygw 41 (.bool (!decide (D.data=C.data))) rfl (fun F W=>rn_nes (F.get rfl) (F.get rfl) rfl)<|Yv 42 (.bool (!decide (D.data=C.data))) rfl fun _ I=>nK aa ?_
   have G:=I.k [0,1,4,10,5,14,59]
   by_cases I:D.data=C.data
   ·refine G.cf<|wp_skip<|ay _ _<|wp_region_lit<|G.xm rfl<|Xv (vi (k+1:Nat))<|Xa rfl fun _ C=>wpList_nil ?_
    refine ⟨⟨(k+1),C.j,(by omega),(all_succ aq (by rw [Y,Z,cg_eq (V.trans (Eq.symm ae)) aj I])),eX,(by omega)⟩,?_⟩
    rw [C.get (t:=5) rfl,az.get (t:=5) rfl];simp [intOf] <;> omega
   exact G.ct<|wr fun C D=>G.xv (.bool false) fun _ C=>wn D<|wp_ret<|ret_block<|ret_then<|ret_then<|ret_block<|ret_then<|ret1 C rfl rfl<|⟨ret_bool (decide_eq_false (same_no Y Z (fun q=>I (congrArg (·.data) q)))).symm,eX⟩
  exact ai.yu 27 rfl<|Yu 28 rfl<|Yu 29 rfl<|Yu 30 rfl<|Yu 31 rfl<|Yu 32 rfl<|Yu 33 rfl<|Yu 34 rfl<|Yu 35 rfl<|Yu 36 rfl<|Yu 37 rfl<|Yu 38 rfl<|Yu 39 rfl<|Yu 40 rfl<|Yu 41 rfl<|Yv 42 (.bool true) rfl fun _ D=>nK aa<|have C:=D.k [0,1,4,10,5,14,59];C.ct<|wr fun D D=>C.xv (.bool false) fun _ C=>wn D<|wp_ret<|ret_block<|ret_then<|ret_then<|ret_block<|ret_then<|ret1 C rfl rfl<|⟨ret_bool (decide_eq_false (same_no Y Z (fun q=>aj (congrArg (·.name) q)))).symm,eX⟩
 exact aj.cf<|wp_exit<|exit_then<|exit_then<|exit_here<|aG _ _<|wr fun C D=>aj.xv (.bool true) fun _ C=>wn D<|wp_ret<|ret1 C rfl rfl<|⟨ret_bool (decide_eq_true (same_yes (by omega) aq (by omega))).symm,eX⟩
theorem samec_at (a b:List Cg) (w:World) (h1:RLs RCg 3 S1 w u a) (h2:RLs RCg 3 S2 w v b) :
  Calls Tryz.prog 37 #[u,v] w (fun e w'=>e=.returned (.bool (decide (a=b)))∧Ext w w'):=by
 obtain ⟨A,c,rfl,_⟩:=h1.form
 obtain ⟨B,d,rfl,_⟩:=h2.form
 exact samec_any (S:=fun _=>True) A c a B d b w (h1.sub rCg fun _ _=>trivial) (h2.sub rCg fun _ _=>trivial)
theorem samev_any (C:Option Addr) (cc:Nat) (O:Option Addr) (oc:Nat) (E:Option Addr) (ec:Nat) (P:Option Addr) (pc:Nat) (DC:Option Addr) (dcc:Nat) (DO:Option Addr) (doc:Nat) (DE:Option Addr) (dec:Nat) (DP:Option Addr) (dpc:Nat) (v:Vr) (w:World) (h1:RVp S w (vl C v.chs.length cc) (vl O v.sg.op.length oc) (vl E v.sg.cl.length ec) (vl P v.sg.path.length pc) v) (h2:RVp S w (vl DC v.chs.length dcc) (vl DO v.sg.op.length doc) (vl DE v.sg.cl.length dec) (vl DP v.sg.path.length dpc) v) :
  Calls Tryz.prog 12 #[(ag ((vi v.no)::dg v.state [(vl C v.chs.length cc),(vi v.sg.index),(vl O v.sg.op.length oc),(vl E v.sg.cl.length ec),(vl P v.sg.path.length pc)])),(ag ((vi v.no)::dg v.state [(vl DC v.chs.length dcc),(vi v.sg.index),(vl DO v.sg.op.length doc),(vl DE v.sg.cl.length dec),(vl DP v.sg.path.length dpc)]))] w (fun en w'=>en=.returned (.bool true)∧Ext w w'):=by
 have h1c:=RVp.subB (S':=Clip S w) h1 (fun _ hb hs=>⟨hs,hb⟩)
 obtain ⟨-,h1c1,h1c2⟩:=RLs.at h1c.chs;have h1c3:=(Fl.cel h1c.sg.op).2.1;have h1c4:=(Fl.cel h1c.sg.cl).2.1;have h1c5:=(Fl.cel h1c.sg.path).2.1
 have h2c:=RVp.subB (S':=Clip S w) h2 (fun _ hb hs=>⟨hs,hb⟩)
 obtain ⟨-,h2c1,h2c2⟩:=RLs.at h2c.chs;have h2c3:=(Fl.cel h2c.sg.op).2.1;have h2c4:=(Fl.cel h2c.sg.cl).2.1;have h2c5:=(Fl.cel h2c.sg.path).2.1
 refine calls_enter Tryz.func12 rfl rfl rfl fun _ D=>wr fun G I=>D.xb rfl fun U D _ D G G Y G=>D.xb rfl fun J D _ D G G G V=>D.xv (.bool false) fun _ D=>wn I<|wr fun I aa=>D.xv (vp U) fun _ D=>have I:=(Y.ext V);D.xw (vi v.no) (fun F=>rl F rfl ((I.rule.1 0).trans rfl))<|Xv (vp J)<|Xw (vi v.no) (fun F=>rl F rfl ((G.rule.1 0).trans rfl))<|Xv (vd ((v.no:Int)=(v.no:Int)))<|Xm rfl fun _ D=>qg 6 (vq U 1) D ((decide_eq_true rfl):decide ((v.no:Int)=(v.no:Int))=true) (rn_field uu34 rfl (by kernel_rfl) (D.get rfl) rfl) fun _ D=>?_
 refine qg 7 (.agg (byteVals v.state).toArray) D ((decide_eq_true rfl):decide ((v.no:Int)=(v.no:Int))=true) (rn_loadN (cs:=byteVals v.state) (D.get rfl) uu29 rfl (sk inf29 (byteVals_len h2c.st)) (Blk.part (A:=[(vi v.no)]) (M:=byteVals v.state) (B:=[(vl C v.chs.length cc),(vi v.sg.index),(vl O v.sg.op.length oc),(vl E v.sg.cl.length ec),(vl P v.sg.path.length pc)]) I (by simp) rfl)) fun _ D=>?_
 refine qg 8 (vq J 1) D ((decide_eq_true rfl):decide ((v.no:Int)=(v.no:Int))=true) (rn_field uu34 rfl (by kernel_rfl) (D.get rfl) rfl) fun _ D=>?_
 refine qg 9 (.agg (byteVals v.state).toArray) D ((decide_eq_true rfl):decide ((v.no:Int)=(v.no:Int))=true) (rn_loadN (cs:=byteVals v.state) (D.get rfl) uu29 rfl (sk inf29 (byteVals_len h2c.st)) (Blk.part (A:=[(vi v.no)]) (M:=byteVals v.state) (B:=[(vl DC v.chs.length dcc),(vi v.sg.index),(vl DO v.sg.op.length doc),(vl DE v.sg.cl.length dec),(vl DP v.sg.path.length dpc)]) G (by simp) rfl)) fun _ D=>?_
 refine qg 10 (vd (v.state=v.state)) D ((decide_eq_true rfl):decide ((v.no:Int)=(v.no:Int))=true) (rn_eqA uu29 uu5 inf5 (by kernel_rfl) (D.get rfl) (D.get rfl) h2c.st h2c.st) fun _ D=>?_
 refine D.xw (vd (v.state=v.state)) (fun F=>rn_pickT (c_true F rfl ((decide_eq_true rfl):decide ((v.no:Int)=(v.no:Int))=true)) (F.get rfl))<|Xm rfl fun _ D=>qg 13 (vq U 33) D ((decide_eq_true rfl):decide (v.state=v.state)=true) (rn_field uu34 rfl (by kernel_rfl) (D.get rfl) rfl) fun _ D=>?_
 refine qg 14 (vl C v.chs.length cc) D ((decide_eq_true rfl):decide (v.state=v.state)=true) (rl D rfl ((I.rule.1 33).trans ((at_app (k:=0) (byteVals_len h2c.st)).trans rfl))) fun _ D=>?_
 refine qg 15 (vq J 33) D ((decide_eq_true rfl):decide (v.state=v.state)=true) (rn_field uu34 rfl (by kernel_rfl) (D.get rfl) rfl) fun _ D=>?_
 refine qg 16 (vl DC v.chs.length dcc) D ((decide_eq_true rfl):decide (v.state=v.state)=true) (rl D rfl ((G.rule.1 33).trans ((at_app (k:=0) (byteVals_len h2c.st)).trans rfl))) fun _ D=>?_
 have Y:=RLs.ux rCg h1c.chs V
 have Z:=RLs.ux rCg h2c.chs V
 refine wpl_op (i:=17) rfl (o_callE D rfl (wanted_guard rfl rfl rfl D rfl ((decide_eq_true rfl):decide (v.state=v.state)=true) rfl) rfl rfl (rn_call (args2 (D.get rfl) (D.get rfl)) rfl (by kernel_rfl)) (samec_at (u:=(vl C v.chs.length cc)) (v:=(vl DC v.chs.length dcc)) v.chs v.chs _ Y Z) (fun D D V _ V=>V.xw (vd (v.chs=v.chs)) (fun F=>rn_pickT (c_true F rfl ((decide_eq_true rfl):decide (v.state=v.state)=true)) (F.get rfl))<|Xm rfl fun _ V=>qg 20 (vq U 34) V ((decide_eq_true rfl):decide (v.chs=v.chs)=true) (rn_field uu34 rfl (by kernel_rfl) (V.get rfl) rfl) fun _ U=>?_))
 have V:=I.ext D
 refine qg 21 (.agg #[(vi v.sg.index),(vl O v.sg.op.length oc),(vl E v.sg.cl.length ec),(vl P v.sg.path.length pc)]) U ((decide_eq_true rfl):decide (v.chs=v.chs)=true) (rn_loadN (cs:=[(vi v.sg.index),(vl O v.sg.op.length oc),(vl E v.sg.cl.length ec),(vl P v.sg.path.length pc)]) (U.get rfl) uu32 rfl inf32 (Blk.part (A:=((vi v.no)::dg v.state [(vl C v.chs.length cc)])) (M:=[(vi v.sg.index),(vl O v.sg.op.length oc),(vl E v.sg.cl.length ec),(vl P v.sg.path.length pc)]) (B:=[]) V (by simp) (by simp [byteVals_len h2c.st]))) fun _ I=>?_
 refine qg 22 (vq J 34) I ((decide_eq_true rfl):decide (v.chs=v.chs)=true) (rn_field uu34 rfl (by kernel_rfl) (I.get rfl) rfl) fun _ I=>?_
 have J:=G.ext D
 refine qg 23 (.agg #[(vi v.sg.index),(vl DO v.sg.op.length doc),(vl DE v.sg.cl.length dec),(vl DP v.sg.path.length dpc)]) I ((decide_eq_true rfl):decide (v.chs=v.chs)=true) (rn_loadN (cs:=[(vi v.sg.index),(vl DO v.sg.op.length doc),(vl DE v.sg.cl.length dec),(vl DP v.sg.path.length dpc)]) (I.get rfl) uu32 rfl inf32 (Blk.part (A:=((vi v.no)::dg v.state [(vl DC v.chs.length dcc)])) (M:=[(vi v.sg.index),(vl DO v.sg.op.length doc),(vl DE v.sg.cl.length dec),(vl DP v.sg.path.length dpc)]) (B:=[]) J (by simp) (by simp [byteVals_len h2c.st]))) fun _ G=>?_
 have I:=h1c.sg.op.ux D
 have J:=h1c.sg.cl.ux D
 have U:=h1c.sg.path.ux D
 have V:=h2c.sg.op.ux D
 have Y:=h2c.sg.cl.ux D
 have Z:=h2c.sg.path.ux D
 exact wpl_op (i:=24) rfl (o_callE G rfl (wanted_guard rfl rfl rfl G rfl ((decide_eq_true rfl):decide (v.chs=v.chs)=true) rfl) rfl rfl (rn_call (args2 (G.get rfl) (G.get rfl)) rfl (by kernel_rfl)) (sames_at (n1:=v.sg.op.length) (n2:=v.sg.cl.length) (n3:=v.sg.path.length) (m1:=v.sg.op.length) (m2:=v.sg.cl.length) (m3:=v.sg.path.length) v.sg v.sg _ I J U h2c.sg.o32 h2c.sg.c32 h2c.sg.p32 V Y Z h2c.sg.o32 h2c.sg.c32 h2c.sg.p32) (fun D D D _ D=>D.xw (.bool (sameS v.sg v.sg)) (fun F=>rn_pickT (c_true F rfl ((decide_eq_true rfl):decide (v.chs=v.chs)=true)) (F.get rfl))<|Xa rfl fun _ D=>wn aa<|have G:=D.k [0,1,2,3,4];wp_ret<|ret1 G rfl rfl<|⟨congrArg (fun b=>Ending.returned (.bool b)) ((sameS_refl _):sameS v.sg v.sg=true),eX⟩))
theorem samev_at {c c2 o2 e2 p2:Value} (v:Vr) (w:World) (h1:RVp S1 w c o e p v) (h2:RVp S2 w c2 o2 e2 p2 v) :
  Calls Tryz.prog 12 #[ag (vcs v.no v.state c v.sg.index o e p),ag (vcs v.no v.state c2 v.sg.index o2 e2 p2)] w (fun en w'=>en=.returned (.bool true)∧Ext w w'):=by
 obtain ⟨C1,cc1,rfl,_⟩:=RLs.form h1.chs
 obtain ⟨O1,oc1,rfl,_⟩:=Fl.form h1.sg.op
 obtain ⟨E1,ec1,rfl,_⟩:=Fl.form h1.sg.cl
 obtain ⟨P1,pc1,rfl,_⟩:=Fl.form h1.sg.path
 obtain ⟨C2,cc2,rfl,_⟩:=RLs.form h2.chs
 obtain ⟨O2,oc2,rfl,_⟩:=Fl.form h2.sg.op
 obtain ⟨E2,ec2,rfl,_⟩:=Fl.form h2.sg.cl
 obtain ⟨P2,pc2,rfl,_⟩:=Fl.form h2.sg.path
 exact samev_any (S:=fun _=>True) C1 cc1 O1 oc1 E1 ec1 P1 pc1 C2 cc2 O2 oc2 E2 ec2 P2 pc2 v w (h1.subB fun _ _ _=>trivial) (h2.subB fun _ _ _=>trivial)
theorem check_of {l:List It} (h:checkE l=0):Srt (itNames l):=named_srt (check_named h).2
theorem diffE_zero {a b:List It} (ha:checkE a=0) (hb:checkE b=0):diffE a b=0∧diffV a b=diffL a b:=by
 have h:diffE a b=0:=(if_neg (fun q=>q ha)).trans hb
 exact ⟨h,if_pos h⟩
theorem diff_good {a b:List It} (ha:checkE a=0) (hb:checkE b=0) (hl:a.length+b.length≤65536):validC (diffL a b):=diff_valid (check_named ha).2 (check_named hb).2 hl
theorem apply_good {a b:List It} (ha:checkE a=0) (hb:checkE b=0) (hl:a.length+b.length≤65536):applyE a (diffL a b)=0∧appL a (diffL a b)=b:=by
 obtain ⟨h1,h2⟩:=app_diff _ a b (Nat.le_refl _) (check_of ha) (check_of hb)
 have h3:=(check_named hb).1
 refine ⟨(if_neg (fun q=>q ha)).trans ((if_neg (fun q=>q (diff_good ha hb hl))).trans ((if_neg (by rw [h2];decide)).trans (if_neg (by rw [h1];omega)))),h1⟩
section
variable {sd:List UInt8} {a b:List It}
theorem kok (hs:1≤sd.length∧sd.length≤64) {u:Int} (h0:0≤u) (h2:u≤2):kOk sd 2 u=true:=kOk_iff.2 ⟨hs,by omega,h0,h2⟩
theorem pub_u (hs:1≤sd.length∧sd.length≤64) {u:Int} (h0:0≤u) (h2:u≤2):pubF sd 2 u=pubF sd 2 0∧pubE sd 2 u=0:=by
 have h1:=pub_of (kok hs h0 h2)
 have h3:=pub_of (kok hs (Int.le_refl 0) (by omega))
 exact ⟨h1.1.trans h3.1.symm,h1.2⟩
theorem version_good (hs:1≤sd.length∧sd.length≤64) {n:Nat} (hn:n<2) (ha:checkE a=0) (hb:checkE b=0) (hl:a.length+b.length≤65536) :
  versionE sd 2 (n:Int) n b (diffL a b)=0∧versionV sd 2 (n:Int) n b (diffL a b)=⟨(n+1:Nat),stateD b,diffL a b,signF sd 2 n n (msgV (n+1:Nat) (stateD b) (diffL a b))⟩ ∧
  verifyE (pubF sd 2 0) 2 (versionV sd 2 (n:Int) n b (diffL a b))=0:=by
 have hp:=pub_u hs (u:=(n:Int)) (by omega) (by omega)
 have hm:(msgV (n+1:Nat) (stateD b) (diffL a b)).length=72:=msgV_len (stateD_len b)
 have hz:signE sd 2 (n:Int) n (msgV (n+1:Nat) (stateD b) (diffL a b))=0:=(sign_iff (kok hs (by omega) (by omega)) (by omega)).2 ⟨by omega,by omega⟩
 have hv:=diff_good ha hb hl
 have hE:versionE sd 2 (n:Int) n b (diffL a b)=0:=(if_neg (fun q=>q hp.2)).trans ((if_neg (fun q=>q rfl)).trans ((if_neg (fun q=>q hb)).trans ((if_neg (fun q=>q hv)).trans hz)))
 have hV:versionV sd 2 (n:Int) n b (diffL a b)=⟨(n+1:Nat),stateD b,diffL a b,signF sd 2 n n (msgV (n+1:Nat) (stateD b) (diffL a b))⟩:=if_pos hE
 refine ⟨hE,hV,?_⟩
 rw [hV]
 have hw:=verifies1 hz (by omega)
 rw [hp.1] at hw
 have hi:=(sign_len hz).2.2
 refine (if_neg (by show ¬ (((n+1:Nat):Int)<1∨4096<((n+1:Nat):Int));omega)).trans ((if_neg (fun q=>q hv)).trans (if_neg (fun q=>?_)))
 rcases q with q | q
 ·exact q (by show (signF sd 2 n n _).index=((n+1:Nat):Int) - 1;rw [hi];omega)
 ·have q':verifyF (pubF sd 2 0) 2 (msgV (n+1:Nat) (stateD b) (diffL a b)) (signF sd 2 n n (msgV (n+1:Nat) (stateD b) (diffL a b)))=false:=q
  rw [hw] at q';cases q'
end
theorem check_nil:checkE []=0:=rfl
structure Duo (pub:List UInt8) (a b:List It) (v1 v2:Vr):Prop where
 ha:checkE a=0
 hb:checkE b=0
 hl:a.length+b.length≤65536
 n1:v1.no=1
 n2:v2.no=2
 s1:v1.state=stateD a
 s2:v2.state=stateD b
 c1:v1.chs=diffL [] a
 c2:v2.chs=diffL a b
 e1:verifyE pub 2 v1=0
 e2:verifyE pub 2 v2=0
section
variable {pub:List UInt8} {a b:List It} {v1 v2:Vr}
def fo (pub:List UInt8) (n:Int) (l:List It) (e:List Vr):Fo:=⟨pub,2,n,l,e⟩
theorem check_fo {n:Int} {l:List It} {e:List Vr} (h0:0≤n) (h1:n≤4096) (hl:checkE l=0) (hn:n=0→l=[]) (he:e.length≤64) (ha:asc (n+1) e) (hv:firstE (verifyE pub 2) e=0):checkFE (fo pub n l e)=0 :=
 (if_neg (by simp [fo])).trans ((if_neg (by simp only [fo];omega)).trans ((if_neg (fun q=>q hl)).trans ((if_neg (fun q=>by have:=q.1;have h5:=q.2;rw [show (fo pub n l e).items=l from rfl,hn this] at h5;simp at h5)).trans ((if_neg (by simp only [fo];omega)).trans ((if_neg (fun q=>q ha)).trans hv)))))
theorem asc_nil (n:Int):asc n []:=fun i hi=>absurd hi (by simp)
theorem Duo.f0 (_h:Duo pub a b v1 v2):checkFE (fo pub 0 [] [])=0:=check_fo (by omega) (by omega) rfl (fun _=>rfl) (by simp) (asc_nil _) rfl
theorem Duo.f1 (h:Duo pub a b v1 v2):checkFE (fo pub 1 a [])=0:=check_fo (by omega) (by omega) h.ha (fun q=>absurd q (by omega)) (by simp) (asc_nil _) rfl
theorem Duo.f2 (h:Duo pub a b v1 v2):checkFE (fo pub 2 b [])=0:=check_fo (by omega) (by omega) h.hb (fun q=>absurd q (by omega)) (by simp) (asc_nil _) rfl
theorem Duo.fe (h:Duo pub a b v1 v2):checkFE (fo pub 0 [] [v2])=0:=check_fo (by omega) (by omega) rfl (fun _=>rfl) (by simp) (fun i hi=>by
  simp only [List.length_singleton] at hi
  obtain rfl:i=0:=by omega
  show (0:Int)+1<v2.no
  rw [h.n2];decide) ((if_neg (fun q=>q h.e2)))
theorem Duo.fit1 (h:Duo pub a b v1 v2) {e:List Vr}:fits (fo pub 0 [] e) v1∧stepF (fo pub 0 [] e) v1=fo pub 1 a e:=by
 have hl:=h.hl
 obtain ⟨q1,q2⟩:=apply_good check_nil h.ha (by simp;omega)
 have hf:fits (fo pub 0 [] e) v1:=⟨by rw [h.c1];exact q1,by rw [h.c1];show checkE (appL [] _)=0;rw [q2];exact h.ha,by rw [h.c1,h.s1];show stateD (appL [] _)=_;rw [q2]⟩
 refine ⟨hf,(if_pos hf).trans ?_⟩
 rw [h.c1,h.n1]
 show (⟨pub,2,1,appL [] (diffL [] a),e⟩:Fo)=_
 rw [q2];rfl
theorem Duo.fit2 (h:Duo pub a b v1 v2) {e:List Vr}:fits (fo pub 1 a e) v2∧stepF (fo pub 1 a e) v2=fo pub 2 b e:=by
 obtain ⟨q1,q2⟩:=apply_good h.ha h.hb h.hl
 have hf:fits (fo pub 1 a e) v2:=⟨by rw [h.c2];exact q1,by rw [h.c2];show checkE (appL a _)=0;rw [q2];exact h.hb,by rw [h.c2,h.s2];show stateD (appL a _)=_;rw [q2]⟩
 refine ⟨hf,(if_pos hf).trans ?_⟩
 rw [h.c2,h.n2]
 show (⟨pub,2,2,appL a (diffL a b),e⟩:Fo)=_
 rw [q2];rfl
theorem rec_ok {f:Fo} {v:Vr} (hc:checkFE f=0) (hv:verifyE f.pub f.many v=0) (hm:¬ ((∃ w∈f.early,w.no=v.no)∨v.no≤f.no)) (hn:¬ f.no+1<v.no) (hf:fits f v):recE f v=0∧recF f v=drain (stepF f v) f.early:=by
 have h:recE f v=0:=(if_neg (fun q=>q hc)).trans ((if_neg (fun q=>q hv)).trans ((if_neg hm).trans ((if_neg hn).trans (if_pos hf))))
 exact ⟨h,(if_neg (fun q=>q h)).trans (if_neg hn)⟩
theorem rec_old {f:Fo} {v:Vr} (hc:checkFE f=0) (hv:verifyE f.pub f.many v=0) (hm:(∃ w∈f.early,w.no=v.no)∨v.no≤f.no):recE f v=420∧recF f v=foNil:=by
 have h:recE f v=420:=(if_neg (fun q=>q hc)).trans ((if_neg (fun q=>q hv)).trans (if_pos hm))
 exact ⟨h,if_pos (by rw [h];decide)⟩
theorem Duo.r1 (h:Duo pub a b v1 v2):recE (fo pub 0 [] []) v1=0∧recF (fo pub 0 [] []) v1=fo pub 1 a []:=by
 obtain ⟨h1,h2⟩:=rec_ok h.f0 h.e1 (fun q=>by rcases q with ⟨w,hw,_⟩ | q;exact absurd hw (by simp [fo]);rw [h.n1] at q;simp [fo] at q) (by rw [h.n1];simp [fo]) h.fit1.1
 exact ⟨h1,h2.trans (by rw [h.fit1.2];rfl)⟩
theorem Duo.r2 (h:Duo pub a b v1 v2):recE (fo pub 1 a []) v2=0∧recF (fo pub 1 a []) v2=fo pub 2 b []:=by
 obtain ⟨h1,h2⟩:=rec_ok h.f1 h.e2 (fun q=>by rcases q with ⟨w,hw,_⟩ | q;exact absurd hw (by simp [fo]);rw [h.n2] at q;simp [fo] at q) (by rw [h.n2];simp [fo]) h.fit2.1
 exact ⟨h1,h2.trans (by rw [h.fit2.2];rfl)⟩
theorem Duo.early (h:Duo pub a b v1 v2):recE (fo pub 0 [] []) v2=0∧recF (fo pub 0 [] []) v2=fo pub 0 [] [v2]:=by
 have hn:(fo pub 0 [] []).no+1<v2.no:=by rw [h.n2];simp [fo]
 have hE:recE (fo pub 0 [] []) v2=0:=(if_neg (fun q=>q h.f0)).trans ((if_neg (fun q=>q h.e2)).trans ((if_neg (fun q=>by rcases q with ⟨w,hw,_⟩ | q;exact absurd hw (by simp [fo]);rw [h.n2] at q;simp [fo] at q)).trans ((if_pos hn).trans (if_neg (by simp [fo])))))
 exact ⟨hE,(if_neg (fun q=>q hE)).trans ((if_pos hn).trans rfl)⟩
theorem Duo.late (h:Duo pub a b v1 v2):recE (fo pub 0 [] [v2]) v1=0∧recF (fo pub 0 [] [v2]) v1=fo pub 2 b []:=by
 obtain ⟨h1,h2⟩:=rec_ok h.fe h.e1 (fun q=>by rcases q with ⟨w,hw,e⟩ | q;rw [List.mem_singleton.1 hw,h.n1,h.n2] at e;simp at e;rw [h.n1] at q;simp [fo] at q) (by rw [h.n1];simp [fo]) h.fit1.1
 refine ⟨h1,h2.trans ?_⟩
 rw [h.fit1.2]
 show drain (fo pub 1 a [v2]) [v2]=_
 rw [drain,if_pos (by rw [h.n2];rfl),h.fit2.2]
 rfl
theorem Duo.again2 (h:Duo pub a b v1 v2):(recE (fo pub 2 b []) v1=420∧recF (fo pub 2 b []) v1=foNil)∧(recE (fo pub 2 b []) v2=420∧recF (fo pub 2 b []) v2=foNil) :=
 ⟨rec_old h.f2 h.e1 (.inr (by rw [h.n1];simp [fo])),rec_old h.f2 h.e2 (.inr (by rw [h.n2];simp [fo]))⟩
end
theorem new_facts {sd:List UInt8} (hs:1≤sd.length∧sd.length≤64):newS sd 2=sd∧newM sd 2=2∧newE sd 2=0:=by
 have h:=kok hs (u:=0) (by decide) (by decide)
 exact ⟨if_pos h,if_pos h,if_pos h⟩
theorem diff_sm {a b:List It} (ha:∀ x∈a,x.data.length≤4294967296) (hb:∀ x∈b,x.data.length≤4294967296):∀ x∈diffL a b,x.data.length≤4294967296:=by
 intro c hc
 rcases diff_mem hc with ⟨x,hx,rfl⟩ | ⟨y,hy,rfl⟩
 ·simp
 ·exact hb y hy
end Go.Proofs.YtihgmaoghbnnaaaGreatDoor
