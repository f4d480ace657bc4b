/- Several texts in one: MrW, MsA. -/
import Derived.Test.YtihgmaoghbnnaaaDoorProg
import Derived.Test.YtihgmaoghbnnaaaDoorQaG
import Derived.KernelRfl
import Derived.Test.YtihgmaoghbnnaaaDoorQaA
import Derived.Test.YtihgmaoghbnnaaaDoorQaB
set_option linter.unusedVariables false
set_option linter.unusedSimpArgs false
namespace Go.Proofs.YtihgmaoghbnnaaaDoor
open Go.RowKit

variable {S S':Nat→Prop}

section
variable {S:Nat→Prop}
theorem joinF_len {pub:List UInt8} {n:Int} (h:pub.length=32):(joinF pub n).pub.length=32:=by
 unfold joinF
 split
 ·exact h
 ·exact zero32_len
theorem join_ok (pub:List UInt8) (w:World) (hp:pub.length=32) :
  Calls Tryd.prog 13 #[.agg (byteVals pub).toArray,.int .i64 2] w (fun e w'=>e=.returned (.tuple #[ag (fcs pub 2 0 v0 v0),.int .i64 0])∧Ext w w'):=join_any pub 2 w hp
theorem join_no (pub:List UInt8) (w:World) (hp:pub.length=32) :
  Calls Tryd.prog 13 #[.agg (byteVals pub).toArray,.int .i64 0] w (fun e w'=>e=.returned (.tuple #[ag (fcs zero32 0 0 v0 v0),.int .i64 40])∧Ext w w'):=join_any pub 0 w hp
theorem recv_at {c e c1 o1 e1 p1:Value} (S:Nat→Prop) (pub:List UInt8) (n:Int) (L:List It) (E:List Vr) (v:Vr) (w:World) (p2:List UInt8) (m2 n2:Int) (L2:List It) (E2:List Vr) (z:Int) (hq:recE (fo pub n L E) v=z∧recF (fo pub n L E) v=⟨p2,m2,n2,L2,E2⟩)
  (hp:pub.length=32) (hL:RLs RIt 2 S w c L) (hE:RLs RVr 38 S w e E) (hv:RVp S w c1 o1 e1 p1 v) (hdi:∀ x∈L,x.data.length≤4294967296) (hde:∀ v∈E,∀ x∈v.chs,x.data.length≤4294967296) (hdv:∀ x∈v.chs,x.data.length≤4294967296) (hG:Glob w) :
  Calls Tryd.prog 14 #[ag (fcs pub 2 n c e),ag (vcs v.no v.state c1 v.sg.index o1 e1 p1)] w (fun en w'=>∃ c' e',en=.returned (.tuple #[ag (fcs p2 m2 n2 c' e'),.int .i64 z])∧RLs RIt 2 (Clip (fun b=>S b∨w.heap.size≤b) w') w' c' L2∧RLs RVr 38 (Clip (fun b=>S b∨w.heap.size≤b) w') w' e' E2∧p2.length=32∧Ext w w'):=by
 have h:=receive_at (S:=S) (c:=c) (e:=e) (fo pub n L E) v w ⟨hp,hL,hE⟩ hv hdi hde hdv hG
 rw [hq.1,hq.2] at h
 refine h.mono ?_
 rintro _ w' ⟨c',e',rfl,hR,hx⟩
 exact ⟨c',e',rfl,RLs.subB rIt hR.items (fun b hb h=>⟨h,hb⟩),RLs.subB rVr hR.early (fun b hb h=>⟨h,hb⟩),hR.pub,hx⟩
theorem wants_fo {S1 S2:Nat→Prop} {c e:Value} (pub:List UInt8) (n:Int) (L:List It) (E:List Vr) (w:World) (z:Int) (hz:n+1=z) (hp:pub.length=32) (hL:RLs RIt 2 S1 w c L) (hE:RLs RVr 38 S2 w e E) (h0:0≤n∧n≤4294967296) :
  Calls Tryd.prog 17 #[ag (fcs pub 2 n c e)] w (fun en w'=>en=.returned (vi z)∧Ext w w'):=by
 subst hz
 exact wants_at (S:=fun _=>True) (c:=c) (e:=e) (fo pub n L E) w ⟨hp,hL.sub rIt fun _ _=>trivial,hE.sub rVr fun _ _=>trivial⟩ h0
theorem samefo_fo {S1 S2 S3 S4:Nat→Prop} {c e c2 e2:Value} (p:List UInt8) (m n:Int) (L:List It) (E:List Vr) (w:World) (hp:p.length=32) (h1:RLs RIt 2 S1 w c L) (h2:RLs RVr 38 S2 w e E) (h3:RLs RIt 2 S3 w c2 L) (h4:RLs RVr 38 S4 w e2 E) :
  Calls Tryd.prog 16 #[ag (fcs p m n c e),ag (fcs p m n c2 e2)] w (fun en w'=>en=.returned (.bool true)∧Ext w w') :=
 samefo_at (S1:=fun _=>True) (S2:=fun _=>True) (⟨p,m,n,L,E⟩:Fo) w ⟨hp,h1.sub rIt fun _ _=>trivial,h2.sub rVr fun _ _=>trivial⟩ ⟨hp,h3.sub rIt fun _ _=>trivial,h4.sub rVr fun _ _=>trivial⟩
theorem verify_nil (pub:List UInt8) (w:World) (hp:pub.length=32) (hG:Glob w) :
  Calls Tryd.prog 22 #[.agg (byteVals pub).toArray,.int .i64 2,ag (vcs 0 zero32 v0 0 v0 v0 v0)] w (fun en w'=>en=.returned (vi 420)∧Ext w w') :=
 verifyv_at (S:=fun _=>True) pub 2 vrNil w ⟨zero32_len,RLs.nil _,⟨Fl.nil _,Fl.nil _,Fl.nil _,All32.nil,All32.nil,All32.nil⟩⟩ hp (fun x hx=>absurd hx (by simp [vrNil])) hG
end
theorem version_idx {sd:List UInt8} {a b:List It} (hs:1≤sd.length∧sd.length≤64) {n:Nat} (hn:n<2) {v:Vr} (hv:v=⟨(n+1:Nat),stateD b,diffL a b,signF sd 2 n n (msgV (n+1:Nat) (stateD b) (diffL a b))⟩):v.sg.index=n:=by
 have hm:(msgV (n+1:Nat) (stateD b) (diffL a b)).length=72:=msgV_len (stateD_len b)
 rw [hv]
 exact (sign_len ((sign_iff (kok hs (by omega) (by omega)) (by omega)).2 ⟨by omega,by omega⟩)).2.2
theorem duo_of {sd:List UInt8} {a b:List It} (hs:1≤sd.length∧sd.length≤64) (ha:checkE a=0) (hb:checkE b=0) (hl:a.length+b.length≤65536) {v1 v2:Vr} (h1:versionV sd 2 ((0:Nat):Int) 0 a (diffL [] a)=v1) (h2:versionV sd 2 ((1:Nat):Int) 1 b (diffL a b)=v2):Duo (pubF sd 2 0) a b v1 v2:=by
 obtain ⟨-,p2,p3⟩:=version_good (a:=[]) hs (n:=0) (by omega) check_nil ha (by simp;omega)
 obtain ⟨-,q2,q3⟩:=version_good (a:=a) hs (n:=1) (by omega) ha hb hl
 rw [h1] at p2 p3
 rw [h2] at q2 q3
 exact ⟨ha,hb,hl,by rw [p2];rfl,by rw [q2];rfl,by rw [p2],by rw [q2],by rw [p2],by rw [q2],p3,q3⟩
def oneL:List It:=[⟨[97],[120]⟩]
set_option maxRecDepth 100000 in
set_option maxHeartbeats 1000000 in
theorem sane42_any (w:World) (hG:Glob w) :
  Calls Tryd.prog 8 #[] w (fun en w'=>en=.returned (.bool true)∧Ext w w'):=by
 have hk:1≤([115,101,101,100]:List UInt8).length∧([115,101,101,100]:List UInt8).length≤64:=⟨by decide,by decide⟩
 refine calls_enter Tryd.func8 rfl rfl rfl fun _ hF=>?_
 refine wr fun K1 hK1=>?_
 refine hF.xv (.bool false)<|fun _ F3=>?_;clear hF
 refine wpList_nil (hK1 _ _ ?_);clear hK1
 refine wr fun K4 hK4=>?_
 refine F3.xn (fun g=>(vl (some ⟨g,0,none⟩) 4 4)) [(.int .u8 115),(.int .u8 101),(.int .u8 101),(.int .u8 100)] 5 (fun F=>rn_buildSlice (parts4 rfl rfl rfl rfl) (by kernel_rfl)) fun g5 w6 _ F12 z9 z10 b7 hx8=>?_;clear F3
 refine wpl_op (i:=1) rfl (o_mark (l:=[(115:UInt8),(101:UInt8),(101:UInt8),(100:UInt8)]) F12 rfl rfl rfl rfl rfl (F12.get rfl) Tryd.underlying52 Tryd.underlying5 b7 rfl (by omega) (by omega) ?_)
 intro w13 a16 F17 hf14 hg15;clear F12;have z18:=hg15.size
 refine wpl_op (i:=2) rfl (o_call F17 rfl rfl rfl rfl (rn_call (args2 (F17.get rfl) rfl) rfl (by kernel_rfl)) (new_at (v:=(vl (some ⟨g5,0,none⟩) 4 4)) (m:=4) ([(115:UInt8),(101:UInt8),(101:UInt8),(100:UInt8)]) 2 _ hf14 (by omega)) ?_)
 rw [(new_facts hk).1,(new_facts hk).2.1,(new_facts hk).2.2]
 rintro _ w23 ⟨A19,n20,c21,rfl,hf22,hx24⟩
 have z25:=(Fl.cel hf22).2.1;have z26:=Fl.blen hf22
 refine ⟨_,rfl,?_⟩;intro a27 F28;clear F17;have z29:=hx24.size
 have hf30:Fl (Clip (fun b=>w13.heap.size≤b) w23) w23 1 (vl A19 n20 c21) n20 (byteVals ([(115:UInt8),(101:UInt8),(101:UInt8),(100:UInt8)])):=hf22.clip
 refine F28.xm rfl<|Xv (.agg #[(vl A19 n20 c21),(vi 2),(vi 0)])<|Xv (vi 0)<|fun _ F36=>?_;clear F28
 refine F36.xz [v0,(vi 0),(vi 0)] 56 fun g37 w38 _ F44 z41 z42 b39 hx40=>?_;clear F36
 refine F44.xs rfl b39 (fun w45 b46 hg47=>?_);have z48:=hg47.size
 refine F44.xa rfl<|fun _ F50=>?_;clear F44
 refine wpList_nil (hK4 _ _ ?_);clear hK4
 have F51:=F50.k [0,1,2];clear F50
 refine wr fun K52 hK52=>?_
 refine F51.xw (.agg #[(vl A19 n20 c21),(vi 2),(vi 0)]) (fun F=>rb F rfl b46)<|fun _ F54=>?_;clear F51
 have d55:=(hf30.pres (((Pres.refl w23).ext hx40).gc hg47))
 refine F54.xc (pub_at (v:=(vl A19 n20 c21)) (m:=n20) ([(115:UInt8),(101:UInt8),(101:UInt8),(100:UInt8)]) 2 0 _ d55 (hG.ext ((((((Ext.refl w).trans hx8).gn hg15).trans hx24).trans hx40).gn hg47))) ?_
 rintro _ w56 ⟨rfl,hx57⟩
 refine ⟨_,rfl,?_⟩;intro a58 F59;clear F54;have z60:=hx57.size
 refine F59.xm rfl<|Xv (.agg (byteVals (pubF ([(115:UInt8),(101:UInt8),(101:UInt8),(100:UInt8)]) 2 0)).toArray)<|Xv (vi (pubE ([(115:UInt8),(101:UInt8),(101:UInt8),(100:UInt8)]) 2 0))<|fun _ F66=>?_;clear F59
 refine F66.xz (byteVals (List.replicate 32 0)) 24 fun g67 w68 _ F74 z71 z72 b69 hx70=>?_;clear F66
 refine F74.xs rfl b69 (fun w75 b76 hg77=>?_) (hk:=byteVals_len (pubF_len _ _ _));have z78:=hg77.size
 refine F74.xa rfl<|fun _ F80=>?_;clear F74
 refine wpList_nil (hK52 _ _ ?_);clear hK52
 have F81:=F80.k [0,1,2,3,4];clear F80
 refine wr fun K82 hK82=>?_
 refine F81.xn (fun g=>(vl (some ⟨g,0,none⟩) 1 1)) [(.int .u8 120)] 5 (fun F=>rn_buildSlice (parts1 rfl) (by kernel_rfl)) fun g83 w84 _ F90 z87 z88 b85 hx86=>?_;clear F81
 refine wpl_op (i:=1) rfl (o_mark (l:=[(120:UInt8)]) F90 rfl rfl rfl rfl rfl (F90.get rfl) Tryd.underlying52 Tryd.underlying5 b85 rfl (by omega) (by omega) ?_)
 intro w91 a94 F95 hf92 hg93;clear F90;have z96:=hg93.size
 refine F95.xw (.agg #[(strOf ([97])),(vl (some ⟨g83,0,none⟩) 1 1)]) (fun F=>rn_build (parts2 rfl (F.get rfl)) (by kernel_rfl))<|fun _ F98=>?_;clear F95
 refine F98.xn (fun g=>(vl (some ⟨g,0,none⟩) 1 1)) [(strOf ([97])),(vl (some ⟨g83,0,none⟩) 1 1)] 66 (fun F=>rn_buildSlice (parts1 (F.get rfl)) (build_wholeE (vs:=[(.agg #[(strOf ([97])),(vl (some ⟨g83,0,none⟩) 1 1)])]) El22 rfl rfl (fun z0 hz0=>by rw [List.mem_singleton.1 hz0];exact (show List.length [(strOf ([97])),(vl (some ⟨g83,0,none⟩) 1 1)]=2 from rfl)) (by decide) (by decide) (by simp [Value.cells]))) fun g99 w100 _ F106 z103 z104 b101 hx102=>?_;clear F98
 have d108:=(hf92.ext hx102)
 have hl107:RLs RIt 2 (Clip (fun _=>True) w100) w100 (vl (some ⟨g99,0,none⟩) 1 1) oneL:=RLs.clip rIt (RLs.one b101 (show List.length [(strOf ([97])),(vl (some ⟨g83,0,none⟩) 1 1)]=2 from rfl) (one_cons rfl (one_cons rfl one_nil)) trivial (⟨_,_,rfl,Fl.any d108⟩:RIt (fun _=>True) _ _ ⟨[97],[(120:UInt8)]⟩))
 refine F106.xa rfl<|fun _ F110=>?_;clear F106
 refine wpList_nil (hK82 _ _ ?_);clear hK82
 have F111:=F110.k [0,1,2,3,4,5];clear F110
 refine wr fun K112 hK112=>?_
 refine F111.xm rfl<|fun _ F114=>?_;clear F111
 refine wpl_op (i:=1) rfl (o_call F114 rfl rfl rfl rfl (rn_call (args2 rfl (F114.get rfl)) rfl (by kernel_rfl)) (diff_at (u:=v0) (v:=(vl (some ⟨g99,0,none⟩) 1 1)) ([]) oneL _ (RLs.nil _:RLs RIt 2 (fun _=>False) _ _ _) hl107 (show ∀ x∈([]:List It),x.data.length≤4294967296 from fun x hx=>absurd hx (by simp)) (show ∀ x∈oneL,x.data.length≤4294967296 by decide)) ?_)
 rw [(diffE_zero (show checkE []=0 from rfl) (show checkE oneL=0 by decide)).2,(diffE_zero (show checkE []=0 from rfl) (show checkE oneL=0 by decide)).1]
 rintro _ w118 ⟨A115,c116,rfl,hL117,hx119⟩
 refine ⟨_,rfl,?_⟩;intro a120 F121;clear F114;have z122:=hx119.size
 have hl123:RLs RCg 3 (Clip (fun z=>w100.heap.size≤z) w118) w118 (vl A115 ((diffL ([]) oneL).length) c116) (diffL ([]) oneL):=RLs.clip rCg hL117
 obtain ⟨-,z124,z125⟩:=RLs.at hL117
 refine F121.xm rfl<|Xv (vl A115 ((diffL ([]) oneL).length) c116)<|Xv (vi 0)<|Xa rfl<|Xa rfl<|fun _ F135=>?_;clear F121
 refine wpList_nil (hK112 _ _ ?_);clear hK112
 have F136:=F135.k [0,1,2,3,4,5,6,7];clear F135
 refine wr fun K137 hK137=>?_
 have b138:=(((((((b46.ext hx57).ext hx70).gn hg77).ext hx86).gn hg93).ext hx102).ext hx119)
 refine F136.xw (.agg #[(vl A19 n20 c21),(vi 2),(vi 0)]) (fun F=>rb F rfl b138)<|Xm rfl<|Xm rfl<|fun _ F144=>?_;clear F136
 have d145:=(hf30.pres ((((((((((Pres.refl w23).ext hx40).gc hg47).ext hx57).ext hx70).gc hg77).ext hx86).gc hg93).ext hx102).ext hx119))
 have d146:=(RLs.ext rIt hl107 hx119)
 have hv147:=version_good (sd:=[(115:UInt8),(101:UInt8),(101:UInt8),(100:UInt8)]) hk (n:=0) (by omega) (show checkE []=0 from rfl) (show checkE oneL=0 by decide) (by have h5:=(show ([]:List It).length≤12 by simp);have h6:=(show oneL.length≤12 by decide);omega)
 obtain ⟨vr148,hvr149⟩:∃ z,versionV ([(115:UInt8),(101:UInt8),(101:UInt8),(100:UInt8)]) 2 ((0:Nat):Int) 0 oneL (diffL ([]) oneL)=z:=⟨_,rfl⟩
 rw [hvr149] at hv147
 refine wpl_op (i:=3) rfl (o_call F144 rfl rfl rfl rfl (rn_call (args4 (F144.get rfl) rfl (F144.get rfl) (F144.get rfl)) rfl (by kernel_rfl)) (version_at (S:=fun _=>True) none 0 ([(115:UInt8),(101:UInt8),(101:UInt8),(100:UInt8)]) 2 ((0:Nat):Int) (0) oneL (diffL ([]) oneL) _ (Fl.any d145) (RLs.sub (S':=fun _=>True) rIt d146 fun _ _=>trivial) (RLs.sub (S':=fun _=>True) rCg hl123 fun _ _=>trivial) (show ∀ x∈oneL,x.data.length≤4294967296 by decide) (by have h6:=(show oneL.length≤12 by decide);omega) (diff_sm (show ∀ x∈([]:List It),x.data.length≤4294967296 from fun x hx=>absurd hx (by simp)) (show ∀ x∈oneL,x.data.length≤4294967296 by decide)) (hG.ext (((((((((((((Ext.refl w).trans hx8).gn hg15).trans hx24).trans hx40).gn hg47).trans hx57).trans hx70).gn hg77).trans hx86).gn hg93).trans hx102).trans hx119))) ?_)
 have hv1470:=hv147.1
 rw [hvr149,hv147.1,show keyS ([(115:UInt8),(101:UInt8),(101:UInt8),(100:UInt8)]) 2 ((0:Nat):Int) 0 oneL (diffL ([]) oneL)=[(115:UInt8),(101:UInt8),(101:UInt8),(100:UInt8)] from if_pos hv1470,show keyM ([(115:UInt8),(101:UInt8),(101:UInt8),(100:UInt8)]) 2 ((0:Nat):Int) 0 oneL (diffL ([]) oneL)=2 from if_pos hv1470,show keyU ([(115:UInt8),(101:UInt8),(101:UInt8),(100:UInt8)]) 2 ((0:Nat):Int) 0 oneL (diffL ([]) oneL)=((0:Nat):Int)+1 from if_pos hv1470]
 rintro _ w151 ⟨c153,o154,e155,p156,A157,n158,c159,rfl,hR160,hK161,hS162,hq163,hx152⟩
 obtain ⟨rfl,hkk⟩:=hq163 rfl;obtain ⟨rfl,rfl,rfl⟩:=Value.slice.inj hkk.symm
 have hvc150:vr148.chs=diffL ([]) oneL:=by rw [hv147.2.1]
 obtain ⟨A164,c165,rfl,z166,z167⟩:=Fl.form hS162.op
 obtain ⟨A168,c169,rfl,z170,z171⟩:=Fl.form hS162.cl
 obtain ⟨A172,c173,rfl,z174,z175⟩:=Fl.form hS162.path
 refine ⟨_,rfl,?_⟩;intro a176 F177;clear F144;have z178:=hx152.size
 have d179:=(RLs.ext rCg hl123 hx152)
 have hl180:RLs RCg 3 (Clip (fun z=>w100.heap.size≤z) w118) w151 (vl A115 ((diffL ([]) oneL).length) c116) vr148.chs:=by rw [hvc150];exact d179
 have hf181:Fl (Clip (fun b=>w118.heap.size≤b) w151) _ _ _ _ _:=Fl.subB hS162.op (fun _ h1 h2=>⟨h2,h1⟩)
 have hf182:Fl (Clip (fun b=>w118.heap.size≤b) w151) _ _ _ _ _:=Fl.subB hS162.cl (fun _ h1 h2=>⟨h2,h1⟩)
 have hf183:Fl (Clip (fun b=>w118.heap.size≤b) w151) _ _ _ _ _:=Fl.subB hS162.path (fun _ h1 h2=>⟨h2,h1⟩)
 refine F177.xm rfl<|Xv (ag ((vi vr148.no)::dg vr148.state [(vl A115 ((diffL ([]) oneL).length) c116),(vi vr148.sg.index),(vl A164 vr148.sg.op.length c165),(vl A168 vr148.sg.cl.length c169),(vl A172 vr148.sg.path.length c173)]))<|Xv (.agg #[(vl A19 n20 c21),(vi 2),(vi (1:Nat))])<|Xv (vi 0)<|fun _ F191=>?_;clear F177
 refine F191.xz vz 30 fun g192 w193 _ F199 z196 z197 b194 hx195=>?_;clear F191
 refine F199.xz [v0,(vi 0),(vi 0)] 56 fun g200 w201 _ F207 z204 z205 b202 hx203=>?_;clear F199
 have b208:=(b194.ext hx203)
 refine F207.xs rfl b208 (fun w209 b210 hg211=>?_) (hk:=len_dig1 hR160.st);have z212:=hg211.size
 have b216:=(b202.gn hg211)
 refine F207.xs rfl b216 (fun w213 b214 hg215=>?_);have z217:=hg215.size
 refine F207.xa rfl<|fun _ F219=>?_;clear F207
 refine wpList_nil (hK137 _ _ ?_);clear hK137
 have F220:=F219.k [0,1,2,3,4,5,6,7,8,9,10];clear F219
 refine wr fun K221 hK221=>?_
 refine F220.xm rfl<|fun _ F223=>?_;clear F220
 have d224:=(RLs.pres rIt hl107 (((((((Pres.refl w100).ext hx119).ext hx152).ext hx195).ext hx203).gc hg211).gc hg215))
 refine wpl_op (i:=1) rfl (o_call F223 rfl rfl rfl rfl (rn_call (args2 (F223.get rfl) rfl) rfl (by kernel_rfl)) (diff_at (u:=(vl (some ⟨g99,0,none⟩) 1 1)) (v:=v0) oneL ([]) _ d224 (RLs.nil _:RLs RIt 2 (fun _=>False) _ _ _) (show ∀ x∈oneL,x.data.length≤4294967296 by decide) (show ∀ x∈([]:List It),x.data.length≤4294967296 from fun x hx=>absurd hx (by simp))) ?_)
 rw [(diffE_zero (show checkE oneL=0 by decide) (show checkE []=0 from rfl)).2,(diffE_zero (show checkE oneL=0 by decide) (show checkE []=0 from rfl)).1]
 rintro _ w228 ⟨A225,c226,rfl,hL227,hx229⟩
 refine ⟨_,rfl,?_⟩;intro a230 F231;clear F223;have z232:=hx229.size
 have hl233:RLs RCg 3 (Clip (fun z=>w213.heap.size≤z) w228) w228 (vl A225 ((diffL oneL ([])).length) c226) (diffL oneL ([])):=RLs.clip rCg hL227
 obtain ⟨-,z234,z235⟩:=RLs.at hL227
 refine F231.xm rfl<|Xv (vl A225 ((diffL oneL ([])).length) c226)<|Xv (vi 0)<|Xa rfl<|Xa rfl<|fun _ F245=>?_;clear F231
 refine wpList_nil (hK221 _ _ ?_);clear hK221
 have F246:=F245.k [0,1,2,3,4,5,6,7,8,9,10,11,12];clear F245
 refine wr fun K247 hK247=>?_
 have b248:=(b214.ext hx229)
 refine F246.xw (.agg #[(vl A19 n20 c21),(vi 2),(vi (1:Nat))]) (fun F=>rb F rfl b248)<|fun _ F250=>?_;clear F246
 have b251:=((b210.gn hg215).ext hx229)
 refine F250.xw (ag ((vi vr148.no)::dg vr148.state [(vl A115 ((diffL ([]) oneL).length) c116),(vi vr148.sg.index),(vl A164 vr148.sg.op.length c165),(vl A168 vr148.sg.cl.length c169),(vl A172 vr148.sg.path.length c173)])) (fun F=>rb F rfl b251 (hk:=len_dig1 hR160.st))<|fun _ F253=>?_;clear F250
 refine F253.xn (fun g=>(vl (some ⟨g,0,none⟩) 1 1)) ((vi vr148.no)::dg vr148.state [(vl A115 ((diffL ([]) oneL).length) c116),(vi vr148.sg.index),(vl A164 vr148.sg.op.length c165),(vl A168 vr148.sg.cl.length c169),(vl A172 vr148.sg.path.length c173)]) 30 (fun F=>rn_buildSlice (parts1 (F.get rfl)) (build_wholeE (vs:=[(ag ((vi vr148.no)::dg vr148.state [(vl A115 ((diffL ([]) oneL).length) c116),(vi vr148.sg.index),(vl A164 vr148.sg.op.length c165),(vl A168 vr148.sg.cl.length c169),(vl A172 vr148.sg.path.length c173)]))]) El36 rfl rfl (fun z0 hz0=>by rw [List.mem_singleton.1 hz0];exact (show List.length ((vi vr148.no)::dg vr148.state [(vl A115 ((diffL ([]) oneL).length) c116),(vi vr148.sg.index),(vl A164 vr148.sg.op.length c165),(vl A168 vr148.sg.cl.length c169),(vl A172 vr148.sg.path.length c173)])=38 from (by simp [byteVals_len hR160.st]))) (by decide) (by decide) (by simp [Value.cells]))) fun g254 w255 _ F261 z258 z259 b256 hx257=>?_;clear F253
 have d263:=(RLs.pres rCg hl180 (((((((Pres.refl w151).ext hx195).ext hx203).gc hg211).gc hg215).ext hx229).ext hx257))
 have d264:=(hf181.pres (((((((Pres.refl w151).ext hx195).ext hx203).gc hg211).gc hg215).ext hx229).ext hx257))
 have d265:=(hf182.pres (((((((Pres.refl w151).ext hx195).ext hx203).gc hg211).gc hg215).ext hx229).ext hx257))
 have d266:=(hf183.pres (((((((Pres.refl w151).ext hx195).ext hx203).gc hg211).gc hg215).ext hx229).ext hx257))
 have hl262:RLs RVr 38 (Clip (fun _=>True) w255) w255 (vl (some ⟨g254,0,none⟩) 1 1) [vr148]:=RLs.clip rVr (RLs.one b256 (show List.length ((vi vr148.no)::dg vr148.state [(vl A115 ((diffL ([]) oneL).length) c116),(vi vr148.sg.index),(vl A164 vr148.sg.op.length c165),(vl A168 vr148.sg.cl.length c169),(vl A172 vr148.sg.path.length c173)])=38 from (by simp [byteVals_len hR160.st])) (one_cons rfl (one_app (byteVals_one _) (one_cons rfl (one_cons rfl (one_cons rfl (one_cons rfl (one_cons rfl one_nil))))))) trivial (⟨_,_,_,_,rfl,(⟨hR160.st,RLs.sub (S':=fun _=>True) rCg d263 fun _ _=>trivial,⟨Fl.any d264,Fl.any d265,Fl.any d266,hS162.o32,hS162.c32,hS162.p32⟩⟩:RVp (fun _=>True) _ _ _ _ _ vr148)⟩:RVr (fun _=>True) _ _ vr148))
 refine F261.xm rfl<|fun _ F268=>?_;clear F261
 have d269:=(hf30.pres (((((((((((((((((Pres.refl w23).ext hx40).gc hg47).ext hx57).ext hx70).gc hg77).ext hx86).gc hg93).ext hx102).ext hx119).ext hx152).ext hx195).ext hx203).gc hg211).gc hg215).ext hx229).ext hx257))
 have d270:=(RLs.ext rCg hl233 hx257)
 have hv271:=version_good (sd:=[(115:UInt8),(101:UInt8),(101:UInt8),(100:UInt8)]) hk (n:=1) (by omega) (show checkE oneL=0 by decide) (show checkE []=0 from rfl) (by have h5:=(show oneL.length≤12 by decide);have h6:=(show ([]:List It).length≤12 by simp);omega)
 obtain ⟨vr272,hvr273⟩:∃ z,versionV ([(115:UInt8),(101:UInt8),(101:UInt8),(100:UInt8)]) 2 ((1:Nat):Int) 1 ([]) (diffL oneL ([]))=z:=⟨_,rfl⟩
 rw [hvr273] at hv271
 refine wpl_op (i:=4) rfl (o_call F268 rfl rfl rfl rfl (rn_call (args4 (F268.get rfl) (F268.get rfl) rfl (F268.get rfl)) rfl (by kernel_rfl)) (version_at (S:=fun _=>True) (some ⟨g254,0,none⟩) 1 ([(115:UInt8),(101:UInt8),(101:UInt8),(100:UInt8)]) 2 ((1:Nat):Int) (1) ([]) (diffL oneL ([])) _ (Fl.any d269) (RLs.sub (S':=fun _=>True) rIt (RLs.nil _:RLs RIt 2 (fun _=>False) _ _ _) fun _ _=>trivial) (RLs.sub (S':=fun _=>True) rCg d270 fun _ _=>trivial) (show ∀ x∈([]:List It),x.data.length≤4294967296 from fun x hx=>absurd hx (by simp)) (by have h6:=(show ([]:List It).length≤12 by simp);omega) (diff_sm (show ∀ x∈oneL,x.data.length≤4294967296 by decide) (show ∀ x∈([]:List It),x.data.length≤4294967296 from fun x hx=>absurd hx (by simp))) (hG.ext ((((((((((((((((((((Ext.refl w).trans hx8).gn hg15).trans hx24).trans hx40).gn hg47).trans hx57).trans hx70).gn hg77).trans hx86).gn hg93).trans hx102).trans hx119).trans hx152).trans hx195).trans hx203).gn hg211).gn hg215).trans hx229).trans hx257))) ?_)
 have hv2710:=hv271.1
 rw [hvr273,hv271.1,show keyS ([(115:UInt8),(101:UInt8),(101:UInt8),(100:UInt8)]) 2 ((1:Nat):Int) 1 ([]) (diffL oneL ([]))=[(115:UInt8),(101:UInt8),(101:UInt8),(100:UInt8)] from if_pos hv2710,show keyM ([(115:UInt8),(101:UInt8),(101:UInt8),(100:UInt8)]) 2 ((1:Nat):Int) 1 ([]) (diffL oneL ([]))=2 from if_pos hv2710,show keyU ([(115:UInt8),(101:UInt8),(101:UInt8),(100:UInt8)]) 2 ((1:Nat):Int) 1 ([]) (diffL oneL ([]))=((1:Nat):Int)+1 from if_pos hv2710]
 rintro _ w275 ⟨c277,o278,e279,p280,A281,n282,c283,rfl,hR284,hK285,hS286,hq287,hx276⟩
 obtain ⟨rfl,hkk⟩:=hq287 rfl;obtain ⟨rfl,rfl,rfl⟩:=Value.slice.inj hkk.symm
 have hvc274:vr272.chs=diffL oneL ([]):=by rw [hv271.2.1]
 obtain ⟨A288,c289,rfl,z290,z291⟩:=Fl.form hS286.op
 obtain ⟨A292,c293,rfl,z294,z295⟩:=Fl.form hS286.cl
 obtain ⟨A296,c297,rfl,z298,z299⟩:=Fl.form hS286.path
 refine ⟨_,rfl,?_⟩;intro a300 F301;clear F268;have z302:=hx276.size
 have d303:=(RLs.ext rCg (RLs.ext rCg hl233 hx257) hx276)
 have hl304:RLs RCg 3 (Clip (fun z=>w213.heap.size≤z) w228) w275 (vl A225 ((diffL oneL ([])).length) c226) vr272.chs:=by rw [hvc274];exact d303
 have hf305:Fl (Clip (fun b=>w255.heap.size≤b) w275) _ _ _ _ _:=Fl.subB hS286.op (fun _ h1 h2=>⟨h2,h1⟩)
 have hf306:Fl (Clip (fun b=>w255.heap.size≤b) w275) _ _ _ _ _:=Fl.subB hS286.cl (fun _ h1 h2=>⟨h2,h1⟩)
 have hf307:Fl (Clip (fun b=>w255.heap.size≤b) w275) _ _ _ _ _:=Fl.subB hS286.path (fun _ h1 h2=>⟨h2,h1⟩)
 refine F301.xm rfl<|Xv (ag ((vi vr272.no)::dg vr272.state [(vl A225 ((diffL oneL ([])).length) c226),(vi vr272.sg.index),(vl A288 vr272.sg.op.length c289),(vl A292 vr272.sg.cl.length c293),(vl A296 vr272.sg.path.length c297)]))<|Xv (.agg #[(vl A19 n20 c21),(vi 2),(vi (2:Nat))])<|Xv (vi 0)<|fun _ F315=>?_;clear F301
 refine F315.xz vz 30 fun g316 w317 _ F323 z320 z321 b318 hx319=>?_;clear F315
 refine F323.xz [v0,(vi 0),(vi 0)] 56 fun g324 w325 _ F331 z328 z329 b326 hx327=>?_;clear F323
 have b332:=(b318.ext hx327)
 refine F331.xs rfl b332 (fun w333 b334 hg335=>?_) (hk:=len_dig1 hR284.st);have z336:=hg335.size
 have b340:=(b326.gn hg335)
 refine F331.xs rfl b340 (fun w337 b338 hg339=>?_);have z341:=hg339.size
 refine F331.xa rfl<|fun _ F343=>?_;clear F331
 refine wpList_nil (hK247 _ _ ?_);clear hK247
 have F344:=F343.k [0,1,2,3,4,5,6,7,8,9,10,11,12,13,15];clear F343
 refine wr fun K345 hK345=>?_
 have b346:=((((((((((((((((b76.ext hx86).gn hg93).ext hx102).ext hx119).ext hx152).ext hx195).ext hx203).gn hg211).gn hg215).ext hx229).ext hx257).ext hx276).ext hx319).ext hx327).gn hg335).gn hg339)
 refine F344.xw (.agg (byteVals (pubF ([(115:UInt8),(101:UInt8),(101:UInt8),(100:UInt8)]) 2 0)).toArray) (fun F=>rb F rfl b346 (hk:=byteVals_len (pubF_len _ _ _)))<|fun _ F348=>?_;clear F344
 refine F348.xc (join_ok (pubF ([(115:UInt8),(101:UInt8),(101:UInt8),(100:UInt8)]) 2 0) _ (pubF_len _ _ _)) ?_
 rintro _ w349 ⟨rfl,hx350⟩
 refine ⟨_,rfl,?_⟩;intro a351 F352;clear F348;have z353:=hx350.size
 refine F352.xm rfl<|Xv (ag (dg (pubF ([(115:UInt8),(101:UInt8),(101:UInt8),(100:UInt8)]) 2 0) [(vi 2),(vi 0),v0,v0]))<|Xv (vi 0)<|fun _ F359=>?_;clear F352
 refine F359.xz fz 41 fun g360 w361 _ F367 z364 z365 b362 hx363=>?_;clear F359
 refine F367.xs rfl b362 (fun w368 b369 hg370=>?_) (hk:=len_dig (pubF_len _ _ _));have z371:=hg370.size
 refine F367.xa rfl<|fun _ F373=>?_;clear F367
 refine wpList_nil (hK345 _ _ ?_);clear hK345
 have F374:=F373.k [0,1,2,3,4,5,6,7,8,9,10,11,12,13,15,16,17];clear F373
 refine wr fun K375 hK375=>?_
 have b376:=(((b346.ext hx350).ext hx363).gn hg370)
 refine F374.xw (.agg (byteVals (pubF ([(115:UInt8),(101:UInt8),(101:UInt8),(100:UInt8)]) 2 0)).toArray) (fun F=>rb F rfl b376 (hk:=byteVals_len (pubF_len _ _ _)))<|fun _ F378=>?_;clear F374
 refine F378.xc (join_no (pubF ([(115:UInt8),(101:UInt8),(101:UInt8),(100:UInt8)]) 2 0) _ (pubF_len _ _ _)) ?_
 rintro _ w379 ⟨rfl,hx380⟩
 refine ⟨_,rfl,?_⟩;intro a381 F382;clear F378;have z383:=hx380.size
 refine F382.xm rfl<|Xv (ag fz)<|Xv (vi 40)<|fun _ F389=>?_;clear F382
 refine F389.xz fz 41 fun g390 w391 _ F397 z394 z395 b392 hx393=>?_;clear F389
 refine F397.xs rfl b392 (fun w398 b399 hg400=>?_);have z401:=hg400.size
 refine F397.xa rfl<|fun _ F403=>?_;clear F397
 refine wpList_nil (hK375 _ _ ?_);clear hK375
 have F404:=F403.k [0,1,2,3,4,5,6,7,8,9,10,11,12,13,15,16,17,19];clear F403
 refine wr fun K405 hK405=>?_
 have b406:=(((b369.ext hx380).ext hx393).gn hg400)
 refine F404.xw (ag (dg (pubF ([(115:UInt8),(101:UInt8),(101:UInt8),(100:UInt8)]) 2 0) [(vi 2),(vi 0),v0,v0])) (fun F=>rb F rfl b406 (hk:=len_dig (pubF_len _ _ _)))<|fun _ F408=>?_;clear F404
 have b409:=(((((((b334.gn hg339).ext hx350).ext hx363).gn hg370).ext hx380).ext hx393).gn hg400)
 refine F408.xw (ag ((vi vr272.no)::dg vr272.state [(vl A225 ((diffL oneL ([])).length) c226),(vi vr272.sg.index),(vl A288 vr272.sg.op.length c289),(vl A292 vr272.sg.cl.length c293),(vl A296 vr272.sg.path.length c297)])) (fun F=>rb F rfl b409 (hk:=len_dig1 hR284.st))<|fun _ F411=>?_;clear F408
 have hD412:=duo_of hk (a:=oneL) (b:=[]) (by decide) rfl (by decide) hvr149 hvr273
 have d413:=(RLs.pres rCg hl304 (((((((((((Pres.refl w275).ext hx319).ext hx327).gc hg335).gc hg339).ext hx350).ext hx363).gc hg370).ext hx380).ext hx393).gc hg400))
 have d414:=(hf305.pres (((((((((((Pres.refl w275).ext hx319).ext hx327).gc hg335).gc hg339).ext hx350).ext hx363).gc hg370).ext hx380).ext hx393).gc hg400))
 have d415:=(hf306.pres (((((((((((Pres.refl w275).ext hx319).ext hx327).gc hg335).gc hg339).ext hx350).ext hx363).gc hg370).ext hx380).ext hx393).gc hg400))
 have d416:=(hf307.pres (((((((((((Pres.refl w275).ext hx319).ext hx327).gc hg335).gc hg339).ext hx350).ext hx363).gc hg370).ext hx380).ext hx393).gc hg400))
 refine wpl_op (i:=2) rfl (o_call F411 rfl rfl rfl rfl (rn_call (args2 (F411.get rfl) (F411.get rfl)) rfl (by kernel_rfl)) (recv_at (fun b=>b<w398.heap.size) (pubF ([(115:UInt8),(101:UInt8),(101:UInt8),(100:UInt8)]) 2 0) 0 ([]) ([]) vr272 _ (pubF [115,101,101,100] 2 0) 2 0 ([]) ([vr272]) 0 hD412.early (pubF_len _ _ _) (RLs.sub (S':=fun b=>b<w398.heap.size) rIt (RLs.nil _:RLs RIt 2 (fun _=>False) _ _ _) cb) (RLs.sub (S':=fun b=>b<w398.heap.size) rVr (RLs.nil _:RLs RVr 38 (fun _=>False) _ _ _) cb) (⟨hR284.st,(RLs.sub (S':=fun b=>b<w398.heap.size) rCg d413 cb),⟨Fl.sub (S':=fun b=>b<w398.heap.size) d414 cb,Fl.sub (S':=fun b=>b<w398.heap.size) d415 cb,Fl.sub (S':=fun b=>b<w398.heap.size) d416 cb,hS286.o32,hS286.c32,hS286.p32⟩⟩:RVp (fun b=>b<w398.heap.size) _ _ _ _ _ vr272) (show ∀ x∈([]:List It),x.data.length≤4294967296 from fun x hx=>absurd hx (by simp)) (fun v hv=>absurd hv (by simp)) (by rw [hv271.2.1];exact diff_sm (show ∀ x∈oneL,x.data.length≤4294967296 by decide) (show ∀ x∈([]:List It),x.data.length≤4294967296 from fun x hx=>absurd hx (by simp))) (hG.ext (((((((((((((((((((((((((((((((Ext.refl w).trans hx8).gn hg15).trans hx24).trans hx40).gn hg47).trans hx57).trans hx70).gn hg77).trans hx86).gn hg93).trans hx102).trans hx119).trans hx152).trans hx195).trans hx203).gn hg211).gn hg215).trans hx229).trans hx257).trans hx276).trans hx319).trans hx327).gn hg335).gn hg339).trans hx350).trans hx363).gn hg370).trans hx380).trans hx393).gn hg400))) ?_)
 rintro _ w417 ⟨c419,e420,rfl,hL421,hE422,hP423,hx418⟩
 obtain ⟨A424,k425,rfl,z426,z427⟩:∃ A k,c419=.slice A 0 k∧0≤k∧k≤9223372036854775807:=RLs.form hL421
 have hl428:RLs RIt 2 (Clip (fun b=>b<w398.heap.size∨w398.heap.size≤b) w417) w417 (vl A424 0 k425) ([]):=hL421
 obtain ⟨A429,k430,rfl,z431,z432⟩:∃ A k,e420=.slice A 1 k∧1≤k∧k≤9223372036854775807:=RLs.form hE422
 have hl433:RLs RVr 38 (Clip (fun b=>b<w398.heap.size∨w398.heap.size≤b) w417) w417 (vl A429 1 k430) ([vr272]):=hE422
 refine ⟨_,rfl,?_⟩;intro a434 F435;clear F411;have z436:=hx418.size
 refine F435.xm rfl<|Xv (ag (dg (pubF [115,101,101,100] 2 0) [(vi 2),(vi 0),(vl A424 0 k425),(vl A429 1 k430)]))<|Xv (vi 0)<|fun _ F442=>?_;clear F435
 refine F442.xz fz 41 fun g443 w444 _ F450 z447 z448 b445 hx446=>?_;clear F442
 refine F450.xs rfl b445 (fun w451 b452 hg453=>?_) (hk:=len_dig (pubF_len _ _ _));have z454:=hg453.size
 refine F450.xa rfl<|fun _ F456=>?_;clear F450
 refine wpList_nil (hK405 _ _ ?_);clear hK405
 have F457:=F456.k [0,1,2,3,4,5,6,7,8,9,10,11,12,13,15,16,17,19,20,21];clear F456
 refine wr fun K458 hK458=>?_
 refine F457.xw (ag (dg (pubF [115,101,101,100] 2 0) [(vi 2),(vi 0),(vl A424 0 k425),(vl A429 1 k430)])) (fun F=>rb F rfl b452 (hk:=len_dig (pubF_len _ _ _)))<|fun _ F460=>?_;clear F457
 have b461:=(((((((((((((((b251.ext hx257).ext hx276).ext hx319).ext hx327).gn hg335).gn hg339).ext hx350).ext hx363).gn hg370).ext hx380).ext hx393).gn hg400).ext hx418).ext hx446).gn hg453)
 refine F460.xw (ag ((vi vr148.no)::dg vr148.state [(vl A115 ((diffL ([]) oneL).length) c116),(vi vr148.sg.index),(vl A164 vr148.sg.op.length c165),(vl A168 vr148.sg.cl.length c169),(vl A172 vr148.sg.path.length c173)])) (fun F=>rb F rfl b461 (hk:=len_dig1 hR160.st))<|fun _ F463=>?_;clear F460
 have d464:=(RLs.pres rIt hl428 (((Pres.refl w417).ext hx446).gc hg453))
 have d465:=(RLs.pres rVr hl433 (((Pres.refl w417).ext hx446).gc hg453))
 have d466:=(RLs.pres rCg hl180 (((((((((((((((((((((Pres.refl w151).ext hx195).ext hx203).gc hg211).gc hg215).ext hx229).ext hx257).ext hx276).ext hx319).ext hx327).gc hg335).gc hg339).ext hx350).ext hx363).gc hg370).ext hx380).ext hx393).gc hg400).ext hx418).ext hx446).gc hg453))
 have d467:=(hf181.pres (((((((((((((((((((((Pres.refl w151).ext hx195).ext hx203).gc hg211).gc hg215).ext hx229).ext hx257).ext hx276).ext hx319).ext hx327).gc hg335).gc hg339).ext hx350).ext hx363).gc hg370).ext hx380).ext hx393).gc hg400).ext hx418).ext hx446).gc hg453))
 have d468:=(hf182.pres (((((((((((((((((((((Pres.refl w151).ext hx195).ext hx203).gc hg211).gc hg215).ext hx229).ext hx257).ext hx276).ext hx319).ext hx327).gc hg335).gc hg339).ext hx350).ext hx363).gc hg370).ext hx380).ext hx393).gc hg400).ext hx418).ext hx446).gc hg453))
 have d469:=(hf183.pres (((((((((((((((((((((Pres.refl w151).ext hx195).ext hx203).gc hg211).gc hg215).ext hx229).ext hx257).ext hx276).ext hx319).ext hx327).gc hg335).gc hg339).ext hx350).ext hx363).gc hg370).ext hx380).ext hx393).gc hg400).ext hx418).ext hx446).gc hg453))
 refine wpl_op (i:=2) rfl (o_call F463 rfl rfl rfl rfl (rn_call (args2 (F463.get rfl) (F463.get rfl)) rfl (by kernel_rfl)) (recv_at (fun b=>b<w451.heap.size) (pubF [115,101,101,100] 2 0) 0 ([]) ([vr272]) vr148 _ (pubF [115,101,101,100] 2 0) 2 2 ([]) ([]) 0 hD412.late (pubF_len _ _ _) (RLs.sub (S':=fun b=>b<w451.heap.size) rIt d464 cb) (RLs.sub (S':=fun b=>b<w451.heap.size) rVr d465 cb) (⟨hR160.st,(RLs.sub (S':=fun b=>b<w451.heap.size) rCg d466 cb),⟨Fl.sub (S':=fun b=>b<w451.heap.size) d467 cb,Fl.sub (S':=fun b=>b<w451.heap.size) d468 cb,Fl.sub (S':=fun b=>b<w451.heap.size) d469 cb,hS162.o32,hS162.c32,hS162.p32⟩⟩:RVp (fun b=>b<w451.heap.size) _ _ _ _ _ vr148) (show ∀ x∈([]:List It),x.data.length≤4294967296 from fun x hx=>absurd hx (by simp)) (fun v hv=>by rw [List.mem_singleton.1 hv];exact (by rw [hv271.2.1];exact diff_sm (show ∀ x∈oneL,x.data.length≤4294967296 by decide) (show ∀ x∈([]:List It),x.data.length≤4294967296 from fun x hx=>absurd hx (by simp)))) (by rw [hv147.2.1];exact diff_sm (show ∀ x∈([]:List It),x.data.length≤4294967296 from fun x hx=>absurd hx (by simp)) (show ∀ x∈oneL,x.data.length≤4294967296 by decide)) (hG.ext ((((((((((((((((((((((((((((((((((Ext.refl w).trans hx8).gn hg15).trans hx24).trans hx40).gn hg47).trans hx57).trans hx70).gn hg77).trans hx86).gn hg93).trans hx102).trans hx119).trans hx152).trans hx195).trans hx203).gn hg211).gn hg215).trans hx229).trans hx257).trans hx276).trans hx319).trans hx327).gn hg335).gn hg339).trans hx350).trans hx363).gn hg370).trans hx380).trans hx393).gn hg400).trans hx418).trans hx446).gn hg453))) ?_)
 rintro _ w470 ⟨c472,e473,rfl,hL474,hE475,hP476,hx471⟩
 obtain ⟨A477,k478,rfl,z479,z480⟩:∃ A k,c472=.slice A 0 k∧0≤k∧k≤9223372036854775807:=RLs.form hL474
 have hl481:RLs RIt 2 (Clip (fun b=>b<w451.heap.size∨w451.heap.size≤b) w470) w470 (vl A477 0 k478) ([]):=hL474
 obtain ⟨A482,k483,rfl,z484,z485⟩:∃ A k,e473=.slice A 0 k∧0≤k∧k≤9223372036854775807:=RLs.form hE475
 have hl486:RLs RVr 38 (Clip (fun b=>b<w451.heap.size∨w451.heap.size≤b) w470) w470 (vl A482 0 k483) ([]):=hE475
 refine ⟨_,rfl,?_⟩;intro a487 F488;clear F463;have z489:=hx471.size
 refine F488.xm rfl<|Xv (ag (dg (pubF [115,101,101,100] 2 0) [(vi 2),(vi 2),(vl A477 0 k478),(vl A482 0 k483)]))<|Xv (vi 0)<|fun _ F495=>?_;clear F488
 refine F495.xz fz 41 fun g496 w497 _ F503 z500 z501 b498 hx499=>?_;clear F495
 refine F503.xs rfl b498 (fun w504 b505 hg506=>?_) (hk:=len_dig (pubF_len _ _ _));have z507:=hg506.size
 refine F503.xa rfl<|fun _ F509=>?_;clear F503
 refine wpList_nil (hK458 _ _ ?_);clear hK458
 have F510:=F509.k [0,1,2,3,4,5,6,7,8,9,10,11,12,13,15,16,17,19,20,21,22,23];clear F509
 refine wr fun K511 hK511=>?_
 refine F510.xw (ag (dg (pubF [115,101,101,100] 2 0) [(vi 2),(vi 2),(vl A477 0 k478),(vl A482 0 k483)])) (fun F=>rb F rfl b505 (hk:=len_dig (pubF_len _ _ _)))<|fun _ F513=>?_;clear F510
 have b514:=(((b461.ext hx471).ext hx499).gn hg506)
 refine F513.xw (ag ((vi vr148.no)::dg vr148.state [(vl A115 ((diffL ([]) oneL).length) c116),(vi vr148.sg.index),(vl A164 vr148.sg.op.length c165),(vl A168 vr148.sg.cl.length c169),(vl A172 vr148.sg.path.length c173)])) (fun F=>rb F rfl b514 (hk:=len_dig1 hR160.st))<|fun _ F516=>?_;clear F513
 have d517:=(RLs.pres rIt hl481 (((Pres.refl w470).ext hx499).gc hg506))
 have d518:=(RLs.pres rVr hl486 (((Pres.refl w470).ext hx499).gc hg506))
 have d519:=(RLs.pres rCg hl180 ((((((((((((((((((((((((Pres.refl w151).ext hx195).ext hx203).gc hg211).gc hg215).ext hx229).ext hx257).ext hx276).ext hx319).ext hx327).gc hg335).gc hg339).ext hx350).ext hx363).gc hg370).ext hx380).ext hx393).gc hg400).ext hx418).ext hx446).gc hg453).ext hx471).ext hx499).gc hg506))
 have d520:=(hf181.pres ((((((((((((((((((((((((Pres.refl w151).ext hx195).ext hx203).gc hg211).gc hg215).ext hx229).ext hx257).ext hx276).ext hx319).ext hx327).gc hg335).gc hg339).ext hx350).ext hx363).gc hg370).ext hx380).ext hx393).gc hg400).ext hx418).ext hx446).gc hg453).ext hx471).ext hx499).gc hg506))
 have d521:=(hf182.pres ((((((((((((((((((((((((Pres.refl w151).ext hx195).ext hx203).gc hg211).gc hg215).ext hx229).ext hx257).ext hx276).ext hx319).ext hx327).gc hg335).gc hg339).ext hx350).ext hx363).gc hg370).ext hx380).ext hx393).gc hg400).ext hx418).ext hx446).gc hg453).ext hx471).ext hx499).gc hg506))
 have d522:=(hf183.pres ((((((((((((((((((((((((Pres.refl w151).ext hx195).ext hx203).gc hg211).gc hg215).ext hx229).ext hx257).ext hx276).ext hx319).ext hx327).gc hg335).gc hg339).ext hx350).ext hx363).gc hg370).ext hx380).ext hx393).gc hg400).ext hx418).ext hx446).gc hg453).ext hx471).ext hx499).gc hg506))
 refine wpl_op (i:=2) rfl (o_call F516 rfl rfl rfl rfl (rn_call (args2 (F516.get rfl) (F516.get rfl)) rfl (by kernel_rfl)) (recv_at (fun b=>b<w504.heap.size) (pubF [115,101,101,100] 2 0) 2 ([]) ([]) vr148 _ zero32 0 0 ([]) ([]) 420 hD412.again2.1 (pubF_len _ _ _) (RLs.sub (S':=fun b=>b<w504.heap.size) rIt d517 cb) (RLs.sub (S':=fun b=>b<w504.heap.size) rVr d518 cb) (⟨hR160.st,(RLs.sub (S':=fun b=>b<w504.heap.size) rCg d519 cb),⟨Fl.sub (S':=fun b=>b<w504.heap.size) d520 cb,Fl.sub (S':=fun b=>b<w504.heap.size) d521 cb,Fl.sub (S':=fun b=>b<w504.heap.size) d522 cb,hS162.o32,hS162.c32,hS162.p32⟩⟩:RVp (fun b=>b<w504.heap.size) _ _ _ _ _ vr148) (show ∀ x∈([]:List It),x.data.length≤4294967296 from fun x hx=>absurd hx (by simp)) (fun v hv=>absurd hv (by simp)) (by rw [hv147.2.1];exact diff_sm (show ∀ x∈([]:List It),x.data.length≤4294967296 from fun x hx=>absurd hx (by simp)) (show ∀ x∈oneL,x.data.length≤4294967296 by decide)) (hG.ext (((((((((((((((((((((((((((((((((((((Ext.refl w).trans hx8).gn hg15).trans hx24).trans hx40).gn hg47).trans hx57).trans hx70).gn hg77).trans hx86).gn hg93).trans hx102).trans hx119).trans hx152).trans hx195).trans hx203).gn hg211).gn hg215).trans hx229).trans hx257).trans hx276).trans hx319).trans hx327).gn hg335).gn hg339).trans hx350).trans hx363).gn hg370).trans hx380).trans hx393).gn hg400).trans hx418).trans hx446).gn hg453).trans hx471).trans hx499).gn hg506))) ?_)
 rintro _ w523 ⟨c525,e526,rfl,hL527,hE528,hP529,hx524⟩
 obtain ⟨A530,k531,rfl,z532,z533⟩:∃ A k,c525=.slice A 0 k∧0≤k∧k≤9223372036854775807:=RLs.form hL527
 have hl534:RLs RIt 2 (Clip (fun b=>b<w504.heap.size∨w504.heap.size≤b) w523) w523 (vl A530 0 k531) ([]):=hL527
 obtain ⟨A535,k536,rfl,z537,z538⟩:∃ A k,e526=.slice A 0 k∧0≤k∧k≤9223372036854775807:=RLs.form hE528
 have hl539:RLs RVr 38 (Clip (fun b=>b<w504.heap.size∨w504.heap.size≤b) w523) w523 (vl A535 0 k536) ([]):=hE528
 refine ⟨_,rfl,?_⟩;intro a540 F541;clear F516;have z542:=hx524.size
 refine F541.xm rfl<|Xv (ag (dg zero32 [(vi 0),(vi 0),(vl A530 0 k531),(vl A535 0 k536)]))<|Xv (vi 420)<|fun _ F548=>?_;clear F541
 refine F548.xz fz 41 fun g549 w550 _ F556 z553 z554 b551 hx552=>?_;clear F548
 refine F556.xs rfl b551 (fun w557 b558 hg559=>?_);have z560:=hg559.size
 refine F556.xa rfl<|fun _ F562=>?_;clear F556
 refine wpList_nil (hK511 _ _ ?_);clear hK511
 have F563:=F562.k [0,1,2,3,4,5,6,7,8,9,10,11,12,13,15,16,17,19,20,21,22,23,25];clear F562
 refine wr fun K564 hK564=>?_
 refine F563.xm rfl<|Xv (.bool true)<|Xm rfl<|Xg (vi (pubE ([(115:UInt8),(101:UInt8),(101:UInt8),(100:UInt8)]) 2 0))<|Xg (.bool (decide (((pubE ([(115:UInt8),(101:UInt8),(101:UInt8),(100:UInt8)]) 2 0):Int)=(0:Int))))<|Xv (.bool (decide (((pubE ([(115:UInt8),(101:UInt8),(101:UInt8),(100:UInt8)]) 2 0):Int)=(0:Int))))<|Xm rfl<|fun _ F578=>?_;clear F563
 refine qg 7 (vi 0) F578 ((decide_eq_true (pub_u hk (by decide) (by decide)).2):decide (((pubE ([(115:UInt8),(101:UInt8),(101:UInt8),(100:UInt8)]) 2 0):Int)=(0:Int))=true) (rn_move (F578.get rfl)) fun _ F581=>?_;clear F578
 refine qg 8 (.bool true) F581 ((decide_eq_true (pub_u hk (by decide) (by decide)).2):decide (((pubE ([(115:UInt8),(101:UInt8),(101:UInt8),(100:UInt8)]) 2 0):Int)=(0:Int))=true) (rn_eql' (F581.get rfl) rfl (by decide)) fun _ F583=>?_;clear F581
 refine F583.xw (.bool true) (fun F=>rn_pickT (c_true F rfl ((decide_eq_true (pub_u hk (by decide) (by decide)).2):decide (((pubE ([(115:UInt8),(101:UInt8),(101:UInt8),(100:UInt8)]) 2 0):Int)=(0:Int))=true)) (F.get rfl))<|Xm rfl<|Xg (vi 0)<|Xg (.bool true)<|Xv (.bool true)<|Xm rfl<|Xg (vp g192)<|fun _ F597=>?_;clear F583
 have b598:=(((b514.ext hx524).ext hx552).gn hg559)
 refine F597.xgw (vi vr148.no) (fun F=>rl F rfl ((b598.rule.1 0).trans rfl))<|Xg (.bool (decide ((vr148.no:Int)=(1:Int))))<|Xv (.bool (decide ((vr148.no:Int)=(1:Int))))<|Xm rfl<|fun _ F606=>?_;clear F597
 refine qg 20 (.pointer (some ⟨g192,34,none⟩)) F606 ((decide_eq_true (congrArg Vr.no hv147.2.1)):decide ((vr148.no:Int)=(1:Int))=true) (rn_field Tryd.underlying30 rfl (by kernel_rfl) (F606.get rfl) rfl) fun _ F609=>?_;clear F606
 refine qg 21 (.pointer (some ⟨g192,34,none⟩)) F609 ((decide_eq_true (congrArg Vr.no hv147.2.1)):decide ((vr148.no:Int)=(1:Int))=true) (rn_field Tryd.underlying28 rfl (by kernel_rfl) (F609.get rfl) rfl) fun _ F611=>?_;clear F609
 refine qg 22 (vi vr148.sg.index) F611 ((decide_eq_true (congrArg Vr.no hv147.2.1)):decide ((vr148.no:Int)=(1:Int))=true) (rl F611 rfl ((b598.rule.1 34).trans ((at_app (k:=1) (byteVals_len hR160.st)).trans rfl))) fun _ F613=>?_;clear F611
 refine qg 23 (.bool (decide ((vr148.sg.index:Int)=(0:Int)))) F613 ((decide_eq_true (congrArg Vr.no hv147.2.1)):decide ((vr148.no:Int)=(1:Int))=true) (rn_eql (F613.get rfl) rfl) fun _ F615=>?_;clear F613
 refine F615.xw (.bool (decide ((vr148.sg.index:Int)=(0:Int)))) (fun F=>rn_pickT (c_true F rfl ((decide_eq_true (congrArg Vr.no hv147.2.1)):decide ((vr148.no:Int)=(1:Int))=true)) (F.get rfl))<|Xm rfl<|fun _ F619=>?_;clear F615
 refine qg 26 (vi 0) F619 ((decide_eq_true (version_idx hk (n:=0) (by decide) hv147.2.1)):decide ((vr148.sg.index:Int)=(0:Int))=true) (rn_move (F619.get rfl)) fun _ F622=>?_;clear F619
 refine qg 27 (.bool true) F622 ((decide_eq_true (version_idx hk (n:=0) (by decide) hv147.2.1)):decide ((vr148.sg.index:Int)=(0:Int))=true) (rn_eql' (F622.get rfl) rfl (by decide)) fun _ F624=>?_;clear F622
 refine F624.xw (.bool true) (fun F=>rn_pickT (c_true F rfl ((decide_eq_true (version_idx hk (n:=0) (by decide) hv147.2.1)):decide ((vr148.sg.index:Int)=(0:Int))=true)) (F.get rfl))<|Xm rfl<|Xg (vi 0)<|Xg (.bool true)<|Xv (.bool true)<|Xm rfl<|Xg (vi 0)<|Xg (.bool true)<|Xv (.bool true)<|Xm rfl<|Xg (vi 40)<|Xg (.bool true)<|Xv (.bool true)<|Xm rfl<|fun _ F652=>?_;clear F624
 have b653:=(((((((((b406.ext hx418).ext hx446).gn hg453).ext hx471).ext hx499).gn hg506).ext hx524).ext hx552).gn hg559)
 refine F652.xgw (ag (dg (pubF ([(115:UInt8),(101:UInt8),(101:UInt8),(100:UInt8)]) 2 0) [(vi 2),(vi 0),v0,v0])) (fun F=>rb F rfl b653 (hk:=len_dig (pubF_len _ _ _)))<|fun _ F655=>?_;clear F652
 refine wpl_op (i:=43) rfl (o_call F655 rfl (wanted_guard rfl rfl rfl F655 rfl rfl rfl) rfl rfl (rn_call (args1 (F655.get rfl)) rfl (by kernel_rfl)) (wants_fo (pubF ([(115:UInt8),(101:UInt8),(101:UInt8),(100:UInt8)]) 2 0) 0 ([]) ([]) _ 1 rfl (pubF_len _ _ _) (RLs.nil _:RLs RIt 2 (fun _=>False) _ _ _) (RLs.nil _:RLs RVr 38 (fun _=>False) _ _ _) (by omega)) ?_)
 rintro _ w656 ⟨rfl,hx657⟩
 refine ⟨_,rfl,?_⟩;intro a658 F659;clear F655;have z660:=hx657.size
 refine F659.xg (.bool true)<|Xv (.bool true)<|Xa rfl<|fun _ F666=>?_;clear F659
 refine wpList_nil (hK564 _ _ ?_);clear hK564
 have F667:=F666.k [0,1,2,3,4,5,6,7,8,9,10,11,12,13,15,16,17,19,20,21,22,23,25,26];clear F666
 refine wr fun K668 hK668=>?_
 refine F667.xm rfl<|Xm rfl<|Xg (vi 0)<|Xg (.bool true)<|Xv (.bool true)<|Xm rfl<|Xg (.pointer (some ⟨g443,33,none⟩))<|fun _ F682=>?_;clear F667
 have b683:=(((((((b452.ext hx471).ext hx499).gn hg506).ext hx524).ext hx552).gn hg559).ext hx657)
 refine F682.xgw (vi 0) (fun F=>rl F rfl ((b683.rule.1 33).trans ((at_app (k:=1) (byteVals_len (pubF_len _ _ _))).trans rfl)))<|Xg (.bool true)<|Xv (.bool true)<|Xm rfl<|Xg (.pointer (some ⟨g443,35,none⟩))<|Xgw (vl A429 1 k430) (fun F=>rl F rfl ((b683.rule.1 35).trans ((at_app (k:=3) (byteVals_len (pubF_len _ _ _))).trans rfl)))<|Xg (vi 1)<|Xg (.bool true)<|Xv (.bool true)<|Xm rfl<|Xg (vi 0)<|Xg (.bool true)<|Xv (.bool true)<|Xm rfl<|Xg (.pointer (some ⟨g496,33,none⟩))<|fun _ F713=>?_;clear F682
 have b714:=((((b505.ext hx524).ext hx552).gn hg559).ext hx657)
 refine F713.xgw (vi 2) (fun F=>rl F rfl ((b714.rule.1 33).trans ((at_app (k:=1) (byteVals_len (pubF_len _ _ _))).trans rfl)))<|Xg (.bool true)<|Xv (.bool true)<|Xm rfl<|Xg (.pointer (some ⟨g496,34,none⟩))<|Xgw (vl A477 0 k478) (fun F=>rl F rfl ((b714.rule.1 34).trans ((at_app (k:=2) (byteVals_len (pubF_len _ _ _))).trans rfl)))<|Xg (vi 0)<|Xg (.bool true)<|Xv (.bool true)<|Xm rfl<|Xg (.pointer (some ⟨g496,35,none⟩))<|Xgw (vl A482 0 k483) (fun F=>rl F rfl ((b714.rule.1 35).trans ((at_app (k:=3) (byteVals_len (pubF_len _ _ _))).trans rfl)))<|Xg (vi 0)<|Xg (.bool true)<|Xv (.bool true)<|Xm rfl<|Xg (vi 420)<|Xg (.bool true)<|Xv (.bool true)<|Xm rfl<|fun _ F754=>?_;clear F713
 have b755:=(((((((((((((b376.ext hx380).ext hx393).gn hg400).ext hx418).ext hx446).gn hg453).ext hx471).ext hx499).gn hg506).ext hx524).ext hx552).gn hg559).ext hx657)
 refine F754.xgw (.agg (byteVals (pubF ([(115:UInt8),(101:UInt8),(101:UInt8),(100:UInt8)]) 2 0)).toArray) (fun F=>rb F rfl b755 (hk:=byteVals_len (pubF_len _ _ _)))<|Xgw (ag vz) (fun F=>rn_build (parts0 ) (by kernel_rfl))<|fun _ F759=>?_;clear F754
 refine wpl_op (i:=44) rfl (o_call F759 rfl (wanted_guard rfl rfl rfl F759 rfl rfl rfl) rfl rfl (rn_call (args3 (F759.get rfl) rfl (F759.get rfl)) rfl (by kernel_rfl)) (verify_nil (pubF ([(115:UInt8),(101:UInt8),(101:UInt8),(100:UInt8)]) 2 0) _ (pubF_len _ _ _) (hG.ext (((((((((((((((((((((((((((((((((((((((((Ext.refl w).trans hx8).gn hg15).trans hx24).trans hx40).gn hg47).trans hx57).trans hx70).gn hg77).trans hx86).gn hg93).trans hx102).trans hx119).trans hx152).trans hx195).trans hx203).gn hg211).gn hg215).trans hx229).trans hx257).trans hx276).trans hx319).trans hx327).gn hg335).gn hg339).trans hx350).trans hx363).gn hg370).trans hx380).trans hx393).gn hg400).trans hx418).trans hx446).gn hg453).trans hx471).trans hx499).gn hg506).trans hx524).trans hx552).gn hg559).trans hx657))) ?_)
 rintro _ w760 ⟨rfl,hx761⟩
 refine ⟨_,rfl,?_⟩;intro a762 F763;clear F759;have z764:=hx761.size
 refine F763.xg (.bool true)<|Xv (.bool true)<|Xa rfl<|fun _ F770=>?_;clear F763
 refine wpList_nil (hK668 _ _ ?_);clear hK668
 have F771:=F770.k [0,1,2,3,4,5,6,7,8,9,10,11,12,13,15,16,17,19,20,21,22,23,25,26];clear F770
 refine wp_ret ?_
 refine ret1 F771 rfl rfl ?_
 exact ⟨rfl,((((((((((((((((((((((((((((((((((((((((((Ext.refl w).trans hx8).gn hg15).trans hx24).trans hx40).gn hg47).trans hx57).trans hx70).gn hg77).trans hx86).gn hg93).trans hx102).trans hx119).trans hx152).trans hx195).trans hx203).gn hg211).gn hg215).trans hx229).trans hx257).trans hx276).trans hx319).trans hx327).gn hg335).gn hg339).trans hx350).trans hx363).gn hg370).trans hx380).trans hx393).gn hg400).trans hx418).trans hx446).gn hg453).trans hx471).trans hx499).gn hg506).trans hx524).trans hx552).gn hg559).trans hx657).trans hx761)⟩

end Go.Proofs.YtihgmaoghbnnaaaDoor

namespace Go.Proofs.YtihgmaoghbnnaaaDoor
open Go.RowKit

variable {S S':Nat→Prop}

theorem join_check {pub:List UInt8} {n:Int} (h:joinE n=0):checkFE (joinF pub n)=0:=by
 have hF:joinF pub n=⟨pub,n,0,[],[]⟩:=if_pos h
 have hn:¬ (n<1∨4096<n):=fun q=>by unfold joinE at h;rw [if_pos q] at h;cases h
 rw [hF]
 exact (if_neg hn).trans ((if_neg (by simp)).trans ((if_neg (fun q=>q rfl)).trans ((if_neg (by simp)).trans ((if_neg (by simp)).trans ((if_neg (fun q=>q (asc_nil _))).trans rfl)))))
theorem join_items (pub:List UInt8) (n:Int):(joinF pub n).items=[]∧(joinF pub n).early=[]:=by
 unfold joinF;split <;> exact ⟨rfl,rfl⟩
theorem jcheck_at (pub:List UInt8) (n:Int) (w:World) (h:joinE n=0) (hp:pub.length=32) (hG:Glob w) :
  Calls Tryd.prog 19 #[ag (fcs (joinF pub n).pub (joinF pub n).many (joinF pub n).no v0 v0)] w (fun en w'=>en=.returned (vi 0)∧Ext w w'):=by
 have h1:=fcheck_at (S:=fun _=>True) (c:=.slice none 0 0) (e:=.slice none 0 0) (joinF pub n) w ⟨joinF_len hp,by rw [(join_items pub n).1];exact RLs.nil _,by rw [(join_items pub n).2];exact RLs.nil _⟩ (by rw [(join_items pub n).1];exact fun x hx=>absurd hx (by simp)) (by rw [(join_items pub n).2];exact fun x hx=>absurd hx (by simp)) hG
 rw [join_check h] at h1
 exact h1
set_option maxRecDepth 100000 in
set_option maxHeartbeats 1000000 in
theorem join42_any (pub:List UInt8) (many:Int) (w:World) (hp:pub.length=32) (hG:Glob w) :
  Calls Tryd.prog 5 #[.agg (byteVals pub).toArray,.int .i64 many] w (fun en w'=>en=.returned (.bool true)∧Ext w w'):=by
 refine calls_enter Tryd.func5 rfl rfl rfl fun _ hF=>?_
 refine wr fun K1 hK1=>?_
 refine hF.xb rfl fun g2 w3 _ F9 z6 z7 b4 hx5=>?_;clear hF
 refine F9.xv (.bool false)<|fun _ F11=>?_;clear F9
 refine wpList_nil (hK1 _ _ ?_);clear hK1
 refine wp_seq_k fun K12 hK12=>?_
 refine wr fun K13 hK13=>?_
 refine wpl_op (i:=0) rfl (o_call F11 rfl rfl rfl rfl (rn_call (args0 ) rfl (by kernel_rfl)) (sane42_any _ (hG.ext ((Ext.refl w).trans hx5))) ?_)
 rintro _ w14 ⟨rfl,hx15⟩
 refine ⟨_,rfl,?_⟩;intro a16 F17;clear F11;have z18:=hx15.size
 refine F17.xw (.bool false) (fun F=>rn_not' (F.get rfl) rfl)<|fun _ F20=>?_;clear F17
 refine wpList_nil (hK13 _ _ ?_);clear hK13
 refine F20.cf ?_
 refine wp_skip ?_
 refine hK12 _ _ ?_;clear hK12
 refine wr fun K21 hK21=>?_
 have b22:=(b4.ext hx15)
 refine F20.xw (.agg (byteVals pub).toArray) (fun F=>rb F rfl b22 (hk:=byteVals_len hp))<|Xm rfl<|fun _ F26=>?_;clear F20
 refine F26.xc (join_any pub many _ hp) ?_
 rintro _ w27 ⟨rfl,hx28⟩
 refine ⟨_,rfl,?_⟩;intro a29 F30;clear F26;have z31:=hx28.size
 refine F30.xm rfl<|Xv (ag (dg ((joinF pub many).pub) [(vi ((joinF pub many).many)),(vi ((joinF pub many).no)),v0,v0]))<|Xv (vi (joinE many))<|fun _ F37=>?_;clear F30
 refine F37.xz fz 41 fun g38 w39 _ F45 z42 z43 b40 hx41=>?_;clear F37
 refine F45.xs rfl b40 (fun w46 b47 hg48=>?_) (hk:=len_dig (joinF_len hp));have z49:=hg48.size
 refine F45.xa rfl<|fun _ F51=>?_;clear F45
 refine wpList_nil (hK21 _ _ ?_);clear hK21
 have F52:=F51.k [0,1,2,4,10,5,6];clear F51
 refine wr fun K53 hK53=>?_
 have b54:=(((b22.ext hx28).ext hx41).gn hg48)
 refine F52.xw (.agg (byteVals pub).toArray) (fun F=>rb F rfl b54 (hk:=byteVals_len hp))<|Xm rfl<|fun _ F58=>?_;clear F52
 refine F58.xc (rjoin_any pub many _ hp) ?_
 rintro _ w59 ⟨rfl,hx60⟩
 refine ⟨_,rfl,?_⟩;intro a61 F62;clear F58;have z63:=hx60.size
 refine F62.xm rfl<|Xv (ag (dg ((joinF pub many).pub) [(vi ((joinF pub many).many)),(vi ((joinF pub many).no)),v0,v0]))<|Xv (vi (joinE many))<|fun _ F69=>?_;clear F62
 refine F69.xz fz 41 fun g70 w71 _ F77 z74 z75 b72 hx73=>?_;clear F69
 refine F77.xs rfl b72 (fun w78 b79 hg80=>?_) (hk:=len_dig (joinF_len hp));have z81:=hg80.size
 refine F77.xa rfl<|fun _ F83=>?_;clear F77
 refine wpList_nil (hK53 _ _ ?_);clear hK53
 have F84:=F83.k [0,1,2,4,10,5,6,7,8];clear F83
 refine wr fun K85 hK85=>?_
 have b86:=(((b47.ext hx60).ext hx73).gn hg80)
 refine F84.xw (ag (dg ((joinF pub many).pub) [(vi ((joinF pub many).many)),(vi ((joinF pub many).no)),v0,v0])) (fun F=>rb F rfl b86 (hk:=len_dig (joinF_len hp)))<|Xw (ag (dg ((joinF pub many).pub) [(vi ((joinF pub many).many)),(vi ((joinF pub many).no)),v0,v0])) (fun F=>rb F rfl b79 (hk:=len_dig (joinF_len hp)))<|fun _ F90=>?_;clear F84
 refine F90.xc (samefo_fo ((joinF pub many).pub) ((joinF pub many).many) ((joinF pub many).no) ([]) ([]) _ (joinF_len hp) (RLs.nil _:RLs RIt 2 (fun _=>False) _ _ _) (RLs.nil _:RLs RVr 38 (fun _=>False) _ _ _) (RLs.nil _:RLs RIt 2 (fun _=>False) _ _ _) (RLs.nil _:RLs RVr 38 (fun _=>False) _ _ _)) ?_
 rintro _ w91 ⟨rfl,hx92⟩
 refine ⟨_,rfl,?_⟩;intro a93 F94;clear F90;have z95:=hx92.size
 refine F94.xm rfl<|Xg (vi (joinE many))<|Xg (vi (joinE many))<|Xg (.bool (decide (((joinE many):Int)=((joinE many):Int))))<|Xv (.bool (decide (((joinE many):Int)=((joinE many):Int))))<|Xm rfl<|fun _ F107=>?_;clear F94
 refine qg 9 (vi (joinE many)) F107 ((decide_eq_true rfl):decide (((joinE many):Int)=((joinE many):Int))=true) (rn_move (F107.get rfl)) fun _ F110=>?_;clear F107
 refine qg 10 (.bool (decide (((joinE many):Int)≠(0:Int)))) F110 ((decide_eq_true rfl):decide (((joinE many):Int)=((joinE many):Int))=true) (rn_neq (F110.get rfl) rfl) fun _ F112=>?_;clear F110
 refine qg 11 (.bool (decide (((joinE many):Int)≠(0:Int)))) F112 ((decide_eq_true rfl):decide (((joinE many):Int)=((joinE many):Int))=true) (rn_move (F112.get rfl)) fun _ F114=>?_;clear F112
 by_cases hc115:((joinE many):Int)≠(0:Int)
 ·skip
  refine F114.xu<|Xu<|Xu<|fun _ F121=>?_;clear F114
  refine qg 15 (.bool true) F121 ((decide_eq_true rfl):decide (((joinE many):Int)=((joinE many):Int))=true) (rn_pickT (c_true F121 rfl (decide_eq_true hc115)) rfl) fun _ F123=>?_;clear F121
  refine F123.xw (.bool true) (fun F=>rn_pickT (c_true F rfl ((decide_eq_true rfl):decide (((joinE many):Int)=((joinE many):Int))=true)) (F.get rfl))<|Xa rfl<|fun _ F127=>?_;clear F123
  refine wpList_nil (hK85 _ _ ?_);clear hK85
  have F128:=F127.k [0,1,2,4,10,5,6,7,8];clear F127
  refine wp_ret ?_
  refine ret1 F128 rfl rfl ?_
  exact ⟨rfl,((((((((((Ext.refl w).trans hx5).trans hx15).trans hx28).trans hx41).gn hg48).trans hx60).trans hx73).gn hg80).trans hx92)⟩
 have b129:=(b86.ext hx92)
 refine F114.xgw (ag (dg ((joinF pub many).pub) [(vi ((joinF pub many).many)),(vi ((joinF pub many).no)),v0,v0])) (fun F=>rb F rfl b129 (hk:=len_dig (joinF_len hp)))<|fun _ F131=>?_;clear F114
 refine wpl_op (i:=13) rfl (o_call F131 rfl (wanted_guard rfl rfl rfl F131 rfl (decide_eq_false hc115) rfl) rfl rfl (rn_call (args1 (F131.get rfl)) rfl (by kernel_rfl)) (jcheck_at pub many _ (Decidable.not_not.1 (of_decide_eq_false (decide_eq_false hc115))) hp (hG.ext ((((((((((Ext.refl w).trans hx5).trans hx15).trans hx28).trans hx41).gn hg48).trans hx60).trans hx73).gn hg80).trans hx92))) ?_)
 rintro _ w132 ⟨rfl,hx133⟩
 refine ⟨_,rfl,?_⟩;intro a134 F135;clear F131;have z136:=hx133.size
 refine F135.xg (.bool true)<|fun _ F138=>?_;clear F135
 refine qg 15 (.bool true) F138 ((decide_eq_true rfl):decide (((joinE many):Int)=((joinE many):Int))=true) (rn_pickF (c_false F138 rfl (decide_eq_false hc115)) (F138.get rfl)) fun _ F140=>?_;clear F138
 refine F140.xw (.bool true) (fun F=>rn_pickT (c_true F rfl ((decide_eq_true rfl):decide (((joinE many):Int)=((joinE many):Int))=true)) (F.get rfl))<|Xa rfl<|fun _ F144=>?_;clear F140
 refine wpList_nil (hK85 _ _ ?_);clear hK85
 have F145:=F144.k [0,1,2,4,10,5,6,7,8];clear F144
 refine wp_ret ?_
 refine ret1 F145 rfl rfl ?_
 exact ⟨rfl,(((((((((((Ext.refl w).trans hx5).trans hx15).trans hx28).trans hx41).gn hg48).trans hx60).trans hx73).gn hg80).trans hx92).trans hx133)⟩

end Go.Proofs.YtihgmaoghbnnaaaDoor
