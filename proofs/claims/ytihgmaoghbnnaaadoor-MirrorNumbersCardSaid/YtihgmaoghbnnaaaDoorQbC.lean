/- Several texts in one: DigE, DigF, Tree, DigG, DigH, DigI, DigJ, DigK, SealA, RefC3, SealB, SealC, CloneB, SealD, SealE, SealG, SealH. -/
import Derived.Test.YtihgmaoghbnnaaaDoorProg
import Derived.Test.YtihgmaoghbnnaaaDoorQbB
import Derived.Test.YtihgmaoghbnnaaaDoorQbA
import Derived.KernelRfl
import Derived.Test.YtihgmaoghbnnaaaDoorShelf
import Derived.Lib.ItoaNum
import Derived.WalkSpells
import Derived.Handy
set_option linter.unusedVariables false
set_option linter.unusedSimpArgs false
namespace Go.Proofs.YtihgmaoghbnnaaaDoor
open Go.RowKit

variable {S S':Nat→Prop}

theorem absorb_at (g:Nat) (h:List UInt32) (b:List UInt8) (n:UInt64) (last:Bool) {A:Option Addr} {c m:Nat} (w:World) (hb:Blk w g 141 (u32Vals h)) (hh:h.length=8) (hf:Fl S w 1 (vl A m c) m (byteVals b)) (h64:m≤64) (hG:Glob w) :
  Calls Tryd.prog 86 #[.pointer (some ⟨g,0,none⟩),.slice A m c,.int .u64 (n.toNat:Nat),.bool last] w (fun e w'=>e=.returned (.tuple #[])∧Blk w' g 141 (u32Vals (absorb h b n last))∧w.grownBy w' (some g)):=by
 have hm:m=b.length:=by have:=hf.len;simp [byteVals] at this;omega
 subst hm
 exact absorb_any g h A c b n last w hb hh hf h64 hG
theorem feed_step {h:List UInt32} {n:Nat} {b:List UInt8} {h0:List UInt32} {b0:List UInt8} (hm:¬ b.length≤64) (e:feed h n b=feed h0 0 b0):feed (absorb h (b.take 64) (UInt64.ofNat n+64) false) (n+64) (b.drop 64)=feed h0 0 b0:=by
 rw [← e,show feed h n b=feed (absorb h (b.take 64) (UInt64.ofNat (n+64)) false) (n+64) (b.drop 64) from by rw [feed,if_neg hm],UInt64.ofNat_add];rfl
theorem feed_last {h:List UInt32} {n m:Nat} {b:List UInt8} {b0:List UInt8} (hl:b.length=m) (hm:b.length≤64) (e:feed h n b=feed first 0 b0):out (absorb h b (UInt64.ofNat n+UInt64.ofNat m) true)=bsum b0:=by
 subst hl
 rw [bsum,← e,feed,if_pos hm,UInt64.ofNat_add]
def outTo (h:List UInt32) (k:Nat):List UInt8:=(List.range k).map (outByte h)++List.replicate (32 - k) 0
theorem outTo_len {h:List UInt32} {k:Nat} (hk:k≤32):(outTo h k).length=32:=by simp [outTo];omega
theorem outTo_all (h:List UInt32):outTo h 32=out h:=by simp [outTo,out]
theorem outTo_step {h:List UInt32} {k:Nat} {d d':List UInt8} (hk:k<32) (hd:d=outTo h k) (he:d'=d.set k (h.getD (k / 4) 0 >>> UInt32.ofNat (8*(k % 4))).toUInt8):d'=outTo h (k+1):=by
 rw [he,hd,outTo,outTo,List.set_append_right _ _ (by simp),List.range_succ,List.map_append,List.append_assoc]
 congr 1
 simp only [List.length_map,List.length_range,Nat.sub_self]
 rw [show 32 - k=(32 - (k+1))+1 by omega,List.replicate_succ]
 rfl
theorem bsum_len (b:List UInt8):(bsum b).length=32:=by simp [bsum,out]
def sliceLen:Value→Nat | .slice _ n _=>n | _=>0

set_option maxRecDepth 100000 in
set_option maxHeartbeats 1000000 in
theorem sum_any (A:Option Addr) (c:Nat) (b:List UInt8) (w:World) (hf:Fl S w 1 (vl A b.length c) b.length (byteVals b)) (hG:Glob w) :
  Calls Tryd.prog 79 #[.slice A b.length c] w (fun e w'=>e=.returned (.agg (byteVals (bsum b)).toArray)∧Ext w w'):=by
 have hc:Fl (Clip S w) w 1 (vl A b.length c) b.length (byteVals b):=hf.clip
 have hcc:=(Fl.cel hc).2.1
 refine calls_enter Tryd.func79 rfl rfl rfl fun _ hF=>?_
 refine wr fun K1 hK1=>?_
 refine hF.xz (byteVals (List.replicate 32 0)) 24 fun g2 w3 _ F9 z6 z7 b4 hx5=>?_;clear hF
 refine wpList_nil (hK1 _ _ ?_);clear hK1
 refine wr fun K10 hK10=>?_
 refine F9.xw (.agg (u32Vals iv).toArray) (fun F=>rn_loadN (cs:=u32Vals iv) rfl Tryd.underlying141 rfl (sk inf141 (u32Vals_len iv_len)) (fun j v hv=>(hG.ext ((Ext.refl w).trans hx5)).at0 j v hv))<|fun _ F12=>?_;clear F9
 refine F12.xz (u32Vals (List.replicate 8 0)) 141 fun g13 w14 _ F20 z17 z18 b15 hx16=>?_;clear F12
 refine F20.xs rfl b15 (fun w21 b22 hg23=>?_) (hk:=u32Vals_len iv_len) (hl:=u32Vals_len (show List.length (List.replicate 8 0)=_ from List.length_replicate)) (h1:=u32Vals_one _);have z24:=hg23.size
 refine wpList_nil (hK10 _ _ ?_);clear hK10
 refine wr fun K25 hK25=>?_
 refine F20.xw (.pointer (some ⟨g13,0+0,none⟩)) (fun F=>rn_indexArr Tryd.underlying141 inf140 (F.get rfl) rfl (by omega:(0:Int)≤0) (by omega:(0:Int)<((8:Nat):Int)))<|Xw (.int .u32 ((iv.getD 0 0).toNat:Nat)) (fun F=>rl F rfl (blk_word b22 (by omega) (by have:=(show List.length iv=_ from iv_len);omega)))<|Xw (.int .u32 (((iv.getD 0 0)^^^(16842784:UInt32)).toNat:Nat)) (fun F=>rn_xor32 (a:=(iv.getD 0 0)) (b:=(16842784:UInt32)) (F.get rfl) rfl)<|Xw (.pointer (some ⟨g13,0+0,none⟩)) (fun F=>rn_indexArr Tryd.underlying141 inf140 (F.get rfl) rfl (by omega:(0:Int)≤0) (by omega:(0:Int)<((8:Nat):Int)))<|fun _ F33=>?_;clear F20
 refine wpl_op (i:=4) rfl (o_store1 (new:=(u32Vals (iv.set 0 ((iv.getD 0 0)^^^(16842784:UInt32))))) F33 rfl rfl rfl rfl (F33.get rfl) (F33.get rfl) b22 inf140 (by rw [u32Vals_len iv_len];omega) rfl (u32Vals_set (by omega)) ?_)
 intro w34 b35 hg36;have z37:=hg36.size
 refine wpList_nil (hK25 _ _ ?_);clear hK25
 have F38:=F33.k [0,2,3];clear F33
 refine wr fun K39 hK39=>?_
 refine F38.xv (.int .u64 0)<|fun _ F41=>?_;clear F38
 refine wpList_nil (hK39 _ _ ?_);clear hK39
 refine wp_seq_k fun K42 hK42=>?_
 refine wp_block ?_
 have d43:=(hc.pres (((((Pres.refl w).ext hx5).ext hx16).gc hg23).gc hg36))
 have b44:=(((b4.ext hx16).gn hg23).gn hg36)
 refine wp_loop (fun a' W=>∃ (A1:Option Addr) (c1:Nat) (m1:Nat) (b1:List UInt8) (n1:Nat) (hh:List UInt32),Sl 45 [(0,(vl A1 m1 c1)),(2,(vp g2)),(3,(vp g13)),(4,(.int .u64 ((UInt64.ofNat n1).toNat:Nat)))] a'∧hh.length=8∧b1.length=m1∧feed hh n1 b1=feed first 0 b∧Ext w W∧Blk W g2 24 (byteVals (List.replicate 32 0))∧Blk W g13 141 (u32Vals hh)∧Fl (Clip S w) W 1 (vl A1 m1 c1) m1 (byteVals b1)∧w34.heap.size≤W.heap.size) (fun a' _=>(sliceLen (a'.eval (.tmp 0)))) ⟨A,c,b.length,b,0,iv.set 0 ((iv.getD 0 0)^^^(16842784:UInt32)),((((F41.nil.cons (q_get F41 (t:=4) rfl (by first | rfl | (congr 1;omega) | (simp only [UInt64.ofNat_add];rfl)))).cons (q_get F41 (t:=3) rfl rfl)).cons (q_get F41 (t:=2) rfl rfl)).cons (q_get F41 (t:=0) rfl (by first | rfl | (congr 1;omega) | (simp only [UInt64.ofNat_add];rfl)))),rfl,rfl,rfl,(((((Ext.refl w).trans hx5).trans hx16).gn hg23).gn hg36),b44,b35,d43,(Nat.le_refl _)⟩ ?_
 clear F41
 rintro a45 w46 ⟨A1,c1,m1,b1,n1,hh,F47,hp49,hp50,hp51,hx48,b52,b53,hf54,hf55⟩
 have hL56:=F47
 have z57:=hx48.size
 have z58:=b52.lt
 have z59:=b53.lt
 have hhl:hh.length=8:=hp49
 have hcc1:=(Fl.cel hf54).2.1
 refine wp_seq_k fun K60 hK60=>?_
 refine wr fun K61 hK61=>?_
 refine F47.xm rfl<|Xv (vi (m1:Nat))<|Xv (.bool (decide ((64:Int)<((m1:Nat):Int))))<|fun _ F67=>?_;clear F47
 refine wpList_nil (hK61 _ _ ?_);clear hK61
 by_cases hc68:(64:Int)<((m1:Nat):Int)
 ·skip
  refine F67.ct ?_
  refine wp_skip ?_
  refine hK60 _ _ ?_;clear hK60
  refine wp_block ?_
  refine wr fun K69 hK69=>?_
  refine F67.xm rfl<|Xw (.int .u64 (((UInt64.ofNat n1)+(64:UInt64)).toNat:Nat)) (fun F=>rn_add64 (a:=(UInt64.ofNat n1)) (b:=(64:UInt64)) (F.get rfl) rfl)<|Xa rfl<|fun _ F75=>?_;clear F67
  refine wpList_nil (hK69 _ _ ?_);clear hK69
  have F76:=F75.k [0,2,3,4,13];clear F75
  refine wr fun K77 hK77=>?_
  refine F76.xm rfl<|Xw (vl A1 64 c1) (fun F=>rn_sliceHi Tryd.underlying52 inf5 (F.get rfl) rfl (by omega:(0:Int)≤64) (by omega:(64:Int)≤((c1:Nat):Int)))<|Xm rfl<|fun _ F83=>?_;clear F76
  refine wpl_op (i:=3) rfl (o_call F83 rfl rfl rfl rfl (rn_call (args4 (F83.get rfl) (F83.get rfl) (F83.get rfl) rfl) rfl (by kernel_rfl)) (absorb_at g13 hh (b1.take 64) ((UInt64.ofNat n1)+(64:UInt64)) false _ b53 hhl (Fl.take_eq (j:=64) hf54 (by omega) (byteVals_take1 _ _)) (by omega) (hG.ext ((Ext.refl w).trans hx48))) ?_)
  rintro _ w84 ⟨rfl,b85,hg86⟩
  refine ⟨_,rfl,?_⟩;intro a87 F88;clear F83;have z89:=hg86.size
  refine wpList_nil (hK77 _ _ ?_);clear hK77
  have F90:=F88.k [0,2,3,4,13];clear F88
  refine wp_region_lit ?_
  refine F90.xm rfl<|fun _ F92=>?_;clear F90
  have d96:=(hf54.pres ((Pres.refl w46).gc hg86))
  obtain ⟨b93,o94,hA95,-⟩:=Fl.at d96 (by omega)
  refine F92.xw (vl (some ⟨b93,o94+64*1,none⟩) (m1 - 64) (c1 - 64)) (fun F=>rn_sliceLo (l:=64) Tryd.underlying52 inf5 ((F.get rfl).trans (by rw [hA95])) rfl (by omega:64≤m1) (by omega:64<c1))<|Xa rfl<|fun _ F100=>?_;clear F92
  refine wpList_nil ?_
  have b101:=(b52.gn hg86)
  refine ⟨⟨(some ⟨b93,o94+64*1,none⟩),c1 - 64,m1 - 64,b1.drop 64,(n1+64),absorb hh (b1.take 64) ((UInt64.ofNat n1)+(64:UInt64)) false,((((F100.nil.cons (q_get F100 (t:=4) rfl (by first | rfl | (congr 1;omega) | (simp only [UInt64.ofNat_add];rfl)))).cons (q_get F100 (t:=3) rfl rfl)).cons (q_get F100 (t:=2) rfl rfl)).cons (q_get F100 (t:=0) rfl (by first | rfl | (congr 1;omega) | (simp only [UInt64.ofNat_add];rfl)))),(absorb_len hhl),(by rw [List.length_drop];omega),(feed_step (by omega) hp51),(((Ext.refl w).trans hx48).gn hg86),b101,b85,(Fl.drop_eq (j:=64) d96 hA95 (by omega) (byteVals_drop1 _ _)),(by omega)⟩,?_⟩
  rw [F100.get (t:=0) rfl,hL56.get (t:=0) rfl];simp only [sliceLen];omega
 refine F67.cf ?_
 refine wp_exit ?_
 refine exit_then ?_
 refine exit_then ?_
 refine exit_here ?_
 refine hK42 _ _ ?_;clear hK42
 refine wr fun K102 hK102=>?_
 refine F67.xm rfl<|Xm rfl<|Xm rfl<|Xv (vi (m1:Nat))<|Xw (.int .u64 ((UInt64.ofNat m1).toNat:Nat)) (fun F=>rn_convW Tryd.underlying3 Tryd.underlying135 (F.get rfl) (cvi_64 m1 (by omega)))<|Xw (.int .u64 (((UInt64.ofNat n1)+(UInt64.ofNat m1)).toNat:Nat)) (fun F=>rn_add64 (a:=(UInt64.ofNat n1)) (b:=(UInt64.ofNat m1)) (F.get rfl) (F.get rfl))<|fun _ F114=>?_;clear F67
 refine wpl_op (i:=6) rfl (o_call F114 rfl rfl rfl rfl (rn_call (args4 (F114.get rfl) (F114.get rfl) (F114.get rfl) rfl) rfl (by kernel_rfl)) (absorb_at g13 hh b1 ((UInt64.ofNat n1)+(UInt64.ofNat m1)) true _ b53 hhl hf54 (by omega) (hG.ext ((Ext.refl w).trans hx48))) ?_)
 rintro _ w115 ⟨rfl,b116,hg117⟩
 refine ⟨_,rfl,?_⟩;intro a118 F119;clear F114;have z120:=hg117.size
 refine wpList_nil (hK102 _ _ ?_);clear hK102
 have F121:=F119.k [0,2,3,4,13];clear F119
 refine wp_seq_k fun K122 hK122=>?_
 refine wr fun K123 hK123=>?_
 refine F121.xv (vi 0)<|fun _ F125=>?_;clear F121
 refine wpList_nil (hK123 _ _ ?_);clear hK123
 refine wp_block ?_
 obtain ⟨v126,e127⟩:∃ z,z=absorb hh b1 ((UInt64.ofNat n1)+(UInt64.ofNat m1)) true:=⟨_,rfl⟩
 have hl128:v126.length=8:=(congrArg List.length e127).trans (absorb_len hhl)
 rw [← e127] at b116
 have d129:=(hf54.pres ((Pres.refl w46).gc hg117))
 have b130:=(b52.gn hg117)
 refine wp_loop (fun a' W=>∃ (k2:Nat) (dd:List UInt8),Sl 45 [(0,(vl A1 m1 c1)),(2,(vp g2)),(3,(vp g13)),(4,(.int .u64 ((UInt64.ofNat n1).toNat:Nat))),(13,(.bool (decide ((64:Int)<((m1:Nat):Int))))),(29,(vi (k2:Nat)))] a'∧k2≤32∧dd=outTo v126 k2∧Ext w W∧Blk W g2 24 (byteVals dd)∧Blk W g13 141 (u32Vals v126)∧Fl (Clip S w) W 1 (vl A1 m1 c1) m1 (byteVals b1)∧w115.heap.size≤W.heap.size) (fun a' _=>32 - (intOf (a'.eval (.tmp 29))).toNat) ⟨0,(List.replicate 32 0),((((((F125.nil.cons (q_get F125 (t:=29) rfl (by first | rfl | (congr 1;omega) | (simp only [UInt64.ofNat_add];rfl)))).cons (q_get F125 (t:=13) rfl rfl)).cons (q_get F125 (t:=4) rfl rfl)).cons (q_get F125 (t:=3) rfl rfl)).cons (q_get F125 (t:=2) rfl rfl)).cons (q_get F125 (t:=0) rfl rfl)),(by omega),rfl,(((Ext.refl w).trans hx48).gn hg117),b130,b116,d129,(Nat.le_refl _)⟩ ?_
 clear F125
 rintro a131 w132 ⟨k2,dd,F133,hp135,hp136,hx134,b137,b138,hf139,hf140⟩
 have hL141:=F133
 have z142:=hx134.size
 have z143:=b137.lt
 have z144:=b138.lt
 have hdl:dd.length=32:=by rw [hp136];exact outTo_len (by omega)
 refine wr fun K145 hK145=>?_
 refine F133.xv (.bool (decide (((k2:Nat):Int)<(32:Int))))<|fun _ F147=>?_;clear F133
 refine wpList_nil (hK145 _ _ ?_);clear hK145
 refine wp_seq_k fun K148 hK148=>?_
 by_cases hc149:((k2:Nat):Int)<(32:Int)
 ·skip
  refine F147.ct ?_
  refine wp_skip ?_
  refine hK148 _ _ ?_;clear hK148
  refine wp_seq_k fun K150 hK150=>?_
  refine wp_block ?_
  refine wr fun K151 hK151=>?_
  refine F147.xm rfl<|Xa rfl<|fun _ F155=>?_;clear F147
  refine wpList_nil (hK151 _ _ ?_);clear hK151
  refine wp_region_lit ?_
  refine F155.xm rfl<|Xm rfl<|Xw (vi (k2 / 4:Nat)) (fun F=>rn_quoN (a:=k2) (b:=4) (F.get rfl) rfl (by omega) (by omega))<|Xw (.pointer (some ⟨g13,0+(k2 / 4),none⟩)) (fun F=>rn_indexArr Tryd.underlying141 inf140 (F.get rfl) (F.get rfl) (by omega:(0:Int)≤(k2 / 4:Nat)) (by omega:((k2 / 4:Nat):Int)<((8:Nat):Int)))<|Xw (.int .u32 ((v126.getD (k2 / 4) 0).toNat:Nat)) (fun F=>rl F rfl (blk_word b138 (by omega) (by have:=(show List.length v126=_ from hl128);omega)))<|Xm rfl<|Xw (vi (k2 % 4:Nat)) (fun F=>rn_remN (a:=k2) (b:=4) (F.get rfl) rfl (by omega))<|Xw (vi (8*(k2 % 4):Nat)) (fun F=>rn_mulN (a:=8) (b:=k2 % 4) rfl (F.get rfl) (by omega))<|Xw (.int .u32 (((v126.getD (k2 / 4) 0) >>> UInt32.ofNat (8*(k2 % 4))).toNat:Nat)) (fun F=>rn_shr32 (a:=(v126.getD (k2 / 4) 0)) (n:=(8*(k2 % 4))) (F.get rfl) (F.get rfl) (by omega))<|Xw (.int .u8 ((((v126.getD (k2 / 4) 0) >>> UInt32.ofNat (8*(k2 % 4))).toUInt8).toNat:Nat)) (fun F=>rn_convW Tryd.underlying140 Tryd.underlying5 (F.get rfl) (cv32_8 ((v126.getD (k2 / 4) 0) >>> UInt32.ofNat (8*(k2 % 4)))))<|Xw (.pointer (some ⟨g2,0+k2,none⟩)) (fun F=>rn_indexArr Tryd.underlying24 inf5 (F.get rfl) (F.get rfl) (by omega:(0:Int)≤(k2:Nat)) (by omega:((k2:Nat):Int)<((32:Nat):Int)))<|fun _ F177=>?_;clear F155
  refine wpl_op (i:=11) rfl (o_store1 (new:=(byteVals (dd.set k2 (((v126.getD (k2 / 4) 0) >>> UInt32.ofNat (8*(k2 % 4))).toUInt8)))) F177 rfl rfl rfl rfl (F177.get rfl) (F177.get rfl) b137 inf5 (by rw [byteVals_len hdl];omega) rfl (byteVals_set (by omega)) ?_)
  intro w178 b179 hg180;have z181:=hg180.size
  refine wpList_nil (hK150 _ _ ?_);clear hK150
  have F182:=F177.k [0,2,3,4,13,29,30,5];clear F177
  refine wp_region_lit ?_
  refine F182.xv (vi (k2+1:Nat))<|Xm rfl<|fun _ F186=>?_;clear F182
  refine wpList_nil ?_
  obtain ⟨v187,e188⟩:∃ z,z=dd.set k2 (((v126.getD (k2 / 4) 0) >>> UInt32.ofNat (8*(k2 % 4))).toUInt8):=⟨_,rfl⟩
  have hl189:v187.length=32:=(congrArg List.length e188).trans (show List.length (dd.set k2 (((v126.getD (k2 / 4) 0) >>> UInt32.ofNat (8*(k2 % 4))).toUInt8))=_ from List.length_set.trans hdl)
  rw [← e188] at b179
  have d190:=(hf139.pres ((Pres.refl w132).gc hg180))
  have b191:=(b138.gn hg180)
  refine ⟨⟨(k2+1),v187,((((((F186.nil.cons (q_get F186 (t:=29) rfl (by first | rfl | (congr 1;omega) | (simp only [UInt64.ofNat_add];rfl)))).cons (q_get F186 (t:=13) rfl rfl)).cons (q_get F186 (t:=4) rfl rfl)).cons (q_get F186 (t:=3) rfl rfl)).cons (q_get F186 (t:=2) rfl rfl)).cons (q_get F186 (t:=0) rfl rfl)),(by omega),(outTo_step (by omega) hp136 e188),(((Ext.refl w).trans hx134).gn hg180),b179,b191,d190,(by omega)⟩,?_⟩
  rw [F186.get (t:=29) rfl,hL141.get (t:=29) rfl];simp [intOf] <;> omega
 refine F147.cf ?_
 refine wp_exit ?_
 refine exit_then ?_
 refine exit_then ?_
 refine exit_here ?_
 refine hK122 _ _ ?_;clear hK122
 refine wr fun K192 hK192=>?_
 refine F147.xw (.agg (byteVals dd).toArray) (fun F=>rb F rfl b137 (hk:=byteVals_len hdl))<|fun _ F194=>?_;clear F147
 refine F194.xs rfl b137 (fun w195 b196 hg197=>?_) (hk:=byteVals_len hdl) (hl:=byteVals_len hdl);have z198:=hg197.size
 refine wpList_nil (hK192 _ _ ?_);clear hK192
 refine wp_ret ?_
 refine retC F194 rfl rfl b196 Tryd.underlying24 rfl (sk inf24 (byteVals_len hdl)) ?_
 have hd:dd=bsum b:=by rw [hp136,show k2=32 by omega,outTo_all,e127,feed_last hp50 (by omega) hp51]
 exact ⟨by rw [← hd],(((Ext.refl w).trans hx134).gn hg197)⟩

theorem sum_at {v:Value} {n:Nat} (b:List UInt8) (w:World) (hf:Fl S w 1 v n (byteVals b)) (hG:Glob w):Calls Tryd.prog 79 #[v] w (fun e w'=>e=.returned (.agg (byteVals (bsum b)).toArray)∧Ext w w'):=by
 have hm:n=b.length:=by have:=hf.len;simp [byteVals] at this;omega
 subst hm
 obtain ⟨A,c,rfl,_⟩:=hf.form
 exact sum_any A c b w hf hG

end Go.Proofs.YtihgmaoghbnnaaaDoor

namespace Go.Proofs.YtihgmaoghbnnaaaDoor
open Go.RowKit

variable {S S':Nat→Prop}

set_option maxRecDepth 100000 in
set_option maxHeartbeats 1000000 in
theorem grow_any (n:Nat) (w:World) (hn:n≤140737488355328) :
  Calls Tryd.prog 80 #[.slice none 0 0,.int .i64 (n:Nat)] w (fun e w'=>∃ A c,e=.returned (vl A 0 c)∧w'.ownsRow w.heap.size 5 1 (vl A 0 c) 0 []∧Ext w w'):=by
 refine calls_enter Tryd.func80 rfl rfl rfl fun _ hF=>?_
 refine wr fun K1 hK1=>?_
 refine hF.xv v0<|fun _ F3=>?_;clear hF
 refine wpList_nil (hK1 _ _ ?_);clear hK1
 refine wp_seq_k fun K4 hK4=>?_
 refine wr fun K5 hK5=>?_
 refine F3.xm rfl<|Xv (.bool (decide (((n:Nat):Int)<(0:Int))))<|fun _ F9=>?_;clear F3
 refine wpList_nil (hK5 _ _ ?_);clear hK5
 by_cases hc10:((n:Nat):Int)<(0:Int)
 ·skip
  refine F9.ct ?_
  exfalso;omega
 refine F9.cf ?_
 refine wp_skip ?_
 refine hK4 _ _ ?_;clear hK4
 refine wp_seq_k fun K11 hK11=>?_
 refine wr fun K12 hK12=>?_
 refine F9.xm rfl<|Xm rfl<|Xw (vi 0) (fun F=>rn_cap Tryd.underlying52 (F.get rfl))<|Xm rfl<|Xv (vi 0)<|Xv (vi 0)<|Xv (vi (n:Nat))<|Xa rfl<|fun _ F28=>?_;clear F9
 refine wpList_nil (hK12 _ _ ?_);clear hK12
 have F29:=F28.k [0,1,4,6];clear F28
 refine wr fun K30 hK30=>?_
 refine F29.xm rfl<|Xv (.bool (decide ((0:Int)<((n:Nat):Int))))<|fun _ F34=>?_;clear F29
 refine wpList_nil (hK30 _ _ ?_);clear hK30
 by_cases hc35:(0:Int)<((n:Nat):Int)
 ·skip
  refine F34.ct ?_
  refine wp_region_lit ?_
  refine F34.xm rfl<|Xm rfl<|Xw (vi 0) (fun F=>rn_cap Tryd.underlying52 (F.get rfl))<|Xw v0 (fun F=>rn_sliceHi Tryd.underlying52 inf5 (F.get rfl) (F.get rfl) (by omega:(0:Int)≤0) (by omega:(0:Int)≤((0:Nat):Int)))<|Xm rfl<|fun _ F45=>?_;clear F34
  refine wpl_op (i:=5) rfl (o_zeros El52 F45 rfl rfl rfl rfl rfl Tryd.underlying3 (F45.get rfl) (F45.get rfl) (by omega) (by omega) (by omega) ?_)
  intro g46 c47 ys48 w49 a55 F56 z50 z51 z52 r53 hx54;clear F45
  have z57:=own_lt r53
  refine F56.xm rfl<|Xv (vi 0)<|Xw (vl (some ⟨g46,0,none⟩) 0 c47) (fun F=>rn_sliceHi Tryd.underlying52 inf5 (F.get rfl) (F.get rfl) (by omega:(0:Int)≤0) (by omega:(0:Int)≤((c47:Nat):Int)))<|Xa rfl<|fun _ F65=>?_;clear F56
  refine wpList_nil (hK11 _ _ ?_);clear hK11
  have F66:=F65.k [0,1,4,6,16];clear F65
  refine wr fun K67 hK67=>?_
  refine F66.xm rfl<|Xa rfl<|fun _ F71=>?_;clear F66
  refine wpList_nil (hK67 _ _ ?_);clear hK67
  refine wp_ret ?_
  refine ret1 F71 rfl rfl ?_
  exact ⟨_,_,rfl,own_zero r53,((Ext.refl w).trans hx54)⟩
 refine F34.cf ?_
 refine wp_skip ?_
 refine hK11 _ _ ?_;clear hK11
 refine wr fun K72 hK72=>?_
 refine F34.xm rfl<|Xa rfl<|fun _ F76=>?_;clear F34
 refine wpList_nil (hK72 _ _ ?_);clear hK72
 refine wp_ret ?_
 refine ret1 F76 rfl rfl ?_
 exact ⟨none,0,rfl,own_nil _ _ _ _,(Ext.refl w)⟩

set_option maxRecDepth 100000 in
set_option maxHeartbeats 1000000 in
theorem concat_any (A:Option Addr) (c:Nat) (l:List (List UInt8)) (w:World) (hl:RBss S w (vl A l.length c) l) (hn:l.flatten.length≤140737488355328) :
  Calls Tryd.prog 57 #[.slice A l.length c] w (fun e w'=>∃ A c,e=.returned (vl A l.flatten.length c)∧Fl (fun b=>w.heap.size≤b) w' 1 (vl A l.flatten.length c) l.flatten.length (byteVals l.flatten)∧Ext w w'):=by
 have hll:=(RSl.elem hl).2.1
 refine calls_enter Tryd.func57 rfl rfl rfl fun _ hF=>?_
 refine wr fun K1 hK1=>?_
 refine hF.xv v0<|fun _ F3=>?_;clear hF
 refine wpList_nil (hK1 _ _ ?_);clear hK1
 refine wr fun K4 hK4=>?_
 refine F3.xv (vi 0)<|fun _ F6=>?_;clear F3
 refine wpList_nil (hK4 _ _ ?_);clear hK4
 refine wp_seq_k fun K7 hK7=>?_
 refine wr fun K8 hK8=>?_
 refine F6.xm rfl<|Xv (vi (l.length:Nat))<|Xv (vi 0)<|fun _ F14=>?_;clear F6
 refine wpList_nil (hK8 _ _ ?_);clear hK8
 refine wp_block ?_
 refine wp_loop (fun a' W=>∃ (k:Nat),Sl 36 [(0,(vl A l.length c)),(2,v0),(3,(vi ((l.take k).flatten.length:Nat))),(9,(vl A l.length c)),(10,(vi (l.length:Nat))),(11,(vi (k:Nat)))] a'∧k≤l.length∧(l.take k).flatten.length≤l.flatten.length∧Ext w W∧w.heap.size≤W.heap.size) (fun a' _=>l.length - (intOf (a'.eval (.tmp 11))).toNat) ⟨0,((((((F14.nil.cons (q_get F14 (t:=11) rfl (by first | rfl | (congr 1;omega)))).cons (q_get F14 (t:=10) rfl rfl)).cons (q_get F14 (t:=9) rfl rfl)).cons (q_get F14 (t:=3) rfl (by first | rfl | (congr 1;omega)))).cons (q_get F14 (t:=2) rfl rfl)).cons (q_get F14 (t:=0) rfl rfl)),(by omega),(by simp),(Ext.refl w),(Nat.le_refl _)⟩ ?_
 clear F14
 rintro a15 w16 ⟨k,F17,hp19,hp20,hx18,hf21⟩
 have hL22:=F17
 have z23:=hx18.size
 refine wr fun K24 hK24=>?_
 refine F17.xv (.bool (decide (((k:Nat):Int)<((l.length:Nat):Int))))<|fun _ F26=>?_;clear F17
 refine wpList_nil (hK24 _ _ ?_);clear hK24
 refine wp_seq_k fun K27 hK27=>?_
 by_cases hc28:((k:Nat):Int)<((l.length:Nat):Int)
 ·skip
  refine F26.ct ?_
  refine wp_skip ?_
  refine hK27 _ _ ?_;clear hK27
  refine wp_seq_k fun K29 hK29=>?_
  refine wp_block ?_
  refine wr fun K30 hK30=>?_
  have d44:=(hl.ext hx18)
  obtain ⟨x31,hi32,hm33⟩:=nth_of_lt l k (by omega)
  obtain ⟨b34,o35,A36,c37,hA38,hl39,hc40,hr41,le42,le43⟩:=RBss.get d44 hi32
  have z45:=flat_le hi32
  refine F26.xw (.pointer (some ⟨b34,o35+k,none⟩)) (fun F=>rn_index1 Tryd.underlying132 inf52 ((F.get rfl).trans (by rw [hA38])) (F.get rfl) (by omega:(0:Int)≤(k:Nat)) (by omega:((k:Nat):Int)<((l.length:Nat):Int)))<|Xw (vl A36 x31.length c37) (fun F=>rl F rfl (Ext.keep (Ext.refl w16) hc40))<|Xa rfl<|fun _ F51=>?_;clear F26
  refine wpList_nil (hK30 _ _ ?_);clear hK30
  refine wr fun K52 hK52=>?_
  refine F51.xm rfl<|Xm rfl<|Xv (vi (x31.length:Nat))<|Xw (vi (((l.take k).flatten.length)+x31.length:Nat)) (fun F=>rn_addN (a:=(l.take k).flatten.length) (b:=x31.length) (F.get rfl) (F.get rfl) (by omega))<|Xa rfl<|fun _ F62=>?_;clear F51
  refine wpList_nil (hK52 _ _ ?_);clear hK52
  have F63:=F62.k [0,2,3,9,10,11,12,5];clear F62
  refine wr fun K64 hK64=>?_
  refine F63.xm rfl<|Xv (.bool (decide (((((l.take k).flatten.length)+x31.length:Nat):Int)<(0:Int))))<|fun _ F68=>?_;clear F63
  refine wpList_nil (hK64 _ _ ?_);clear hK64
  by_cases hc69:((((l.take k).flatten.length)+x31.length:Nat):Int)<(0:Int)
  ·skip
   refine F68.ct ?_
   exfalso;omega
  refine F68.cf ?_
  refine wp_skip ?_
  refine hK29 _ _ ?_;clear hK29
  refine wp_region_lit ?_
  refine F68.xv (vi (k+1:Nat))<|Xm rfl<|fun _ F73=>?_;clear F68
  refine wpList_nil ?_
  refine ⟨⟨(k+1),((((((F73.nil.cons (q_get F73 (t:=11) rfl (by first | rfl | (congr 1;omega)))).cons (q_get F73 (t:=10) rfl rfl)).cons (q_get F73 (t:=9) rfl rfl)).cons (q_get F73 (t:=3) rfl (by first | rfl | (congr 1;omega)))).cons (q_get F73 (t:=2) rfl rfl)).cons (q_get F73 (t:=0) rfl rfl)),(by omega),(by omega),((Ext.refl w).trans hx18),(by omega)⟩,?_⟩
  rw [F73.get (t:=11) rfl,hL22.get (t:=11) rfl];simp [intOf] <;> omega
 refine F26.cf ?_
 refine wp_exit ?_
 refine exit_then ?_
 refine exit_then ?_
 refine exit_here ?_
 refine hK7 _ _ ?_;clear hK7
 refine wr fun K74 hK74=>?_
 refine F26.xm rfl<|fun _ F76=>?_;clear F26
 refine wpl_op (i:=1) rfl (o_call F76 rfl rfl rfl rfl (rn_call (args2 rfl (F76.get rfl)) rfl (by kernel_rfl)) (grow_any (l.take k).flatten.length _ (by omega)) ?_)
 rintro _ w81 ⟨A77,c78,rfl,r79,hx82⟩
 have z80:=own_form0 r79
 refine ⟨_,rfl,?_⟩;intro a83 F84;clear F76;have z85:=hx82.size
 refine F84.xa rfl<|fun _ F87=>?_;clear F84
 refine wpList_nil (hK74 _ _ ?_);clear hK74
 refine wp_seq_k fun K88 hK88=>?_
 refine wr fun K89 hK89=>?_
 refine F87.xm rfl<|Xv (vi (l.length:Nat))<|Xv (vi 0)<|fun _ F95=>?_;clear F87
 refine wpList_nil (hK89 _ _ ?_);clear hK89
 refine wp_block ?_
 refine wp_loop (fun a' W=>∃ (k2:Nat) (A6:Option Addr) (c6:Nat) (n6:Nat) (l6:List UInt8),Sl 36 [(0,(vl A l.length c)),(2,v0),(3,(vi ((l.take k).flatten.length:Nat))),(9,(vl A l.length c)),(10,(vi (l.length:Nat))),(11,(vi (k:Nat))),(12,(.bool (decide (((k:Nat):Int)<((l.length:Nat):Int))))),(6,(vl A6 n6 c6)),(25,(vl A l.length c)),(26,(vi (l.length:Nat))),(27,(vi (k2:Nat)))] a'∧k2≤l.length∧n6=(l.take k2).flatten.length∧l6=(l.take k2).flatten∧Ext w W∧W.ownsRow w16.heap.size 5 1 (vl A6 n6 c6) n6 (byteVals l6)∧w16.heap.size≤W.heap.size∧w81.heap.size≤W.heap.size) (fun a' _=>l.length - (intOf (a'.eval (.tmp 27))).toNat) ⟨0,A77,c78,0,[],(((((((((((F95.nil.cons (q_get F95 (t:=27) rfl (by first | rfl | (congr 1;omega)))).cons (q_get F95 (t:=26) rfl rfl)).cons (q_get F95 (t:=25) rfl rfl)).cons (q_get F95 (t:=6) rfl (by first | rfl | (congr 1;omega)))).cons (q_get F95 (t:=12) rfl rfl)).cons (q_get F95 (t:=11) rfl rfl)).cons (q_get F95 (t:=10) rfl rfl)).cons (q_get F95 (t:=9) rfl rfl)).cons (q_get F95 (t:=3) rfl rfl)).cons (q_get F95 (t:=2) rfl rfl)).cons (q_get F95 (t:=0) rfl rfl)),(by omega),(by simp),(by simp),(((Ext.refl w).trans hx18).trans hx82),r79,(by omega),(Nat.le_refl _)⟩ ?_
 clear F95
 rintro a96 w97 ⟨k2,A6,c6,n6,l6,F98,hp100,hp101,hp102,hx99,r103,hf104,hf105⟩
 have hL106:=F98
 have z107:=hx99.size
 have z108:=own_form0 r103
 refine wr fun K109 hK109=>?_
 refine F98.xv (.bool (decide (((k2:Nat):Int)<((l.length:Nat):Int))))<|fun _ F111=>?_;clear F98
 refine wpList_nil (hK109 _ _ ?_);clear hK109
 refine wp_seq_k fun K112 hK112=>?_
 by_cases hc113:((k2:Nat):Int)<((l.length:Nat):Int)
 ·skip
  refine F111.ct ?_
  refine wp_skip ?_
  refine hK112 _ _ ?_;clear hK112
  refine wp_seq_k fun K114 hK114=>?_
  refine wp_block ?_
  refine wr fun K115 hK115=>?_
  have d129:=(hl.ext hx99)
  obtain ⟨x116,hi117,hm118⟩:=nth_of_lt l k2 (by omega)
  obtain ⟨b119,o120,A121,c122,hA123,hl124,hc125,hr126,le127,le128⟩:=RBss.get d129 hi117
  have z130:=flat_le hi117
  refine F111.xw (.pointer (some ⟨b119,o120+k2,none⟩)) (fun F=>rn_index1 Tryd.underlying132 inf52 ((F.get rfl).trans (by rw [hA123])) (F.get rfl) (by omega:(0:Int)≤(k2:Nat)) (by omega:((k2:Nat):Int)<((l.length:Nat):Int)))<|Xw (vl A121 x116.length c122) (fun F=>rl F rfl (Ext.keep (Ext.refl w97) hc125))<|Xa rfl<|fun _ F136=>?_;clear F111
  refine wpList_nil (hK115 _ _ ?_);clear hK115
  refine wp_region_lit ?_
  refine F136.xm rfl<|Xm rfl<|fun _ F140=>?_;clear F136
  have hf148:=r103
  refine wpl_op (i:=2) rfl (o_appA (zs:=byteVals (l6++x116)) El52 F140 rfl rfl rfl rfl rfl (F140.get rfl) (F140.get rfl) hf148 (Fl.cel (RBs.fl hr126)).2.2 (by omega) (by omega) (by omega) (byteVals_app _ _) ?_)
  intro A141 c142 w143 a149 F150 r144 hg145 z146 z147;clear F140;have z151:=hg145.size
  refine F150.xa rfl<|fun _ F153=>?_;clear F150
  refine wpList_nil (hK114 _ _ ?_);clear hK114
  have F154:=F153.k [0,2,3,9,10,11,12,6,25,26,27,28,8];clear F153
  refine wp_region_lit ?_
  refine F154.xv (vi (k2+1:Nat))<|Xm rfl<|fun _ F158=>?_;clear F154
  refine wpList_nil ?_
  refine ⟨⟨(k2+1),A141,c142,n6+x116.length,l6++x116,(((((((((((F158.nil.cons (q_get F158 (t:=27) rfl (by first | rfl | (congr 1;omega)))).cons (q_get F158 (t:=26) rfl rfl)).cons (q_get F158 (t:=25) rfl rfl)).cons (q_get F158 (t:=6) rfl (by first | rfl | (congr 1;omega)))).cons (q_get F158 (t:=12) rfl rfl)).cons (q_get F158 (t:=11) rfl rfl)).cons (q_get F158 (t:=10) rfl rfl)).cons (q_get F158 (t:=9) rfl rfl)).cons (q_get F158 (t:=3) rfl rfl)).cons (q_get F158 (t:=2) rfl rfl)).cons (q_get F158 (t:=0) rfl rfl)),(by omega),(by omega),(by rw [flat_step hi117,← hp102]),(ext_row ((Ext.refl w).trans hx99) hg145 hf148 (by omega)),r144,(by omega),(by omega)⟩,?_⟩
  rw [F158.get (t:=27) rfl,hL106.get (t:=27) rfl];simp [intOf] <;> omega
 refine F111.cf ?_
 refine wp_exit ?_
 refine exit_then ?_
 refine exit_then ?_
 refine exit_here ?_
 refine hK88 _ _ ?_;clear hK88
 refine wr fun K159 hK159=>?_
 refine F111.xm rfl<|Xa rfl<|fun _ F163=>?_;clear F111
 refine wpList_nil (hK159 _ _ ?_);clear hK159
 refine wp_ret ?_
 refine ret1 F163 rfl rfl ?_
 have hk2:k2=l.length:=by omega
 have hfl:l6=l.flatten:=by rw [hp102,hk2,List.take_length]
 have hn6:n6=l.flatten.length:=by rw [← hfl];have:=(Fl.own (S:=fun _=>True) r103 (fun _ _=>trivial) (byteVals_one _)).len;simp [byteVals] at this;omega
 have hrow:=Fl.own (S:=fun b=>w.heap.size≤b) r103 (fun b hb=>by omega) (byteVals_one _)
 have hx6:=((Ext.refl w).trans hx99)
 subst hfl hn6
 exact ⟨A6,c6,rfl,hrow,hx6⟩

theorem concat_at {v:Value} {n:Nat} (l:List (List UInt8)) (w:World) (hl:RBss S w v l) (he:l.flatten.length=n) (hn:n≤140737488355328) :
  Calls Tryd.prog 57 #[v] w (fun e w'=>∃ A c,e=.returned (vl A n c)∧Fl (fun b=>w.heap.size≤b) w' 1 (vl A n c) n (byteVals l.flatten)∧Ext w w'):=by
 subst he
 obtain ⟨A,c,rfl,_⟩:=RSl.form hl
 exact concat_any A c l w hl hn

end Go.Proofs.YtihgmaoghbnnaaaDoor

namespace Go.Proofs.YtihgmaoghbnnaaaDoor

variable (nodeD:List UInt8→List UInt8→List UInt8) (leafD:List UInt8→List UInt8) (emptyD:List UInt8)
/-- the greatest power of 2 that is less than n -/
def half (n:Nat):Nat:=2 ^ Nat.log2 (n - 1)
theorem half_pos (n:Nat):1≤half n:=Nat.one_le_two_pow
theorem half_lt {n:Nat} (h:2≤n):half n<n:=by
  have:=Nat.log2_self_le (n:=n - 1) (by omega)
  unfold half;omega
def tree (l:List (List UInt8)):List UInt8 :=
  if l.length=0 then emptyD else if _h:l.length=1 then leafD (l.getD 0 []) else nodeD (tree (l.take (half l.length))) (tree (l.drop (half l.length)))
termination_by l.length
decreasing_by
  · have:=half_lt (n:=l.length) (by omega);simp;omega
  · have:=half_pos l.length;simp;omega
theorem tree_eq {l:List (List UInt8)} (h:2≤l.length):tree nodeD leafD emptyD l=nodeD (tree nodeD leafD emptyD (l.take (half l.length))) (tree nodeD leafD emptyD (l.drop (half l.length))):=by
  rw [tree,if_neg (by omega),dif_neg (by omega)]
theorem tree_one {l:List (List UInt8)} (h:l.length=1):tree nodeD leafD emptyD l=leafD (l.getD 0 []):=by
  rw [tree,if_neg (by omega),dif_pos h]
theorem tree_nil:tree nodeD leafD emptyD []=emptyD:=by
  rw [tree];rfl
def pathL (l:List (List UInt8)) (at_:Nat):List (List UInt8) :=
  if _h:l.length≤1 then [] else
    if at_<half l.length then pathL (l.take (half l.length)) at_++[tree nodeD leafD emptyD (l.drop (half l.length))]
    else pathL (l.drop (half l.length)) (at_ - half l.length)++[tree nodeD leafD emptyD (l.take (half l.length))]
termination_by l.length
decreasing_by
  · have:=half_lt (n:=l.length) (by omega);simp;omega
  · have:=half_pos l.length;simp;omega
/-- from the top: whether the element is in the first half -/
def dirs (at_ n:Nat):List Bool :=
  if _h:n≤1 then [] else if at_<half n then true::dirs at_ (half n) else false::dirs (at_ - half n) (n - half n)
termination_by n
decreasing_by
  · have:=half_lt (n:=n) (by omega);omega
  · have:=half_pos n;omega
def step1 (x:List UInt8) (q:List UInt8 × Bool):List UInt8:=if q.2 then nodeD x q.1 else nodeD q.1 x
def climbL (d:List UInt8) (at_ n:Nat) (p:List (List UInt8)):List UInt8:=(p.zip (dirs at_ n).reverse).foldl (step1 nodeD) (leafD d)
theorem path_len (l:List (List UInt8)) (at_:Nat):(pathL nodeD leafD emptyD l at_).length=(dirs at_ l.length).length:=by
  fun_induction pathL nodeD leafD emptyD l at_ with
  | case1 l at_ h=>rw [dirs,dif_pos h];rfl
  | case2 l at_ h h2 ih =>
    rw [dirs,dif_neg h,if_pos h2]
    have:=half_lt (n:=l.length) (by omega)
    simp only [List.length_append,List.length_cons,List.length_nil,ih,List.length_take]
    rw [Nat.min_eq_left (by omega)]
  | case3 l at_ h h2 ih =>
    rw [dirs,dif_neg h,if_neg h2]
    simp only [List.length_append,List.length_cons,List.length_nil,ih,List.length_drop]
theorem climbs (l:List (List UInt8)) (at_:Nat) (h:at_<l.length):climbL nodeD leafD (l.getD at_ []) at_ l.length (pathL nodeD leafD emptyD l at_)=tree nodeD leafD emptyD l:=by
  fun_induction pathL nodeD leafD emptyD l at_ with
  | case1 l at_ h1 =>
    have:at_=0:=by omega
    subst this
    unfold climbL
    rw [dirs,dif_pos h1,tree_one nodeD leafD emptyD (by omega)];rfl
  | case2 l at_ h1 h2 ih =>
    have hl:=half_lt (n:=l.length) (by omega)
    have hlen:=path_len nodeD leafD emptyD (l.take (half l.length)) at_
    have ht:(l.take (half l.length)).length=half l.length:=by simp;omega
    rw [ht] at hlen ih
    have ih:=ih h2
    unfold climbL at ih ⊢
    rw [dirs,dif_neg h1,if_pos h2,List.reverse_cons,List.zip_append (by simpa using hlen),List.foldl_append]
    rw [tree_eq nodeD leafD emptyD (l:=l) (by omega),← ih]
    rw [show (l.take (half l.length)).getD at_ []=l.getD at_ [] by simp [List.getD_eq_getElem?_getD,h2]]
    rfl
  | case3 l at_ h1 h2 ih =>
    have hl:=half_lt (n:=l.length) (by omega)
    have hlen:=path_len nodeD leafD emptyD (l.drop (half l.length)) (at_ - half l.length)
    have ht:(l.drop (half l.length)).length=l.length - half l.length:=by simp
    rw [ht] at hlen ih
    have ih:=ih (by omega)
    unfold climbL at ih ⊢
    rw [dirs,dif_neg h1,if_neg h2,List.reverse_cons,List.zip_append (by simpa using hlen),List.foldl_append]
    rw [tree_eq nodeD leafD emptyD (l:=l) (by omega),← ih]
    rw [show (l.drop (half l.length)).getD (at_ - half l.length) []=l.getD at_ [] by simp [List.getD_eq_getElem?_getD,List.getElem?_drop];rw [Nat.add_sub_cancel' (by omega)]]
    rfl
theorem dirs_one {at_ n:Nat} (h:n≤1):dirs at_ n=[]:=by rw [dirs,dif_pos h]
theorem dirs_first {at_ n:Nat} (h:2≤n) (h2:at_<half n):dirs at_ n=true::dirs at_ (half n):=by rw [dirs,dif_neg (by omega),if_pos h2]
theorem dirs_second {at_ n:Nat} (h:2≤n) (h2:¬ at_<half n):dirs at_ n=false::dirs (at_ - half n) (n - half n):=by rw [dirs,dif_neg (by omega),if_neg h2]
theorem path_one {l:List (List UInt8)} {at_:Nat} (h:l.length≤1):pathL nodeD leafD emptyD l at_=[]:=by rw [pathL,dif_pos h]
theorem path_first {l:List (List UInt8)} {at_:Nat} (h:2≤l.length) (h2:at_<half l.length):pathL nodeD leafD emptyD l at_=pathL nodeD leafD emptyD (l.take (half l.length)) at_++[tree nodeD leafD emptyD (l.drop (half l.length))]:=by rw [pathL,dif_neg (by omega),if_pos h2]
theorem path_second {l:List (List UInt8)} {at_:Nat} (h:2≤l.length) (h2:¬ at_<half l.length):pathL nodeD leafD emptyD l at_=pathL nodeD leafD emptyD (l.drop (half l.length)) (at_ - half l.length)++[tree nodeD leafD emptyD (l.take (half l.length))]:=by rw [pathL,dif_neg (by omega),if_neg h2]
end Go.Proofs.YtihgmaoghbnnaaaDoor

namespace Go.Proofs.YtihgmaoghbnnaaaDoor
open Go.RowKit

variable {S S':Nat→Prop}

def tagged (tag b:List UInt8):List UInt8:=bsum (bsum tag++b)
def leafD (d:List UInt8):List UInt8:=tagged [108,101,97,102] d
def nodeD (a b:List UInt8):List UInt8:=tagged [110,111,100,101] (a++b)
def emptyD:List UInt8:=tagged [101,109,112,116,121] []
def treeD (l:List (List UInt8)):List UInt8:=tree nodeD leafD emptyD l
theorem tagged_len (t b:List UInt8):(tagged t b).length=32:=bsum_len _
theorem leafD_len (d:List UInt8):(leafD d).length=32:=bsum_len _
theorem nodeD_len (a b:List UInt8):(nodeD a b).length=32:=bsum_len _
theorem treeD_len (l:List (List UInt8)):(treeD l).length=32:=by
 unfold treeD
 rw [tree]
 split
 ·exact bsum_len _
 ·split
  ·exact bsum_len _
  ·exact bsum_len _
theorem half_bits {n:Nat} (h:2≤n) (h2:n≤9223372036854775807):1*2 ^ (Lib.bitLen (((UInt64.ofNat (n - 1)).toNat:Nat):Int).toNat - 1)=half n∧1≤Lib.bitLen (((UInt64.ofNat (n - 1)).toNat:Nat):Int).toNat∧Lib.bitLen (((UInt64.ofNat (n - 1)).toNat:Nat):Int).toNat≤63:=by
 rw [Int.toNat_natCast,UInt64.toNat_ofNat_of_lt' (by show n - 1<18446744073709551616;omega)]
 obtain ⟨h3,h4,h5⟩:=Lib.bitLenAux_bounds 64 (n - 1) (by omega) (by omega)
 have h6:=Lib.bitLen_le (n - 1) 63 (by omega) (by omega)
 unfold half
 have:(n - 1).log2=Lib.bitLen (n - 1) - 1:=(Nat.log2_eq_iff (by omega)).2 ⟨h4,by unfold Lib.bitLen;rw [show Lib.bitLenAux 64 (n - 1) - 1+1=Lib.bitLenAux 64 (n - 1) by omega];exact h5⟩
 rw [this]
 exact ⟨Nat.one_mul _,h3,h6⟩

set_option maxRecDepth 100000 in
set_option maxHeartbeats 1000000 in
theorem half_any (n:Nat) (w:World) (h2:2≤n) (hm:n≤9223372036854775807) :
  Calls Tryd.prog 69 #[.int .i64 (n:Nat)] w (fun e w'=>e=.returned (vi (half n:Nat))∧Ext w w'):=by
 obtain ⟨hb1,hb2,hb3⟩:=half_bits h2 hm
 have hlt:=half_lt h2
 refine calls_enter Tryd.func69 rfl rfl rfl fun _ hF=>?_
 refine wr fun K1 hK1=>?_
 refine hF.xv (vi 0)<|fun _ F3=>?_;clear hF
 refine wpList_nil (hK1 _ _ ?_);clear hK1
 refine wr fun K4 hK4=>?_
 refine F3.xm rfl<|Xw (vi (n - 1:Nat)) (fun F=>rn_subN (a:=n) (b:=1) (F.get rfl) rfl (by omega) (by omega))<|Xw (.int .u64 ((UInt64.ofNat (n - 1)).toNat:Nat)) (fun F=>rn_convW Tryd.underlying3 Tryd.underlying95 (F.get rfl) (cvi_64 (n - 1) (by omega)))<|fun _ F10=>?_;clear F3
 refine wpl_op (i:=3) rfl (o_call F10 rfl rfl rfl rfl (rn_call (args1 (F10.get rfl)) rfl (by kernel_rfl)) (Tryd.bits_Len _ _ (by omega) (by have:=((UInt64.ofNat (n - 1))).toNat_lt;omega)) ?_)
 rintro _ w11 ⟨rfl,hx12⟩
 have hx12:=Ext.of_eq hx12
 refine ⟨_,rfl,?_⟩;intro a13 F14;clear F10;have z15:=hx12.size
 refine F14.xw (vi ((Lib.bitLen ((((UInt64.ofNat (n - 1))).toNat:Nat):Int).toNat) - 1:Nat)) (fun F=>rn_subN (a:=Lib.bitLen ((((UInt64.ofNat (n - 1))).toNat:Nat):Int).toNat) (b:=1) (F.get rfl) rfl (by omega) (by omega))<|Xw (vi (half n:Nat)) (fun F=>by rw [← hb1];exact rn_shlN rfl (F.get rfl) (by omega) (by omega))<|Xa rfl<|fun _ F21=>?_;clear F14
 refine wpList_nil (hK4 _ _ ?_);clear hK4
 have F22:=F21.k [0,2];clear F21
 refine wp_ret ?_
 refine ret1 F22 rfl rfl ?_
 exact ⟨rfl,((Ext.refl w).trans hx12)⟩

set_option maxRecDepth 100000 in
set_option maxHeartbeats 1000000 in
theorem tagged_any (tag:List UInt8) (A:Option Addr) (c:Nat) (b:List UInt8) (w:World) (hf:Fl S w 1 (vl A b.length c) b.length (byteVals b)) (hG:Glob w) (ht:tag.length≤9223372036854775807) (hb:b.length≤140737488355296) :
  Calls Tryd.prog 56 #[strOf tag,.slice A b.length c] w (fun e w'=>e=.returned (.agg (byteVals (tagged tag b)).toArray)∧Ext w w'):=by
 have hc:Fl (Clip S w) w 1 (vl A b.length c) b.length (byteVals b):=hf.clip
 have hcc:=(Fl.cel hc).2.1
 refine calls_enter Tryd.func56 rfl rfl rfl fun _ hF=>?_
 refine wr fun K1 hK1=>?_
 refine hF.xz (byteVals (List.replicate 32 0)) 24 fun g2 w3 _ F9 z6 z7 b4 hx5=>?_;clear hF
 refine wpList_nil (hK1 _ _ ?_);clear hK1
 refine wr fun K10 hK10=>?_
 refine F9.xm rfl<|fun _ F12=>?_;clear F9
 refine wpl_op (i:=1) rfl (o_strB (l:=tag) F12 rfl rfl rfl rfl rfl (F12.get rfl) Tryd.underlying9 Tryd.underlying52 Tryd.underlying5 (by omega) ?_)
 intro g13 c14 w15 a21 F22 z18 z19 z20 hf16 hx17;clear F12
 refine F22.xc (sum_at (v:=(vl (some ⟨g13,0,none⟩) tag.length c14)) (n:=tag.length) tag _ hf16 (hG.ext (((Ext.refl w).trans hx5).trans hx17))) ?_
 rintro _ w23 ⟨rfl,hx24⟩
 refine ⟨_,rfl,?_⟩;intro a25 F26;clear F22;have z27:=hx24.size
 refine F26.xz (byteVals (List.replicate 32 0)) 24 fun g28 w29 _ F35 z32 z33 b30 hx31=>?_;clear F26
 refine F35.xs rfl b30 (fun w36 b37 hg38=>?_) (hk:=byteVals_len (bsum_len _));have z39:=hg38.size
 refine wpList_nil (hK10 _ _ ?_);clear hK10
 refine wr fun K40 hK40=>?_
 refine F35.xw (vl (some ⟨g28,0,none⟩) 32 32) (fun F=>rn_arrAll Tryd.underlying24 inf5 (F.get rfl))<|Xm rfl<|fun _ F44=>?_;clear F35
 refine F44.xn (fun g=>(vl (some ⟨g,0,none⟩) 2 2)) [(vl (some ⟨g28,0,none⟩) 32 32),(vl A b.length c)] 52 (fun F=>rn_buildSlice (parts2 (F.get rfl) (F.get rfl)) (by kernel_rfl)) fun g45 w46 _ F52 z49 z50 b47 hx48=>?_;clear F44
 have b53:=(b37.ext hx48)
 have d54:=(hc.pres (((((((Pres.refl w).ext hx5).ext hx17).ext hx24).ext hx31).gc hg38).ext hx48))
 have hn58:=Fl.blen (Fl.blk (S:=fun b=>b=g28) (k:=1) (n:=32) (c:=32) b53 (by rw [byteVals_len (bsum_len _),Nat.mul_one]) (byteVals_one _) (by omega) rfl)
 have hn59:=Fl.blen d54
 have hn60:([bsum tag,b]).flatten.length=32+b.length:=by simp only [List.flatten_cons,List.flatten_nil,List.length_append,List.length_nil];omega
 refine wpl_op (i:=3) rfl (o_call F52 rfl rfl rfl rfl (rn_call (args1 (F52.get rfl)) rfl (by kernel_rfl)) (concat_at [bsum tag,b] _ (RBss.two b47 (Fl.blk (S:=fun b=>b=g28) (k:=1) (n:=32) (c:=32) b53 (by rw [byteVals_len (bsum_len _),Nat.mul_one]) (byteVals_one _) (by omega) rfl) d54) hn60 (by omega)) ?_)
 rintro _ w61 ⟨A55,c56,rfl,hf57,hx62⟩
 rw [show ([bsum tag,b]).flatten=(bsum tag)++b from by simp] at hf57
 refine ⟨_,rfl,?_⟩;intro a63 F64;clear F52;have z65:=hx62.size
 refine F64.xc (sum_at (v:=(vl A55 (32+b.length) c56)) (n:=(32+b.length)) ((bsum tag)++b) _ hf57 (hG.ext ((((((((Ext.refl w).trans hx5).trans hx17).trans hx24).trans hx31).gn hg38).trans hx48).trans hx62))) ?_
 rintro _ w66 ⟨rfl,hx67⟩
 refine ⟨_,rfl,?_⟩;intro a68 F69;clear F64;have z70:=hx67.size
 have b74:=(((((((b4.ext hx17).ext hx24).ext hx31).gn hg38).ext hx48).ext hx62).ext hx67)
 refine F69.xs rfl b74 (fun w71 b72 hg73=>?_) (hk:=byteVals_len (bsum_len _));have z75:=hg73.size
 refine wpList_nil (hK40 _ _ ?_);clear hK40
 have F76:=F69.k [0,1,4,5];clear F69
 refine wp_ret ?_
 refine retC F76 rfl rfl b72 Tryd.underlying24 rfl (sk inf24 (byteVals_len (bsum_len _))) ?_
 exact ⟨rfl,((((((((((Ext.refl w).trans hx5).trans hx17).trans hx24).trans hx31).gn hg38).trans hx48).trans hx62).trans hx67).gn hg73)⟩

theorem tagged_at (tag:List UInt8) {v:Value} {n:Nat} (b:List UInt8) (w:World) (hf:Fl S w 1 v n (byteVals b)) (hG:Glob w) (ht:tag.length≤9223372036854775807) (hb:n≤140737488355296):Calls Tryd.prog 56 #[strOf tag,v] w (fun e w'=>e=.returned (.agg (byteVals (tagged tag b)).toArray)∧Ext w w'):=by
 have hm:=hf.blen
 subst hm
 obtain ⟨A,c,rfl,_⟩:=hf.form
 exact tagged_any tag A c b w hf hG ht hb

set_option maxRecDepth 100000 in
set_option maxHeartbeats 1000000 in
theorem leaf_any (d:List UInt8) (w:World) (hd:d.length=32) (hG:Glob w) :
  Calls Tryd.prog 68 #[.agg (byteVals d).toArray] w (fun e w'=>e=.returned (.agg (byteVals (leafD d)).toArray)∧Ext w w'):=by
 refine calls_enter Tryd.func68 rfl rfl rfl fun _ hF=>?_
 refine wr fun K1 hK1=>?_
 refine hF.xb rfl fun g2 w3 _ F9 z6 z7 b4 hx5=>?_;clear hF
 refine F9.xz (byteVals (List.replicate 32 0)) 24 fun g10 w11 _ F17 z14 z15 b12 hx13=>?_;clear F9
 refine wpList_nil (hK1 _ _ ?_);clear hK1
 refine wr fun K18 hK18=>?_
 refine F17.xw (vl (some ⟨g2,0,none⟩) 32 32) (fun F=>rn_arrAll Tryd.underlying24 inf5 (F.get rfl))<|fun _ F20=>?_;clear F17
 have b21:=(b4.ext hx13)
 refine wpl_op (i:=1) rfl (o_call F20 rfl rfl rfl rfl (rn_call (args2 rfl (F20.get rfl)) rfl (by kernel_rfl)) (tagged_at ([108,101,97,102]) (v:=(vl (some ⟨g2,0,none⟩) 32 32)) (n:=32) d _ (Fl.blk (S:=fun b=>b=g2) (k:=1) (n:=32) (c:=32) b21 (by rw [byteVals_len hd,Nat.mul_one]) (byteVals_one _) (by omega) rfl) (hG.ext (((Ext.refl w).trans hx5).trans hx13)) (by simp <;> omega) (by omega)) ?_)
 rintro _ w22 ⟨rfl,hx23⟩
 refine ⟨_,rfl,?_⟩;intro a24 F25;clear F20;have z26:=hx23.size
 have b30:=(b12.ext hx23)
 refine F25.xs rfl b30 (fun w27 b28 hg29=>?_) (hk:=byteVals_len (tagged_len _ _));have z31:=hg29.size
 refine wpList_nil (hK18 _ _ ?_);clear hK18
 refine wp_ret ?_
 refine retC F25 rfl rfl b28 Tryd.underlying24 rfl (sk inf24 (byteVals_len (tagged_len _ _))) ?_
 exact ⟨rfl,(((((Ext.refl w).trans hx5).trans hx13).trans hx23).gn hg29)⟩

set_option maxRecDepth 100000 in
set_option maxHeartbeats 1000000 in
theorem node_any (d d2:List UInt8) (w:World) (hd:d.length=32) (hd2:d2.length=32) (hG:Glob w) :
  Calls Tryd.prog 70 #[.agg (byteVals d).toArray,.agg (byteVals d2).toArray] w (fun e w'=>e=.returned (.agg (byteVals (nodeD d d2)).toArray)∧Ext w w'):=by
 refine calls_enter Tryd.func70 rfl rfl rfl fun _ hF=>?_
 refine wr fun K1 hK1=>?_
 refine hF.xb rfl fun g2 w3 _ F9 z6 z7 b4 hx5=>?_;clear hF
 refine F9.xb rfl fun g10 w11 _ F17 z14 z15 b12 hx13=>?_;clear F9
 refine F17.xz (byteVals (List.replicate 32 0)) 24 fun g18 w19 _ F25 z22 z23 b20 hx21=>?_;clear F17
 refine wpList_nil (hK1 _ _ ?_);clear hK1
 refine wp_seq_k fun K26 hK26=>?_
 have hx28:∃ W,w19.drew=W∧Ext w19 W:=⟨_,rfl,(Ext.refl _).drew⟩
 obtain ⟨w27,e29,hx28⟩:=hx28
 have z30:=hx28.size
 refine any_start (fun W=>Ext w27 W∧Blk W g2 24 (byteVals d)∧Blk W g10 24 (byteVals d2)∧Blk W g18 24 (byteVals (List.replicate 32 0))) (fun i=>i==5) 6 (.replicate 6 false) rfl rfl rfl ?_
 rw [e29];clear e29
 refine F25.yw 0 (vl (some ⟨g2,0,none⟩) 32 32) rfl (fun F W=>rn_arrAll Tryd.underlying24 inf5 (F.get rfl))<|Yw 1 (vl (some ⟨g10,0,none⟩) 32 32) rfl (fun F W=>rn_arrAll Tryd.underlying24 inf5 (F.get rfl))<|fun _ F34=>?_;clear F25
 refine ao 2 rfl (F34.on (fun g=>(vl (some ⟨g,0,none⟩) 2 2)) [(vl (some ⟨g2,0,none⟩) 32 32),(vl (some ⟨g10,0,none⟩) 32 32)] 52 rfl (fun F=>rn_buildSlice (parts2 (F.get rfl) (F.get rfl)) (by kernel_rfl)) fun g35 w36 _ F42 z39 z40 b37 hx38=>?_);clear F34
 have b43:=((((b4.ext hx13).ext hx21).ext hx28).ext hx38)
 have b44:=(((b12.ext hx21).ext hx28).ext hx38)
 have b45:=((b20.ext hx28).ext hx38)
 refine ⟨fun _ _=>⟨((Ext.refl w27).trans hx38),b43,b44,b45⟩,?_⟩
 refine ao 3 rfl ?_
 have hn49:=Fl.blen (Fl.blk (S:=fun b=>b=g2) (k:=1) (n:=32) (c:=32) b43 (by rw [byteVals_len hd,Nat.mul_one]) (byteVals_one _) (by omega) rfl)
 have hn50:=Fl.blen (Fl.blk (S:=fun b=>b=g10) (k:=1) (n:=32) (c:=32) b44 (by rw [byteVals_len hd2,Nat.mul_one]) (byteVals_one _) (by omega) rfl)
 have hn51:([d,d2]).flatten.length=32+32:=by simp only [List.flatten_cons,List.flatten_nil,List.length_append,List.length_nil];omega
 refine o_call F42 rfl rfl rfl rfl (rn_call (args1 (F42.get rfl)) rfl (by kernel_rfl)) (concat_at [d,d2] _ (RBss.two b37 (Fl.blk (S:=fun b=>b=g2) (k:=1) (n:=32) (c:=32) b43 (by rw [byteVals_len hd,Nat.mul_one]) (byteVals_one _) (by omega) rfl) (Fl.blk (S:=fun b=>b=g10) (k:=1) (n:=32) (c:=32) b44 (by rw [byteVals_len hd2,Nat.mul_one]) (byteVals_one _) (by omega) rfl)) hn51 (by omega)) ?_
 rintro _ w52 ⟨A46,c47,rfl,hf48,hx53⟩
 rw [show ([d,d2]).flatten=d++d2 from by simp] at hf48
 refine ⟨_,rfl,?_⟩;intro a54 F55;clear F42;have z56:=hx53.size
 have b57:=(b43.ext hx53)
 have b58:=(b44.ext hx53)
 have b59:=(b45.ext hx53)
 refine ⟨fun _ _=>⟨(((Ext.refl w27).trans hx38).trans hx53),b57,b58,b59⟩,?_⟩
 refine ao 4 rfl ?_
 refine o_call F55 rfl rfl rfl rfl (rn_call (args2 rfl (F55.get rfl)) rfl (by kernel_rfl)) (tagged_at ([110,111,100,101]) (v:=(vl A46 (32+32) c47)) (n:=(32+32)) (d++d2) _ hf48 (hG.ext (((((((Ext.refl w).trans hx5).trans hx13).trans hx21).trans hx28).trans hx38).trans hx53)) (by simp <;> omega) (by omega)) ?_
 rintro _ w60 ⟨rfl,hx61⟩
 refine ⟨_,rfl,?_⟩;intro a62 F63;clear F55;have z64:=hx61.size
 have b65:=(b57.ext hx61)
 have b66:=(b58.ext hx61)
 have b67:=(b59.ext hx61)
 refine ⟨fun _ _=>⟨((((Ext.refl w27).trans hx38).trans hx53).trans hx61),b65,b66,b67⟩,?_⟩
 refine ao 5 rfl (F63.os rfl b67 (fun w68 b69 hg70=>an ?_) (hk:=byteVals_len (tagged_len _ _)));have z71:=hg70.size
 refine nn (hK26 _ _ ?_);clear hK26
 have F72:=F63.k [0,1,2,3,4];clear F63
 refine wp_ret ?_
 refine retC F72 rfl rfl b69 Tryd.underlying24 rfl (sk inf24 (byteVals_len (tagged_len _ _))) ?_
 exact ⟨rfl,(((((((((Ext.refl w).trans hx5).trans hx13).trans hx21).trans hx28).trans hx38).trans hx53).trans hx61).gn hg70)⟩

end Go.Proofs.YtihgmaoghbnnaaaDoor

namespace Go.Proofs.YtihgmaoghbnnaaaDoor
open Go.RowKit

variable {S S':Nat→Prop}

theorem tree_nil' {l:List (List UInt8)} (h:l.length=0):treeD l=tagged [101,109,112,116,121] []:=by rw [List.eq_nil_of_length_eq_zero h,treeD,tree_nil];rfl
theorem tree_one' {l:List (List UInt8)} (h:l.length=1):treeD l=leafD (l.getD 0 []):=by rw [treeD,tree_one _ _ _ h]
theorem tree_two' {l:List (List UInt8)} (h:2≤l.length):treeD l=nodeD (treeD (l.take (half l.length))) (treeD (l.drop (half l.length))):=by rw [treeD,tree_eq _ _ _ h];rfl
set_option maxRecDepth 100000 in
set_option maxHeartbeats 1000000 in
theorem tree_ind:∀ (N:Nat) (l:List (List UInt8)) (S:Nat→Prop) (w:World) {n:Nat} (v:Value) (_:All32 l) (_:Fl S w 32 v n (digVals l)) (_:Glob w) (_:l.length<N),
  Calls Tryd.prog 42 #[v] w (fun e w'=>e=.returned (.agg (byteVals (treeD l)).toArray)∧Ext w w'):=by
 intro N
 induction N with
 | zero=>intro l S w n v _ _ _ h;omega
 | succ N ih0 =>
 intro l S w n v h32 hf0 hG hN
 have ih:∀ (l':List (List UInt8)) (w':World) {n:Nat} {S:Nat→Prop} (v':Value) (_:All32 l') (_:Fl S w' 32 v' n (digVals l')) (_:Glob w') (_:l'.length<l.length),Calls Tryd.prog 42 #[v'] w' (fun e w''=>e=.returned (.agg (byteVals (treeD l')).toArray)∧Ext w' w''):=fun l' w' n S v' a b c d=>ih0 l' S w' v' a b c (by omega)
 clear ih0
 have hm:=Fl.dlen hf0 h32
 subst hm
 obtain ⟨A,c,rfl,hcc0⟩:=hf0.form
 have hf:=hf0
 have hc:Fl (Clip S w) w 32 (vl A l.length c) l.length (digVals l):=hf.clip
 have hcc:=(Fl.cel hc).2.1
 refine calls_enter Tryd.func42 rfl rfl rfl fun _ hF=>?_
 refine wr fun K1 hK1=>?_
 refine hF.xz (byteVals (List.replicate 32 0)) 24 fun g2 w3 _ F9 z6 z7 b4 hx5=>?_;clear hF
 refine wpList_nil (hK1 _ _ ?_);clear hK1
 refine wp_seq_k fun K10 hK10=>?_
 refine wr fun K11 hK11=>?_
 refine F9.xm rfl<|Xv (vi (l.length:Nat))<|fun _ F15=>?_;clear F9
 refine wpList_nil (hK11 _ _ ?_);clear hK11
 refine wp_block ?_
 refine wr fun K16 hK16=>?_
 refine F15.xv (.bool (decide (((l.length:Nat):Int)=(0:Int))))<|Xa rfl<|fun _ F20=>?_;clear F15
 refine wpList_nil (hK16 _ _ ?_);clear hK16
 by_cases hc21:((l.length:Nat):Int)=(0:Int)
 ·skip
  refine F20.ct ?_
  refine wr fun K22 hK22=>?_
  refine wpl_op (i:=0) rfl (o_call F20 rfl rfl rfl rfl (rn_call (args2 rfl rfl) rfl (by kernel_rfl)) (tagged_at ([101,109,112,116,121]) (v:=v0) (n:=0) ([]) _ (show Fl (fun _=>False) w3 1 v0 0 (byteVals []) from Fl.nil _) (hG.ext ((Ext.refl w).trans hx5)) (by simp <;> omega) (by omega)) ?_)
  rintro _ w23 ⟨rfl,hx24⟩
  refine ⟨_,rfl,?_⟩;intro a25 F26;clear F20;have z27:=hx24.size
  have b31:=(b4.ext hx24)
  refine F26.xs rfl b31 (fun w28 b29 hg30=>?_) (hk:=byteVals_len (tagged_len _ _));have z32:=hg30.size
  refine wpList_nil (hK22 _ _ ?_);clear hK22
  refine wp_ret ?_
  refine ret_block ?_
  refine ret_then ?_
  refine retC F26 rfl rfl b29 Tryd.underlying24 rfl (sk inf24 (byteVals_len (tagged_len _ _))) ?_
  exact ⟨by rw [tree_nil' (l:=l) (by omega)],((((Ext.refl w).trans hx5).trans hx24).gn hg30)⟩
 refine F20.cf ?_
 refine wr fun K33 hK33=>?_
 refine F20.xv (.bool (decide (((l.length:Nat):Int)=(1:Int))))<|Xa rfl<|fun _ F37=>?_;clear F20
 refine wpList_nil (hK33 _ _ ?_);clear hK33
 by_cases hc38:((l.length:Nat):Int)=(1:Int)
 ·skip
  refine F37.ct ?_
  refine wr fun K39 hK39=>?_
  refine F37.xm rfl<|fun _ F41=>?_;clear F37
  have d45:=(hc.ext hx5)
  obtain ⟨b42,o43,hA44,-⟩:=Fl.at d45 (by omega)
  refine F41.xw (.pointer (some ⟨b42,o43+0*32,none⟩)) (fun F=>rn_indexE Tryd.underlying26 inf24 ((F.get rfl).trans (by rw [hA44])) rfl (by omega:(0:Int)≤0) (by omega:(0:Int)<((l.length:Nat):Int)) (by omega))<|Xw (.agg (byteVals (l.getD 0 [])).toArray) (fun F=>rn_loadN (cs:=byteVals (l.getD 0 [])) (F.get rfl) Tryd.underlying24 rfl (sk inf24 (byteVals_len (dig_len h32 0 (by omega)))) (Fl.digAt d45 hA44 h32 (by omega)))<|fun _ F49=>?_;clear F41
  refine wpl_op (i:=3) rfl (o_call F49 rfl rfl rfl rfl (rn_call (args1 (F49.get rfl)) rfl (by kernel_rfl)) (leaf_any (l.getD 0 []) _ (dig_len h32 0 (by omega)) (hG.ext ((Ext.refl w).trans hx5))) ?_)
  rintro _ w50 ⟨rfl,hx51⟩
  refine ⟨_,rfl,?_⟩;intro a52 F53;clear F49;have z54:=hx51.size
  have b58:=(b4.ext hx51)
  refine F53.xs rfl b58 (fun w55 b56 hg57=>?_) (hk:=byteVals_len (leafD_len _));have z59:=hg57.size
  refine wpList_nil (hK39 _ _ ?_);clear hK39
  have F60:=F53.k [0,2,5,6,9];clear F53
  refine wp_ret ?_
  refine ret_block ?_
  refine ret_then ?_
  refine retC F60 rfl rfl b56 Tryd.underlying24 rfl (sk inf24 (byteVals_len (leafD_len _))) ?_
  exact ⟨by rw [tree_one' (l:=l) (by omega)],((((Ext.refl w).trans hx5).trans hx51).gn hg57)⟩
 refine F37.cf ?_
 refine wp_skip ?_
 refine hK10 _ _ ?_;clear hK10
 refine wr fun K61 hK61=>?_
 refine F37.xm rfl<|Xv (vi (l.length:Nat))<|fun _ F65=>?_;clear F37
 have z66:=half_lt (n:=l.length) (by omega);have z67:=half_pos l.length
 refine wpl_op (i:=2) rfl (o_call F65 rfl rfl rfl rfl (rn_call (args1 (F65.get rfl)) rfl (by kernel_rfl)) (half_any l.length _ (by omega) (by omega)) ?_)
 rintro _ w68 ⟨rfl,hx69⟩
 refine ⟨_,rfl,?_⟩;intro a70 F71;clear F65;have z72:=hx69.size
 refine F71.xa rfl<|fun _ F74=>?_;clear F71
 refine wpList_nil (hK61 _ _ ?_);clear hK61
 have F75:=F74.k [0,2,5,6,9,3];clear F74
 refine wp_seq_k fun K76 hK76=>?_
 have hx78:∃ W,w68.drew=W∧Ext w68 W:=⟨_,rfl,(Ext.refl _).drew⟩
 obtain ⟨w77,e79,hx78⟩:=hx78
 have z80:=hx78.size
 refine any_start (fun W=>Ext w77 W∧Blk W g2 24 (byteVals (List.replicate 32 0))) (fun i=>i==9) 10 (.replicate 10 false) rfl rfl rfl ?_
 rw [e79];clear e79
 refine F75.ym 0 rfl<|Ym 1 rfl<|Yw 2 (vl A (half l.length) c) rfl (fun F W=>rn_sliceHi Tryd.underlying26 inf24 (F.get rfl) (F.get rfl) (by omega:(0:Int)≤(half l.length:Nat)) (by omega:((half l.length:Nat):Int)≤((c:Nat):Int)))<|Ym 4 rfl<|Ym 5 rfl<|fun _ F90=>?_;clear F75
 have d94:=(((hc.ext hx5).ext hx69).ext hx78)
 obtain ⟨b91,o92,hA93,-⟩:=Fl.at d94 (by omega)
 refine F90.yw 6 (vl (some ⟨b91,o92+(half l.length)*32,none⟩) (l.length - (half l.length)) (c - (half l.length))) rfl (fun F W=>rn_sliceLo (l:=(half l.length)) Tryd.underlying26 inf24 ((F.get rfl).trans (by rw [hA93])) (F.get rfl) (by omega:(half l.length)≤l.length) (by omega:(half l.length)<c))<|fun _ F96=>?_;clear F90
 refine ao 3 rfl ?_
 have hf97:=(Fl.take_eq (j:=(half l.length)) d94 (by omega) (digVals_take h32 _))
 have z98:=Fl.dlen hf97 (All32.take h32 _)
 refine o_call F96 rfl rfl rfl rfl (rn_call (args1 (F96.get rfl)) rfl (by kernel_rfl)) (ih (l.take (half l.length)) _ (n:=(half l.length)) (vl A (half l.length) c) (All32.take h32 _) hf97 (hG.ext ((((Ext.refl w).trans hx5).trans hx69).trans hx78)) (by omega)) ?_
 rintro _ w99 ⟨rfl,hx100⟩
 refine ⟨_,rfl,?_⟩;intro a101 F102;clear F96;have z103:=hx100.size
 have b104:=(((b4.ext hx69).ext hx78).ext hx100)
 refine ⟨fun _ _=>⟨((Ext.refl w77).trans hx100),b104⟩,?_⟩
 refine ao 7 rfl ?_
 have d105:=((((hc.ext hx5).ext hx69).ext hx78).ext hx100)
 have hf106:=(Fl.drop_eq (j:=(half l.length)) d105 hA93 (by omega) (digVals_drop h32 _))
 have z107:=Fl.dlen hf106 (All32.drop h32 _)
 refine o_call F102 rfl rfl rfl rfl (rn_call (args1 (F102.get rfl)) rfl (by kernel_rfl)) (ih (l.drop (half l.length)) _ (n:=l.length - (half l.length)) (vl (some ⟨b91,o92+(half l.length)*32,none⟩) (l.length - (half l.length)) (c - (half l.length))) (All32.drop h32 _) hf106 (hG.ext (((((Ext.refl w).trans hx5).trans hx69).trans hx78).trans hx100)) (by omega)) ?_
 rintro _ w108 ⟨rfl,hx109⟩
 refine ⟨_,rfl,?_⟩;intro a110 F111;clear F102;have z112:=hx109.size
 have b113:=(b104.ext hx109)
 refine ⟨fun _ _=>⟨(((Ext.refl w77).trans hx100).trans hx109),b113⟩,?_⟩
 refine ao 8 rfl ?_
 refine F111.oc (node_any (treeD (l.take (half l.length))) (treeD (l.drop (half l.length))) _ (treeD_len _) (treeD_len _) (hG.ext ((((((Ext.refl w).trans hx5).trans hx69).trans hx78).trans hx100).trans hx109))) ?_
 rintro _ w114 ⟨rfl,hx115⟩
 refine ⟨_,rfl,?_⟩;intro a116 F117;clear F111;have z118:=hx115.size
 have b119:=(b113.ext hx115)
 refine ⟨fun _ _=>⟨((((Ext.refl w77).trans hx100).trans hx109).trans hx115),b119⟩,?_⟩
 refine ao 9 rfl (F117.os rfl b119 (fun w120 b121 hg122=>an ?_) (hk:=byteVals_len (nodeD_len _ _)));have z123:=hg122.size
 refine nn (hK76 _ _ ?_);clear hK76
 have F124:=F117.k [0,2,5,6,9,3];clear F117
 refine wp_ret ?_
 refine retC F124 rfl rfl b121 Tryd.underlying24 rfl (sk inf24 (byteVals_len (nodeD_len _ _))) ?_
 exact ⟨by rw [tree_two' (l:=l) (by omega)],((((((((Ext.refl w).trans hx5).trans hx69).trans hx78).trans hx100).trans hx109).trans hx115).gn hg122)⟩

theorem tree_at (l:List (List UInt8)) (w:World) {n:Nat} {v:Value} (h32:All32 l) (hf:Fl S w 32 v n (digVals l)) (hG:Glob w):Calls Tryd.prog 42 #[v] w (fun e w'=>e=.returned (.agg (byteVals (treeD l)).toArray)∧Ext w w'):=tree_ind _ l S w v h32 hf hG (Nat.lt_succ_self _)

set_option maxRecDepth 100000 in
set_option maxHeartbeats 1000000 in
theorem rev_any (g n c base:Nat) (l:List (List UInt8)) (w:World) (h32:All32 l) (hr:w.ownsRow base 24 32 (vl (some ⟨g,0,none⟩) n c) n (digVals l)) :
  Calls Tryd.prog 81 #[.slice (some ⟨g,0,none⟩) n c] w (fun e w'=>e=.returned (.tuple #[])∧w'.ownsRow base 24 32 (vl (some ⟨g,0,none⟩) n c) n (digVals l.reverse)∧w.grownBy w' (some g)):=by
 have hln:=Fl.dlen (Fl.own (S:=fun _=>True) hr (fun _ _=>trivial) (digVals_one _)) h32
 have hgg:=own_lt hr
 refine calls_enter Tryd.func81 rfl rfl rfl fun _ hF=>?_
 refine wr fun K1 hK1=>?_
 refine hF.xm rfl<|Xv (vi (n:Nat))<|Xv (vi ((n:Nat) - 1))<|Xv (vi 0)<|Xa rfl<|fun _ F11=>?_;clear hF
 refine wpList_nil (hK1 _ _ ?_);clear hK1
 refine wp_block ?_
 refine wp_loop (fun a' W=>∃ (i1:Nat) (j1:Int) (lk:List (List UInt8)),Sl 28 [(0,(vl (some ⟨g,0,none⟩) n c)),(2,(vi (i1:Nat))),(3,(vi j1))] a'∧(i1:Int)+j1+1=n∧RevInv l lk i1∧i1≤n+1∧w.grownBy W (some g)∧W.ownsRow base 24 32 (vl (some ⟨g,0,none⟩) n c) n (digVals lk)∧base≤W.heap.size∧w.heap.size≤W.heap.size) (fun a' _=>n+2 - (intOf (a'.eval (.tmp 2))).toNat) ⟨0,((n:Int) - 1),l,F11.j,(by omega),(RevInv.start l),(by omega),(grow_refl w g),hr,(by omega),(Nat.le_refl _)⟩ ?_
 clear F11
 rintro a12 w13 ⟨i1,j1,lk,F14,hp16,hp17,hp18,hx15,r19,hf20,hf21⟩
 have hL22:=F14
 have z23:=hx15.size
 have z24:=own_lt r19
 have hk32:=hp17.all32 h32
 have hlk:=hp17.1
 refine wp_seq_k fun K25 hK25=>?_
 refine wr fun K26 hK26=>?_
 refine F14.xm rfl<|Xm rfl<|Xv (.bool (decide (((i1:Nat):Int)<(j1:Int))))<|fun _ F32=>?_;clear F14
 refine wpList_nil (hK26 _ _ ?_);clear hK26
 by_cases hc33:((i1:Nat):Int)<(j1:Int)
 ·skip
  refine F32.ct ?_
  refine wp_skip ?_
  refine hK25 _ _ ?_;clear hK25
  refine wp_seq_k fun K34 hK34=>?_
  refine wp_block ?_
  have hx36:∃ W,w13.drew=W∧Ext w13 W:=⟨_,rfl,(Ext.refl _).drew⟩
  obtain ⟨w35,e37,hx36⟩:=hx36
  have z38:=hx36.size
  refine any_start (fun W=>Ext w35 W) (fun i=>i==13||i==15) 16 (.replicate 16 false) rfl rfl rfl ?_
  rw [e37];clear e37
  refine F32.ym 0 rfl<|Ym 1 rfl<|Ym 2 rfl<|Ym 3 rfl<|Ym 4 rfl<|Ym 5 rfl<|Yw 6 (.pointer (some ⟨g,0+(j1:Int).toNat*32,none⟩)) rfl (fun F W=>rn_indexE Tryd.underlying26 inf24 (F.get rfl) (F.get rfl) (by omega:(0:Int)≤j1) (by omega:(j1:Int)<((n:Nat):Int)) (by omega))<|fun _ F52=>?_;clear F32
  have hS53:Ext w35 w35:=(Ext.refl w35)
  have r54:=(own_ext r19 hx36)
  have hf55:=(Fl.own (S:=fun b=>base≤b) r54 (fun b hb=>hb) (digVals_one _))
  refine F52.ys 7 (.agg (byteVals (lk.getD ((j1:Int).toNat) [])).toArray) rfl hS53 (fun F W hW=>rn_loadN (cs:=byteVals (lk.getD ((j1:Int).toNat) [])) (F.get rfl) Tryd.underlying24 rfl (sk inf24 (byteVals_len (dig_len hk32 ((j1:Int).toNat) (by have:=hlk;omega)))) (Fl.digAt (hf55.ext hW) rfl hk32 (by have:=hlk;omega)))<|Ym 8 rfl<|Ym 9 rfl<|Yw 10 (.pointer (some ⟨g,0+i1*32,none⟩)) rfl (fun F W=>rn_indexE Tryd.underlying26 inf24 (F.get rfl) (F.get rfl) (by omega:(0:Int)≤(i1:Nat)) (by omega:((i1:Nat):Int)<((n:Nat):Int)) (by omega))<|fun _ F63=>?_;clear F52
  have hf64:=(Fl.own (S:=fun b=>base≤b) r54 (fun b hb=>hb) (digVals_one _))
  refine F63.ys 11 (.agg (byteVals (lk.getD i1 [])).toArray) rfl hS53 (fun F W hW=>rn_loadN (cs:=byteVals (lk.getD i1 [])) (F.get rfl) Tryd.underlying24 rfl (sk inf24 (byteVals_len (dig_len hk32 i1 (by have:=hlk;omega)))) (Fl.digAt (hf64.ext hW) rfl hk32 (by have:=hlk;omega)))<|Yw 12 (.pointer (some ⟨g,0+i1*32,none⟩)) rfl (fun F W=>rn_indexE Tryd.underlying26 inf24 (F.get rfl) (F.get rfl) (by omega:(0:Int)≤(i1:Nat)) (by omega:((i1:Nat):Int)<((n:Nat):Int)) (by omega))<|fun _ F68=>?_;clear F63
  refine ao 13 rfl ?_
  have hf72:=(Fl.own (S:=fun b=>base≤b) r54 (fun b hb=>hb) (digVals_one _))
  refine o_storeRowK (j:=i1) (k:=32) (cells:=byteVals (lk.getD ((j1:Int).toNat) [])) (zs:=digVals (lk.set i1 (lk.getD ((j1:Int).toNat) []))) F68 rfl rfl rfl rfl (F68.get rfl) (F68.get rfl) r54 (sk inf24 (byteVals_len (dig_len hk32 ((j1:Int).toNat) (by have:=hlk;omega)))) (by omega) (by omega) (byteVals_len (dig_len hk32 ((j1:Int).toNat) (by have:=hlk;omega))) (byteVals_one _) (digVals_set hk32 (by have:=Fl.dlen hf72 hk32;omega) (dig_len hk32 ((j1:Int).toNat) (by have:=hlk;omega))) ?_
  intro w69 r70 hg71;have z73:=hg71.size
  refine ⟨fun h=>absurd h (by decide),?_⟩
  refine F68.yw 14 (.pointer (some ⟨g,0+(j1:Int).toNat*32,none⟩)) rfl (fun F W=>rn_indexE Tryd.underlying26 inf24 (F.get rfl) (F.get rfl) (by omega:(0:Int)≤j1) (by omega:(j1:Int)<((n:Nat):Int)) (by omega))<|fun _ F75=>?_;clear F68
  refine ao 15 rfl ?_
  have hf79:=(Fl.own (S:=fun b=>base≤b) r70 (fun b hb=>hb) (digVals_one _))
  refine o_storeRowK (j:=(j1:Int).toNat) (k:=32) (cells:=byteVals (lk.getD i1 [])) (zs:=digVals ((lk.set i1 (lk.getD ((j1:Int).toNat) [])).set ((j1:Int).toNat) (lk.getD i1 []))) F75 rfl rfl rfl rfl (F75.get rfl) (F75.get rfl) r70 (sk inf24 (byteVals_len (dig_len hk32 i1 (by have:=hlk;omega)))) (by omega) (by omega) (byteVals_len (dig_len hk32 i1 (by have:=hlk;omega))) (byteVals_one _) (digVals_set (All32.set hk32 (dig_len hk32 ((j1:Int).toNat) (by have:=hlk;omega))) (by have:=Fl.dlen hf79 (All32.set hk32 (dig_len hk32 ((j1:Int).toNat) (by have:=hlk;omega)));omega) (dig_len hk32 i1 (by have:=hlk;omega))) ?_
  intro w76 r77 hg78;have z80:=hg78.size
  refine ⟨fun h=>absurd h (by decide),?_⟩
  refine nn (hK34 _ _ ?_);clear hK34
  have F81:=F75.k [0,2,3,9];clear F75
  refine wp_region_lit ?_
  refine F81.xm rfl<|Xv (vi (i1+1:Nat))<|Xm rfl<|Xv (vi (j1 - 1))<|Xa rfl<|Xa rfl<|fun _ F93=>?_;clear F81
  refine wpList_nil ?_
  refine ⟨⟨(i1+1),(j1 - 1),(lk.set i1 (lk.getD ((j1:Int).toNat) [])).set ((j1:Int).toNat) (lk.getD i1 []),F93.j,(by omega),(RevInv.step hp17 (by omega) (by omega)),(by omega),(grow_set (grow_set (grow_ext (grow_set (grow_refl w g) hx15) hx36) hg71) hg78),r77,(by omega),(by omega)⟩,?_⟩
  rw [F93.get (t:=2) rfl,hL22.get (t:=2) rfl];simp [intOf] <;> omega
 refine F32.cf ?_
 refine wp_exit ?_
 refine exit_then ?_
 refine exit_then ?_
 refine exit_here ?_
 refine ret0 F32 rfl ?_
 have hdone:=RevInv.done hp17 (by omega)
 exact ⟨rfl,hdone ▸ r19,(grow_set (grow_refl w g) hx15)⟩

set_option maxRecDepth 100000 in
set_option maxHeartbeats 1000000 in
theorem rev_nil (w:World) :
  Calls Tryd.prog 81 #[.slice none 0 0] w (fun e w'=>e=.returned (.tuple #[])∧Ext w w'):=by
 refine calls_enter Tryd.func81 rfl rfl rfl fun _ hF=>?_
 refine wr fun K1 hK1=>?_
 refine hF.xm rfl<|Xv (vi 0)<|Xv (vi (-1))<|Xv (vi 0)<|Xa rfl<|fun _ F11=>?_;clear hF
 refine wpList_nil (hK1 _ _ ?_);clear hK1
 refine wp_block ?_
 refine wp_loop (fun a' W=>Sl 28 [(0,v0),(2,(vi 0)),(3,(vi (-1)))] a'∧Ext w W∧w.heap.size≤W.heap.size) (fun a' _=>0 - (intOf (a'.eval (.tmp 2))).toNat) ⟨F11.j,(Ext.refl w),(Nat.le_refl _)⟩ ?_
 clear F11
 rintro a12 w13 ⟨F14,hx15,hf16⟩
 have hL17:=F14
 have z18:=hx15.size
 refine wp_seq_k fun K19 hK19=>?_
 refine wr fun K20 hK20=>?_
 refine F14.xm rfl<|Xm rfl<|Xv (.bool false)<|fun _ F26=>?_;clear F14
 refine wpList_nil (hK20 _ _ ?_);clear hK20
 refine F26.cf ?_
 refine wp_exit ?_
 refine exit_then ?_
 refine exit_then ?_
 refine exit_here ?_
 refine ret0 F26 rfl ?_
 exact ⟨rfl,((Ext.refl w).trans hx15)⟩

end Go.Proofs.YtihgmaoghbnnaaaDoor

namespace Go.Proofs.YtihgmaoghbnnaaaDoor
open Go.RowKit

variable {S S':Nat→Prop}

theorem rev_at {A:Option Addr} {n c base:Nat} (l:List (List UInt8)) (w:World) (h32:All32 l) (hr:w.ownsRow base 24 32 (vl A n c) n (digVals l)) :
  Calls Tryd.prog 81 #[.slice A n c] w (fun e w'=>e=.returned (.tuple #[])∧w'.ownsRow base 24 32 (vl A n c) n (digVals l.reverse)∧w.grownBy w' (Value.slice A n c).ownBlock):=by
 rcases hr.2 with ⟨h',h0⟩ | ⟨g,cap,cur,h',_⟩
 ·cases h'
  have hl:l=[]:=List.eq_nil_of_length_eq_zero ((Fl.dlen (Fl.own (S:=fun _=>True) hr (fun _ _=>trivial) (digVals_one _)) h32))
  subst hl
  refine (rev_nil w).mono ?_
  rintro e w' ⟨rfl,hx⟩
  exact ⟨rfl,own_ext hr hx,⟨hx.below.os,hx.below.tape,hx.below.output,hx.size,fun i hi _=>hx.below.block i hi⟩⟩
 ·cases h'
  exact rev_any g n c base l w h32 hr
def pathD (l:List (List UInt8)) (at_:Nat):List (List UInt8):=pathL nodeD leafD emptyD l at_
def pathF (l:List (List UInt8)) (at_:Int):List (List UInt8) × Int:=if at_<0∨(l.length:Int)≤at_ then ([],1) else (pathD l at_.toNat,0)
theorem pathD_first {l l0 p:List (List UInt8)} {a a0:Nat} (h:2≤l0.length) (h2:a0<half l0.length) (e:pathD l a=pathD l0 a0++p.reverse):pathD l a=pathD (l0.take (half l0.length)) a0++(p++[treeD (l0.drop (half l0.length))]).reverse:=by
 rw [e,pathD,path_first _ _ _ h h2];simp [pathD,treeD]
theorem pathD_second {l l0 p:List (List UInt8)} {a a0:Nat} (h:2≤l0.length) (h2:¬ a0<half l0.length) (e:pathD l a=pathD l0 a0++p.reverse):pathD l a=pathD (l0.drop (half l0.length)) (a0 - half l0.length)++(p++[treeD (l0.take (half l0.length))]).reverse:=by
 rw [e,pathD,path_second _ _ _ h h2];simp [pathD,treeD]
theorem pathD_done {l l0 p:List (List UInt8)} {a a0:Nat} (h:l0.length≤1) (e:pathD l a=pathD l0 a0++p.reverse):p.reverse=pathD l a:=by
 rw [e,pathD,path_one _ _ _ h];rfl

set_option maxRecDepth 100000 in
set_option maxHeartbeats 1000000 in
theorem path_any (A:Option Addr) (c:Nat) (l:List (List UInt8)) (at_:Int) (w:World) (h32:All32 l) (hf:Fl S w 32 (vl A l.length c) l.length (digVals l)) (hG:Glob w) (hbig:l.length≤4398046511104) :
  Calls Tryd.prog 58 #[.slice A l.length c,.int .i64 at_] w (fun e w'=>∃ A' n c',e=.returned (.tuple #[.slice A' n c',.int .i64 (pathF l at_).2])∧Fl (fun b=>w.heap.size≤b) w' 32 (vl A' n c') n (digVals (pathF l at_).1)∧All32 (pathF l at_).1∧Ext w w'):=by
 have hc:Fl (Clip S w) w 32 (vl A l.length c) l.length (digVals l):=hf.clip
 have hcc:=(Fl.cel hc).2.1
 refine calls_enter Tryd.func58 rfl rfl rfl fun _ hF=>?_
 refine wr fun K1 hK1=>?_
 refine hF.xv v0<|Xv (vi 0)<|fun _ F5=>?_;clear hF
 refine wpList_nil (hK1 _ _ ?_);clear hK1
 refine wp_seq_k fun K6 hK6=>?_
 refine wr fun K7 hK7=>?_
 refine F5.xm rfl<|Xv (.bool (decide ((at_:Int)<(0:Int))))<|Xm rfl<|fun _ F13=>?_;clear F5
 by_cases hc14:(at_:Int)<(0:Int)
 ·skip
  refine F13.xu<|Xu<|Xu<|Xu<|Xv (.bool true)<|fun _ F24=>?_;clear F13
  refine wpList_nil (hK7 _ _ ?_);clear hK7
  have F25:=F24.k [0,1,4,5,14];clear F24
  refine F25.ct ?_
  refine wr fun K26 hK26=>?_
  refine F25.xv v0<|Xv (vi 1)<|fun _ F30=>?_;clear F25
  refine wpList_nil (hK26 _ _ ?_);clear hK26
  refine wp_ret (ret_then ?_)
  refine ret2 F30 rfl rfl rfl ?_
  exact ⟨none,0,0,by rw [pathF,if_pos (by omega)],by rw [pathF,if_pos (by omega)];exact Fl.nil _,by rw [pathF,if_pos (by omega)];exact All32.nil,(Ext.refl w)⟩
 refine F13.xg (vi at_)<|Xg (vl A l.length c)<|Xg (vi (l.length:Nat))<|Xg (.bool (decide (((l.length:Nat):Int)≤(at_:Int))))<|Xv (.bool (decide (((l.length:Nat):Int)≤(at_:Int))))<|fun _ F40=>?_;clear F13
 refine wpList_nil (hK7 _ _ ?_);clear hK7
 have F41:=F40.k [0,1,4,5,14];clear F40
 by_cases hc42:((l.length:Nat):Int)≤(at_:Int)
 ·skip
  refine F41.ct ?_
  refine wr fun K43 hK43=>?_
  refine F41.xv v0<|Xv (vi 1)<|fun _ F47=>?_;clear F41
  refine wpList_nil (hK43 _ _ ?_);clear hK43
  refine wp_ret (ret_then ?_)
  refine ret2 F47 rfl rfl rfl ?_
  exact ⟨none,0,0,by rw [pathF,if_pos (by omega)],by rw [pathF,if_pos (by omega)];exact Fl.nil _,by rw [pathF,if_pos (by omega)];exact All32.nil,(Ext.refl w)⟩
 refine F41.cf ?_
 refine wp_skip ?_
 refine hK6 _ _ ?_;clear hK6
 refine wp_seq_k fun K48 hK48=>?_
 refine wp_block ?_
 obtain ⟨an,han⟩:∃ an:Nat,at_=(an:Int):=⟨at_.toNat,by omega⟩
 refine wp_loop (fun a' W=>∃ (A0:Option Addr) (n0:Nat) (c0:Nat) (l0:List (List UInt8)) (a0:Nat) (Ap:Option Addr) (np:Nat) (cp:Nat) (p0:List (List UInt8)),Sl 50 [(0,(vl A0 n0 c0)),(1,(vi (a0:Nat))),(4,(vl Ap np cp)),(5,(vi 0)),(14,(.bool (decide (((l.length:Nat):Int)≤(at_:Int)))))] a'∧l0.length=n0∧pathD l an=pathD l0 a0++p0.reverse∧a0<n0∧All32 l0∧All32 p0∧np+n0≤l.length∧Ext w W∧W.ownsRow w.heap.size 24 32 (vl Ap np cp) np (digVals p0)∧Fl (Clip S w) W 32 (vl A0 n0 c0) n0 (digVals l0)∧w.heap.size≤W.heap.size∧w.heap.size≤W.heap.size) (fun a' _=>(sliceLen (a'.eval (.tmp 0)))) ⟨A,l.length,c,l,an,none,0,0,[],F41.j,rfl,(List.append_nil _).symm,(by omega),h32,All32.nil,(by omega),(Ext.refl w),(own_nil w w.heap.size 24 32),hc,(by omega),(Nat.le_refl _)⟩ ?_
 clear F41
 rintro a49 w50 ⟨A0,n0,c0,l0,a0,Ap,np,cp,p0,F51,hp53,hp54,hp55,hp56,hp57,hp58,hx52,r59,hf60,hf61,hf62⟩
 have hL63:=F51
 have z64:=hx52.size
 have z65:=own_form0 r59
 have hl32:=hp56
 have hp32:=hp57
 have hcc1:=(Fl.cel hf60).2.1
 refine wp_seq_k fun K66 hK66=>?_
 refine wr fun K67 hK67=>?_
 refine F51.xm rfl<|Xv (vi (n0:Nat))<|Xv (.bool (decide ((1:Int)<((n0:Nat):Int))))<|fun _ F73=>?_;clear F51
 refine wpList_nil (hK67 _ _ ?_);clear hK67
 by_cases hc74:(1:Int)<((n0:Nat):Int)
 ·skip
  refine F73.ct ?_
  refine wp_skip ?_
  refine hK66 _ _ ?_;clear hK66
  refine wp_block ?_
  refine wr fun K75 hK75=>?_
  refine F73.xm rfl<|Xv (vi (n0:Nat))<|fun _ F79=>?_;clear F73
  have z80:=half_lt (n:=n0) (by omega);have z81:=half_pos n0
  refine wpl_op (i:=2) rfl (o_call F79 rfl rfl rfl rfl (rn_call (args1 (F79.get rfl)) rfl (by kernel_rfl)) (half_any n0 _ (by omega) (by omega)) ?_)
  rintro _ w82 ⟨rfl,hx83⟩
  refine ⟨_,rfl,?_⟩;intro a84 F85;clear F79;have z86:=hx83.size
  refine F85.xa rfl<|fun _ F88=>?_;clear F85
  refine wpList_nil (hK75 _ _ ?_);clear hK75
  have F89:=F88.k [0,1,4,5,14,17,6];clear F88
  refine wr fun K90 hK90=>?_
  refine F89.xm rfl<|Xm rfl<|Xv (.bool (decide (((a0:Nat):Int)<((half n0:Nat):Int))))<|fun _ F96=>?_;clear F89
  refine wpList_nil (hK90 _ _ ?_);clear hK90
  by_cases hc97:((a0:Nat):Int)<((half n0:Nat):Int)
  ·skip
   refine F96.ct ?_
   have hx99:∃ W,w82.drew=W∧Ext w82 W:=⟨_,rfl,(Ext.refl _).drew⟩
   obtain ⟨w98,e100,hx99⟩:=hx99
   have z101:=hx99.size
   refine any_start (fun W=>True) (fun i=>false) 12 (.replicate 12 false) rfl rfl rfl ?_
   rw [e100];clear e100
   refine F96.ym 0 rfl<|Ym 1 rfl<|Ym 2 rfl<|fun _ F107=>?_;clear F96
   have d111:=((hf60.ext hx83).ext hx99)
   obtain ⟨b108,o109,hA110,-⟩:=Fl.at d111 (by omega)
   refine F107.yw 3 (vl (some ⟨b108,o109+(half n0)*32,none⟩) (n0 - (half n0)) (c0 - (half n0))) rfl (fun F W=>rn_sliceLo (l:=(half n0)) Tryd.underlying26 inf24 ((F.get rfl).trans (by rw [hA110])) (F.get rfl) (by omega:(half n0)≤n0) (by omega:(half n0)<c0))<|Ym 7 rfl<|Ym 8 rfl<|Yw 9 (vl A0 (half n0) c0) rfl (fun F W=>rn_sliceHi Tryd.underlying26 inf24 (F.get rfl) (F.get rfl) (by omega:(0:Int)≤(half n0:Nat)) (by omega:((half n0:Nat):Int)≤((c0:Nat):Int)))<|fun _ F119=>?_;clear F107
   refine ao 4 rfl ?_
   have hf120:=(Fl.drop_eq (j:=(half n0)) d111 hA110 (by omega) (digVals_drop hl32 _))
   refine F119.oc (tree_at (l0.drop (half n0)) _ (n:=n0 - (half n0)) (v:=(vl (some ⟨b108,o109+(half n0)*32,none⟩) (n0 - (half n0)) (c0 - (half n0)))) (All32.drop hl32 _) hf120 (hG.ext ((((Ext.refl w).trans hx52).trans hx83).trans hx99))) ?_
   rintro _ w121 ⟨rfl,hx122⟩
   refine ⟨_,rfl,?_⟩;intro a123 F124;clear F119;have z125:=hx122.size
   refine ⟨fun _ _=>trivial,?_⟩
   refine ao 5 rfl (F124.on (fun g=>(vl (some ⟨g,0,none⟩) 1 1)) (byteVals ((treeD (l0.drop (half n0))))) 24 rfl (fun F=>rn_buildSlice (parts1 (F.get rfl)) (build_wholeE (vs:=[(.agg (byteVals (treeD (l0.drop (half n0)))).toArray)]) El26 rfl rfl (fun v hv=>by rw [List.mem_singleton.1 hv];exact (byteVals_len (treeD_len _))) (by decide) (by decide) (by simp [Value.cells,byteVals]))) fun g126 w127 _ F133 z130 z131 b128 hx129=>?_);clear F124
   refine ⟨fun _ _=>trivial,?_⟩
   refine ao 6 rfl ?_
   have r134:=(own_ext (own_ext (own_ext (own_ext r59 hx83) hx99) hx122) hx129)
   have hf142:=r134
   refine o_appA (zs:=digVals (p0++([treeD (l0.drop (half n0))]))) El26 F133 rfl rfl rfl rfl rfl (F133.get rfl) (F133.get rfl) hf142 (Fl.cel (Fl.digblk (S:=fun b=>b=g126) b128 (All32.sing (treeD_len _)) (by simp [digVals,byteVals]))).2.2 (by omega) (by omega) (by omega) (digVals_app _ _) ?_
   intro A135 c136 w137 a143 F144 r138 hg139 z140 z141;clear F133;have z145:=hg139.size
   refine ⟨fun _ _=>trivial,?_⟩
   refine F144.yv 10 (vl A135 (np+1) c136) rfl<|Yv 11 (vl A0 (half n0) c0) rfl<|fun _ F149=>?_;clear F144
   refine nn ?_
   have d150:=(hf60.pres (Pres.row (((((Pres.refl w50).ext hx83).ext hx99).ext hx122).ext hx129) hg139 hf142 (fun b hb h=>by simp only [Clip] at h;omega)))
   refine ⟨⟨A0,(half n0),c0,l0.take (half n0),a0,A135,np+1,c136,p0++([treeD (l0.drop (half n0))]),F149.j,(Fl.dlen (Fl.take_eq (j:=(half n0)) d150 (by omega) (digVals_take hl32 _)) (All32.take hl32 _)),(by have hpl:l0.length=n0:=hp53;subst hpl;exact pathD_first (by omega) (by omega) hp54),(by omega),(All32.take hl32 _),(All32.app hp32 (All32.sing (treeD_len _))),(by omega),(ext_row ((((((Ext.refl w).trans hx52).trans hx83).trans hx99).trans hx122).trans hx129) hg139 hf142 (by omega)),r138,(Fl.take_eq (j:=(half n0)) d150 (by omega) (digVals_take hl32 _)),(by omega),(by omega)⟩,?_⟩
   rw [F149.get (t:=0) rfl,hL63.get (t:=0) rfl];simp only [sliceLen];omega
  refine F96.cf ?_
  have hx152:∃ W,w82.drew=W∧Ext w82 W:=⟨_,rfl,(Ext.refl _).drew⟩
  obtain ⟨w151,e153,hx152⟩:=hx152
  have z154:=hx152.size
  refine any_start (fun W=>True) (fun i=>false) 16 (.replicate 16 false) rfl rfl rfl ?_
  rw [e153];clear e153
  refine F96.ym 0 rfl<|Ym 1 rfl<|Ym 2 rfl<|Yw 3 (vl A0 (half n0) c0) rfl (fun F W=>rn_sliceHi Tryd.underlying26 inf24 (F.get rfl) (F.get rfl) (by omega:(0:Int)≤(half n0:Nat)) (by omega:((half n0:Nat):Int)≤((c0:Nat):Int)))<|Ym 7 rfl<|Ym 8 rfl<|fun _ F166=>?_;clear F96
  have d170:=((hf60.ext hx83).ext hx152)
  obtain ⟨b167,o168,hA169,-⟩:=Fl.at d170 (by omega)
  refine F166.yw 9 (vl (some ⟨b167,o168+(half n0)*32,none⟩) (n0 - (half n0)) (c0 - (half n0))) rfl (fun F W=>rn_sliceLo (l:=(half n0)) Tryd.underlying26 inf24 ((F.get rfl).trans (by rw [hA169])) (F.get rfl) (by omega:(half n0)≤n0) (by omega:(half n0)<c0))<|Ym 10 rfl<|Ym 11 rfl<|Yw 12 (vi (a0 - (half n0):Nat)) rfl (fun F W=>rn_subN (a:=a0) (b:=half n0) (F.get rfl) (F.get rfl) (by omega) (by omega))<|fun _ F178=>?_;clear F166
  refine ao 4 rfl ?_
  have hf179:=(Fl.take_eq (j:=(half n0)) d170 (by omega) (digVals_take hl32 _))
  refine F178.oc (tree_at (l0.take (half n0)) _ (n:=(half n0)) (v:=(vl A0 (half n0) c0)) (All32.take hl32 _) hf179 (hG.ext ((((Ext.refl w).trans hx52).trans hx83).trans hx152))) ?_
  rintro _ w180 ⟨rfl,hx181⟩
  refine ⟨_,rfl,?_⟩;intro a182 F183;clear F178;have z184:=hx181.size
  refine ⟨fun _ _=>trivial,?_⟩
  refine ao 5 rfl (F183.on (fun g=>(vl (some ⟨g,0,none⟩) 1 1)) (byteVals ((treeD (l0.take (half n0))))) 24 rfl (fun F=>rn_buildSlice (parts1 (F.get rfl)) (build_wholeE (vs:=[(.agg (byteVals (treeD (l0.take (half n0)))).toArray)]) El26 rfl rfl (fun v hv=>by rw [List.mem_singleton.1 hv];exact (byteVals_len (treeD_len _))) (by decide) (by decide) (by simp [Value.cells,byteVals]))) fun g185 w186 _ F192 z189 z190 b187 hx188=>?_);clear F183
  refine ⟨fun _ _=>trivial,?_⟩
  refine ao 6 rfl ?_
  have r193:=(own_ext (own_ext (own_ext (own_ext r59 hx83) hx152) hx181) hx188)
  have hf201:=r193
  refine o_appA (zs:=digVals (p0++([treeD (l0.take (half n0))]))) El26 F192 rfl rfl rfl rfl rfl (F192.get rfl) (F192.get rfl) hf201 (Fl.cel (Fl.digblk (S:=fun b=>b=g185) b187 (All32.sing (treeD_len _)) (by simp [digVals,byteVals]))).2.2 (by omega) (by omega) (by omega) (digVals_app _ _) ?_
  intro A194 c195 w196 a202 F203 r197 hg198 z199 z200;clear F192;have z204:=hg198.size
  refine ⟨fun _ _=>trivial,?_⟩
  refine F203.yv 13 (vl A194 (np+1) c195) rfl<|Yv 14 (vl (some ⟨b167,o168+(half n0)*32,none⟩) (n0 - (half n0)) (c0 - (half n0))) rfl<|Yv 15 (vi (a0 - (half n0):Nat)) rfl<|fun _ F210=>?_;clear F203
  refine nn ?_
  have d211:=(hf60.pres (Pres.row (((((Pres.refl w50).ext hx83).ext hx152).ext hx181).ext hx188) hg198 hf201 (fun b hb h=>by simp only [Clip] at h;omega)))
  refine ⟨⟨(some ⟨b167,o168+(half n0)*32,none⟩),n0 - (half n0),c0 - (half n0),l0.drop (half n0),a0 - (half n0),A194,np+1,c195,p0++([treeD (l0.take (half n0))]),F210.j,(Fl.dlen (Fl.drop_eq (j:=(half n0)) d211 hA169 (by omega) (digVals_drop hl32 _)) (All32.drop hl32 _)),(by have hpl:l0.length=n0:=hp53;subst hpl;exact pathD_second (by omega) (by omega) hp54),(by omega),(All32.drop hl32 _),(All32.app hp32 (All32.sing (treeD_len _))),(by omega),(ext_row ((((((Ext.refl w).trans hx52).trans hx83).trans hx152).trans hx181).trans hx188) hg198 hf201 (by omega)),r197,(Fl.drop_eq (j:=(half n0)) d211 hA169 (by omega) (digVals_drop hl32 _)),(by omega),(by omega)⟩,?_⟩
  rw [F210.get (t:=0) rfl,hL63.get (t:=0) rfl];simp only [sliceLen];omega
 refine F73.cf ?_
 refine wp_exit ?_
 refine exit_then ?_
 refine exit_then ?_
 refine exit_here ?_
 refine hK48 _ _ ?_;clear hK48
 refine wr fun K212 hK212=>?_
 refine F73.xm rfl<|fun _ F214=>?_;clear F73
 have hf215:=r59
 refine F214.xc (rev_at p0 _ hp32 hf215) ?_
 rintro _ w216 ⟨rfl,r217,hg218⟩
 refine ⟨_,rfl,?_⟩;intro a219 F220;clear F214;have z221:=hg218.size
 refine wpList_nil (hK212 _ _ ?_);clear hK212
 have F222:=F220.k [0,1,4,5,14,17];clear F220
 refine wr fun K223 hK223=>?_
 refine F222.xm rfl<|Xa rfl<|Xv (vi 0)<|fun _ F229=>?_;clear F222
 refine wpList_nil (hK223 _ _ ?_);clear hK223
 refine wp_ret ?_
 refine ret2 F229 rfl rfl rfl ?_
 have hdone:=pathD_done (by omega) hp54
 have hpf:pathF l at_=(pathD l an,0):=by rw [pathF,if_neg (by omega),han,Int.toNat_natCast]
 have hrow:=Fl.own (S:=fun b=>w.heap.size≤b) r217 (fun b hb=>by omega) (digVals_one _)
 rw [hdone] at hrow
 exact ⟨Ap,np,cp,by rw [hpf],by rw [hpf];exact hrow,by rw [hpf,← hdone];exact hp32.rev,(ext_row ((Ext.refl w).trans hx52) hg218 hf215 (by omega))⟩

theorem path_at {v:Value} {n:Nat} (l:List (List UInt8)) (at_:Int) (w:World) (h32:All32 l) (hf:Fl S w 32 v n (digVals l)) (hG:Glob w) (hbig:n≤4398046511104) :
  Calls Tryd.prog 58 #[v,.int .i64 at_] w (fun e w'=>∃ A' n c',e=.returned (.tuple #[.slice A' n c',.int .i64 (pathF l at_).2])∧Fl (fun b=>w.heap.size≤b) w' 32 (vl A' n c') n (digVals (pathF l at_).1)∧All32 (pathF l at_).1∧Ext w w'):=by
 have hm:=Fl.dlen hf h32
 subst hm
 obtain ⟨A,c,rfl,_⟩:=hf.form
 exact path_any A c l at_ w h32 hf hG hbig

end Go.Proofs.YtihgmaoghbnnaaaDoor

namespace Go.Proofs.YtihgmaoghbnnaaaDoor
open Go.RowKit

variable {S S':Nat→Prop}

def zero32:List UInt8:=List.replicate 32 0
def climbF (d:List UInt8) (at_ n:Int) (p:List (List UInt8)):List UInt8 × Int:=if (n<1∨1099511627776<n∨at_<0∨n≤at_)∨p.length≠(dirs at_.toNat n.toNat).length then (zero32,1) else (climbL nodeD leafD d at_.toNat n.toNat p,0)
theorem dirs_step1 {a n a0 n0 h0:Nat} {f:List Bool} (hh:h0=half n0) (h:2≤n0) (h2:a0<h0) (e:dirs a n=f++dirs a0 n0):dirs a n=(f++[decide (((a0:Nat):Int)<((h0:Nat):Int))])++dirs a0 h0:=by
 subst hh
 rw [e,dirs_first h h2,decide_eq_true (by omega)];simp
theorem dirs_step2 {a n a0 n0 h0:Nat} {f:List Bool} (hh:h0=half n0) (h:2≤n0) (h2:¬ a0<h0) (e:dirs a n=f++dirs a0 n0):dirs a n=(f++[decide (((a0:Nat):Int)<((h0:Nat):Int))])++dirs (a0 - h0) (n0 - h0):=by
 subst hh
 rw [e,dirs_second h h2,decide_eq_false (by omega)];simp
def climbTo (d:List UInt8) (f:List Bool) (p:List (List UInt8)) (k:Nat):List UInt8:=((p.take k).zip (f.reverse.take k)).foldl (step1 nodeD) (leafD d)
theorem climbTo_step {d x:List UInt8} {f:List Bool} {p:List (List UInt8)} {k m:Nat} {b:Bool} (hx:x=climbTo d f p k) (hk:k<p.length) (hl:p.length=f.length) (hm:m=f.length - 1 - k) (hb:f.getD m false=b):step1 nodeD x (p.getD k [],b)=climbTo d f p (k+1):=by
 subst hm
 have h1:p.take (k+1)=p.take k++[p.getD k []]:=by rw [List.take_add_one,List.getD_eq_getElem?_getD,List.getElem?_eq_getElem hk];simp
 have h2:f.reverse.take (k+1)=f.reverse.take k++[b]:=by
  rw [List.take_add_one,List.getElem?_reverse (by omega),← hb,List.getD_eq_getElem?_getD,List.getElem?_eq_getElem (by omega)];simp
 rw [hx,climbTo,climbTo,h1,h2,List.zip_append (by simp;omega),List.foldl_append];rfl
theorem climbTo_t {d x:List UInt8} {f:List Bool} {p:List (List UInt8)} {k m:Nat} (hx:x=climbTo d f p k) (hk:k<p.length) (hl:p.length=f.length) (hm:m=f.length - 1 - k) (hb:f.getD m false=true):nodeD x (p.getD k [])=climbTo d f p (k+1):=climbTo_step hx hk hl hm hb
theorem climbTo_f {d x:List UInt8} {f:List Bool} {p:List (List UInt8)} {k m:Nat} (hx:x=climbTo d f p k) (hk:k<p.length) (hl:p.length=f.length) (hm:m=f.length - 1 - k) (hb:f.getD m false=false):nodeD (p.getD k []) x=climbTo d f p (k+1):=climbTo_step hx hk hl hm hb
theorem climbTo_done {d x:List UInt8} {f:List Bool} {p:List (List UInt8)} {k a n:Nat} (hx:x=climbTo d f p k) (hk:k=p.length) (hl:p.length=f.length) (hf:dirs a n=f):x=climbL nodeD leafD d a n p:=by
 subst hk
 rw [hx,climbTo,climbL,hf,List.take_length,List.take_of_length_le (by simp;omega)]
theorem Fl.boollen {w:World} {v:Value} {n:Nat} {l:List Bool} (h:Fl S w 1 v n (boolVals l)):l.length=n:=by
 have:=h.len;simp [boolVals] at this;omega
theorem climbF_len (d:List UInt8) (at_ n:Int) (p:List (List UInt8)):(climbF d at_ n p).1.length=32:=by
 unfold climbF
 split
 ·rfl
 ·show (climbL nodeD leafD d at_.toNat n.toNat p).length=32
  unfold climbL
  generalize p.zip (dirs at_.toNat n.toNat).reverse=l
  have:∀ (l:List (List UInt8 × Bool)) (x:List UInt8),x.length=32→(l.foldl (step1 nodeD) x).length=32:=by
   intro l
   induction l with
   | nil=>intro x h;exact h
   | cons q l ih=>intro x h;exact ih _ (by unfold step1;split <;> exact nodeD_len _ _)
  exact this l _ (leafD_len d)

set_option maxRecDepth 100000 in
set_option maxHeartbeats 1000000 in
theorem climb_any (d:List UInt8) (at_ n:Int) (A:Option Addr) (c:Nat) (p:List (List UInt8)) (w:World) (hd:d.length=32) (h32:All32 p) (hf:Fl S w 32 (vl A p.length c) p.length (digVals p)) (hG:Glob w) :
  Calls Tryd.prog 66 #[.agg (byteVals d).toArray,.int .i64 at_,.int .i64 n,.slice A p.length c] w (fun e w'=>e=.returned (.tuple #[.agg (byteVals (climbF d at_ n p).1).toArray,.int .i64 (climbF d at_ n p).2])∧Ext w w'):=by
 have hc:Fl (Clip S w) w 32 (vl A p.length c) p.length (digVals p):=hf.clip
 have hcc:=(Fl.cel hc).2.1
 refine calls_enter Tryd.func66 rfl rfl rfl fun _ hF=>?_
 refine wr fun K1 hK1=>?_
 refine hF.xb rfl fun g2 w3 _ F9 z6 z7 b4 hx5=>?_;clear hF
 refine F9.xz (byteVals (List.replicate 32 0)) 24 fun g10 w11 _ F17 z14 z15 b12 hx13=>?_;clear F9
 refine F17.xv (vi 0)<|fun _ F19=>?_;clear F17
 refine wpList_nil (hK1 _ _ ?_);clear hK1
 refine wp_seq_k fun K20 hK20=>?_
 refine wr fun K21 hK21=>?_
 refine F19.xm rfl<|Xv (.bool (decide ((n:Int)<(1:Int))))<|Xm rfl<|fun _ F27=>?_;clear F19
 by_cases hc28:(n:Int)<(1:Int)
 ·skip
  refine F27.xu<|Xu<|Xv (.bool true)<|Xm rfl<|Xu<|Xu<|Xv (.bool true)<|Xm rfl<|Xu<|Xu<|Xu<|Xv (.bool true)<|fun _ F52=>?_;clear F27
  refine wpList_nil (hK21 _ _ ?_);clear hK21
  have F53:=F52.k [0,1,2,3,4,8,9,28];clear F52
  refine F53.ct ?_
  refine wr fun K54 hK54=>?_
  refine F53.xw (.agg (byteVals (List.replicate 32 0)).toArray) (fun F=>rb F rfl b12 (hk:=byteVals_len (show List.length (List.replicate 32 0)=_ from List.length_replicate)))<|fun _ F56=>?_;clear F53
  refine F56.xs rfl b12 (fun w57 b58 hg59=>?_) (hk:=byteVals_len (show List.length (List.replicate 32 0)=_ from List.length_replicate));have z60:=hg59.size
  refine F56.xv (vi 1)<|fun _ F62=>?_;clear F56
  refine wpList_nil (hK54 _ _ ?_);clear hK54
  refine wp_ret (ret_then ?_)
  refine retC1 F62 rfl rfl rfl b58 Tryd.underlying24 rfl (sk inf24 (byteVals_len (show List.length (List.replicate 32 0)=_ from List.length_replicate))) ?_
  have hcl:climbF d at_ n p=(zero32,1):=by rw [climbF,if_pos (.inl (by omega))]
  exact ⟨by rw [hcl];rfl,((((Ext.refl w).trans hx5).trans hx13).gn hg59)⟩
 refine F27.xg (vi n)<|Xg (.bool (decide ((1099511627776:Int)<(n:Int))))<|Xv (.bool (decide ((1099511627776:Int)<(n:Int))))<|Xm rfl<|fun _ F70=>?_;clear F27
 by_cases hc71:(1099511627776:Int)<(n:Int)
 ·skip
  refine F70.xu<|Xu<|Xv (.bool true)<|Xm rfl<|Xu<|Xu<|Xu<|Xv (.bool true)<|fun _ F87=>?_;clear F70
  refine wpList_nil (hK21 _ _ ?_);clear hK21
  have F88:=F87.k [0,1,2,3,4,8,9,28];clear F87
  refine F88.ct ?_
  refine wr fun K89 hK89=>?_
  refine F88.xw (.agg (byteVals (List.replicate 32 0)).toArray) (fun F=>rb F rfl b12 (hk:=byteVals_len (show List.length (List.replicate 32 0)=_ from List.length_replicate)))<|fun _ F91=>?_;clear F88
  refine F91.xs rfl b12 (fun w92 b93 hg94=>?_) (hk:=byteVals_len (show List.length (List.replicate 32 0)=_ from List.length_replicate));have z95:=hg94.size
  refine F91.xv (vi 1)<|fun _ F97=>?_;clear F91
  refine wpList_nil (hK89 _ _ ?_);clear hK89
  refine wp_ret (ret_then ?_)
  refine retC1 F97 rfl rfl rfl b93 Tryd.underlying24 rfl (sk inf24 (byteVals_len (show List.length (List.replicate 32 0)=_ from List.length_replicate))) ?_
  have hcl:climbF d at_ n p=(zero32,1):=by rw [climbF,if_pos (.inl (by omega))]
  exact ⟨by rw [hcl];rfl,((((Ext.refl w).trans hx5).trans hx13).gn hg94)⟩
 refine F70.xg (vi at_)<|Xg (.bool (decide ((at_:Int)<(0:Int))))<|Xv (.bool (decide ((at_:Int)<(0:Int))))<|Xm rfl<|fun _ F105=>?_;clear F70
 by_cases hc106:(at_:Int)<(0:Int)
 ·skip
  refine F105.xu<|Xu<|Xu<|Xv (.bool true)<|fun _ F114=>?_;clear F105
  refine wpList_nil (hK21 _ _ ?_);clear hK21
  have F115:=F114.k [0,1,2,3,4,8,9,28];clear F114
  refine F115.ct ?_
  refine wr fun K116 hK116=>?_
  refine F115.xw (.agg (byteVals (List.replicate 32 0)).toArray) (fun F=>rb F rfl b12 (hk:=byteVals_len (show List.length (List.replicate 32 0)=_ from List.length_replicate)))<|fun _ F118=>?_;clear F115
  refine F118.xs rfl b12 (fun w119 b120 hg121=>?_) (hk:=byteVals_len (show List.length (List.replicate 32 0)=_ from List.length_replicate));have z122:=hg121.size
  refine F118.xv (vi 1)<|fun _ F124=>?_;clear F118
  refine wpList_nil (hK116 _ _ ?_);clear hK116
  refine wp_ret (ret_then ?_)
  refine retC1 F124 rfl rfl rfl b120 Tryd.underlying24 rfl (sk inf24 (byteVals_len (show List.length (List.replicate 32 0)=_ from List.length_replicate))) ?_
  have hcl:climbF d at_ n p=(zero32,1):=by rw [climbF,if_pos (.inl (by omega))]
  exact ⟨by rw [hcl];rfl,((((Ext.refl w).trans hx5).trans hx13).gn hg121)⟩
 refine F105.xg (vi at_)<|Xg (vi n)<|Xg (.bool (decide ((n:Int)≤(at_:Int))))<|Xv (.bool (decide ((n:Int)≤(at_:Int))))<|fun _ F132=>?_;clear F105
 refine wpList_nil (hK21 _ _ ?_);clear hK21
 have F133:=F132.k [0,1,2,3,4,8,9,28];clear F132
 by_cases hc134:(n:Int)≤(at_:Int)
 ·skip
  refine F133.ct ?_
  refine wr fun K135 hK135=>?_
  refine F133.xw (.agg (byteVals (List.replicate 32 0)).toArray) (fun F=>rb F rfl b12 (hk:=byteVals_len (show List.length (List.replicate 32 0)=_ from List.length_replicate)))<|fun _ F137=>?_;clear F133
  refine F137.xs rfl b12 (fun w138 b139 hg140=>?_) (hk:=byteVals_len (show List.length (List.replicate 32 0)=_ from List.length_replicate));have z141:=hg140.size
  refine F137.xv (vi 1)<|fun _ F143=>?_;clear F137
  refine wpList_nil (hK135 _ _ ?_);clear hK135
  refine wp_ret (ret_then ?_)
  refine retC1 F143 rfl rfl rfl b139 Tryd.underlying24 rfl (sk inf24 (byteVals_len (show List.length (List.replicate 32 0)=_ from List.length_replicate))) ?_
  have hcl:climbF d at_ n p=(zero32,1):=by rw [climbF,if_pos (.inl (by omega))]
  exact ⟨by rw [hcl];rfl,((((Ext.refl w).trans hx5).trans hx13).gn hg140)⟩
 refine F133.cf ?_
 refine wp_skip ?_
 refine hK20 _ _ ?_;clear hK20
 refine wr fun K144 hK144=>?_
 refine F133.xv v0<|fun _ F146=>?_;clear F133
 refine wpList_nil (hK144 _ _ ?_);clear hK144
 refine wp_seq_k fun K147 hK147=>?_
 refine wp_block ?_
 obtain ⟨an,han⟩:∃ an:Nat,at_=(an:Int):=⟨at_.toNat,by omega⟩
 obtain ⟨nn,hnn⟩:∃ nn:Nat,n=(nn:Int):=⟨n.toNat,by omega⟩
 have b148:=(b4.ext hx13)
 refine wp_loop (fun a' W=>∃ (a0:Nat) (n0:Nat) (Af:Option Addr) (nf:Nat) (cf:Nat) (f0:List Bool),Sl 81 [(0,(.agg (byteVals d).toArray)),(1,(vi (a0:Nat))),(2,(vi (n0:Nat))),(3,(vl A p.length c)),(4,(vp g2)),(8,(vp g10)),(9,(vi 0)),(28,(.bool (decide ((n:Int)≤(at_:Int))))),(10,(vl Af nf cf))] a'∧dirs an nn=f0++dirs a0 n0∧a0<n0∧nf+n0≤nn∧Ext w W∧Blk W g2 24 (byteVals d)∧Blk W g10 24 (byteVals (List.replicate 32 0))∧W.ownsRow w11.heap.size 4 1 (vl Af nf cf) nf (boolVals f0)∧w11.heap.size≤W.heap.size∧w11.heap.size≤W.heap.size) (fun a' _=>(intOf (a'.eval (.tmp 2))).toNat) ⟨an,nn,none,0,0,[],F146.j,rfl,(by omega),(by omega),(((Ext.refl w).trans hx5).trans hx13),b148,b12,(own_nil w11 w11.heap.size 4 1),(by omega),(Nat.le_refl _)⟩ ?_
 clear F146
 rintro a149 w150 ⟨a0,n0,Af,nf,cf,f0,F151,hp153,hp154,hp155,hx152,b156,b157,r158,hf159,hf160⟩
 have hL161:=F151
 have z162:=hx152.size
 have z163:=b156.lt
 have z164:=b157.lt
 have z165:=own_form0 r158
 refine wp_seq_k fun K166 hK166=>?_
 refine wr fun K167 hK167=>?_
 refine F151.xm rfl<|Xv (.bool (decide ((1:Int)<((n0:Nat):Int))))<|fun _ F171=>?_;clear F151
 refine wpList_nil (hK167 _ _ ?_);clear hK167
 by_cases hc172:(1:Int)<((n0:Nat):Int)
 ·skip
  refine F171.ct ?_
  refine wp_skip ?_
  refine hK166 _ _ ?_;clear hK166
  refine wp_block ?_
  refine wr fun K173 hK173=>?_
  refine F171.xm rfl<|fun _ F175=>?_;clear F171
  have z176:=half_lt (n:=n0) (by omega);have z177:=half_pos n0
  refine wpl_op (i:=1) rfl (o_call F175 rfl rfl rfl rfl (rn_call (args1 (F175.get rfl)) rfl (by kernel_rfl)) (half_any n0 _ (by omega) (by omega)) ?_)
  rintro _ w178 ⟨rfl,hx179⟩
  refine ⟨_,rfl,?_⟩;intro a180 F181;clear F175;have z182:=hx179.size
  refine F181.xa rfl<|fun _ F184=>?_;clear F181
  refine wpList_nil (hK173 _ _ ?_);clear hK173
  refine wr fun K185 hK185=>?_
  refine F184.xm rfl<|Xm rfl<|Xm rfl<|Xv (.bool (decide (((a0:Nat):Int)<((half n0:Nat):Int))))<|fun _ F193=>?_;clear F184
  refine F193.xn (fun g=>(vl (some ⟨g,0,none⟩) 1 1)) [(.bool (decide (((a0:Nat):Int)<((half n0:Nat):Int))))] 4 (fun F=>rn_buildSlice (parts1 (F.get rfl)) (by kernel_rfl)) fun g194 w195 _ F201 z198 z199 b196 hx197=>?_;clear F193
  have r202:=(own_ext (own_ext r158 hx179) hx197)
  have hf210:=r202
  refine wpl_op (i:=5) rfl (o_appA (zs:=boolVals (f0++([decide (((a0:Nat):Int)<((half n0:Nat):Int))]))) El136 F201 rfl rfl rfl rfl rfl (F201.get rfl) (F201.get rfl) hf210 (Fl.cel (Fl.blk (S:=fun b=>b=g194) (k:=1) (n:=1) (c:=1) (cs:=boolVals [decide (((a0:Nat):Int)<((half n0:Nat):Int))]) b196 rfl (boolVals_one _) (by omega) rfl)).2.2 (by omega) (by omega) (by omega) (boolVals_app _ _) ?_)
  intro A203 c204 w205 a211 F212 r206 hg207 z208 z209;clear F201;have z213:=hg207.size
  refine F212.xa rfl<|fun _ F215=>?_;clear F212
  refine wpList_nil (hK185 _ _ ?_);clear hK185
  have F216:=F215.k [0,1,2,3,4,8,9,28,10,31,11];clear F215
  refine wr fun K217 hK217=>?_
  refine F216.xm rfl<|Xm rfl<|Xv (.bool (decide (((a0:Nat):Int)<((half n0:Nat):Int))))<|fun _ F223=>?_;clear F216
  refine wpList_nil (hK217 _ _ ?_);clear hK217
  by_cases hc224:((a0:Nat):Int)<((half n0:Nat):Int)
  ·skip
   refine F223.ct ?_
   refine wp_region_lit ?_
   refine F223.xm rfl<|Xa rfl<|fun _ F228=>?_;clear F223
   refine wpList_nil ?_
   have b229:=(grown_blk hf210 hg207 ((b156.ext hx179).ext hx197) (by decide))
   have b230:=(grown_blk hf210 hg207 ((b157.ext hx179).ext hx197) (by decide))
   refine ⟨⟨a0,half n0,A203,nf+1,c204,f0++([decide (((a0:Nat):Int)<((half n0:Nat):Int))]),F228.j,(dirs_step1 rfl (by omega) (by omega) hp153),(by omega),(by omega),(ext_row ((((Ext.refl w).trans hx152).trans hx179).trans hx197) hg207 hf210 (by omega)),b229,b230,r206,(by omega),(by omega)⟩,?_⟩
   rw [F228.get (t:=2) rfl,hL161.get (t:=2) rfl];simp [intOf] <;> omega
  refine F223.cf ?_
  refine wp_region_lit ?_
  refine F223.xm rfl<|Xm rfl<|Xw (vi (a0 - (half n0):Nat)) (fun F=>rn_subN (a:=a0) (b:=half n0) (F.get rfl) (F.get rfl) (by omega) (by omega))<|Xm rfl<|Xm rfl<|Xw (vi (n0 - (half n0):Nat)) (fun F=>rn_subN (a:=n0) (b:=half n0) (F.get rfl) (F.get rfl) (by omega) (by omega))<|Xa rfl<|Xa rfl<|fun _ F246=>?_;clear F223
  refine wpList_nil ?_
  have b247:=(grown_blk hf210 hg207 ((b156.ext hx179).ext hx197) (by decide))
  have b248:=(grown_blk hf210 hg207 ((b157.ext hx179).ext hx197) (by decide))
  refine ⟨⟨a0 - (half n0),n0 - (half n0),A203,nf+1,c204,f0++([decide (((a0:Nat):Int)<((half n0:Nat):Int))]),F246.j,(dirs_step2 rfl (by omega) (by omega) hp153),(by omega),(by omega),(ext_row ((((Ext.refl w).trans hx152).trans hx179).trans hx197) hg207 hf210 (by omega)),b247,b248,r206,(by omega),(by omega)⟩,?_⟩
  rw [F246.get (t:=2) rfl,hL161.get (t:=2) rfl];simp [intOf] <;> omega
 refine F171.cf ?_
 refine wp_exit ?_
 refine exit_then ?_
 refine exit_then ?_
 refine exit_here ?_
 refine hK147 _ _ ?_;clear hK147
 refine wp_seq_k fun K249 hK249=>?_
 refine wr fun K250 hK250=>?_
 refine F171.xm rfl<|Xv (vi (p.length:Nat))<|Xm rfl<|Xv (vi (nf:Nat))<|Xv (.bool (decide (((p.length:Nat):Int)≠((nf:Nat):Int))))<|fun _ F260=>?_;clear F171
 refine wpList_nil (hK250 _ _ ?_);clear hK250
 have F261:=F260.k [0,1,2,3,4,8,9,28,10,31,54];clear F260
 by_cases hc262:((p.length:Nat):Int)≠((nf:Nat):Int)
 ·skip
  refine F261.ct ?_
  refine wr fun K263 hK263=>?_
  refine F261.xw (.agg (byteVals (List.replicate 32 0)).toArray) (fun F=>rb F rfl b157 (hk:=byteVals_len (show List.length (List.replicate 32 0)=_ from List.length_replicate)))<|fun _ F265=>?_;clear F261
  refine F265.xs rfl b157 (fun w266 b267 hg268=>?_) (hk:=byteVals_len (show List.length (List.replicate 32 0)=_ from List.length_replicate));have z269:=hg268.size
  refine F265.xv (vi 1)<|fun _ F271=>?_;clear F265
  refine wpList_nil (hK263 _ _ ?_);clear hK263
  refine wp_ret (ret_then ?_)
  refine retC1 F271 rfl rfl rfl b267 Tryd.underlying24 rfl (sk inf24 (byteVals_len (show List.length (List.replicate 32 0)=_ from List.length_replicate))) ?_
  have hdir:dirs an nn=f0:=by rw [hp153,dirs_one (by omega),List.append_nil]
  have r272:=(own_grownT r158 b157 hg268 (by decide))
  have hnf:=Fl.boollen (Fl.own (S:=fun b=>w11.heap.size≤b) r272 (fun b hb=>hb) (boolVals_one _))
  have hcl:climbF d at_ n p=(zero32,1):=by rw [climbF,han,hnn,Int.toNat_natCast,Int.toNat_natCast,hdir,if_pos (.inr (by omega))]
  exact ⟨by rw [hcl];rfl,(((Ext.refl w).trans hx152).gn hg268)⟩
 refine F261.cf ?_
 refine wp_skip ?_
 refine hK249 _ _ ?_;clear hK249
 refine wr fun K273 hK273=>?_
 refine F261.xw (.agg (byteVals d).toArray) (fun F=>rb F rfl b156 (hk:=byteVals_len hd))<|fun _ F275=>?_;clear F261
 refine F275.xc (leaf_any d _ hd (hG.ext ((Ext.refl w).trans hx152))) ?_
 rintro _ w276 ⟨rfl,hx277⟩
 refine ⟨_,rfl,?_⟩;intro a278 F279;clear F275;have z280:=hx277.size
 have b284:=(b157.ext hx277)
 refine F279.xs rfl b284 (fun w281 b282 hg283=>?_) (hk:=byteVals_len (leafD_len _));have z285:=hg283.size
 refine wpList_nil (hK273 _ _ ?_);clear hK273
 refine wp_seq_k fun K286 hK286=>?_
 refine wr fun K287 hK287=>?_
 refine F279.xm rfl<|Xv (vi (p.length:Nat))<|Xv (vi 0)<|fun _ F293=>?_;clear F279
 refine wpList_nil (hK287 _ _ ?_);clear hK287
 refine wp_block ?_
 have hdir:dirs an nn=f0:=by rw [hp153,dirs_one (by omega),List.append_nil]
 have r294:=(own_grownT (own_ext r158 hx277) b284 hg283 (by decide))
 have hnf:=Fl.boollen (Fl.own (S:=fun b=>w11.heap.size≤b) r294 (fun b hb=>hb) (boolVals_one _))
 have b295:=((b156.ext hx277).gn hg283)
 refine wp_loop (fun a' W=>∃ (k:Nat) (xx:List UInt8),Sl 81 [(0,(.agg (byteVals d).toArray)),(1,(vi (a0:Nat))),(2,(vi (n0:Nat))),(3,(vl A p.length c)),(4,(vp g2)),(8,(vp g10)),(9,(vi 0)),(28,(.bool (decide ((n:Int)≤(at_:Int))))),(10,(vl Af nf cf)),(31,(.bool (decide ((1:Int)<((n0:Nat):Int))))),(54,(.bool (decide (((p.length:Nat):Int)≠((nf:Nat):Int))))),(58,(vl A p.length c)),(59,(vi (p.length:Nat))),(60,(vi (k:Nat)))] a'∧k≤p.length∧xx.length=32∧xx=climbTo d f0 p k∧Ext w W∧Blk W g2 24 (byteVals d)∧Blk W g10 24 (byteVals xx)∧W.ownsRow w11.heap.size 4 1 (vl Af nf cf) nf (boolVals f0)∧w11.heap.size≤W.heap.size∧w281.heap.size≤W.heap.size) (fun a' _=>p.length - (intOf (a'.eval (.tmp 60))).toNat) ⟨0,leafD d,F293.j,(by omega),(leafD_len _),rfl,((((Ext.refl w).trans hx152).trans hx277).gn hg283),b295,b282,r294,(by omega),(Nat.le_refl _)⟩ ?_
 clear F293
 rintro a296 w297 ⟨k,xx,F298,hp300,hp301,hp302,hx299,b303,b304,r305,hf306,hf307⟩
 have hL308:=F298
 have z309:=hx299.size
 have z310:=b303.lt
 have z311:=b304.lt
 have z312:=own_form0 r305
 have hxl:xx.length=32:=hp301
 refine wr fun K313 hK313=>?_
 refine F298.xv (.bool (decide (((k:Nat):Int)<((p.length:Nat):Int))))<|fun _ F315=>?_;clear F298
 refine wpList_nil (hK313 _ _ ?_);clear hK313
 refine wp_seq_k fun K316 hK316=>?_
 by_cases hc317:((k:Nat):Int)<((p.length:Nat):Int)
 ·skip
  refine F315.ct ?_
  refine wp_skip ?_
  refine hK316 _ _ ?_;clear hK316
  refine wp_seq_k fun K318 hK318=>?_
  refine wp_block ?_
  refine wr fun K319 hK319=>?_
  refine F315.xm rfl<|fun _ F321=>?_;clear F315
  have d325:=(hc.ext hx299)
  obtain ⟨b322,o323,hA324,-⟩:=Fl.at d325 (by omega)
  refine F321.xw (.pointer (some ⟨b322,o323+k*32,none⟩)) (fun F=>rn_indexE Tryd.underlying26 inf24 ((F.get rfl).trans (by rw [hA324])) (F.get rfl) (by omega:(0:Int)≤(k:Nat)) (by omega:((k:Nat):Int)<((p.length:Nat):Int)) (by omega))<|Xw (.agg (byteVals (p.getD k [])).toArray) (fun F=>rn_loadN (cs:=byteVals (p.getD k [])) (F.get rfl) Tryd.underlying24 rfl (sk inf24 (byteVals_len (dig_len h32 k (by omega)))) (Fl.digAt d325 hA324 h32 (by omega)))<|fun _ F329=>?_;clear F321
  refine F329.xz (byteVals (List.replicate 32 0)) 24 fun g330 w331 _ F337 z334 z335 b332 hx333=>?_;clear F329
  refine F337.xa rfl<|fun _ F339=>?_;clear F337
  refine F339.xs rfl b332 (fun w340 b341 hg342=>?_) (hk:=byteVals_len (dig_len h32 k (by omega)));have z343:=hg342.size
  refine wpList_nil (hK319 _ _ ?_);clear hK319
  refine wr fun K344 hK344=>?_
  refine F339.xm rfl<|Xm rfl<|Xv (vi (nf:Nat))<|Xw (vi (nf - 1:Nat)) (fun F=>rn_subN (a:=nf) (b:=1) (F.get rfl) rfl (by omega) (by omega))<|Xm rfl<|Xw (vi ((nf - 1) - k:Nat)) (fun F=>rn_subN (a:=nf - 1) (b:=k) (F.get rfl) (F.get rfl) (by omega) (by omega))<|fun _ F356=>?_;clear F339
  have r360:=(own_grownT (own_ext r305 hx333) b332 hg342 (by decide))
  have hf361:=(Fl.own (S:=fun b=>w11.heap.size≤b) r360 (fun b hb=>hb) (boolVals_one _))
  obtain ⟨b357,o358,hA359,-⟩:=Fl.at hf361 (by omega)
  refine F356.xw (.pointer (some ⟨b357,o358+((nf - 1) - k),none⟩)) (fun F=>rn_index1 Tryd.underlying136 inf4 ((F.get rfl).trans (by rw [hA359])) (F.get rfl) (by omega:(0:Int)≤((nf - 1) - k:Nat)) (by omega:(((nf - 1) - k:Nat):Int)<((nf:Nat):Int)))<|Xw (.bool (f0.getD ((nf - 1) - k) false)) (fun F=>rl F rfl (Fl.cellAt hf361 hA359 (boolVals_at (i:=((nf - 1) - k)) (by have:=hnf;omega))))<|fun _ F365=>?_;clear F356
  refine wpList_nil (hK344 _ _ ?_);clear hK344
  have F366:=F365.k [0,1,2,3,4,8,9,28,10,31,54,58,59,60,61,13,12,72];clear F365
  rcases Bool.eq_false_or_eq_true (f0.getD ((nf - 1) - k) false) with hc367 | hc367
  ·skip
   refine F366.ct ?_
   refine wp_region_lit ?_
   have b368:=((b304.ext hx333).gn hg342)
   refine F366.xw (.agg (byteVals xx).toArray) (fun F=>rb F rfl b368 (hk:=byteVals_len hxl))<|Xw (.agg (byteVals (p.getD k [])).toArray) (fun F=>rb F rfl b341 (hk:=byteVals_len (dig_len h32 k (by omega))))<|fun _ F372=>?_;clear F366
   refine wpl_op (i:=2) rfl (o_call F372 rfl rfl rfl rfl (rn_call (args2 (F372.get rfl) (F372.get rfl)) rfl (by kernel_rfl)) (node_any xx (p.getD k []) _ hxl (dig_len h32 k (by omega)) (hG.ext ((((Ext.refl w).trans hx299).trans hx333).gn hg342))) ?_)
   rintro _ w373 ⟨rfl,hx374⟩
   refine ⟨_,rfl,?_⟩;intro a375 F376;clear F372;have z377:=hx374.size
   have b381:=(b368.ext hx374)
   refine F376.xs rfl b381 (fun w378 b379 hg380=>?_) (hk:=byteVals_len (nodeD_len _ _)) (hl:=byteVals_len hxl);have z382:=hg380.size
   refine wpList_nil (hK318 _ _ ?_);clear hK318
   refine wp_region_lit ?_
   refine F376.xv (vi (k+1:Nat))<|Xm rfl<|fun _ F386=>?_;clear F376
   refine wpList_nil ?_
   have b387:=((((b303.ext hx333).gn hg342).ext hx374).gn hg380)
   have r388:=(own_grownT (own_ext r360 hx374) b381 hg380 (by decide))
   refine ⟨⟨(k+1),nodeD xx (p.getD k []),F386.j,(by omega),(nodeD_len _ _),(climbTo_t hp302 (by omega) (by omega) (by omega) hc367),((((((Ext.refl w).trans hx299).trans hx333).gn hg342).trans hx374).gn hg380),b387,b379,r388,(by omega),(by omega)⟩,?_⟩
   rw [F386.get (t:=60) rfl,hL308.get (t:=60) rfl];simp [intOf] <;> omega
  refine F366.cf ?_
  refine wp_region_lit ?_
  refine F366.xw (.agg (byteVals (p.getD k [])).toArray) (fun F=>rb F rfl b341 (hk:=byteVals_len (dig_len h32 k (by omega))))<|fun _ F390=>?_;clear F366
  have b391:=((b304.ext hx333).gn hg342)
  refine F390.xw (.agg (byteVals xx).toArray) (fun F=>rb F rfl b391 (hk:=byteVals_len hxl))<|fun _ F393=>?_;clear F390
  refine wpl_op (i:=2) rfl (o_call F393 rfl rfl rfl rfl (rn_call (args2 (F393.get rfl) (F393.get rfl)) rfl (by kernel_rfl)) (node_any (p.getD k []) xx _ (dig_len h32 k (by omega)) hxl (hG.ext ((((Ext.refl w).trans hx299).trans hx333).gn hg342))) ?_)
  rintro _ w394 ⟨rfl,hx395⟩
  refine ⟨_,rfl,?_⟩;intro a396 F397;clear F393;have z398:=hx395.size
  have b402:=(b391.ext hx395)
  refine F397.xs rfl b402 (fun w399 b400 hg401=>?_) (hk:=byteVals_len (nodeD_len _ _)) (hl:=byteVals_len hxl);have z403:=hg401.size
  refine wpList_nil (hK318 _ _ ?_);clear hK318
  refine wp_region_lit ?_
  refine F397.xv (vi (k+1:Nat))<|Xm rfl<|fun _ F407=>?_;clear F397
  refine wpList_nil ?_
  have b408:=((((b303.ext hx333).gn hg342).ext hx395).gn hg401)
  have r409:=(own_grownT (own_ext r360 hx395) b402 hg401 (by decide))
  refine ⟨⟨(k+1),nodeD (p.getD k []) xx,F407.j,(by omega),(nodeD_len _ _),(climbTo_f hp302 (by omega) (by omega) (by omega) hc367),((((((Ext.refl w).trans hx299).trans hx333).gn hg342).trans hx395).gn hg401),b408,b400,r409,(by omega),(by omega)⟩,?_⟩
  rw [F407.get (t:=60) rfl,hL308.get (t:=60) rfl];simp [intOf] <;> omega
 refine F315.cf ?_
 refine wp_exit ?_
 refine exit_then ?_
 refine exit_then ?_
 refine exit_here ?_
 refine hK286 _ _ ?_;clear hK286
 refine wr fun K410 hK410=>?_
 refine F315.xw (.agg (byteVals xx).toArray) (fun F=>rb F rfl b304 (hk:=byteVals_len hxl))<|fun _ F412=>?_;clear F315
 refine F412.xs rfl b304 (fun w413 b414 hg415=>?_) (hk:=byteVals_len hxl) (hl:=byteVals_len hxl);have z416:=hg415.size
 refine F412.xv (vi 0)<|fun _ F418=>?_;clear F412
 refine wpList_nil (hK410 _ _ ?_);clear hK410
 refine wp_ret ?_
 refine retC1 F418 rfl rfl rfl b414 Tryd.underlying24 rfl (sk inf24 (byteVals_len hxl)) ?_
 have hcl:climbF d at_ n p=(climbL nodeD leafD d an nn p,0):=by rw [climbF,han,hnn,Int.toNat_natCast,Int.toNat_natCast,hdir,if_neg (by omega)]
 have hdone:=climbTo_done hp302 (by omega) (by omega) hdir
 exact ⟨by rw [hcl,← hdone],(((Ext.refl w).trans hx299).gn hg415)⟩

theorem climb_at {v:Value} {m:Nat} (d:List UInt8) (at_ n:Int) (p:List (List UInt8)) (w:World) (hd:d.length=32) (h32:All32 p) (hf:Fl S w 32 v m (digVals p)) (hG:Glob w):Calls Tryd.prog 66 #[.agg (byteVals d).toArray,.int .i64 at_,.int .i64 n,v] w (fun e w'=>e=.returned (.tuple #[.agg (byteVals (climbF d at_ n p).1).toArray,.int .i64 (climbF d at_ n p).2])∧Ext w w'):=by
 have hm:=Fl.dlen hf h32
 subst hm
 obtain ⟨A,c,rfl,_⟩:=hf.form
 exact climb_any d at_ n A c p w hd h32 hf hG

end Go.Proofs.YtihgmaoghbnnaaaDoor

namespace Go.Proofs.YtihgmaoghbnnaaaDoor
open Go.RowKit

variable {S S':Nat→Prop}

theorem pathD_one' {l:List (List UInt8)} {a:Nat} (h:l.length≤1):pathD l a=[]:=by rw [pathD,path_one _ _ _ h]
theorem pathD_first' {l:List (List UInt8)} {a:Nat} (h:2≤l.length) (h2:a<half l.length):pathD l a=pathD (l.take (half l.length)) a++[treeD (l.drop (half l.length))]:=by rw [pathD,path_first _ _ _ h h2];rfl
theorem pathD_second' {l:List (List UInt8)} {a:Nat} (h:2≤l.length) (h2:¬ a<half l.length):pathD l a=pathD (l.drop (half l.length)) (a - half l.length)++[treeD (l.take (half l.length))]:=by rw [pathD,path_second _ _ _ h h2];rfl
theorem pathD_32:∀ (N:Nat) (l:List (List UInt8)) (a:Nat),l.length≤N→All32 (pathD l a):=by
  intro N
  induction N with
  | zero=>intro l a h;rw [pathD_one' (by omega)];exact All32.nil
  | succ N ih =>
    intro l a h
    by_cases h1:l.length≤1
    · rw [pathD_one' h1];exact All32.nil
    · have hl:=half_lt (n:=l.length) (by omega)
      have hp:=half_pos l.length
      by_cases h2:a<half l.length
      · rw [pathD_first' (by omega) h2];exact (ih _ _ (by rw [List.length_take];omega)).app (All32.sing (treeD_len _))
      · rw [pathD_second' (by omega) h2];exact (ih _ _ (by rw [List.length_drop];omega)).app (All32.sing (treeD_len _))

end Go.Proofs.YtihgmaoghbnnaaaDoor

namespace Go.Proofs.YtihgmaoghbnnaaaDoor
open Go.RowKit

def kOk (sd:List UInt8) (many used:Int):Bool:=decide ((1≤sd.length∧sd.length≤64)∧(1≤many∧many≤4096)∧0≤used∧used≤many)
def two (n:Nat):List UInt8:=[UInt8.ofNat (n / 256),UInt8.ofNat n]
def bitB (b:Bool):UInt8:=if b then 1 else 0
def secretD (sd:List UInt8) (i j:Nat) (b:Bool):List UInt8:=tagged [115,101,99,114,101,116] (sd++two i++[UInt8.ofNat j,bitB b])
def openD (d:List UInt8):List UInt8:=tagged [111,112,101,110] d
def hashD (sd:List UInt8) (i j:Nat) (b:Bool):List UInt8:=openD (secretD sd i j b)
/-- the hashes of k bits, one behind the other -/
def manyD (h:Nat→Bool→List UInt8) (k:Nat):List UInt8:=(List.range k).flatMap fun j=>h j false++h j true
def publicD (h:Nat→Bool→List UInt8):List UInt8:=tagged [111,110,101] (manyD h 64)
def pubsL (sd:List UInt8) (k:Nat):List (List UInt8):=(List.range k).map fun i=>publicD (hashD sd i)
def pubD (sd:List UInt8) (many:Nat):List UInt8:=treeD (pubsL sd many)
def msgD (root:List UInt8) (i:Nat) (msg:List UInt8):List UInt8:=tagged [109,101,115,115,97,103,101] (root++two i++msg)
def bitOf (d:List UInt8) (k:Nat):Bool:=decide ((((d.getD (k / 8) 0 >>> UInt8.ofNat (7 - k % 8)) &&& 1).toNat:Int)=1)
def bitsTo (d:List UInt8) (k:Nat):List Bool:=(List.range k).map (bitOf d)
def bitsL (root:List UInt8) (i:Nat) (msg:List UInt8):List Bool:=bitsTo (msgD root i msg) 64
theorem secretD_len (sd:List UInt8) (i j:Nat) (b:Bool):(secretD sd i j b).length=32:=tagged_len _ _
theorem openD_len (d:List UInt8):(openD d).length=32:=tagged_len _ _
theorem hashD_len (sd:List UInt8) (i j:Nat) (b:Bool):(hashD sd i j b).length=32:=tagged_len _ _
theorem publicD_len (h:Nat→Bool→List UInt8):(publicD h).length=32:=tagged_len _ _
theorem pubsL_len (sd:List UInt8) (k:Nat):(pubsL sd k).length=k:=by simp [pubsL]
theorem pubsL_32 (sd:List UInt8) (k:Nat):All32 (pubsL sd k):=fun x hx=>by
  obtain ⟨i,_,rfl⟩:=List.mem_map.1 hx;exact publicD_len _
theorem pubsL_step (sd:List UInt8) (k:Nat):pubsL sd k++[publicD (hashD sd k)]=pubsL sd (k+1):=by rw [pubsL,pubsL,List.range_succ,List.map_append];rfl
theorem bitsTo_len (d:List UInt8) (k:Nat):(bitsTo d k).length=k:=by simp [bitsTo]
theorem bitsL_len (root:List UInt8) (i:Nat) (msg:List UInt8):(bitsL root i msg).length=64:=bitsTo_len _ _
theorem bitsTo_step (d:List UInt8) (k:Nat):bitsTo d k++[bitOf d k]=bitsTo d (k+1):=by rw [bitsTo,bitsTo,List.range_succ,List.map_append];rfl
theorem manyD_step (h:Nat→Bool→List UInt8) (k:Nat):(manyD h k++h k false)++h k true=manyD h (k+1):=by
  rw [manyD,manyD,List.range_succ,List.flatMap_append,List.flatMap_cons,List.flatMap_nil,List.append_nil,List.append_assoc]
theorem manyD_congr {g h:Nat→Bool→List UInt8}:∀ {k:Nat},(∀ j b,j<k→g j b=h j b)→manyD g k=manyD h k
  | 0,_=>rfl
  | k+1,e=>by rw [← manyD_step,← manyD_step,manyD_congr (k:=k) fun j b hj=>e j b (by omega),e k false (by omega),e k true (by omega)]
theorem publicD_congr {g h:Nat→Bool→List UInt8} (e:∀ j b,j<64→g j b=h j b):publicD g=publicD h:=by rw [publicD,publicD,manyD_congr e]
/-! signatures -/
structure Sg where
  (index:Int)
  (op cl path:List (List UInt8))
def opTo (sd:List UInt8) (i:Nat) (bs:List Bool) (k:Nat):List (List UInt8):=(List.range k).map fun j=>secretD sd i j (bs.getD j false)
def clTo (sd:List UInt8) (i:Nat) (bs:List Bool) (k:Nat):List (List UInt8):=(List.range k).map fun j=>hashD sd i j (!bs.getD j false)
theorem opTo_step (sd:List UInt8) (i:Nat) (bs:List Bool) (k:Nat):opTo sd i bs k++[secretD sd i k (bs.getD k false)]=opTo sd i bs (k+1):=by rw [opTo,opTo,List.range_succ,List.map_append];rfl
theorem clTo_step (sd:List UInt8) (i:Nat) (bs:List Bool) (k:Nat):clTo sd i bs k++[hashD sd i k (!bs.getD k false)]=clTo sd i bs (k+1):=by rw [clTo,clTo,List.range_succ,List.map_append];rfl
theorem opTo_len (sd:List UInt8) (i:Nat) (bs:List Bool) (k:Nat):(opTo sd i bs k).length=k:=by simp [opTo]
theorem clTo_len (sd:List UInt8) (i:Nat) (bs:List Bool) (k:Nat):(clTo sd i bs k).length=k:=by simp [clTo]
theorem opTo_32 (sd:List UInt8) (i:Nat) (bs:List Bool) (k:Nat):All32 (opTo sd i bs k):=fun x hx=>by obtain ⟨j,_,rfl⟩:=List.mem_map.1 hx;exact secretD_len _ _ _ _
theorem clTo_32 (sd:List UInt8) (i:Nat) (bs:List Bool) (k:Nat):All32 (clTo sd i bs k):=fun x hx=>by obtain ⟨j,_,rfl⟩:=List.mem_map.1 hx;exact hashD_len _ _ _ _
theorem opTo_at {sd:List UInt8} {i:Nat} {bs:List Bool} {k j:Nat} (h:j<k):(opTo sd i bs k).getD j []=secretD sd i j (bs.getD j false):=by
  rw [List.getD_eq_getElem?_getD,opTo,List.getElem?_map,List.getElem?_range h];rfl
theorem clTo_at {sd:List UInt8} {i:Nat} {bs:List Bool} {k j:Nat} (h:j<k):(clTo sd i bs k).getD j []=hashD sd i j (!bs.getD j false):=by
  rw [List.getD_eq_getElem?_getD,clTo,List.getElem?_map,List.getElem?_range h];rfl
def sgNil:Sg:=⟨0,[],[],[]⟩
def signE (sd:List UInt8) (many used idx:Int) (msg:List UInt8):Int:=if kOk sd many used=false then 40 else if 65536<msg.length then 2 else if idx<0∨many≤idx then 40 else 0
def sgOf (sd:List UInt8) (many idx:Nat) (msg:List UInt8):Sg :=
  ⟨idx,opTo sd idx (bitsL (pubD sd many) idx msg) 64,clTo sd idx (bitsL (pubD sd many) idx msg) 64,pathD (pubsL sd many) idx⟩
def signF (sd:List UInt8) (many used idx:Int) (msg:List UInt8):Sg:=if signE sd many used idx msg=0 then sgOf sd many.toNat idx.toNat msg else sgNil
/-- the hash that a signature shows for a bit -/
def shown (bs:List Bool) (s:Sg) (j:Nat) (b:Bool):List UInt8:=if bs.getD j false=b then openD (s.op.getD j []) else s.cl.getD j []
def vShape (n:Int) (msg:List UInt8) (s:Sg):Prop:=¬ (n<1∨4096<n∨s.index<0∨n≤s.index∨s.op.length≠64∨s.cl.length≠64∨65536<msg.length)
instance (n:Int) (msg:List UInt8) (s:Sg):Decidable (vShape n msg s):=by unfold vShape;exact inferInstance
def climbS (root:List UInt8) (n:Int) (msg:List UInt8) (s:Sg):List UInt8 × Int:=climbF (publicD (shown (bitsL root s.index.toNat msg) s)) s.index n s.path
def verifyF (root:List UInt8) (n:Int) (msg:List UInt8) (s:Sg):Bool:=decide (vShape n msg s)&&(decide ((climbS root n msg s).2=0)&&decide ((climbS root n msg s).1=root))
theorem climb_pubs {sd:List UInt8} {many i:Nat} (h:i<many) (hm:many≤4096):climbF (publicD (hashD sd i)) i many (pathD (pubsL sd many) i)=(pubD sd many,0):=by
  have h1:=climbs nodeD leafD emptyD (pubsL sd many) i (by rw [pubsL_len];exact h)
  have h2:=path_len nodeD leafD emptyD (pubsL sd many) i
  rw [pubsL_len] at h1 h2
  have h3:(pubsL sd many).getD i []=publicD (hashD sd i):=by
    rw [List.getD_eq_getElem?_getD,pubsL,List.getElem?_map,List.getElem?_range h];rfl
  rw [h3] at h1
  rw [climbF,if_neg (by simp only [Int.toNat_natCast,pathD];omega)]
  simp only [Int.toNat_natCast,pathD]
  rw [h1];rfl
/-- what a signature of a key shows are the hashes of its secrets, for any bits that are those that were signed -/
theorem shown_sg {sd:List UInt8} {many i:Nat} {msg:List UInt8} {j:Nat} {b:Bool} (hj:j<64):shown (bitsL (pubD sd many) i msg) (sgOf sd many i msg) j b=hashD sd i j b:=by
  unfold shown
  simp only [sgOf]
  rw [opTo_at hj,clTo_at hj]
  generalize (bitsL (pubD sd many) i msg).getD j false=c
  cases c <;> cases b <;> rfl
theorem verify_sg {sd:List UInt8} {many i:Nat} {msg other:List UInt8} (h:i<many) (hm:many≤4096) (hl:other.length≤65536) (hb:bitsL (pubD sd many) i msg=bitsL (pubD sd many) i other):verifyF (pubD sd many) many other (sgOf sd many i msg)=true:=by
  have e:climbS (pubD sd many) many other (sgOf sd many i msg)=(pubD sd many,0):=by
    unfold climbS
    have h1:publicD (shown (bitsL (pubD sd many) (sgOf sd many i msg).index.toNat other) (sgOf sd many i msg))=publicD (hashD sd i):=publicD_congr fun j b hj=>by
      have:(sgOf sd many i msg).index.toNat=i:=by simp [sgOf]
      rw [this,← hb];exact shown_sg hj
    rw [h1]
    exact climb_pubs h hm
  have hv:vShape many other (sgOf sd many i msg):=by
    have h1:(sgOf sd many i msg).op.length=64:=opTo_len _ _ _ _
    have h2:(sgOf sd many i msg).cl.length=64:=clTo_len _ _ _ _
    have h3:(sgOf sd many i msg).index=i:=rfl
    unfold vShape
    omega
  unfold verifyF
  rw [e,decide_eq_true hv];simp
theorem verify_not {root:List UInt8} {n:Int} {msg:List UInt8} {s:Sg} (h:¬ vShape n msg s):verifyF root n msg s=false:=by rw [verifyF,decide_eq_false h];rfl
theorem verify_yes {root:List UInt8} {n:Int} {msg:List UInt8} {s:Sg} (h:vShape n msg s):verifyF root n msg s=(decide ((climbS root n msg s).2=0)&&decide ((climbS root n msg s).1=root)):=by rw [verifyF,decide_eq_true h];rfl
theorem kOk_iff {sd:List UInt8} {many used:Int}:kOk sd many used=true↔(1≤sd.length∧sd.length≤64)∧(1≤many∧many≤4096)∧0≤used∧used≤many:=decide_eq_true_iff
end Go.Proofs.YtihgmaoghbnnaaaDoor

namespace Go.Proofs.YtihgmaoghbnnaaaDoor
open Go.RowKit

variable {S S':Nat→Prop}

/-- what the state is behind n bytes of the filled ones -/
def SumInv (b f:List UInt8) (n:Nat) (h:List UInt32):Prop:=(n<f.length∧feed h n (b.drop n)=feed first 0 b)∨(n=f.length∧h=feed first 0 b)
theorem SumInv.start {b f:List UInt8} (h0:0<f.length):SumInv b f 0 first:=.inl ⟨h0,rfl⟩
theorem SumInv.done {b f:List UInt8} {n:Nat} {h:List UInt32} (e:SumInv b f n h) (hn:f.length≤n):h=feed first 0 b:=by
  rcases e with ⟨h1,_⟩ | ⟨_,h1⟩
  · omega
  · exact h1

end Go.Proofs.YtihgmaoghbnnaaaDoor

namespace Go.Proofs.YtihgmaoghbnnaaaDoor
open Go.RowKit

variable {S S':Nat→Prop}

set_option maxRecDepth 100000 in
set_option maxHeartbeats 1000000 in
theorem valid_any (A:Option Addr) (c:Nat) (sd:List UInt8) (many used:Int) (w:World) (hf:Fl S w 1 (vl A sd.length c) sd.length (byteVals sd)) :
  Calls Tryd.prog 36 #[.agg #[.slice A sd.length c,.int .i64 many,.int .i64 used]] w (fun e w'=>e=.returned (.bool (kOk sd many used))∧Ext w w'):=by
 have hc:Fl (Clip S w) w 1 (vl A sd.length c) sd.length (byteVals sd):=hf.clip
 have hcc:=(Fl.cel hc).2.1
 refine calls_enter Tryd.func36 rfl rfl rfl fun _ hF=>?_
 refine wr fun K1 hK1=>?_
 refine hF.xb rfl fun g2 w3 _ F9 z6 z7 b4 hx5=>?_;clear hF
 refine F9.xv (.bool false)<|fun _ F11=>?_;clear F9
 refine wpList_nil (hK1 _ _ ?_);clear hK1
 refine wr fun K12 hK12=>?_
 refine F11.xv (vp g2)<|Xw (vl A sd.length c) (fun F=>rl F rfl (b4.rule.1 0))<|Xv (vi (sd.length:Nat))<|Xv (.bool (decide ((1:Int)≤((sd.length:Nat):Int))))<|Xm rfl<|fun _ F22=>?_;clear F11
 by_cases hc23:(1:Int)≤((sd.length:Nat):Int)
 ·skip
  refine F22.xg (vp g2)<|Xgw (vl A sd.length c) (fun F=>rl F rfl (b4.rule.1 0))<|Xg (vi (sd.length:Nat))<|Xg (.bool (decide (((sd.length:Nat):Int)≤(64:Int))))<|Xv (.bool (decide (((sd.length:Nat):Int)≤(64:Int))))<|Xm rfl<|fun _ F35=>?_;clear F22
  by_cases hc36:((sd.length:Nat):Int)≤(64:Int)
  ·skip
   refine F35.xg (.pointer (some ⟨g2,1,none⟩))<|Xgw (vi many) (fun F=>rl F rfl (b4.rule.1 1))<|Xg (.bool (decide ((1:Int)≤(many:Int))))<|Xv (.bool (decide ((1:Int)≤(many:Int))))<|Xm rfl<|fun _ F46=>?_;clear F35
   by_cases hc47:(1:Int)≤(many:Int)
   ·skip
    refine F46.xg (.pointer (some ⟨g2,1,none⟩))<|Xgw (vi many) (fun F=>rl F rfl (b4.rule.1 1))<|Xg (.bool (decide ((many:Int)≤(4096:Int))))<|Xv (.bool (decide ((many:Int)≤(4096:Int))))<|Xm rfl<|fun _ F57=>?_;clear F46
    by_cases hc58:(many:Int)≤(4096:Int)
    ·skip
     refine F57.xg (.pointer (some ⟨g2,2,none⟩))<|Xgw (vi used) (fun F=>rl F rfl (b4.rule.1 2))<|Xg (.bool (decide ((0:Int)≤(used:Int))))<|Xv (.bool (decide ((0:Int)≤(used:Int))))<|Xm rfl<|fun _ F68=>?_;clear F57
     by_cases hc69:(0:Int)≤(used:Int)
     ·skip
      refine F68.xg (.pointer (some ⟨g2,2,none⟩))<|Xgw (vi used) (fun F=>rl F rfl (b4.rule.1 2))<|Xg (.pointer (some ⟨g2,1,none⟩))<|Xgw (vi many) (fun F=>rl F rfl (b4.rule.1 1))<|Xg (.bool (decide ((used:Int)≤(many:Int))))<|Xv (.bool (decide ((used:Int)≤(many:Int))))<|Xa rfl<|fun _ F83=>?_;clear F68
      refine wpList_nil (hK12 _ _ ?_);clear hK12
      have F84:=F83.k [0,1,2];clear F83
      refine wp_ret ?_
      refine ret1 F84 rfl rfl ?_
      exact ⟨congrArg (fun b=>Ending.returned (.bool b)) (show (decide ((used:Int)≤(many:Int)))=kOk sd many used from by unfold kOk;exact decide_eq_decide.2 ⟨fun h=>by omega,fun h=>by omega⟩),((Ext.refl w).trans hx5)⟩
     refine F68.xu<|Xu<|Xu<|Xu<|Xu<|Xv (.bool false)<|Xa rfl<|fun _ F98=>?_;clear F68
     refine wpList_nil (hK12 _ _ ?_);clear hK12
     have F99:=F98.k [0,1,2];clear F98
     refine wp_ret ?_
     refine ret1 F99 rfl rfl ?_
     exact ⟨by rw [kOk,decide_eq_false (by omega)],((Ext.refl w).trans hx5)⟩
    refine F57.xu<|Xu<|Xu<|Xv (.bool false)<|Xm rfl<|Xu<|Xu<|Xu<|Xu<|Xu<|Xv (.bool false)<|Xa rfl<|fun _ F123=>?_;clear F57
    refine wpList_nil (hK12 _ _ ?_);clear hK12
    have F124:=F123.k [0,1,2];clear F123
    refine wp_ret ?_
    refine ret1 F124 rfl rfl ?_
    exact ⟨by rw [kOk,decide_eq_false (by omega)],((Ext.refl w).trans hx5)⟩
   refine F46.xu<|Xu<|Xu<|Xv (.bool false)<|Xm rfl<|Xu<|Xu<|Xu<|Xv (.bool false)<|Xm rfl<|Xu<|Xu<|Xu<|Xu<|Xu<|Xv (.bool false)<|Xa rfl<|fun _ F158=>?_;clear F46
   refine wpList_nil (hK12 _ _ ?_);clear hK12
   have F159:=F158.k [0,1,2];clear F158
   refine wp_ret ?_
   refine ret1 F159 rfl rfl ?_
   exact ⟨by rw [kOk,decide_eq_false (by omega)],((Ext.refl w).trans hx5)⟩
  refine F35.xu<|Xu<|Xu<|Xv (.bool false)<|Xm rfl<|Xu<|Xu<|Xu<|Xv (.bool false)<|Xm rfl<|Xu<|Xu<|Xu<|Xv (.bool false)<|Xm rfl<|Xu<|Xu<|Xu<|Xu<|Xu<|Xv (.bool false)<|Xa rfl<|fun _ F203=>?_;clear F35
  refine wpList_nil (hK12 _ _ ?_);clear hK12
  have F204:=F203.k [0,1,2];clear F203
  refine wp_ret ?_
  refine ret1 F204 rfl rfl ?_
  exact ⟨by rw [kOk,decide_eq_false (by omega)],((Ext.refl w).trans hx5)⟩
 refine F22.xu<|Xu<|Xu<|Xu<|Xv (.bool false)<|Xm rfl<|Xu<|Xu<|Xu<|Xv (.bool false)<|Xm rfl<|Xu<|Xu<|Xu<|Xv (.bool false)<|Xm rfl<|Xu<|Xu<|Xu<|Xv (.bool false)<|Xm rfl<|Xu<|Xu<|Xu<|Xu<|Xu<|Xv (.bool false)<|Xa rfl<|fun _ F260=>?_;clear F22
 refine wpList_nil (hK12 _ _ ?_);clear hK12
 have F261:=F260.k [0,1,2];clear F260
 refine wp_ret ?_
 refine ret1 F261 rfl rfl ?_
 exact ⟨by rw [kOk,decide_eq_false (by omega)],((Ext.refl w).trans hx5)⟩

theorem valid_at {v:Value} {m:Nat} (sd:List UInt8) (many used:Int) (w:World) (hf:Fl S w 1 v m (byteVals sd)) :
  Calls Tryd.prog 36 #[.agg #[v,.int .i64 many,.int .i64 used]] w (fun e w'=>e=.returned (.bool (kOk sd many used))∧Ext w w'):=by
 have hm:=hf.blen
 subst hm
 obtain ⟨A,c,rfl,_⟩:=hf.form
 exact valid_any A c sd many used w hf

set_option maxRecDepth 100000 in
set_option maxHeartbeats 1000000 in
theorem two_any (n:Nat) (w:World) (hn:n<65536) :
  Calls Tryd.prog 82 #[.int .i64 (n:Nat)] w (fun e w'=>∃ A c,e=.returned (vl A 2 c)∧Fl (fun b=>w.heap.size≤b) w' 1 (vl A 2 c) 2 (byteVals (two n))∧Ext w w'):=by
 refine calls_enter Tryd.func82 rfl rfl rfl fun _ hF=>?_
 refine wr fun K1 hK1=>?_
 refine hF.xv v0<|fun _ F3=>?_;clear hF
 refine wpList_nil (hK1 _ _ ?_);clear hK1
 refine wr fun K4 hK4=>?_
 refine F3.xm rfl<|Xw (vi (n / 256:Nat)) (fun F=>rn_shrN (a:=n) (n:=8) (m:=n / 256) (F.get rfl) rfl (by omega) (by rw [show 2 ^ 8=256 from rfl]))<|Xw (.int .u8 ((UInt8.ofNat (n / 256)).toNat:Nat)) (fun F=>rn_convW Tryd.underlying3 Tryd.underlying5 (F.get rfl) (cvi_8 (n / 256)))<|Xm rfl<|Xw (.int .u8 ((UInt8.ofNat n).toNat:Nat)) (fun F=>rn_convW Tryd.underlying3 Tryd.underlying5 (F.get rfl) (cvi_8 n))<|fun _ F14=>?_;clear F3
 refine F14.xn (fun g=>(vl (some ⟨g,0,none⟩) 2 2)) [(.int .u8 ((UInt8.ofNat (n / 256)).toNat:Nat)),(.int .u8 ((UInt8.ofNat n).toNat:Nat))] 5 (fun F=>rn_buildSlice (parts2 (F.get rfl) (F.get rfl)) (by kernel_rfl)) fun g15 w16 _ F22 z19 z20 b17 hx18=>?_;clear F14
 refine F22.xa rfl<|fun _ F24=>?_;clear F22
 refine wpList_nil (hK4 _ _ ?_);clear hK4
 have F25:=F24.k [0,2];clear F24
 refine wp_ret ?_
 refine ret1 F25 rfl rfl ?_
 exact ⟨_,_,rfl,(Fl.sub (Fl.blk (S:=fun b=>b=g15) (k:=1) (n:=2) (c:=2) (cs:=byteVals [(UInt8.ofNat (n / 256)),(UInt8.ofNat n)]) b17 rfl (byteVals_one _) (by omega) rfl) (fun b hb=>by omega)),((Ext.refl w).trans hx18)⟩

set_option maxRecDepth 100000 in
set_option maxHeartbeats 1000000 in
theorem open_any (d:List UInt8) (w:World) (hd:d.length=32) (hG:Glob w) :
  Calls Tryd.prog 65 #[.agg (byteVals d).toArray] w (fun e w'=>e=.returned (.agg (byteVals (openD d)).toArray)∧Ext w w'):=by
 refine calls_enter Tryd.func65 rfl rfl rfl fun _ hF=>?_
 refine wr fun K1 hK1=>?_
 refine hF.xb rfl fun g2 w3 _ F9 z6 z7 b4 hx5=>?_;clear hF
 refine F9.xz (byteVals (List.replicate 32 0)) 24 fun g10 w11 _ F17 z14 z15 b12 hx13=>?_;clear F9
 refine wpList_nil (hK1 _ _ ?_);clear hK1
 refine wr fun K18 hK18=>?_
 refine F17.xw (vl (some ⟨g2,0,none⟩) 32 32) (fun F=>rn_arrAll Tryd.underlying24 inf5 (F.get rfl))<|fun _ F20=>?_;clear F17
 have b21:=(b4.ext hx13)
 refine wpl_op (i:=1) rfl (o_call F20 rfl rfl rfl rfl (rn_call (args2 rfl (F20.get rfl)) rfl (by kernel_rfl)) (tagged_at ([111,112,101,110]) (v:=(vl (some ⟨g2,0,none⟩) 32 32)) (n:=32) d _ (Fl.blk (S:=fun b=>b=g2) (k:=1) (n:=32) (c:=32) b21 (by rw [byteVals_len hd,Nat.mul_one]) (byteVals_one _) (by omega) rfl) (hG.ext (((Ext.refl w).trans hx5).trans hx13)) (by simp <;> omega) (by omega)) ?_)
 rintro _ w22 ⟨rfl,hx23⟩
 refine ⟨_,rfl,?_⟩;intro a24 F25;clear F20;have z26:=hx23.size
 have b30:=(b12.ext hx23)
 refine F25.xs rfl b30 (fun w27 b28 hg29=>?_) (hk:=byteVals_len (tagged_len _ _));have z31:=hg29.size
 refine wpList_nil (hK18 _ _ ?_);clear hK18
 refine wp_ret ?_
 refine retC F25 rfl rfl b28 Tryd.underlying24 rfl (sk inf24 (byteVals_len (tagged_len _ _))) ?_
 exact ⟨rfl,(((((Ext.refl w).trans hx5).trans hx13).trans hx23).gn hg29)⟩

end Go.Proofs.YtihgmaoghbnnaaaDoor

namespace Go.Proofs.YtihgmaoghbnnaaaDoor
open Go.RowKit

variable {S S':Nat→Prop}

set_option maxRecDepth 100000 in
set_option maxHeartbeats 1000000 in
theorem secret_any (A:Option Addr) (c:Nat) (sd:List UInt8) (i j:Nat) (b:Bool) (w:World) (hf:Fl S w 1 (vl A sd.length c) sd.length (byteVals sd)) (hG:Glob w) (hsd:sd.length≤4194304) (hi:i<65536) (hj:j<256) :
  Calls Tryd.prog 60 #[.agg #[.slice A sd.length c,.int .i64 (i:Nat)],.int .i64 (j:Nat),.bool b] w (fun e w'=>e=.returned (.agg (byteVals (secretD sd i j b)).toArray)∧Ext w w'):=by
 have hc:Fl (Clip S w) w 1 (vl A sd.length c) sd.length (byteVals sd):=hf.clip
 have hcc:=(Fl.cel hc).2.1
 refine calls_enter Tryd.func60 rfl rfl rfl fun _ hF=>?_
 refine wr fun K1 hK1=>?_
 refine hF.xb rfl fun g2 w3 _ F9 z6 z7 b4 hx5=>?_;clear hF
 refine F9.xz (byteVals (List.replicate 32 0)) 24 fun g10 w11 _ F17 z14 z15 b12 hx13=>?_;clear F9
 refine wpList_nil (hK1 _ _ ?_);clear hK1
 refine wr fun K18 hK18=>?_
 refine F17.xv (.int .u8 0)<|fun _ F20=>?_;clear F17
 refine wpList_nil (hK18 _ _ ?_);clear hK18
 refine wp_seq_k fun K21 hK21=>?_
 refine wr fun K22 hK22=>?_
 refine F20.xm rfl<|fun _ F24=>?_;clear F20
 refine wpList_nil (hK22 _ _ ?_);clear hK22
 rcases Bool.eq_false_or_eq_true b with hc25 | hc25
 ·skip
  refine F24.ct ?_
  refine wp_region_lit ?_
  refine F24.xv (.int .u8 1)<|fun _ F27=>?_;clear F24
  refine wpList_nil (hK21 _ _ ?_);clear hK21
  refine wp_seq_k fun K28 hK28=>?_
  have hx30:∃ W,w11.drew=W∧Ext w11 W:=⟨_,rfl,(Ext.refl _).drew⟩
  obtain ⟨w29,e31,hx30⟩:=hx30
  have z32:=hx30.size
  refine any_start (fun W=>Ext w29 W∧Blk W g2 112 [(vl A sd.length c),(vi (i:Nat))]∧Blk W g10 24 (byteVals (List.replicate 32 0))) (fun i=>i==12) 13 (.replicate 13 false) rfl rfl rfl ?_
  rw [e31];clear e31
  refine any_have (n1:=4) (L1:=#[true,true,true,true,true,true,true,true,true,false,false,false,false]) (fun a' W=>∃ (A50:Option Addr) (c51:Nat) (g72:Nat),Sl 21 [(0,(.agg #[(vl A sd.length c),(vi (i:Nat))])),(1,(vi (j:Nat))),(2,(.bool b)),(3,(vp g2)),(6,(vp g10)),(7,(.int .u8 1)),(8,(.bool b)),(10,(vl A sd.length c)),(13,(vl A50 2 c51)),(17,(vl (some ⟨g72,0,none⟩) 2 2))] a'∧Ext w29 W∧Blk W g72 5 [(.int .u8 ((UInt8.ofNat j).toNat:Nat)),(.int .u8 1)]∧w29.heap.size≤g72∧Fl (fun b=>w29.heap.size≤b) W 1 (vl A50 2 c51) 2 (byteVals (two i))) ?_ (fun st120=>?_)
  ·skip
   rintro a121 w122 ⟨A50,c51,g72,F123,hx124,b125,z126,hf127⟩
   clear F27
   have z128:=hx124.size
   have z129:=b125.lt
   have z130:=(Fl.cel hf127).2.1
   have z131:=Fl.blen hf127
   refine ao 9 rfl (F123.on (fun g=>(vl (some ⟨g,0,none⟩) 3 3)) [(vl A sd.length c),(vl A50 2 c51),(vl (some ⟨g72,0,none⟩) 2 2)] 52 rfl (fun F=>rn_buildSlice (parts3 (F.get rfl) (F.get rfl) (F.get rfl)) (by kernel_rfl)) fun g132 w133 _ F139 z136 z137 b134 hx135=>?_);clear F123
   have b140:=((((b4.ext hx13).ext hx30).ext hx124).ext hx135)
   have b141:=(((b12.ext hx30).ext hx124).ext hx135)
   refine ⟨fun _ _=>⟨(((Ext.refl w29).trans hx124).trans hx135),b140,b141⟩,?_⟩
   refine ao 10 rfl ?_
   have d142:=(((((hc.ext hx5).ext hx13).ext hx30).ext hx124).ext hx135)
   have d143:=(hf127.ext hx135)
   have b144:=(b125.ext hx135)
   have hn148:=Fl.blen d142
   have hn149:=Fl.blen d143
   have hn150:=Fl.blen (Fl.blk (S:=fun b=>b=g72) (k:=1) (n:=2) (c:=2) (cs:=byteVals [(UInt8.ofNat j),(1:UInt8)]) b144 rfl (byteVals_one _) (by omega) rfl)
   have hn151:([sd,two i,[(UInt8.ofNat j),(1:UInt8)]]).flatten.length=sd.length+2+2:=by simp only [List.flatten_cons,List.flatten_nil,List.length_append,List.length_nil];omega
   refine o_call F139 rfl rfl rfl rfl (rn_call (args1 (F139.get rfl)) rfl (by kernel_rfl)) (concat_at [sd,two i,[(UInt8.ofNat j),(1:UInt8)]] _ (RBss.three b134 d142 d143 (Fl.blk (S:=fun b=>b=g72) (k:=1) (n:=2) (c:=2) (cs:=byteVals [(UInt8.ofNat j),(1:UInt8)]) b144 rfl (byteVals_one _) (by omega) rfl)) hn151 (by omega)) ?_
   rintro _ w152 ⟨A145,c146,rfl,hf147,hx153⟩
   rw [show ([sd,two i,[(UInt8.ofNat j),(1:UInt8)]]).flatten=sd++(two i)++([(UInt8.ofNat j),(1:UInt8)]) from by simp] at hf147
   refine ⟨_,rfl,?_⟩;intro a154 F155;clear F139;have z156:=hx153.size
   have b157:=(b140.ext hx153)
   have b158:=(b141.ext hx153)
   refine ⟨fun _ _=>⟨((((Ext.refl w29).trans hx124).trans hx135).trans hx153),b157,b158⟩,?_⟩
   refine ao 11 rfl ?_
   refine o_call F155 rfl rfl rfl rfl (rn_call (args2 rfl (F155.get rfl)) rfl (by kernel_rfl)) (tagged_at ([115,101,99,114,101,116]) (v:=(vl A145 (sd.length+2+2) c146)) (n:=(sd.length+2+2)) (sd++(two i)++([(UInt8.ofNat j),(1:UInt8)])) _ hf147 (hG.ext (((((((Ext.refl w).trans hx5).trans hx13).trans hx30).trans hx124).trans hx135).trans hx153)) (by simp <;> omega) (by omega)) ?_
   rintro _ w159 ⟨rfl,hx160⟩
   refine ⟨_,rfl,?_⟩;intro a161 F162;clear F155;have z163:=hx160.size
   have b164:=(b157.ext hx160)
   have b165:=(b158.ext hx160)
   refine ⟨fun _ _=>⟨(((((Ext.refl w29).trans hx124).trans hx135).trans hx153).trans hx160),b164,b165⟩,?_⟩
   refine ao 12 rfl (F162.os rfl b165 (fun w166 b167 hg168=>an ?_) (hk:=byteVals_len (tagged_len _ _)));have z169:=hg168.size
   refine nn (hK28 _ _ ?_);clear hK28
   have F170:=F162.k [0,1,2,3,6,7,8];clear F162
   refine wp_ret ?_
   refine retC F170 rfl rfl b167 Tryd.underlying24 rfl (sk inf24 (byteVals_len (tagged_len _ _))) ?_
   exact ⟨by subst hc25;rfl,(((((((((Ext.refl w).trans hx5).trans hx13).trans hx30).trans hx124).trans hx135).trans hx153).trans hx160).gn hg168)⟩
  refine F27.yv 0 (vp g2) rfl<|fun _ F172=>?_;clear F27
  have b174:=((b4.ext hx13).ext hx30)
  have b175:=(b12.ext hx30)
  have hS173:Ext w29 w29∧Blk w29 g2 112 [(vl A sd.length c),(vi (i:Nat))]∧Blk w29 g10 24 (byteVals (List.replicate 32 0)):=⟨(Ext.refl w29),b174,b175⟩
  refine F172.ys 1 (vl A sd.length c) rfl hS173 (fun F W hW=>rl F rfl (hW.2.1.rule.1 0))<|Yv 2 (.pointer (some ⟨g2,1,none⟩)) rfl<|Ys 3 (vi (i:Nat)) rfl hS173 (fun F W hW=>rl F rfl (hW.2.1.rule.1 1))<|Ym 5 rfl<|Ys 6 (.int .u8 ((UInt8.ofNat j).toNat:Nat)) rfl hS173 (fun F W hW=>rn_convW Tryd.underlying3 Tryd.underlying5 (F.get rfl) (cvi_8 j))<|Ym 7 rfl<|fun _ F187=>?_;clear F172
  refine any_two (i:=4) (k:=8) (by decide +kernel) rfl rfl ?_ ?_
  ·skip
   refine o_call F187 rfl rfl rfl rfl (rn_call (args1 (F187.get rfl)) rfl (by kernel_rfl)) (two_any i _ (by omega)) ?_
   rintro _ w192 ⟨A188,c189,rfl,hf190,hx193⟩
   have z191:=(Fl.cel hf190).2.1
   refine ⟨_,rfl,?_⟩;intro a194 F195;clear F187;have z196:=hx193.size
   have hf197:Fl (Clip (fun b=>w29.heap.size≤b) w192) w192 1 (vl A188 2 c189) 2 (byteVals (two i)):=hf190.clip
   have b198:=(b174.ext hx193)
   have b199:=(b175.ext hx193)
   refine ⟨fun _ _=>⟨((Ext.refl w29).trans hx193),b198,b199⟩,?_⟩
   refine ao 8 rfl (F195.on (fun g=>(vl (some ⟨g,0,none⟩) 2 2)) [(.int .u8 ((UInt8.ofNat j).toNat:Nat)),(.int .u8 1)] 5 rfl (fun F=>rn_buildSlice (parts2 (F.get rfl) (F.get rfl)) (by kernel_rfl)) fun g200 w201 _ F207 z204 z205 b202 hx203=>?_);clear F195
   have b208:=(b198.ext hx203)
   have b209:=(b199.ext hx203)
   refine ⟨fun _ _=>⟨(((Ext.refl w29).trans hx193).trans hx203),b208,b209⟩,?_⟩
   have d210:=(hf197.ext hx203)
   exact st120 _ _ ⟨A188,c189,g200,((((((((((F207.nil.c F207 17 rfl).c F207 13 rfl).c F207 10 rfl).c F207 8 rfl).c F207 7 rfl).c F207 6 rfl).c F207 3 rfl).c F207 2 rfl).c F207 1 rfl).c F207 0 rfl),(((Ext.refl w29).trans hx193).trans hx203),b202,(by omega),(Fl.sub d210 (fun b hb=>by first | omega | (simp only [Clip] at hb;omega)))⟩
  refine F187.on (fun g=>(vl (some ⟨g,0,none⟩) 2 2)) [(.int .u8 ((UInt8.ofNat j).toNat:Nat)),(.int .u8 1)] 5 rfl (fun F=>rn_buildSlice (parts2 (F.get rfl) (F.get rfl)) (by kernel_rfl)) fun g211 w212 _ F218 z215 z216 b213 hx214=>?_;clear F187
  have b219:=(b174.ext hx214)
  have b220:=(b175.ext hx214)
  refine ⟨fun _ _=>⟨((Ext.refl w29).trans hx214),b219,b220⟩,?_⟩
  refine ao 4 rfl ?_
  refine o_call F218 rfl rfl rfl rfl (rn_call (args1 (F218.get rfl)) rfl (by kernel_rfl)) (two_any i _ (by omega)) ?_
  rintro _ w225 ⟨A221,c222,rfl,hf223,hx226⟩
  have z224:=(Fl.cel hf223).2.1
  refine ⟨_,rfl,?_⟩;intro a227 F228;clear F218;have z229:=hx226.size
  have hf230:Fl (Clip (fun b=>w212.heap.size≤b) w225) w225 1 (vl A221 2 c222) 2 (byteVals (two i)):=hf223.clip
  have b231:=(b219.ext hx226)
  have b232:=(b220.ext hx226)
  refine ⟨fun _ _=>⟨(((Ext.refl w29).trans hx214).trans hx226),b231,b232⟩,?_⟩
  have b233:=(b213.ext hx226)
  exact st120 _ _ ⟨A221,c222,g211,((((((((((F228.nil.c F228 17 rfl).c F228 13 rfl).c F228 10 rfl).c F228 8 rfl).c F228 7 rfl).c F228 6 rfl).c F228 3 rfl).c F228 2 rfl).c F228 1 rfl).c F228 0 rfl),(((Ext.refl w29).trans hx214).trans hx226),b233,(by omega),(Fl.sub hf230 (fun b hb=>by first | omega | (simp only [Clip] at hb;omega)))⟩
 refine F24.cf ?_
 refine wp_skip ?_
 refine hK21 _ _ ?_;clear hK21
 refine wp_seq_k fun K234 hK234=>?_
 have hx236:∃ W,w11.drew=W∧Ext w11 W:=⟨_,rfl,(Ext.refl _).drew⟩
 obtain ⟨w235,e237,hx236⟩:=hx236
 have z238:=hx236.size
 refine any_start (fun W=>Ext w235 W∧Blk W g2 112 [(vl A sd.length c),(vi (i:Nat))]∧Blk W g10 24 (byteVals (List.replicate 32 0))) (fun i=>i==12) 13 (.replicate 13 false) rfl rfl rfl ?_
 rw [e237];clear e237
 refine any_have (n1:=4) (L1:=#[true,true,true,true,true,true,true,true,true,false,false,false,false]) (fun a' W=>∃ (A256:Option Addr) (c257:Nat) (g278:Nat),Sl 21 [(0,(.agg #[(vl A sd.length c),(vi (i:Nat))])),(1,(vi (j:Nat))),(2,(.bool b)),(3,(vp g2)),(6,(vp g10)),(7,(.int .u8 0)),(8,(.bool b)),(10,(vl A sd.length c)),(13,(vl A256 2 c257)),(17,(vl (some ⟨g278,0,none⟩) 2 2))] a'∧Ext w235 W∧Blk W g278 5 [(.int .u8 ((UInt8.ofNat j).toNat:Nat)),(.int .u8 0)]∧w235.heap.size≤g278∧Fl (fun b=>w235.heap.size≤b) W 1 (vl A256 2 c257) 2 (byteVals (two i))) ?_ (fun st326=>?_)
 ·skip
  rintro a327 w328 ⟨A256,c257,g278,F329,hx330,b331,z332,hf333⟩
  clear F24
  have z334:=hx330.size
  have z335:=b331.lt
  have z336:=(Fl.cel hf333).2.1
  have z337:=Fl.blen hf333
  refine ao 9 rfl (F329.on (fun g=>(vl (some ⟨g,0,none⟩) 3 3)) [(vl A sd.length c),(vl A256 2 c257),(vl (some ⟨g278,0,none⟩) 2 2)] 52 rfl (fun F=>rn_buildSlice (parts3 (F.get rfl) (F.get rfl) (F.get rfl)) (by kernel_rfl)) fun g338 w339 _ F345 z342 z343 b340 hx341=>?_);clear F329
  have b346:=((((b4.ext hx13).ext hx236).ext hx330).ext hx341)
  have b347:=(((b12.ext hx236).ext hx330).ext hx341)
  refine ⟨fun _ _=>⟨(((Ext.refl w235).trans hx330).trans hx341),b346,b347⟩,?_⟩
  refine ao 10 rfl ?_
  have d348:=(((((hc.ext hx5).ext hx13).ext hx236).ext hx330).ext hx341)
  have d349:=(hf333.ext hx341)
  have b350:=(b331.ext hx341)
  have hn354:=Fl.blen d348
  have hn355:=Fl.blen d349
  have hn356:=Fl.blen (Fl.blk (S:=fun b=>b=g278) (k:=1) (n:=2) (c:=2) (cs:=byteVals [(UInt8.ofNat j),(0:UInt8)]) b350 rfl (byteVals_one _) (by omega) rfl)
  have hn357:([sd,two i,[(UInt8.ofNat j),(0:UInt8)]]).flatten.length=sd.length+2+2:=by simp only [List.flatten_cons,List.flatten_nil,List.length_append,List.length_nil];omega
  refine o_call F345 rfl rfl rfl rfl (rn_call (args1 (F345.get rfl)) rfl (by kernel_rfl)) (concat_at [sd,two i,[(UInt8.ofNat j),(0:UInt8)]] _ (RBss.three b340 d348 d349 (Fl.blk (S:=fun b=>b=g278) (k:=1) (n:=2) (c:=2) (cs:=byteVals [(UInt8.ofNat j),(0:UInt8)]) b350 rfl (byteVals_one _) (by omega) rfl)) hn357 (by omega)) ?_
  rintro _ w358 ⟨A351,c352,rfl,hf353,hx359⟩
  rw [show ([sd,two i,[(UInt8.ofNat j),(0:UInt8)]]).flatten=sd++(two i)++([(UInt8.ofNat j),(0:UInt8)]) from by simp] at hf353
  refine ⟨_,rfl,?_⟩;intro a360 F361;clear F345;have z362:=hx359.size
  have b363:=(b346.ext hx359)
  have b364:=(b347.ext hx359)
  refine ⟨fun _ _=>⟨((((Ext.refl w235).trans hx330).trans hx341).trans hx359),b363,b364⟩,?_⟩
  refine ao 11 rfl ?_
  refine o_call F361 rfl rfl rfl rfl (rn_call (args2 rfl (F361.get rfl)) rfl (by kernel_rfl)) (tagged_at ([115,101,99,114,101,116]) (v:=(vl A351 (sd.length+2+2) c352)) (n:=(sd.length+2+2)) (sd++(two i)++([(UInt8.ofNat j),(0:UInt8)])) _ hf353 (hG.ext (((((((Ext.refl w).trans hx5).trans hx13).trans hx236).trans hx330).trans hx341).trans hx359)) (by simp <;> omega) (by omega)) ?_
  rintro _ w365 ⟨rfl,hx366⟩
  refine ⟨_,rfl,?_⟩;intro a367 F368;clear F361;have z369:=hx366.size
  have b370:=(b363.ext hx366)
  have b371:=(b364.ext hx366)
  refine ⟨fun _ _=>⟨(((((Ext.refl w235).trans hx330).trans hx341).trans hx359).trans hx366),b370,b371⟩,?_⟩
  refine ao 12 rfl (F368.os rfl b371 (fun w372 b373 hg374=>an ?_) (hk:=byteVals_len (tagged_len _ _)));have z375:=hg374.size
  refine nn (hK234 _ _ ?_);clear hK234
  have F376:=F368.k [0,1,2,3,6,7,8];clear F368
  refine wp_ret ?_
  refine retC F376 rfl rfl b373 Tryd.underlying24 rfl (sk inf24 (byteVals_len (tagged_len _ _))) ?_
  exact ⟨by subst hc25;rfl,(((((((((Ext.refl w).trans hx5).trans hx13).trans hx236).trans hx330).trans hx341).trans hx359).trans hx366).gn hg374)⟩
 refine F24.yv 0 (vp g2) rfl<|fun _ F378=>?_;clear F24
 have b380:=((b4.ext hx13).ext hx236)
 have b381:=(b12.ext hx236)
 have hS379:Ext w235 w235∧Blk w235 g2 112 [(vl A sd.length c),(vi (i:Nat))]∧Blk w235 g10 24 (byteVals (List.replicate 32 0)):=⟨(Ext.refl w235),b380,b381⟩
 refine F378.ys 1 (vl A sd.length c) rfl hS379 (fun F W hW=>rl F rfl (hW.2.1.rule.1 0))<|Yv 2 (.pointer (some ⟨g2,1,none⟩)) rfl<|Ys 3 (vi (i:Nat)) rfl hS379 (fun F W hW=>rl F rfl (hW.2.1.rule.1 1))<|Ym 5 rfl<|Ys 6 (.int .u8 ((UInt8.ofNat j).toNat:Nat)) rfl hS379 (fun F W hW=>rn_convW Tryd.underlying3 Tryd.underlying5 (F.get rfl) (cvi_8 j))<|Ym 7 rfl<|fun _ F393=>?_;clear F378
 refine any_two (i:=4) (k:=8) (by decide +kernel) rfl rfl ?_ ?_
 ·skip
  refine o_call F393 rfl rfl rfl rfl (rn_call (args1 (F393.get rfl)) rfl (by kernel_rfl)) (two_any i _ (by omega)) ?_
  rintro _ w398 ⟨A394,c395,rfl,hf396,hx399⟩
  have z397:=(Fl.cel hf396).2.1
  refine ⟨_,rfl,?_⟩;intro a400 F401;clear F393;have z402:=hx399.size
  have hf403:Fl (Clip (fun b=>w235.heap.size≤b) w398) w398 1 (vl A394 2 c395) 2 (byteVals (two i)):=hf396.clip
  have b404:=(b380.ext hx399)
  have b405:=(b381.ext hx399)
  refine ⟨fun _ _=>⟨((Ext.refl w235).trans hx399),b404,b405⟩,?_⟩
  refine ao 8 rfl (F401.on (fun g=>(vl (some ⟨g,0,none⟩) 2 2)) [(.int .u8 ((UInt8.ofNat j).toNat:Nat)),(.int .u8 0)] 5 rfl (fun F=>rn_buildSlice (parts2 (F.get rfl) (F.get rfl)) (by kernel_rfl)) fun g406 w407 _ F413 z410 z411 b408 hx409=>?_);clear F401
  have b414:=(b404.ext hx409)
  have b415:=(b405.ext hx409)
  refine ⟨fun _ _=>⟨(((Ext.refl w235).trans hx399).trans hx409),b414,b415⟩,?_⟩
  have d416:=(hf403.ext hx409)
  exact st326 _ _ ⟨A394,c395,g406,((((((((((F413.nil.c F413 17 rfl).c F413 13 rfl).c F413 10 rfl).c F413 8 rfl).c F413 7 rfl).c F413 6 rfl).c F413 3 rfl).c F413 2 rfl).c F413 1 rfl).c F413 0 rfl),(((Ext.refl w235).trans hx399).trans hx409),b408,(by omega),(Fl.sub d416 (fun b hb=>by first | omega | (simp only [Clip] at hb;omega)))⟩
 refine F393.on (fun g=>(vl (some ⟨g,0,none⟩) 2 2)) [(.int .u8 ((UInt8.ofNat j).toNat:Nat)),(.int .u8 0)] 5 rfl (fun F=>rn_buildSlice (parts2 (F.get rfl) (F.get rfl)) (by kernel_rfl)) fun g417 w418 _ F424 z421 z422 b419 hx420=>?_;clear F393
 have b425:=(b380.ext hx420)
 have b426:=(b381.ext hx420)
 refine ⟨fun _ _=>⟨((Ext.refl w235).trans hx420),b425,b426⟩,?_⟩
 refine ao 4 rfl ?_
 refine o_call F424 rfl rfl rfl rfl (rn_call (args1 (F424.get rfl)) rfl (by kernel_rfl)) (two_any i _ (by omega)) ?_
 rintro _ w431 ⟨A427,c428,rfl,hf429,hx432⟩
 have z430:=(Fl.cel hf429).2.1
 refine ⟨_,rfl,?_⟩;intro a433 F434;clear F424;have z435:=hx432.size
 have hf436:Fl (Clip (fun b=>w418.heap.size≤b) w431) w431 1 (vl A427 2 c428) 2 (byteVals (two i)):=hf429.clip
 have b437:=(b425.ext hx432)
 have b438:=(b426.ext hx432)
 refine ⟨fun _ _=>⟨(((Ext.refl w235).trans hx420).trans hx432),b437,b438⟩,?_⟩
 have b439:=(b419.ext hx432)
 exact st326 _ _ ⟨A427,c428,g417,((((((((((F434.nil.c F434 17 rfl).c F434 13 rfl).c F434 10 rfl).c F434 8 rfl).c F434 7 rfl).c F434 6 rfl).c F434 3 rfl).c F434 2 rfl).c F434 1 rfl).c F434 0 rfl),(((Ext.refl w235).trans hx420).trans hx432),b439,(by omega),(Fl.sub hf436 (fun b hb=>by first | omega | (simp only [Clip] at hb;omega)))⟩

theorem secret_at {v:Value} {m:Nat} (sd:List UInt8) (i j:Nat) (b:Bool) (w:World) (hf:Fl S w 1 v m (byteVals sd)) (hG:Glob w) (hsd:m≤4194304) (hi:i<65536) (hj:j<256) :
  Calls Tryd.prog 60 #[.agg #[v,.int .i64 (i:Nat)],.int .i64 (j:Nat),.bool b] w (fun e w'=>e=.returned (.agg (byteVals (secretD sd i j b)).toArray)∧Ext w w'):=by
 have hm:=hf.blen
 subst hm
 obtain ⟨A,c,rfl,_⟩:=hf.form
 exact secret_any A c sd i j b w hf hG hsd hi hj

set_option maxRecDepth 100000 in
set_option maxHeartbeats 1000000 in
theorem hash_any (A:Option Addr) (c:Nat) (sd:List UInt8) (i j:Nat) (b:Bool) (w:World) (hf:Fl S w 1 (vl A sd.length c) sd.length (byteVals sd)) (hG:Glob w) (hsd:sd.length≤4194304) (hi:i<65536) (hj:j<256) :
  Calls Tryd.prog 61 #[.agg #[.slice A sd.length c,.int .i64 (i:Nat)],.int .i64 (j:Nat),.bool b] w (fun e w'=>e=.returned (.agg (byteVals (hashD sd i j b)).toArray)∧Ext w w'):=by
 have hc:Fl (Clip S w) w 1 (vl A sd.length c) sd.length (byteVals sd):=hf.clip
 have hcc:=(Fl.cel hc).2.1
 refine calls_enter Tryd.func61 rfl rfl rfl fun _ hF=>?_
 refine wr fun K1 hK1=>?_
 refine hF.xb rfl fun g2 w3 _ F9 z6 z7 b4 hx5=>?_;clear hF
 refine F9.xz (byteVals (List.replicate 32 0)) 24 fun g10 w11 _ F17 z14 z15 b12 hx13=>?_;clear F9
 refine wpList_nil (hK1 _ _ ?_);clear hK1
 refine wr fun K18 hK18=>?_
 have b19:=(b4.ext hx13)
 refine F17.xw (.agg #[(vl A sd.length c),(vi (i:Nat))]) (fun F=>rb F rfl b19)<|Xm rfl<|Xm rfl<|fun _ F25=>?_;clear F17
 have d26:=((hc.ext hx5).ext hx13)
 refine wpl_op (i:=3) rfl (o_call F25 rfl rfl rfl rfl (rn_call (args3 (F25.get rfl) (F25.get rfl) (F25.get rfl)) rfl (by kernel_rfl)) (secret_at (v:=(vl A sd.length c)) (m:=sd.length) sd i j b _ d26 (hG.ext (((Ext.refl w).trans hx5).trans hx13)) (by omega) (by omega) (by omega)) ?_)
 rintro _ w27 ⟨rfl,hx28⟩
 refine ⟨_,rfl,?_⟩;intro a29 F30;clear F25;have z31:=hx28.size
 refine F30.xc (open_any (secretD sd i j b) _ (secretD_len _ _ _ _) (hG.ext ((((Ext.refl w).trans hx5).trans hx13).trans hx28))) ?_
 rintro _ w32 ⟨rfl,hx33⟩
 refine ⟨_,rfl,?_⟩;intro a34 F35;clear F30;have z36:=hx33.size
 have b40:=((b12.ext hx28).ext hx33)
 refine F35.xs rfl b40 (fun w37 b38 hg39=>?_) (hk:=byteVals_len (openD_len _));have z41:=hg39.size
 refine wpList_nil (hK18 _ _ ?_);clear hK18
 have F42:=F35.k [0,1,2,3,6];clear F35
 refine wp_ret ?_
 refine retC F42 rfl rfl b38 Tryd.underlying24 rfl (sk inf24 (byteVals_len (openD_len _))) ?_
 exact ⟨rfl,((((((Ext.refl w).trans hx5).trans hx13).trans hx28).trans hx33).gn hg39)⟩

theorem hash_at {v:Value} {m:Nat} (sd:List UInt8) (i j:Nat) (b:Bool) (w:World) (hf:Fl S w 1 v m (byteVals sd)) (hG:Glob w) (hsd:m≤4194304) (hi:i<65536) (hj:j<256) :
  Calls Tryd.prog 61 #[.agg #[v,.int .i64 (i:Nat)],.int .i64 (j:Nat),.bool b] w (fun e w'=>e=.returned (.agg (byteVals (hashD sd i j b)).toArray)∧Ext w w'):=by
 have hm:=hf.blen
 subst hm
 obtain ⟨A,c,rfl,_⟩:=hf.form
 exact hash_any A c sd i j b w hf hG hsd hi hj

end Go.Proofs.YtihgmaoghbnnaaaDoor

namespace Go.Proofs.YtihgmaoghbnnaaaDoor
open Go.RowKit

variable {S S':Nat→Prop}
theorem eqnilBy (w:World) (A:Option Addr) (n c:Nat):(binOp .eql 52 (vl A n c) v0).run Tryd.prog w=.ok (.bool A.isNone) w:=Lib.run_eql_slice_nil w _ _ A n c 0 0 Tryd.underlying52
attribute [local go_sem] eqnilBy
set_option maxRecDepth 100000 in
set_option maxHeartbeats 1000000 in
theorem cloneBy_any (A:Option Addr) (n cap:Nat) (xs:List Value) (w:World) (hc:Cel w 1 A n xs) (hn:n≤140737488355328) :
  Calls Tryd.prog 35 #[.slice A n cap] w (fun en w'=>∃ v,en=.returned v∧w'.ownsRow w.heap.size 5 1 v n xs∧Ext w w'):=by
 rcases A with _ | ad
 ·have hn0:n=0:=by
   rcases Nat.eq_zero_or_pos n with h | h
   ·exact h
   ·obtain ⟨b,off,h,_⟩:=hc.2.2 h;cases h
  subst hn0
  have hx:xs=[]:=List.eq_nil_of_length_eq_zero (by have:=hc.1;omega)
  have HX:=Lib.hid hx
  clear hx hc
  go_enter Tryd.func35,Tryd.ntmps35
  go_wp2
  go_ret
  exact ⟨_,rfl,by rw [HX.out];exact World.ownsRow_nil _ _ _ _,Ext.refl _⟩
 ·have HC:=Lib.hid hc
  clear hc
  go_enter Tryd.func35,Tryd.ntmps35
  go_wp2_with (with_reducible refine stop_append ?_)
  refine Lib.hid (wpList_app El52 rfl rfl rfl rfl (World.ownsRow_lit w #[] 0 (Nat.le_refl _) (Nat.zero_le _) (by simp)) (HC.out.ext ((Ext.refl _).alloc _)) (by simp) (by omega) (by omega) ?_)
  intro v' w' hown hg hat
  have HO:=Lib.hid hown
  have HE:Hid (Ext w w'):=((Ext.refl w).alloc _).grown hg (fun k hk=>by have hk:some w.heap.size=some k:=hk;injection hk;omega)
  clear hown hg hat
  go_wp2
  go_ret
  exact ⟨_,rfl,by simpa using HO.out,HE.out⟩
theorem clone_at {v:Value} {n:Nat} (l:List UInt8) (w:World) (hf:Fl S w 1 v n (byteVals l)) (hn:n≤140737488355328) :
  Calls Tryd.prog 35 #[v] w (fun en w'=>∃ A c,en=.returned (vl A n c)∧Fl (fun b=>w.heap.size≤b) w' 1 (vl A n c) n (byteVals l)∧Ext w w'):=by
 obtain ⟨A,c,rfl,_⟩:=hf.form
 refine (cloneBy_any A n c _ w hf.cel.2.2 hn).mono fun e w' ⟨u,he,ho,hx⟩=>?_
 have h:=Fl.own (S:=fun b=>w.heap.size≤b) ho (fun b hb=>hb) (byteVals_one l)
 obtain ⟨A',c',rfl,_⟩:=h.form
 exact ⟨A',c',he,h,hx⟩

end Go.Proofs.YtihgmaoghbnnaaaDoor

namespace Go.Proofs.YtihgmaoghbnnaaaDoor
open Go.RowKit

variable {S S':Nat→Prop}

def newS (sd:List UInt8) (many:Int):List UInt8:=if kOk sd many 0=true then sd else []
def newM (sd:List UInt8) (many:Int):Int:=if kOk sd many 0=true then many else 0
def newE (sd:List UInt8) (many:Int):Int:=if kOk sd many 0=true then 0 else 40

set_option maxRecDepth 100000 in
set_option maxHeartbeats 1000000 in
theorem new_any (A:Option Addr) (c:Nat) (sd:List UInt8) (many:Int) (w:World) (hf:Fl S w 1 (vl A sd.length c) sd.length (byteVals sd)) (hsd:sd.length≤140737488355328) :
  Calls Tryd.prog 20 #[.slice A sd.length c,.int .i64 many] w (fun e w'=>∃ A m c,e=.returned (.tuple #[.agg #[.slice A m c,.int .i64 (newM sd many),.int .i64 0],.int .i64 (newE sd many)])∧Fl (fun b=>w.heap.size≤b) w' 1 (vl A m c) m (byteVals (newS sd many))∧Ext w w'):=by
 have hc:Fl (Clip S w) w 1 (vl A sd.length c) sd.length (byteVals sd):=hf.clip
 have hcc:=(Fl.cel hc).2.1
 refine calls_enter Tryd.func20 rfl rfl rfl fun _ hF=>?_
 refine wr fun K1 hK1=>?_
 refine hF.xz [v0,(vi 0),(vi 0)] 56 fun g2 w3 _ F9 z6 z7 b4 hx5=>?_;clear hF
 refine F9.xv (vi 0)<|fun _ F11=>?_;clear F9
 refine wpList_nil (hK1 _ _ ?_);clear hK1
 refine wr fun K12 hK12=>?_
 refine F11.xm rfl<|fun _ F14=>?_;clear F11
 have d15:=(hc.ext hx5)
 refine wpl_op (i:=1) rfl (o_call F14 rfl rfl rfl rfl (rn_call (args1 (F14.get rfl)) rfl (by kernel_rfl)) (clone_at (v:=(vl A sd.length c)) (n:=sd.length) sd _ d15 (by omega)) ?_)
 rintro _ w20 ⟨A16,c17,rfl,hf18,hx21⟩
 have z19:=(Fl.cel hf18).2.1
 refine ⟨_,rfl,?_⟩;intro a22 F23;clear F14;have z24:=hx21.size
 have hf25:Fl (Clip (fun b=>w3.heap.size≤b) w20) w20 1 (vl A16 sd.length c17) sd.length (byteVals sd):=hf18.clip
 refine F23.xm rfl<|Xw (.agg #[(vl A16 sd.length c17),(vi many),(vi 0)]) (fun F=>rn_build (parts2 (F.get rfl) (F.get rfl)) (by kernel_rfl))<|fun _ F29=>?_;clear F23
 refine F29.xz [v0,(vi 0),(vi 0)] 56 fun g30 w31 _ F37 z34 z35 b32 hx33=>?_;clear F29
 refine F37.xs rfl b32 (fun w38 b39 hg40=>?_);have z41:=hg40.size
 refine wpList_nil (hK12 _ _ ?_);clear hK12
 have F42:=F37.k [0,1,4,5,6];clear F37
 refine wp_seq_k fun K43 hK43=>?_
 refine wr fun K44 hK44=>?_
 refine F42.xw (.agg #[(vl A16 sd.length c17),(vi many),(vi 0)]) (fun F=>rb F rfl b39)<|fun _ F46=>?_;clear F42
 have d47:=(hf25.pres (((Pres.refl w20).ext hx33).gc hg40))
 refine F46.xc (valid_at (v:=(vl A16 sd.length c17)) (m:=sd.length) sd many 0 _ d47) ?_
 rintro _ w48 ⟨rfl,hx49⟩
 refine ⟨_,rfl,?_⟩;intro a50 F51;clear F46;have z52:=hx49.size
 refine F51.xw (.bool (!(kOk sd many 0))) (fun F=>rn_not' (F.get rfl) rfl)<|fun _ F54=>?_;clear F51
 refine wpList_nil (hK44 _ _ ?_);clear hK44
 rcases Bool.eq_false_or_eq_true (kOk sd many 0) with hc55 | hc55
 ·skip
  refine F54.cf ?_
  refine wp_skip ?_
  refine hK43 _ _ ?_;clear hK43
  refine wr fun K56 hK56=>?_
  have b57:=(b39.ext hx49)
  refine F54.xw (.agg #[(vl A16 sd.length c17),(vi many),(vi 0)]) (fun F=>rb F rfl b57)<|fun _ F59=>?_;clear F54
  have b63:=((((b4.ext hx21).ext hx33).gn hg40).ext hx49)
  refine F59.xs rfl b63 (fun w60 b61 hg62=>?_);have z64:=hg62.size
  refine F59.xv (vi 0)<|fun _ F66=>?_;clear F59
  refine wpList_nil (hK56 _ _ ?_);clear hK56
  refine wp_ret ?_
  refine retC1 F66 rfl rfl rfl b61 Tryd.underlying56 rfl inf56 ?_
  have d67:=(hf25.pres (((((Pres.refl w20).ext hx33).gc hg40).ext hx49).gc hg62))
  exact ⟨_,_,_,by rw [newM,newE,hc55];rfl,by rw [newS,hc55];exact Fl.sub d67 (fun b hb=>by first | omega | (simp only [Clip] at hb;omega)),(((((((Ext.refl w).trans hx5).trans hx21).trans hx33).gn hg40).trans hx49).gn hg62)⟩
 refine F54.ct ?_
 refine wr fun K68 hK68=>?_
 have b69:=((((b4.ext hx21).ext hx33).gn hg40).ext hx49)
 refine F54.xw (.agg #[v0,(vi 0),(vi 0)]) (fun F=>rb F rfl b69)<|fun _ F71=>?_;clear F54
 refine F71.xs rfl b69 (fun w72 b73 hg74=>?_);have z75:=hg74.size
 refine F71.xv (vi 40)<|fun _ F77=>?_;clear F71
 refine wpList_nil (hK68 _ _ ?_);clear hK68
 refine wp_ret (ret_then ?_)
 refine retC1 F77 rfl rfl rfl b73 Tryd.underlying56 rfl inf56 ?_
 exact ⟨none,0,0,by rw [newM,newE,hc55];rfl,by rw [newS,hc55];exact Fl.nil _,(((((((Ext.refl w).trans hx5).trans hx21).trans hx33).gn hg40).trans hx49).gn hg74)⟩

theorem new_at {v:Value} {m:Nat} (sd:List UInt8) (many:Int) (w:World) (hf:Fl S w 1 v m (byteVals sd)) (hsd:m≤140737488355328) :
  Calls Tryd.prog 20 #[v,.int .i64 many] w (fun e w'=>∃ A m c,e=.returned (.tuple #[.agg #[.slice A m c,.int .i64 (newM sd many),.int .i64 0],.int .i64 (newE sd many)])∧Fl (fun b=>w.heap.size≤b) w' 1 (vl A m c) m (byteVals (newS sd many))∧Ext w w'):=by
 have hm:=hf.blen
 subst hm
 obtain ⟨A,c,rfl,_⟩:=hf.form
 exact new_any A c sd many w hf hsd

end Go.Proofs.YtihgmaoghbnnaaaDoor

namespace Go.Proofs.YtihgmaoghbnnaaaDoor
open Go.RowKit

variable {S S':Nat→Prop}

set_option maxRecDepth 100000 in
set_option maxHeartbeats 1000000 in
theorem public_any (f:FuncId) (first cap:Array Value) (h:Nat→Bool→List UInt8) (w:World) (hen:∀ (vs:Array Value) (W:World),(callFunc f vs).run Tryd.prog W=.ok (.enter f vs) W) (arg:Value→Value→Array Value) (harg:∀ u v,(first++#[u,v])++cap=arg u v)
  (hp:∀ (j:Nat) (b:Bool) (W:World),j<64→Ext w W→Calls Tryd.prog f (arg (vi (j:Nat)) (.bool b)) W (fun e w'=>e=.returned (.agg (byteVals (h j b)).toArray)∧Ext W w')) (hl:∀ j b,j<64→(h j b).length=32) (hG:Glob w) :
  Calls Tryd.prog 67 #[.func (.func f) first cap] w (fun e w'=>e=.returned (.agg (byteVals (publicD h)).toArray)∧Ext w w'):=by
 refine calls_enter Tryd.func67 rfl rfl rfl fun _ hF=>?_
 refine wr fun K1 hK1=>?_
 refine hF.xz (byteVals (List.replicate 32 0)) 24 fun g2 w3 _ F9 z6 z7 b4 hx5=>?_;clear hF
 refine wpList_nil (hK1 _ _ ?_);clear hK1
 refine wr fun K10 hK10=>?_
 refine F9.xn (fun g=>(vl (some ⟨g,0,none⟩) 0 4096)) (byteVals (List.replicate 4096 0)) 5 (fun F=>rn_makeC El52 rfl rfl rfl (by decide) (by decide) (by simp [byteVals])) fun g11 w12 _ F18 z15 z16 b13 hx14=>?_;clear F9
 have hf19:=own_room (c:=4096) b13 (by rw [byteVals_len (show List.length (List.replicate 4096 (0:UInt8))=_ from List.length_replicate)]) (by decide)
 refine F18.xa rfl<|fun _ F21=>?_;clear F18
 refine wpList_nil (hK10 _ _ ?_);clear hK10
 refine wp_seq_k fun K22 hK22=>?_
 refine wr fun K23 hK23=>?_
 refine F21.xv (vi 0)<|fun _ F25=>?_;clear F21
 refine wpList_nil (hK23 _ _ ?_);clear hK23
 refine wp_block ?_
 have b26:=(b4.ext hx14)
 refine wp_loop (fun a' W=>∃ (k:Nat) (Ap:Option Addr) (np:Nat) (cp:Nat) (l:List UInt8),Sl 25 [(0,(.func (.func f) first cap)),(2,(vp g2)),(3,(vl Ap np cp)),(8,(vi (k:Nat)))] a'∧(k≤64∧np=64*k)∧l=manyD h k∧Ext w W∧Blk W g2 24 (byteVals (List.replicate 32 0))∧W.ownsRow g11 5 1 (vl Ap np cp) np (byteVals l)∧g11≤W.heap.size∧w12.heap.size≤W.heap.size) (fun a' _=>64 - (intOf (a'.eval (.tmp 8))).toNat) ⟨0,(some ⟨g11,0,none⟩),0,4096,[],F25.j,⟨by omega,by omega⟩,rfl,(((Ext.refl w).trans hx5).trans hx14),b26,hf19,(by omega),(Nat.le_refl _)⟩ ?_
 clear F25
 rintro a27 w28 ⟨k,Ap,np,cp,l,F29,hp31,hp32,hx30,b33,r34,hf35,hf36⟩
 have hL37:=F29
 have z38:=hx30.size
 have z39:=b33.lt
 have z40:=own_form0 r34
 refine wr fun K41 hK41=>?_
 refine F29.xv (.bool (decide (((k:Nat):Int)<(64:Int))))<|fun _ F43=>?_;clear F29
 refine wpList_nil (hK41 _ _ ?_);clear hK41
 refine wp_seq_k fun K44 hK44=>?_
 by_cases hc45:((k:Nat):Int)<(64:Int)
 ·skip
  refine F43.ct ?_
  refine wp_skip ?_
  refine hK44 _ _ ?_;clear hK44
  refine wp_seq_k fun K46 hK46=>?_
  refine wp_block ?_
  refine wr fun K47 hK47=>?_
  refine F43.xm rfl<|Xa rfl<|fun _ F51=>?_;clear F43
  refine wpList_nil (hK47 _ _ ?_);clear hK47
  refine wr fun K52 hK52=>?_
  refine F51.xm rfl<|Xm rfl<|fun _ F56=>?_;clear F51
  refine wpl_op (i:=2) rfl (o_call F56 rfl rfl rfl rfl (rn_callvc (F56.get rfl) (argsw_2 harg (F56.get rfl) rfl) (hen _ _)) (hp k false _ (by omega) ((Ext.refl w).trans hx30)) ?_)
  rintro _ w57 ⟨rfl,hx58⟩
  refine ⟨_,rfl,?_⟩;intro a59 F60;clear F56;have z61:=hx58.size
  refine F60.xm rfl<|Xm rfl<|fun _ F65=>?_;clear F60
  refine wpl_op (i:=5) rfl (o_call F65 rfl rfl rfl rfl (rn_callvc (F65.get rfl) (argsw_2 harg (F65.get rfl) rfl) (hen _ _)) (hp k true _ (by omega) (((Ext.refl w).trans hx30).trans hx58)) ?_)
  rintro _ w66 ⟨rfl,hx67⟩
  refine ⟨_,rfl,?_⟩;intro a68 F69;clear F65;have z70:=hx67.size
  refine F69.xz (byteVals (List.replicate 32 0)) 24 fun g71 w72 _ F78 z75 z76 b73 hx74=>?_;clear F69
  refine F78.xz (byteVals (List.replicate 32 0)) 24 fun g79 w80 _ F86 z83 z84 b81 hx82=>?_;clear F78
  have b90:=(b73.ext hx82)
  refine F86.xs rfl b90 (fun w87 b88 hg89=>?_) (hk:=byteVals_len (hl k false (by omega)));have z91:=hg89.size
  have b95:=(b81.gn hg89)
  refine F86.xs rfl b95 (fun w92 b93 hg94=>?_) (hk:=byteVals_len (hl k true (by omega)));have z96:=hg94.size
  refine wpList_nil (hK52 _ _ ?_);clear hK52
  have F97:=F86.k [0,2,3,8,9,4,5,6];clear F86
  have hx99:∃ W,w92.drew=W∧Ext w92 W:=⟨_,rfl,(Ext.refl _).drew⟩
  obtain ⟨w98,e100,hx99⟩:=hx99
  have z101:=hx99.size
  refine any_start (fun W=>True∧Blk W g71 24 (byteVals (h k false))∧Blk W g79 24 (byteVals (h k true))) (fun i=>false) 6 (.replicate 6 false) rfl rfl rfl ?_
  rw [e100];clear e100
  refine F97.ym 0 rfl<|Yw 1 (vl (some ⟨g71,0,none⟩) 32 32) rfl (fun F W=>rn_arrAll Tryd.underlying24 inf5 (F.get rfl))<|Yw 3 (vl (some ⟨g79,0,none⟩) 32 32) rfl (fun F W=>rn_arrAll Tryd.underlying24 inf5 (F.get rfl))<|fun _ F107=>?_;clear F97
  refine ao 2 rfl ?_
  have r108:=(own_ext (own_grownT (own_grownT (own_ext (own_ext (own_ext (own_ext r34 hx58) hx67) hx74) hx82) b90 hg89 (by decide)) b95 hg94 (by decide)) hx99)
  have b109:=((b88.gn hg94).ext hx99)
  have hf118:=r108
  refine o_appB (zs:=byteVals (l++(h k false))) El52 F107 rfl rfl rfl rfl rfl (F107.get rfl) (F107.get rfl) hf118 (Fl.cel (Fl.blk (S:=fun b=>b=g71) (k:=1) (n:=32) (c:=32) b109 (by rw [byteVals_len (hl k false (by omega)),Nat.mul_one]) (byteVals_one _) (by omega) rfl)).2.2 (by omega) (by omega) (by omega) (byteVals_app _ _) ?_
  intro A110 c111 w112 a119 F120 r113 hg114 z115 z116 hnb117;clear F107;have z121:=hg114.size
  have b122:=(grown_blk hf118 hg114 b109 (by decide))
  have b123:=(grown_blk hf118 hg114 (b93.ext hx99) (by decide))
  refine ⟨fun _ _=>⟨trivial,b122,b123⟩,?_⟩
  refine ao 4 rfl ?_
  have hf132:=r113
  refine o_appB (zs:=byteVals ((l++(h k false))++(h k true))) El52 F120 rfl rfl rfl rfl rfl (F120.get rfl) (F120.get rfl) hf132 (Fl.cel (Fl.blk (S:=fun b=>b=g79) (k:=1) (n:=32) (c:=32) b123 (by rw [byteVals_len (hl k true (by omega)),Nat.mul_one]) (byteVals_one _) (by omega) rfl)).2.2 (by omega) (by omega) (by omega) (byteVals_app _ _) ?_
  intro A124 c125 w126 a133 F134 r127 hg128 z129 z130 hnb131;clear F120;have z135:=hg128.size
  have b136:=(grown_blk hf132 hg128 b122 (by decide))
  have b137:=(grown_blk hf132 hg128 b123 (by decide))
  refine ⟨fun _ _=>⟨trivial,b136,b137⟩,?_⟩
  refine F134.yv 5 (vl A124 ((np+32)+32) c125) rfl<|fun _ F139=>?_;clear F134
  refine nn (hK46 _ _ ?_);clear hK46
  have F140:=F139.k [0,2,3,8,9,4,5,6];clear F139
  refine wp_region_lit ?_
  refine F140.xv (vi (k+1:Nat))<|Xm rfl<|fun _ F144=>?_;clear F140
  refine wpList_nil ?_
  have b145:=(grown_blk hf132 hg128 (grown_blk hf118 hg114 (((((((b33.ext hx58).ext hx67).ext hx74).ext hx82).gn hg89).gn hg94).ext hx99) (by decide)) (by decide))
  refine ⟨⟨(k+1),A124,(np+32)+32,c125,(l++(h k false))++(h k true),F144.j,⟨by omega,by omega⟩,(by rw [hp32];exact manyD_step h k),(ext_row (ext_row (((((((((Ext.refl w).trans hx30).trans hx58).trans hx67).trans hx74).trans hx82).gn hg89).gn hg94).trans hx99) hg114 hf118 (by omega)) hg128 hf132 (by omega)),b145,r127,(by omega),(by omega)⟩,?_⟩
  rw [F144.get (t:=8) rfl,hL37.get (t:=8) rfl];simp [intOf] <;> omega
 refine F43.cf ?_
 refine wp_exit ?_
 refine exit_then ?_
 refine exit_then ?_
 refine exit_here ?_
 refine hK22 _ _ ?_;clear hK22
 refine wr fun K146 hK146=>?_
 refine F43.xm rfl<|fun _ F148=>?_;clear F43
 refine wpl_op (i:=1) rfl (o_call F148 rfl rfl rfl rfl (rn_call (args2 rfl (F148.get rfl)) rfl (by kernel_rfl)) (tagged_at ([111,110,101]) (v:=(vl Ap np cp)) (n:=np) l _ (Fl.own (S:=fun b=>g11≤b) r34 (fun b hb=>hb) (byteVals_one _)) (hG.ext ((Ext.refl w).trans hx30)) (by simp <;> omega) (by omega)) ?_)
 rintro _ w149 ⟨rfl,hx150⟩
 refine ⟨_,rfl,?_⟩;intro a151 F152;clear F148;have z153:=hx150.size
 have b157:=(b33.ext hx150)
 refine F152.xs rfl b157 (fun w154 b155 hg156=>?_) (hk:=byteVals_len (tagged_len _ _));have z158:=hg156.size
 refine wpList_nil (hK146 _ _ ?_);clear hK146
 refine wp_ret ?_
 refine retC F152 rfl rfl b155 Tryd.underlying24 rfl (sk inf24 (byteVals_len (tagged_len _ _))) ?_
 have hk:k=64:=by omega
 subst hk
 exact ⟨by rw [publicD,← hp32],((((Ext.refl w).trans hx30).trans hx150).gn hg156)⟩

set_option maxRecDepth 100000 in
set_option maxHeartbeats 1000000 in
theorem publics_any (A:Option Addr) (c:Nat) (sd:List UInt8) (many:Nat) (used:Int) (w:World) (hf:Fl S w 1 (vl A sd.length c) sd.length (byteVals sd)) (hG:Glob w) (hsd:sd.length≤64) (hm:many≤4096) :
  Calls Tryd.prog 43 #[.agg #[.slice A sd.length c,.int .i64 (many:Nat),.int .i64 used]] w (fun e w'=>∃ A c,e=.returned (vl A many c)∧Fl (fun b=>w.heap.size≤b) w' 32 (vl A many c) many (digVals (pubsL sd many))∧Ext w w'):=by
 have hc:Fl (Clip S w) w 1 (vl A sd.length c) sd.length (byteVals sd):=hf.clip
 have hcc:=(Fl.cel hc).2.1
 refine calls_enter Tryd.func43 rfl rfl rfl fun _ hF=>?_
 refine wr fun K1 hK1=>?_
 refine hF.xb rfl fun g2 w3 _ F9 z6 z7 b4 hx5=>?_;clear hF
 refine F9.xv v0<|fun _ F11=>?_;clear F9
 refine wpList_nil (hK1 _ _ ?_);clear hK1
 refine wp_seq_k fun K12 hK12=>?_
 refine wr fun K13 hK13=>?_
 refine F11.xv (.pointer (some ⟨g2,1,none⟩))<|Xw (vi (many:Nat)) (fun F=>rl F rfl (b4.rule.1 1))<|Xv (vi 0)<|fun _ F19=>?_;clear F11
 refine wpList_nil (hK13 _ _ ?_);clear hK13
 refine wp_block ?_
 refine wp_loop (fun a' W=>∃ (k:Nat) (Ap:Option Addr) (np:Nat) (cp:Nat) (l:List (List UInt8)),Sl 20 [(0,(.agg #[(vl A sd.length c),(vi (many:Nat)),(vi used)])),(1,(vp g2)),(2,(vl Ap np cp)),(5,(vi (many:Nat))),(6,(vi (k:Nat)))] a'∧(k≤many∧np=k)∧l=pubsL sd k∧Ext w W∧Blk W g2 56 [(vl A sd.length c),(vi (many:Nat)),(vi used)]∧W.ownsRow w3.heap.size 24 32 (vl Ap np cp) np (digVals l)∧w3.heap.size≤W.heap.size∧w3.heap.size≤W.heap.size) (fun a' _=>many - (intOf (a'.eval (.tmp 6))).toNat) ⟨0,none,0,0,[],F19.j,⟨by omega,by omega⟩,rfl,((Ext.refl w).trans hx5),b4,(own_nil w3 w3.heap.size 24 32),(by omega),(Nat.le_refl _)⟩ ?_
 clear F19
 rintro a20 w21 ⟨k,Ap,np,cp,l,F22,hp24,hp25,hx23,b26,r27,hf28,hf29⟩
 have hL30:=F22
 have z31:=hx23.size
 have z32:=b26.lt
 have z33:=own_form0 r27
 have hl32:All32 l:=by rw [hp25];exact pubsL_32 _ _
 refine wr fun K34 hK34=>?_
 refine F22.xv (.bool (decide (((k:Nat):Int)<((many:Nat):Int))))<|fun _ F36=>?_;clear F22
 refine wpList_nil (hK34 _ _ ?_);clear hK34
 refine wp_seq_k fun K37 hK37=>?_
 by_cases hc38:((k:Nat):Int)<((many:Nat):Int)
 ·skip
  refine F36.ct ?_
  refine wp_skip ?_
  refine hK37 _ _ ?_;clear hK37
  refine wp_seq_k fun K39 hK39=>?_
  refine wp_block ?_
  refine wr fun K40 hK40=>?_
  refine F36.xm rfl<|Xa rfl<|fun _ F44=>?_;clear F36
  refine wpList_nil (hK40 _ _ ?_);clear hK40
  refine wp_region_lit ?_
  refine F44.xm rfl<|Xv (vp g2)<|Xw (vl A sd.length c) (fun F=>rl F rfl (b26.rule.1 0))<|Xm rfl<|Xw (.agg #[(vl A sd.length c),(vi (k:Nat))]) (fun F=>rn_build (parts2 (F.get rfl) (F.get rfl)) (by kernel_rfl))<|Xw (.func (.func 61) #[(.agg #[(vl A sd.length c),(vi (k:Nat))])] #[]) (fun F=>rn_makeFunc (args1 (F.get rfl)) (args0))<|fun _ F56=>?_;clear F44
  have d57:=(hc.ext hx23)
  have hf58:=d57
  have hf59:=(hG.ext ((Ext.refl w).trans hx23))
  refine wpl_op (i:=6) rfl (o_call F56 rfl rfl rfl rfl (rn_call (args1 (F56.get rfl)) rfl (by kernel_rfl)) (public_any 61 #[(.agg #[(vl A sd.length c),(vi (k:Nat))])] #[] (hashD sd k) _ (fun _ _=>by kernel_rfl) (fun u v=>#[(.agg #[(vl A sd.length c),(vi (k:Nat))]),u,v]) (fun u v=>by simp) (fun j b W hj hx=>hash_at (v:=(vl A sd.length c)) (m:=sd.length) sd k j b W (hf58.ext hx) (hf59.ext hx) (by omega) (by omega) (by omega)) (fun _ _ _=>hashD_len _ _ _ _) hf59) ?_)
  rintro _ w60 ⟨rfl,hx61⟩
  refine ⟨_,rfl,?_⟩;intro a62 F63;clear F56;have z64:=hx61.size
  have r65:=(own_ext r27 hx61)
  have hf66:=r65
  refine F63.xn (fun g=>(vl (some ⟨g,0,none⟩) 1 1)) (byteVals ((publicD (hashD sd k)))) 24 (fun F=>rn_buildSlice (parts1 (F.get rfl)) (build_wholeE (vs:=[(.agg (byteVals (publicD (hashD sd k))).toArray)]) El26 rfl rfl (fun v hv=>by rw [List.mem_singleton.1 hv];exact (byteVals_len (publicD_len _))) (by decide) (by decide) (by simp [Value.cells,byteVals]))) fun g67 w68 _ F74 z71 z72 b69 hx70=>?_;clear F63
  have nb75:=own_new (g:=g67) hf66 (by omega)
  have r76:=(own_ext r65 hx70)
  have hf85:=r76
  have nb86:some g67≠(Value.slice Ap np cp).ownBlock:=nb75
  have z87:=b69.lt
  refine wpl_op (i:=8) rfl (o_appB (zs:=digVals (l++([publicD (hashD sd k)]))) El26 F74 rfl rfl rfl rfl rfl (F74.get rfl) (F74.get rfl) hf85 (Fl.cel (Fl.digblk (S:=fun b=>b=g67) b69 (All32.sing (publicD_len _)) (by simp [digVals,byteVals]))).2.2 (by omega) (by omega) (by omega) (digVals_app _ _) ?_)
  intro A77 c78 w79 a88 F89 r80 hg81 z82 z83 hnb84;clear F74;have z90:=hg81.size
  have nb91:=hnb84 g67 (by omega) nb86
  refine F89.xa rfl<|fun _ F93=>?_;clear F89
  refine wpList_nil (hK39 _ _ ?_);clear hK39
  have F94:=F93.k [0,1,2,5,6,7,3];clear F93
  refine wp_region_lit ?_
  refine F94.xv (vi (k+1:Nat))<|Xm rfl<|fun _ F98=>?_;clear F94
  refine wpList_nil ?_
  have b99:=(grown_blk hf85 hg81 ((b26.ext hx61).ext hx70) (by decide))
  refine ⟨⟨(k+1),A77,np+1,c78,l++([publicD (hashD sd k)]),F98.j,⟨by omega,by omega⟩,(by rw [hp25];exact pubsL_step sd k),(ext_row ((((Ext.refl w).trans hx23).trans hx61).trans hx70) hg81 hf85 (by omega)),b99,r80,(by omega),(by omega)⟩,?_⟩
  rw [F98.get (t:=6) rfl,hL30.get (t:=6) rfl];simp [intOf] <;> omega
 refine F36.cf ?_
 refine wp_exit ?_
 refine exit_then ?_
 refine exit_then ?_
 refine exit_here ?_
 refine hK12 _ _ ?_;clear hK12
 refine wr fun K100 hK100=>?_
 refine F36.xm rfl<|Xa rfl<|fun _ F104=>?_;clear F36
 refine wpList_nil (hK100 _ _ ?_);clear hK100
 refine wp_ret ?_
 refine ret1 F104 rfl rfl ?_
 have hk:k=many:=by omega
 have hrow:=Fl.own (S:=fun b=>w.heap.size≤b) r27 (fun b hb=>by omega) (digVals_one _)
 have hnp:np=many:=by omega
 have hx:=((Ext.refl w).trans hx23)
 have hl:=hp25
 subst hk
 subst hl
 subst hnp
 exact ⟨Ap,cp,rfl,hrow,hx⟩

theorem publics_at {v:Value} {m:Nat} (sd:List UInt8) (many:Nat) (used:Int) (w:World) (hf:Fl S w 1 v m (byteVals sd)) (hG:Glob w) (hsd:m≤64) (hm:many≤4096) :
  Calls Tryd.prog 43 #[.agg #[v,.int .i64 (many:Nat),.int .i64 used]] w (fun e w'=>∃ A c,e=.returned (vl A many c)∧Fl (fun b=>w.heap.size≤b) w' 32 (vl A many c) many (digVals (pubsL sd many))∧Ext w w'):=by
 have hm:=hf.blen
 subst hm
 obtain ⟨A,c,rfl,_⟩:=hf.form
 exact publics_any A c sd many used w hf hG hsd hm

end Go.Proofs.YtihgmaoghbnnaaaDoor

namespace Go.Proofs.YtihgmaoghbnnaaaDoor
open Go.RowKit

variable {S S':Nat→Prop}

def bitsUp (d:List UInt8) (k:Nat):List Bool:=bitsTo d k++List.replicate (64 - k) false
theorem bitsUp_len (d:List UInt8) {k:Nat} (h:k≤64):(bitsUp d k).length=64:=by rw [bitsUp,List.length_append,bitsTo_len,List.length_replicate];omega
theorem bitsUp_step {d:List UInt8} {k:Nat} {l:List Bool} {b:Bool} (h:k<64) (hl:l=bitsUp d k) (hb:b=bitOf d k):l.set k b=bitsUp d (k+1):=by
 rw [hl,hb,bitsUp,bitsUp,List.set_append_right _ _ (by rw [bitsTo_len];omega),bitsTo_len,Nat.sub_self,← bitsTo_step,List.append_assoc,show 64 - k=(64 - (k+1))+1 by omega,List.replicate_succ]
 rfl
theorem bitsUp_all (d:List UInt8):bitsUp d 64=bitsTo d 64:=by simp [bitsUp]
def bitsR (root:List UInt8) (i:Int) (msg:List UInt8):List Bool:=if i<0∨4096≤i then [] else bitsL root i.toNat msg
theorem bitsR_in {root:List UInt8} {i:Int} {msg:List UInt8} (h:¬ (i<0∨4096≤i)):bitsR root i msg=bitsL root i.toNat msg:=by rw [bitsR,if_neg h]
set_option maxRecDepth 100000 in
set_option maxHeartbeats 1000000 in
theorem signed_any (A:Option Addr) (c:Nat) (root:List UInt8) (i:Nat) (msg:List UInt8) (w:World) (hd:root.length=32) (hf:Fl S w 1 (vl A msg.length c) msg.length (byteVals msg)) (hG:Glob w) (hm:msg.length≤4194304) (hi:i<65536) :
  Calls Tryd.prog 59 #[.agg (byteVals root).toArray,.int .i64 (i:Nat),.slice A msg.length c] w (fun e w'=>e=.returned (.agg (boolVals (bitsL root i msg)).toArray)∧Ext w w'):=by
 have hc:Fl (Clip S w) w 1 (vl A msg.length c) msg.length (byteVals msg):=hf.clip
 have hcc:=(Fl.cel hc).2.1
 refine calls_enter Tryd.func59 rfl rfl rfl fun _ hF=>?_
 refine wr fun K1 hK1=>?_
 refine hF.xb rfl fun g2 w3 _ F9 z6 z7 b4 hx5=>?_;clear hF
 refine F9.xz (boolVals (List.replicate 64 false)) 114 fun g10 w11 _ F17 z14 z15 b12 hx13=>?_;clear F9
 refine wpList_nil (hK1 _ _ ?_);clear hK1
 refine wp_seq_k fun K18 hK18=>?_
 have hx20:∃ W,w11.drew=W∧Ext w11 W:=⟨_,rfl,(Ext.refl _).drew⟩
 obtain ⟨w19,e21,hx20⟩:=hx20
 have z22:=hx20.size
 refine any_start (fun W=>Ext w19 W∧Blk W g2 24 (byteVals root)) (fun i=>i==8) 9 (.replicate 9 false) rfl rfl rfl ?_
 rw [e21];clear e21
 refine any_have (n1:=1) (L1:=#[true,true,true,true,true,true,true,true,false]) (fun a' W=>∃ (g97:Nat) (g49:Nat) (A29:Option Addr) (c30:Nat),Sl 33 [(0,(.agg (byteVals root).toArray)),(1,(vi (i:Nat))),(2,(vl A msg.length c)),(3,(vp g2)),(6,(vp g10)),(7,(vp g97)),(15,(.agg (byteVals (tagged ([109,101,115,115,97,103,101]) (root++(two i)++msg))).toArray))] a'∧Ext w19 W∧Blk W g49 52 [(vl (some ⟨g2,0,none⟩) 32 32),(vl A29 2 c30),(vl A msg.length c)]∧w19.heap.size≤g49∧Blk W g97 24 (byteVals (List.replicate 32 0))∧w19.heap.size≤g97∧g49≠g97∧Fl (fun b=>w19.heap.size≤b) W 1 (vl A29 2 c30) 2 (byteVals (two i))) ?_ (fun st118=>?_)
 ·skip
  rintro a119 w120 ⟨g97,g49,A29,c30,F121,hx122,b123,z124,b125,z126,z127,hf128⟩
  clear F17
  have z129:=hx122.size
  have z130:=b123.lt
  have z131:=b125.lt
  have z132:=(Fl.cel hf128).2.1
  have z133:=Fl.blen hf128
  refine ao 8 rfl (F121.os rfl b125 (fun w134 b135 hg136=>an ?_) (hk:=byteVals_len (tagged_len _ _)));have z137:=hg136.size
  refine nn (hK18 _ _ ?_);clear hK18
  refine wp_seq_k fun K138 hK138=>?_
  refine wr fun K139 hK139=>?_
  refine F121.xv (vi 0)<|fun _ F141=>?_;clear F121
  refine wpList_nil (hK139 _ _ ?_);clear hK139
  refine wp_block ?_
  have b142:=((((b4.ext hx13).ext hx20).ext hx122).gn hg136)
  have b143:=(((b12.ext hx20).ext hx122).gn hg136)
  refine wp_loop (fun a' W=>∃ (k:Nat) (bb:List Bool),Sl 33 [(0,(.agg (byteVals root).toArray)),(1,(vi (i:Nat))),(2,(vl A msg.length c)),(3,(vp g2)),(6,(vp g10)),(7,(vp g97)),(16,(vi (k:Nat)))] a'∧k≤64∧bb=bitsUp (tagged ([109,101,115,115,97,103,101]) (root++(two i)++msg)) k∧Ext w W∧Blk W g2 24 (byteVals root)∧Blk W g10 114 (boolVals bb)∧Blk W g97 24 (byteVals (tagged ([109,101,115,115,97,103,101]) (root++(two i)++msg)))∧w134.heap.size≤W.heap.size) (fun a' _=>64 - (intOf (a'.eval (.tmp 16))).toNat) ⟨0,(List.replicate 64 false),F141.j,(by omega),rfl,((((((Ext.refl w).trans hx5).trans hx13).trans hx20).trans hx122).gn hg136),b142,b143,b135,(Nat.le_refl _)⟩ ?_
  clear F141
  rintro a144 w145 ⟨k,bb,F146,hp148,hp149,hx147,b150,b151,b152,hf153⟩
  have hL154:=F146
  have z155:=hx147.size
  have z156:=b150.lt
  have z157:=b151.lt
  have z158:=b152.lt
  have hbl:bb.length=64:=by rw [hp149];exact bitsUp_len _ (by omega)
  refine wr fun K159 hK159=>?_
  refine F146.xv (.bool (decide (((k:Nat):Int)<(64:Int))))<|fun _ F161=>?_;clear F146
  refine wpList_nil (hK159 _ _ ?_);clear hK159
  refine wp_seq_k fun K162 hK162=>?_
  by_cases hc163:((k:Nat):Int)<(64:Int)
  ·skip
   refine F161.ct ?_
   refine wp_skip ?_
   refine hK162 _ _ ?_;clear hK162
   refine wp_seq_k fun K164 hK164=>?_
   refine wp_block ?_
   refine wr fun K165 hK165=>?_
   refine F161.xm rfl<|Xa rfl<|fun _ F169=>?_;clear F161
   refine wpList_nil (hK165 _ _ ?_);clear hK165
   refine wp_region_lit ?_
   refine F169.xm rfl<|Xm rfl<|Xw (vi (k / 8:Nat)) (fun F=>rn_quoN (a:=k) (b:=8) (F.get rfl) rfl (by omega) (by omega))<|Xw (.pointer (some ⟨g97,0+(k / 8),none⟩)) (fun F=>rn_indexArr Tryd.underlying24 inf5 (F.get rfl) (F.get rfl) (by omega:(0:Int)≤(k / 8:Nat)) (by omega:((k / 8:Nat):Int)<((32:Nat):Int)))<|Xw (.int .u8 (((tagged ([109,101,115,115,97,103,101]) (root++(two i)++msg)).getD (k / 8) 0).toNat:Nat)) (fun F=>rl F rfl (blk_byte b152 (by omega) (by have:=(show List.length (tagged ([109,101,115,115,97,103,101]) (root++(two i)++msg))=_ from (tagged_len _ _));omega)))<|Xm rfl<|Xw (vi (k % 8:Nat)) (fun F=>rn_remN (a:=k) (b:=8) (F.get rfl) rfl (by omega))<|Xw (vi (7 - (k % 8):Nat)) (fun F=>rn_subN (a:=7) (b:=k % 8) rfl (F.get rfl) (by omega) (by omega))<|Xw (.int .u8 ((((tagged ([109,101,115,115,97,103,101]) (root++(two i)++msg)).getD (k / 8) 0) >>> UInt8.ofNat (7 - (k % 8))).toNat:Nat)) (fun F=>rn_shr8 (a:=((tagged ([109,101,115,115,97,103,101]) (root++(two i)++msg)).getD (k / 8) 0)) (n:=7 - (k % 8)) (F.get rfl) (F.get rfl) (by omega))<|Xw (.int .u8 (((((tagged ([109,101,115,115,97,103,101]) (root++(two i)++msg)).getD (k / 8) 0) >>> UInt8.ofNat (7 - (k % 8))) &&& (1:UInt8)).toNat:Nat)) (fun F=>rn_and8 (a:=(((tagged ([109,101,115,115,97,103,101]) (root++(two i)++msg)).getD (k / 8) 0) >>> UInt8.ofNat (7 - (k % 8)))) (b:=(1:UInt8)) (F.get rfl) rfl)<|Xv (.bool (decide (((((((tagged ([109,101,115,115,97,103,101]) (root++(two i)++msg)).getD (k / 8) 0) >>> UInt8.ofNat (7 - (k % 8))) &&& (1:UInt8)).toNat:Nat):Int)=(1:Int))))<|Xw (.pointer (some ⟨g10,0+k,none⟩)) (fun F=>rn_indexArr Tryd.underlying114 inf4 (F.get rfl) (F.get rfl) (by omega:(0:Int)≤(k:Nat)) (by omega:((k:Nat):Int)<((64:Nat):Int)))<|fun _ F193=>?_;clear F169
   refine wpl_op (i:=12) rfl (o_store1 (new:=(boolVals (bb.set k (decide (((((((tagged ([109,101,115,115,97,103,101]) (root++(two i)++msg)).getD (k / 8) 0) >>> UInt8.ofNat (7 - (k % 8))) &&& (1:UInt8)).toNat:Nat):Int)=(1:Int)))))) F193 rfl rfl rfl rfl (F193.get rfl) (F193.get rfl) b151 inf4 (by rw [boolVals_len hbl];omega) rfl (boolVals_set (by omega)) ?_)
   intro w194 b195 hg196;have z197:=hg196.size
   refine wpList_nil (hK164 _ _ ?_);clear hK164
   have F198:=F193.k [0,1,2,3,6,7,16,17,8];clear F193
   refine wp_region_lit ?_
   refine F198.xv (vi (k+1:Nat))<|Xm rfl<|fun _ F202=>?_;clear F198
   refine wpList_nil ?_
   have b203:=(b150.gn hg196)
   have b204:=(b152.gn hg196)
   refine ⟨⟨(k+1),bb.set k (decide (((((((tagged ([109,101,115,115,97,103,101]) (root++(two i)++msg)).getD (k / 8) 0) >>> UInt8.ofNat (7 - (k % 8))) &&& (1:UInt8)).toNat:Nat):Int)=(1:Int))),F202.j,(by omega),(bitsUp_step (by omega) hp149 rfl),(((Ext.refl w).trans hx147).gn hg196),b203,b195,b204,(by omega)⟩,?_⟩
   rw [F202.get (t:=16) rfl,hL154.get (t:=16) rfl];simp [intOf] <;> omega
  refine F161.cf ?_
  refine wp_exit ?_
  refine exit_then ?_
  refine exit_then ?_
  refine exit_here ?_
  refine hK138 _ _ ?_;clear hK138
  refine wr fun K205 hK205=>?_
  refine F161.xw (.agg (boolVals bb).toArray) (fun F=>rb F rfl b151 (hk:=boolVals_len hbl))<|fun _ F207=>?_;clear F161
  refine F207.xs rfl b151 (fun w208 b209 hg210=>?_) (hk:=boolVals_len hbl) (hl:=boolVals_len hbl);have z211:=hg210.size
  refine wpList_nil (hK205 _ _ ?_);clear hK205
  refine wp_ret ?_
  refine retC F207 rfl rfl b209 Tryd.underlying114 rfl (sk inf114 (boolVals_len hbl)) ?_
  have hk:k=64:=by omega
  subst hk
  exact ⟨by rw [hp149,bitsUp_all];rfl,(((Ext.refl w).trans hx147).gn hg210)⟩
 refine any_have (n1:=2) (L1:=#[true,true,true,true,true,true,false,true,false]) (fun a' W=>∃ (g97:Nat) (A69:Option Addr) (c70:Nat) (g49:Nat) (A29:Option Addr) (c30:Nat),Sl 33 [(0,(.agg (byteVals root).toArray)),(1,(vi (i:Nat))),(2,(vl A msg.length c)),(3,(vp g2)),(6,(vp g10)),(7,(vp g97)),(14,(vl A69 (32+2+msg.length) c70))] a'∧Ext w19 W∧Blk W g49 52 [(vl (some ⟨g2,0,none⟩) 32 32),(vl A29 2 c30),(vl A msg.length c)]∧w19.heap.size≤g49∧Blk W g97 24 (byteVals (List.replicate 32 0))∧w19.heap.size≤g97∧g49≠g97∧Fl (fun b=>w19.heap.size≤b) W 1 (vl A29 2 c30) 2 (byteVals (two i))∧Fl (fun b=>w19.heap.size≤b) W 1 (vl A69 (32+2+msg.length) c70) (32+2+msg.length) (byteVals (root++(two i)++msg))) ?_ (fun st212=>?_)
 ·skip
  rintro a213 w214 ⟨g97,A69,c70,g49,A29,c30,F215,hx216,b217,z218,b219,z220,z221,hf222,hf223⟩
  clear F17
  have z224:=hx216.size
  have z225:=b217.lt
  have z226:=b219.lt
  have z227:=(Fl.cel hf222).2.1
  have z228:=Fl.blen hf222
  have z229:=(Fl.cel hf223).2.1
  have z230:=Fl.blen hf223
  refine ao 6 rfl ?_
  refine o_call F215 rfl rfl rfl rfl (rn_call (args2 rfl (F215.get rfl)) rfl (by kernel_rfl)) (tagged_at ([109,101,115,115,97,103,101]) (v:=(vl A69 (32+2+msg.length) c70)) (n:=(32+2+msg.length)) (root++(two i)++msg) _ hf223 (hG.ext (((((Ext.refl w).trans hx5).trans hx13).trans hx20).trans hx216)) (by simp <;> omega) (by omega)) ?_
  rintro _ w231 ⟨rfl,hx232⟩
  refine ⟨_,rfl,?_⟩;intro a233 F234;clear F215;have z235:=hx232.size
  have b236:=((((b4.ext hx13).ext hx20).ext hx216).ext hx232)
  refine ⟨fun _ _=>⟨(((Ext.refl w19).trans hx216).trans hx232),b236⟩,?_⟩
  have b237:=(b217.ext hx232)
  have b238:=(b219.ext hx232)
  have d239:=(hf222.ext hx232)
  exact st118 _ _ ⟨g97,g49,A29,c30,(((((((F234.nil.c F234 15 rfl).c F234 7 rfl).c F234 6 rfl).c F234 3 rfl).c F234 2 rfl).c F234 1 rfl).c F234 0 rfl),(((Ext.refl w19).trans hx216).trans hx232),b237,(by omega),b238,(by omega),(by omega),(Fl.sub d239 (fun b hb=>by first | omega | (simp only [Clip] at hb;omega)))⟩
 refine any_have (n1:=3) (L1:=#[true,true,true,true,true,false,false,true,false]) (fun a' W=>∃ (g82:Nat) (g49:Nat) (A29:Option Addr) (c30:Nat),Sl 33 [(0,(.agg (byteVals root).toArray)),(1,(vi (i:Nat))),(2,(vl A msg.length c)),(3,(vp g2)),(6,(vp g10)),(7,(vp g82)),(13,(vl (some ⟨g49,0,none⟩) 3 3))] a'∧Ext w19 W∧Blk W g49 52 [(vl (some ⟨g2,0,none⟩) 32 32),(vl A29 2 c30),(vl A msg.length c)]∧w19.heap.size≤g49∧Blk W g82 24 (byteVals (List.replicate 32 0))∧w19.heap.size≤g82∧g49≠g82∧Fl (fun b=>w19.heap.size≤b) W 1 (vl A29 2 c30) 2 (byteVals (two i))) ?_ (fun st240=>?_)
 ·skip
  rintro a241 w242 ⟨g82,g49,A29,c30,F243,hx244,b245,z246,b247,z248,z249,hf250⟩
  clear F17
  have z251:=hx244.size
  have z252:=b245.lt
  have z253:=b247.lt
  have z254:=(Fl.cel hf250).2.1
  have z255:=Fl.blen hf250
  refine ao 5 rfl ?_
  have b256:=(((b4.ext hx13).ext hx20).ext hx244)
  have d257:=((((hc.ext hx5).ext hx13).ext hx20).ext hx244)
  have hn261:=Fl.blen (Fl.blk (S:=fun b=>b=g2) (k:=1) (n:=32) (c:=32) b256 (by rw [byteVals_len hd,Nat.mul_one]) (byteVals_one _) (by omega) rfl)
  have hn262:=Fl.blen hf250
  have hn263:=Fl.blen d257
  have hn264:([root,two i,msg]).flatten.length=32+2+msg.length:=by simp only [List.flatten_cons,List.flatten_nil,List.length_append,List.length_nil];omega
  refine o_call F243 rfl rfl rfl rfl (rn_call (args1 (F243.get rfl)) rfl (by kernel_rfl)) (concat_at [root,two i,msg] _ (RBss.three b245 (Fl.blk (S:=fun b=>b=g2) (k:=1) (n:=32) (c:=32) b256 (by rw [byteVals_len hd,Nat.mul_one]) (byteVals_one _) (by omega) rfl) hf250 d257) hn264 (by omega)) ?_
  rintro _ w265 ⟨A258,c259,rfl,hf260,hx266⟩
  rw [show ([root,two i,msg]).flatten=root++(two i)++msg from by simp] at hf260
  refine ⟨_,rfl,?_⟩;intro a267 F268;clear F243;have z269:=hx266.size
  have b270:=(b256.ext hx266)
  refine ⟨fun _ _=>⟨(((Ext.refl w19).trans hx244).trans hx266),b270⟩,?_⟩
  have b271:=(b245.ext hx266)
  have b272:=(b247.ext hx266)
  have d273:=(hf250.ext hx266)
  exact st212 _ _ ⟨g82,A258,c259,g49,A29,c30,(((((((F268.nil.c F268 14 rfl).c F268 7 rfl).c F268 6 rfl).c F268 3 rfl).c F268 2 rfl).c F268 1 rfl).c F268 0 rfl),(((Ext.refl w19).trans hx244).trans hx266),b271,(by omega),b272,(by omega),(by omega),(Fl.sub d273 (fun b hb=>by first | omega | (simp only [Clip] at hb;omega))),(Fl.sub hf260 (fun b hb=>by first | omega | (simp only [Clip] at hb;omega)))⟩
 refine any_have (n1:=4) (L1:=#[true,true,true,true,false,false,false,true,false]) (fun a' W=>∃ (g58:Nat) (A29:Option Addr) (c30:Nat),Sl 33 [(0,(.agg (byteVals root).toArray)),(1,(vi (i:Nat))),(2,(vl A msg.length c)),(3,(vp g2)),(6,(vp g10)),(7,(vp g58)),(9,(vl (some ⟨g2,0,none⟩) 32 32)),(11,(vl A29 2 c30)),(12,(vl A msg.length c))] a'∧Ext w19 W∧Blk W g58 24 (byteVals (List.replicate 32 0))∧w19.heap.size≤g58∧Fl (fun b=>w19.heap.size≤b) W 1 (vl A29 2 c30) 2 (byteVals (two i))) ?_ (fun st274=>?_)
 ·skip
  rintro a275 w276 ⟨g58,A29,c30,F277,hx278,b279,z280,hf281⟩
  clear F17
  have z282:=hx278.size
  have z283:=b279.lt
  have z284:=(Fl.cel hf281).2.1
  have z285:=Fl.blen hf281
  refine ao 4 rfl (F277.on (fun g=>(vl (some ⟨g,0,none⟩) 3 3)) [(vl (some ⟨g2,0,none⟩) 32 32),(vl A29 2 c30),(vl A msg.length c)] 52 rfl (fun F=>rn_buildSlice (parts3 (F.get rfl) (F.get rfl) (F.get rfl)) (by kernel_rfl)) fun g286 w287 _ F293 z290 z291 b288 hx289=>?_);clear F277
  have b294:=((((b4.ext hx13).ext hx20).ext hx278).ext hx289)
  refine ⟨fun _ _=>⟨(((Ext.refl w19).trans hx278).trans hx289),b294⟩,?_⟩
  have b295:=(b279.ext hx289)
  have d296:=(hf281.ext hx289)
  exact st240 _ _ ⟨g58,g286,A29,c30,(((((((F293.nil.c F293 13 rfl).c F293 7 rfl).c F293 6 rfl).c F293 3 rfl).c F293 2 rfl).c F293 1 rfl).c F293 0 rfl),(((Ext.refl w19).trans hx278).trans hx289),b288,(by omega),b295,(by omega),(by omega),(Fl.sub d296 (fun b hb=>by first | omega | (simp only [Clip] at hb;omega)))⟩
 refine F17.yw 0 (vl (some ⟨g2,0,none⟩) 32 32) rfl (fun F W=>rn_arrAll Tryd.underlying24 inf5 (F.get rfl))<|Ym 1 rfl<|Ym 3 rfl<|fun _ F302=>?_;clear F17
 refine any_two (i:=2) (k:=7) (by decide +kernel) rfl rfl ?_ ?_
 ·skip
  refine o_call F302 rfl rfl rfl rfl (rn_call (args1 (F302.get rfl)) rfl (by kernel_rfl)) (two_any i _ (by omega)) ?_
  rintro _ w307 ⟨A303,c304,rfl,hf305,hx308⟩
  have z306:=(Fl.cel hf305).2.1
  refine ⟨_,rfl,?_⟩;intro a309 F310;clear F302;have z311:=hx308.size
  have hf312:Fl (Clip (fun b=>w19.heap.size≤b) w307) w307 1 (vl A303 2 c304) 2 (byteVals (two i)):=hf305.clip
  have b313:=(((b4.ext hx13).ext hx20).ext hx308)
  refine ⟨fun _ _=>⟨((Ext.refl w19).trans hx308),b313⟩,?_⟩
  refine any_two (i:=4) (k:=7) (by decide +kernel) rfl rfl ?_ ?_
  ·skip
   refine F310.on (fun g=>(vl (some ⟨g,0,none⟩) 3 3)) [(vl (some ⟨g2,0,none⟩) 32 32),(vl A303 2 c304),(vl A msg.length c)] 52 rfl (fun F=>rn_buildSlice (parts3 (F.get rfl) (F.get rfl) (F.get rfl)) (by kernel_rfl)) fun g314 w315 _ F321 z318 z319 b316 hx317=>?_;clear F310
   have b322:=(b313.ext hx317)
   refine ⟨fun _ _=>⟨(((Ext.refl w19).trans hx308).trans hx317),b322⟩,?_⟩
   refine any_two (i:=5) (k:=7) (by decide +kernel) rfl rfl ?_ ?_
   ·skip
    have d323:=(hf312.ext hx317)
    have d324:=(((((hc.ext hx5).ext hx13).ext hx20).ext hx308).ext hx317)
    have hn328:=Fl.blen (Fl.blk (S:=fun b=>b=g2) (k:=1) (n:=32) (c:=32) b322 (by rw [byteVals_len hd,Nat.mul_one]) (byteVals_one _) (by omega) rfl)
    have hn329:=Fl.blen d323
    have hn330:=Fl.blen d324
    have hn331:([root,two i,msg]).flatten.length=32+2+msg.length:=by simp only [List.flatten_cons,List.flatten_nil,List.length_append,List.length_nil];omega
    refine o_call F321 rfl rfl rfl rfl (rn_call (args1 (F321.get rfl)) rfl (by kernel_rfl)) (concat_at [root,two i,msg] _ (RBss.three b316 (Fl.blk (S:=fun b=>b=g2) (k:=1) (n:=32) (c:=32) b322 (by rw [byteVals_len hd,Nat.mul_one]) (byteVals_one _) (by omega) rfl) d323 d324) hn331 (by omega)) ?_
    rintro _ w332 ⟨A325,c326,rfl,hf327,hx333⟩
    rw [show ([root,two i,msg]).flatten=root++(two i)++msg from by simp] at hf327
    refine ⟨_,rfl,?_⟩;intro a334 F335;clear F321;have z336:=hx333.size
    have b337:=(b322.ext hx333)
    refine ⟨fun _ _=>⟨((((Ext.refl w19).trans hx308).trans hx317).trans hx333),b337⟩,?_⟩
    refine any_two (i:=6) (k:=7) (by decide +kernel) rfl rfl ?_ ?_
    ·skip
     refine o_call F335 rfl rfl rfl rfl (rn_call (args2 rfl (F335.get rfl)) rfl (by kernel_rfl)) (tagged_at ([109,101,115,115,97,103,101]) (v:=(vl A325 (32+2+msg.length) c326)) (n:=(32+2+msg.length)) (root++(two i)++msg) _ hf327 (hG.ext (((((((Ext.refl w).trans hx5).trans hx13).trans hx20).trans hx308).trans hx317).trans hx333)) (by simp <;> omega) (by omega)) ?_
     rintro _ w338 ⟨rfl,hx339⟩
     refine ⟨_,rfl,?_⟩;intro a340 F341;clear F335;have z342:=hx339.size
     have b343:=(b337.ext hx339)
     refine ⟨fun _ _=>⟨(((((Ext.refl w19).trans hx308).trans hx317).trans hx333).trans hx339),b343⟩,?_⟩
     refine ao 7 rfl (F341.oz (byteVals (List.replicate 32 0)) 24 rfl fun g344 w345 _ F351 z348 z349 b346 hx347=>?_);clear F341
     have b352:=(b343.ext hx347)
     refine ⟨fun _ _=>⟨((((((Ext.refl w19).trans hx308).trans hx317).trans hx333).trans hx339).trans hx347),b352⟩,?_⟩
     have b353:=(((b316.ext hx333).ext hx339).ext hx347)
     have d354:=((((hf312.ext hx317).ext hx333).ext hx339).ext hx347)
     exact st118 _ _ ⟨g344,g314,A303,c304,(((((((F351.nil.c F351 15 rfl).c F351 7 rfl).c F351 6 rfl).c F351 3 rfl).c F351 2 rfl).c F351 1 rfl).c F351 0 rfl),((((((Ext.refl w19).trans hx308).trans hx317).trans hx333).trans hx339).trans hx347),b353,(by omega),b346,(by omega),(by omega),(Fl.sub d354 (fun b hb=>by first | omega | (simp only [Clip] at hb;omega)))⟩
    refine F335.oz (byteVals (List.replicate 32 0)) 24 rfl fun g355 w356 _ F362 z359 z360 b357 hx358=>?_;clear F335
    have b363:=(b337.ext hx358)
    refine ⟨fun _ _=>⟨(((((Ext.refl w19).trans hx308).trans hx317).trans hx333).trans hx358),b363⟩,?_⟩
    have b364:=((b316.ext hx333).ext hx358)
    have d365:=(((hf312.ext hx317).ext hx333).ext hx358)
    have d366:=(hf327.ext hx358)
    exact st212 _ _ ⟨g355,A325,c326,g314,A303,c304,(((((((F362.nil.c F362 14 rfl).c F362 7 rfl).c F362 6 rfl).c F362 3 rfl).c F362 2 rfl).c F362 1 rfl).c F362 0 rfl),(((((Ext.refl w19).trans hx308).trans hx317).trans hx333).trans hx358),b364,(by omega),b357,(by omega),(by omega),(Fl.sub d365 (fun b hb=>by first | omega | (simp only [Clip] at hb;omega))),(Fl.sub d366 (fun b hb=>by first | omega | (simp only [Clip] at hb;omega)))⟩
   refine F321.oz (byteVals (List.replicate 32 0)) 24 rfl fun g367 w368 _ F374 z371 z372 b369 hx370=>?_;clear F321
   have b375:=(b322.ext hx370)
   refine ⟨fun _ _=>⟨((((Ext.refl w19).trans hx308).trans hx317).trans hx370),b375⟩,?_⟩
   have b376:=(b316.ext hx370)
   have d377:=((hf312.ext hx317).ext hx370)
   exact st240 _ _ ⟨g367,g314,A303,c304,(((((((F374.nil.c F374 13 rfl).c F374 7 rfl).c F374 6 rfl).c F374 3 rfl).c F374 2 rfl).c F374 1 rfl).c F374 0 rfl),((((Ext.refl w19).trans hx308).trans hx317).trans hx370),b376,(by omega),b369,(by omega),(by omega),(Fl.sub d377 (fun b hb=>by first | omega | (simp only [Clip] at hb;omega)))⟩
  refine F310.oz (byteVals (List.replicate 32 0)) 24 rfl fun g378 w379 _ F385 z382 z383 b380 hx381=>?_;clear F310
  have b386:=(b313.ext hx381)
  refine ⟨fun _ _=>⟨(((Ext.refl w19).trans hx308).trans hx381),b386⟩,?_⟩
  have d387:=(hf312.ext hx381)
  exact st274 _ _ ⟨g378,A303,c304,(((((((((F385.nil.c F385 12 rfl).c F385 11 rfl).c F385 9 rfl).c F385 7 rfl).c F385 6 rfl).c F385 3 rfl).c F385 2 rfl).c F385 1 rfl).c F385 0 rfl),(((Ext.refl w19).trans hx308).trans hx381),b380,(by omega),(Fl.sub d387 (fun b hb=>by first | omega | (simp only [Clip] at hb;omega)))⟩
 refine F302.oz (byteVals (List.replicate 32 0)) 24 rfl fun g388 w389 _ F395 z392 z393 b390 hx391=>?_;clear F302
 have b396:=(((b4.ext hx13).ext hx20).ext hx391)
 refine ⟨fun _ _=>⟨((Ext.refl w19).trans hx391),b396⟩,?_⟩
 refine ao 2 rfl ?_
 refine o_call F395 rfl rfl rfl rfl (rn_call (args1 (F395.get rfl)) rfl (by kernel_rfl)) (two_any i _ (by omega)) ?_
 rintro _ w401 ⟨A397,c398,rfl,hf399,hx402⟩
 have z400:=(Fl.cel hf399).2.1
 refine ⟨_,rfl,?_⟩;intro a403 F404;clear F395;have z405:=hx402.size
 have hf406:Fl (Clip (fun b=>w389.heap.size≤b) w401) w401 1 (vl A397 2 c398) 2 (byteVals (two i)):=hf399.clip
 have b407:=(b396.ext hx402)
 refine ⟨fun _ _=>⟨(((Ext.refl w19).trans hx391).trans hx402),b407⟩,?_⟩
 have b408:=(b390.ext hx402)
 exact st274 _ _ ⟨g388,A397,c398,(((((((((F404.nil.c F404 12 rfl).c F404 11 rfl).c F404 9 rfl).c F404 7 rfl).c F404 6 rfl).c F404 3 rfl).c F404 2 rfl).c F404 1 rfl).c F404 0 rfl),(((Ext.refl w19).trans hx391).trans hx402),b408,(by omega),(Fl.sub hf406 (fun b hb=>by first | omega | (simp only [Clip] at hb;omega)))⟩

theorem signed_at {v:Value} {m:Nat} (root:List UInt8) (i:Nat) (msg:List UInt8) (w:World) (hd:root.length=32) (hf:Fl S w 1 v m (byteVals msg)) (hG:Glob w) (hm:m≤4194304) (hi:i<65536) :
  Calls Tryd.prog 59 #[.agg (byteVals root).toArray,.int .i64 (i:Nat),v] w (fun e w'=>e=.returned (.agg (boolVals (bitsL root i msg)).toArray)∧Ext w w'):=by
 have hmm:=hf.blen
 subst hmm
 obtain ⟨A,c,rfl,_⟩:=hf.form
 exact signed_any A c root i msg w hd hf hG hm hi

theorem signed_int {v:Value} {m:Nat} (root:List UInt8) (i:Int) (msg:List UInt8) (w:World) (hd:root.length=32) (hf:Fl S w 1 v m (byteVals msg)) (hG:Glob w) (hm:m≤4194304) (h0:0≤i) (hi:i<65536) :
  Calls Tryd.prog 59 #[.agg (byteVals root).toArray,.int .i64 i,v] w (fun e w'=>e=.returned (.agg (boolVals (bitsL root i.toNat msg)).toArray)∧Ext w w'):=by
 obtain ⟨k,rfl⟩:∃ k:Nat,i=(k:Int):=⟨i.toNat,by omega⟩
 exact signed_at root k msg w hd hf hG hm (by omega)

end Go.Proofs.YtihgmaoghbnnaaaDoor

namespace Go.Proofs.YtihgmaoghbnnaaaDoor
open Go.RowKit

variable {S S':Nat→Prop}

theorem publics_int {v:Value} {m:Nat} (sd:List UInt8) (many used:Int) (w:World) (hf:Fl S w 1 v m (byteVals sd)) (hG:Glob w) (hsd:m≤64) (h0:0≤many) (hm:many≤4096) :
  Calls Tryd.prog 43 #[.agg #[v,.int .i64 many,.int .i64 used]] w (fun e w'=>∃ A c,e=.returned (vl A many.toNat c)∧Fl (fun b=>w.heap.size≤b) w' 32 (vl A many.toNat c) many.toNat (digVals (pubsL sd many.toNat))∧Ext w w'):=by
 obtain ⟨k,rfl⟩:∃ k:Nat,many=(k:Int):=⟨many.toNat,by omega⟩
 exact publics_at sd k used w hf hG hsd (by omega)
theorem secret_int {v:Value} {m:Nat} (sd:List UInt8) (i:Int) (j:Nat) (b:Bool) (w:World) (hf:Fl S w 1 v m (byteVals sd)) (hG:Glob w) (hsd:m≤4194304) (h0:0≤i) (hi:i<65536) (hj:j<256) :
  Calls Tryd.prog 60 #[.agg #[v,.int .i64 i],.int .i64 (j:Nat),.bool b] w (fun e w'=>e=.returned (.agg (byteVals (secretD sd i.toNat j b)).toArray)∧Ext w w'):=by
 obtain ⟨k,rfl⟩:∃ k:Nat,i=(k:Int):=⟨i.toNat,by omega⟩
 exact secret_at sd k j b w hf hG hsd (by omega) hj
theorem hash_int {v:Value} {m:Nat} (sd:List UInt8) (i:Int) (j:Nat) (b:Bool) (w:World) (hf:Fl S w 1 v m (byteVals sd)) (hG:Glob w) (hsd:m≤4194304) (h0:0≤i) (hi:i<65536) (hj:j<256) :
  Calls Tryd.prog 61 #[.agg #[v,.int .i64 i],.int .i64 (j:Nat),.bool b] w (fun e w'=>e=.returned (.agg (byteVals (hashD sd i.toNat j b)).toArray)∧Ext w w'):=by
 obtain ⟨k,rfl⟩:∃ k:Nat,i=(k:Int):=⟨i.toNat,by omega⟩
 exact hash_at sd k j b w hf hG hsd (by omega) hj
theorem opTo_step' {sd:List UInt8} {i:Nat} {bs:List Bool} {k:Nat} {l:List (List UInt8)} {b:Bool} (hl:l=opTo sd i bs k) (h:bs.getD k false=b):l++[secretD sd i k b]=opTo sd i bs (k+1):=by rw [hl,← h];exact opTo_step _ _ _ _
theorem clTo_step' {sd:List UInt8} {i:Nat} {bs:List Bool} {k:Nat} {l:List (List UInt8)} {b c:Bool} (hl:l=clTo sd i bs k) (h:bs.getD k false=b) (hc:c=!b):l++[hashD sd i k c]=clTo sd i bs (k+1):=by rw [hl,hc,← h];exact clTo_step _ _ _ _
def pubF (sd:List UInt8) (many used:Int):List UInt8:=if kOk sd many used=true then pubD sd many.toNat else zero32
def pubE (sd:List UInt8) (many used:Int):Int:=if kOk sd many used=true then 0 else 40
theorem pubF_len (sd:List UInt8) (many used:Int):(pubF sd many used).length=32:=by unfold pubF;split;exact treeD_len _;rfl
theorem signF_no {sd:List UInt8} {many used idx:Int} {msg:List UInt8} {e:Int} (he:signE sd many used idx msg=e) (h0:e≠0):signF sd many used idx msg=sgNil:=by rw [signF,he,if_neg h0]
theorem signE1 {sd:List UInt8} {many used idx:Int} {msg:List UInt8} (h:kOk sd many used=false):signE sd many used idx msg=40:=by rw [signE,if_pos h]
theorem signE2 {sd:List UInt8} {many used idx:Int} {msg:List UInt8} (h:kOk sd many used=true) (h2:65536<msg.length):signE sd many used idx msg=2:=by rw [signE,if_neg (by rw [h];decide),if_pos h2]
theorem signE3 {sd:List UInt8} {many used idx:Int} {msg:List UInt8} (h:kOk sd many used=true) (h2:¬ 65536<msg.length) (h3:idx<0∨many≤idx):signE sd many used idx msg=40:=by rw [signE,if_neg (by rw [h];decide),if_neg h2,if_pos h3]
theorem signE4 {sd:List UInt8} {many used idx:Int} {msg:List UInt8} (h:kOk sd many used=true) (h2:¬ 65536<msg.length) (h3:¬ (idx<0∨many≤idx)):signE sd many used idx msg=0:=by rw [signE,if_neg (by rw [h];decide),if_neg h2,if_neg h3]
theorem signF_yes {sd:List UInt8} {many used idx:Int} {msg:List UInt8} (h:kOk sd many used=true) (h2:¬ 65536<msg.length) (h3:¬ (idx<0∨many≤idx)) :
  signF sd many used idx msg=⟨idx,opTo sd idx.toNat (bitsL (treeD (pubsL sd many.toNat)) idx.toNat msg) 64,clTo sd idx.toNat (bitsL (treeD (pubsL sd many.toNat)) idx.toNat msg) 64,(pathF (pubsL sd many.toNat) idx).1⟩:=by
 have hp:(pathF (pubsL sd many.toNat) idx).1=pathD (pubsL sd many.toNat) idx.toNat:=by rw [pathF,if_neg (by rw [pubsL_len];omega)]
 rw [signF,if_pos (signE4 h h2 h3),sgOf,hp]
 congr 1
 omega

set_option maxRecDepth 100000 in
set_option maxHeartbeats 1000000 in
theorem pub_any (A:Option Addr) (c:Nat) (sd:List UInt8) (many used:Int) (w:World) (hf:Fl S w 1 (vl A sd.length c) sd.length (byteVals sd)) (hG:Glob w) :
  Calls Tryd.prog 23 #[.agg #[.slice A sd.length c,.int .i64 many,.int .i64 used]] w (fun e w'=>e=.returned (.tuple #[.agg (byteVals (pubF sd many used)).toArray,.int .i64 (pubE sd many used)])∧Ext w w'):=by
 have hc:Fl (Clip S w) w 1 (vl A sd.length c) sd.length (byteVals sd):=hf.clip
 have hcc:=(Fl.cel hc).2.1
 refine calls_enter Tryd.func23 rfl rfl rfl fun _ hF=>?_
 refine wr fun K1 hK1=>?_
 refine hF.xb rfl fun g2 w3 _ F9 z6 z7 b4 hx5=>?_;clear hF
 refine F9.xz (byteVals (List.replicate 32 0)) 24 fun g10 w11 _ F17 z14 z15 b12 hx13=>?_;clear F9
 refine F17.xv (vi 0)<|fun _ F19=>?_;clear F17
 refine wpList_nil (hK1 _ _ ?_);clear hK1
 refine wp_seq_k fun K20 hK20=>?_
 refine wr fun K21 hK21=>?_
 have b22:=(b4.ext hx13)
 refine F19.xw (.agg #[(vl A sd.length c),(vi many),(vi used)]) (fun F=>rb F rfl b22)<|fun _ F24=>?_;clear F19
 have d25:=((hc.ext hx5).ext hx13)
 refine F24.xc (valid_at (v:=(vl A sd.length c)) (m:=sd.length) sd many used _ d25) ?_
 rintro _ w26 ⟨rfl,hx27⟩
 refine ⟨_,rfl,?_⟩;intro a28 F29;clear F24;have z30:=hx27.size
 refine F29.xw (.bool (!(kOk sd many used))) (fun F=>rn_not' (F.get rfl) rfl)<|fun _ F32=>?_;clear F29
 refine wpList_nil (hK21 _ _ ?_);clear hK21
 rcases Bool.eq_false_or_eq_true (kOk sd many used) with hc33 | hc33
 ·skip
  refine F32.cf ?_
  refine wp_skip ?_
  refine hK20 _ _ ?_;clear hK20
  refine wp_seq_k fun K34 hK34=>?_
  have hko35:=kOk_iff.1 hc33
  refine wp_region_lit ?_
  have b36:=(b22.ext hx27)
  refine F32.xw (.agg #[(vl A sd.length c),(vi many),(vi used)]) (fun F=>rb F rfl b36)<|fun _ F38=>?_;clear F32
  have d39:=(((hc.ext hx5).ext hx13).ext hx27)
  refine wpl_op (i:=1) rfl (o_call F38 rfl rfl rfl rfl (rn_call (args1 (F38.get rfl)) rfl (by kernel_rfl)) (publics_int (v:=(vl A sd.length c)) (m:=sd.length) sd many used _ d39 (hG.ext ((((Ext.refl w).trans hx5).trans hx13).trans hx27)) (by omega) (by omega) (by omega)) ?_)
  rintro _ w44 ⟨A40,c41,rfl,hf42,hx45⟩
  have z43:=(Fl.cel hf42).2.1
  refine ⟨_,rfl,?_⟩;intro a46 F47;clear F38;have z48:=hx45.size
  have hf49:Fl (Clip (fun b=>w26.heap.size≤b) w44) w44 32 (vl A40 ((many:Int).toNat) c41) ((many:Int).toNat) (digVals (pubsL sd ((many:Int).toNat))):=hf42.clip
  have hf50:=hf49
  refine F47.xc (tree_at (pubsL sd ((many:Int).toNat)) _ (n:=(many:Int).toNat) (v:=(vl A40 ((many:Int).toNat) c41)) (pubsL_32 _ _) hf50 (hG.ext (((((Ext.refl w).trans hx5).trans hx13).trans hx27).trans hx45))) ?_
  rintro _ w51 ⟨rfl,hx52⟩
  refine ⟨_,rfl,?_⟩;intro a53 F54;clear F47;have z55:=hx52.size
  have b59:=(((b12.ext hx27).ext hx45).ext hx52)
  refine F54.xs rfl b59 (fun w56 b57 hg58=>?_) (hk:=byteVals_len (treeD_len _));have z60:=hg58.size
  refine F54.xv (vi 0)<|fun _ F62=>?_;clear F54
  refine wpList_nil (hK34 _ _ ?_);clear hK34
  have F63:=F62.k [0,1,2,3,6];clear F62
  refine wp_ret ?_
  refine retC1 F63 rfl rfl rfl b57 Tryd.underlying24 rfl (sk inf24 (byteVals_len (treeD_len _))) ?_
  exact ⟨by rw [pubF,pubE,hc33];rfl,(((((((Ext.refl w).trans hx5).trans hx13).trans hx27).trans hx45).trans hx52).gn hg58)⟩
 refine F32.ct ?_
 refine wr fun K64 hK64=>?_
 have b65:=(b12.ext hx27)
 refine F32.xw (.agg (byteVals (List.replicate 32 0)).toArray) (fun F=>rb F rfl b65 (hk:=byteVals_len (show List.length (List.replicate 32 0)=_ from List.length_replicate)))<|fun _ F67=>?_;clear F32
 refine F67.xs rfl b65 (fun w68 b69 hg70=>?_) (hk:=byteVals_len (show List.length (List.replicate 32 0)=_ from List.length_replicate));have z71:=hg70.size
 refine F67.xv (vi 40)<|fun _ F73=>?_;clear F67
 refine wpList_nil (hK64 _ _ ?_);clear hK64
 refine wp_ret (ret_then ?_)
 refine retC1 F73 rfl rfl rfl b69 Tryd.underlying24 rfl (sk inf24 (byteVals_len (show List.length (List.replicate 32 0)=_ from List.length_replicate))) ?_
 exact ⟨by rw [pubF,pubE,hc33];rfl,(((((Ext.refl w).trans hx5).trans hx13).trans hx27).gn hg70)⟩

theorem pub_at {v:Value} {m:Nat} (sd:List UInt8) (many used:Int) (w:World) (hf:Fl S w 1 v m (byteVals sd)) (hG:Glob w) :
  Calls Tryd.prog 23 #[.agg #[v,.int .i64 many,.int .i64 used]] w (fun e w'=>e=.returned (.tuple #[.agg (byteVals (pubF sd many used)).toArray,.int .i64 (pubE sd many used)])∧Ext w w'):=by
 have hm:=hf.blen
 subst hm
 obtain ⟨A,c,rfl,_⟩:=hf.form
 exact pub_any A c sd many used w hf hG

end Go.Proofs.YtihgmaoghbnnaaaDoor
