/- Several texts in one: SealJ, SealK, SealL, JrA, MrB, MrC, Open42, OpenZ, Glob3, MrD, MrE, MrF, MrG. -/
import Derived.Test.YtihgmaoghbnnaaaGreatDoorProg
import Derived.Test.YtihgmaoghbnnaaaGreatDoorQfD
import Derived.KernelRfl
import Derived.Test.YtihgmaoghbnnaaaGreatDoorQfA
import Derived.Test.YtihgmaoghbnnaaaGreatDoorQfB
import Derived.Test.YtihgmaoghbnnaaaGreatDoorRows
import Derived.LaidMore
import Derived.MakeChecks
import Derived.LaidLaws
import Derived.LaidHandle
import Derived.WalkSpells
import Derived.Handy
set_option linter.unusedVariables false
set_option linter.unusedSimpArgs false
set_option maxRecDepth 100000
set_option maxHeartbeats 1000000
namespace Go.Proofs.YtihgmaoghbnnaaaGreatDoor
open Go.RowKit
variable {R:Ending→World→Prop} {fn:Func} {many no:Int} {x:List (List UInt8)} {bs:List Bool} {l:List Cg} {p:List MemPlace} {bb st:List UInt8} {B cs cs':List Value} {N b0 base c g i j k m n o:Nat} {S S' S2:Nat→Prop} {x0:Operand} {A:Option Addr} {s:Sg} {α:Type} {td:TypeDesc} {e tt ty:TypeId} {u v v1 v2:Value} {W w w':World}
theorem shown_len {b:Bool} (ho:All32 s.op) (hc:All32 s.cl) (h1:j<s.op.length) (h2:j<s.cl.length):(shown bs s j b).length=32:=by
 unfold shown
 split
 ·exact openD_len _
 ·exact dig_len hc j h2
theorem pairs_32 {h:Nat→Bool→List UInt8} (hl:∀ j b,j<k→(h j b).length=32):All32 (pairsL h k):=fun x hx=>by
 simp only [pairsL,List.mem_flatMap] at hx
 obtain ⟨j,hj,hx⟩:=hx
 have hj:=List.mem_range.1 hj
 rcases List.mem_cons.1 hx with rfl | hx
 ·exact hl _ _ hj
 ·rw [List.mem_singleton.1 hx];exact hl _ _ hj
theorem pair_t (hx:x=pairsL (shown bs s) k) (h:bs.getD k false=true):x++[s.cl.getD k [],openD (s.op.getD k [])]=pairsL (shown bs s) (k+1):=by
 rw [hx,← pairsL_step];unfold shown;rw [h];rfl
theorem pair_f (hx:x=pairsL (shown bs s) k) (h:bs.getD k false=false):x++[openD (s.op.getD k []),s.cl.getD k []]=pairsL (shown bs s) (k+1):=by
 rw [hx,← pairsL_step];unfold shown;rw [h];rfl
theorem publicD_pairs (h:Nat→Bool→List UInt8):tagged [111,110,101] (pairsL h 64).flatten=publicD h:=by rw [pairsL_flat];rfl
theorem shown_any (j:Nat) (b:Bool) (gb gs:Nat) (bs:List Bool) (idx:Int) (O:Option Addr) (oc:Nat) (op:List (List UInt8)) (C:Option Addr) (ec:Nat) (cl pa:List (List UInt8)) (pv:Value) (w:World) (hb:Blk w gb 99 (boolVals bs)) (hs:Blk w gs 32 [.int .i64 idx,.slice O op.length oc,.slice C cl.length ec,pv]) (ho:Fl S w 32 (vl O op.length oc) op.length (digVals op)) (he:Fl S w 32 (vl C cl.length ec) cl.length (digVals cl)) (h32o:All32 op) (h32c:All32 cl) (hG:Glob w) (hbs:bs.length=64) (hj:j<64) (h1:op.length=64) (h2:cl.length=64) :
  Calls Tryz.prog 80 #[.int .i64 (j:Nat),.bool b,.pointer (some ⟨gb,0,none⟩),.pointer (some ⟨gs,0,none⟩)] w (fun e w'=>e=.returned (.agg (byteVals (shown bs ⟨idx,op,cl,pa⟩ j b)).toArray)∧Ext w w'):=by
 have hco:Fl (Clip S w) w 32 (vl O op.length oc) op.length (digVals op):=ho.clip
 have hcoc:=(Fl.cel hco).2.1
 have hce:Fl (Clip S w) w 32 (vl C cl.length ec) cl.length (digVals cl):=he.clip
 have hcec:=(Fl.cel hce).2.1
 have hgb:=hb.lt
 have hgs:=hs.lt
 refine calls_enter Tryz.func80 rfl rfl rfl fun _ D=>wr fun G I=>D.xz (byteVals (List.replicate 32 0)) 29 fun D D _ D G G M G=>wn I<|wp_seq_k fun I V=>wr fun I U=>D.xm rfl<|Xw (vq gb (0+j)) (fun F=>rn_indexArr uu99 inf4 (F.get rfl) (F.get rfl) (zl _) (by omega:(j:Int)<((64:Nat):Int))) fun _ D=>have I:=(hb.ext G);D.xw (.bool (bs.getD j false)) (fun F=>rl F rfl (blk_boolVals I (by omega) (by have:=(show List.length bs=_ from hbs);omega)))<|Xm rfl fun _ J=>?_
 rcases Bool.eq_false_or_eq_true (bs.getD j false) with D | D
 ·rcases Bool.eq_false_or_eq_true b with I | I
  ·refine J.xw (.bool true) (fun F=>rn_eqB uu4 (F.get rfl) (F.get rfl) (show _=true from D) (show _=true from I) rfl) fun _ V=>wn U<|have J:=V.k [0,1,2,3,6,11];J.ct<|wr fun U Y=>J.xv (vq gs 1) fun _ J=>have U:=(hs.ext G);J.xw (vl O op.length oc) (fun F=>rl F rfl (U.rule.1 1))<|Xm rfl fun _ U=>?_
   have J:=hco.ext G
   obtain ⟨V,Z,G,-⟩:=Fl.at J (by omega)
   refine U.xw (vq V (Z+j*32)) (fun F=>rn_indexE uu30 inf29 ((F.get rfl).trans (by rw [G])) (F.get rfl) (zl _) (il (by omega:j<op.length)) (by omega))<|Xw (.agg (byteVals (op.getD j [])).toArray) (fun F=>rn_loadN (cs:=byteVals (op.getD j [])) (F.get rfl) uu29 rfl (sk inf29 (byteVals_len (dig_len h32o j (by omega)))) (Fl.digAt J G h32o (by omega))) fun _ G=>G.xE (c:=open_any (op.getD j []) _ (dig_len h32o j (by omega)) (hG.ext eX)) (k:=fun G U G _ G=>?_)
   have J:=M.ext U
   refine G.xs rfl J (fun J M J=>?_) (hk:=byteVals_len (openD_len _));have U:=J.size
   exact wn Y<|have J:=G.k [0,1,2,3,6,11];wp_ret<|ret_then<|retC J rfl rfl M uu29 rfl (sk inf29 (byteVals_len (openD_len _)))<|⟨by rw [shown,if_pos (D.trans I.symm)],eX⟩
  refine J.xw (.bool false) (fun F=>rn_eqB uu4 (F.get rfl) (F.get rfl) (show _=true from D) (show _=false from I) rfl) fun _ Y=>wn U<|have J:=Y.k [0,1,2,3,6,11];J.cf<|wp_skip<|V _ _<|wr fun U Y=>J.xv (vq gs 2) fun _ J=>have U:=(hs.ext G);J.xw (vl C cl.length ec) (fun F=>rl F rfl (U.rule.1 2))<|Xm rfl fun _ U=>?_
  have J:=hce.ext G
  obtain ⟨V,Z,G,-⟩:=Fl.at J (by omega)
  refine U.xw (vq V (Z+j*32)) (fun F=>rn_indexE uu30 inf29 ((F.get rfl).trans (by rw [G])) (F.get rfl) (zl _) (il (by omega:j<cl.length)) (by omega))<|Xw (.agg (byteVals (cl.getD j [])).toArray) (fun F=>rn_loadN (cs:=byteVals (cl.getD j [])) (F.get rfl) uu29 rfl (sk inf29 (byteVals_len (dig_len h32c j (by omega)))) (Fl.digAt J G h32c (by omega)))<|fun _ G=>?_
  refine G.xs rfl M (fun J M J=>?_) (hk:=byteVals_len (dig_len h32c j (by omega)));have U:=J.size
  exact wn Y<|have J:=G.k [0,1,2,3,6,11];wp_ret<|retC J rfl rfl M uu29 rfl (sk inf29 (byteVals_len (dig_len h32c j (by omega))))<|⟨by rw [shown,if_neg (by rw [D,I];decide)],eX⟩
 rcases Bool.eq_false_or_eq_true b with I | I
 ·refine J.xw (.bool false) (fun F=>rn_eqB uu4 (F.get rfl) (F.get rfl) (show _=false from D) (show _=true from I) rfl) fun _ Y=>wn U<|have J:=Y.k [0,1,2,3,6,11];J.cf<|wp_skip<|V _ _<|wr fun U Y=>J.xv (vq gs 2) fun _ J=>have U:=(hs.ext G);J.xw (vl C cl.length ec) (fun F=>rl F rfl (U.rule.1 2))<|Xm rfl fun _ U=>?_
  have J:=hce.ext G
  obtain ⟨V,Z,G,-⟩:=Fl.at J (by omega)
  refine U.xw (vq V (Z+j*32)) (fun F=>rn_indexE uu30 inf29 ((F.get rfl).trans (by rw [G])) (F.get rfl) (zl _) (il (by omega:j<cl.length)) (by omega))<|Xw (.agg (byteVals (cl.getD j [])).toArray) (fun F=>rn_loadN (cs:=byteVals (cl.getD j [])) (F.get rfl) uu29 rfl (sk inf29 (byteVals_len (dig_len h32c j (by omega)))) (Fl.digAt J G h32c (by omega)))<|fun _ G=>?_
  refine G.xs rfl M (fun J M J=>?_) (hk:=byteVals_len (dig_len h32c j (by omega)));have U:=J.size
  exact wn Y<|have J:=G.k [0,1,2,3,6,11];wp_ret<|retC J rfl rfl M uu29 rfl (sk inf29 (byteVals_len (dig_len h32c j (by omega))))<|⟨by rw [shown,if_neg (by rw [D,I];decide)],eX⟩
 refine J.xw (.bool true) (fun F=>rn_eqB uu4 (F.get rfl) (F.get rfl) (show _=false from D) (show _=false from I) rfl) fun _ V=>wn U<|have J:=V.k [0,1,2,3,6,11];J.ct<|wr fun U Y=>J.xv (vq gs 1) fun _ J=>have U:=(hs.ext G);J.xw (vl O op.length oc) (fun F=>rl F rfl (U.rule.1 1))<|Xm rfl fun _ U=>?_
 have J:=hco.ext G
 obtain ⟨V,Z,G,-⟩:=Fl.at J (by omega)
 refine U.xw (vq V (Z+j*32)) (fun F=>rn_indexE uu30 inf29 ((F.get rfl).trans (by rw [G])) (F.get rfl) (zl _) (il (by omega:j<op.length)) (by omega))<|Xw (.agg (byteVals (op.getD j [])).toArray) (fun F=>rn_loadN (cs:=byteVals (op.getD j [])) (F.get rfl) uu29 rfl (sk inf29 (byteVals_len (dig_len h32o j (by omega)))) (Fl.digAt J G h32o (by omega))) fun _ G=>G.xE (c:=open_any (op.getD j []) _ (dig_len h32o j (by omega)) (hG.ext eX)) (k:=fun G U G _ G=>?_)
 have J:=M.ext U
 refine G.xs rfl J (fun J M J=>?_) (hk:=byteVals_len (openD_len _));have U:=J.size
 exact wn Y<|have J:=G.k [0,1,2,3,6,11];wp_ret<|ret_then<|retC J rfl rfl M uu29 rfl (sk inf29 (byteVals_len (openD_len _)))<|⟨by rw [shown,if_pos (D.trans I.symm)],eX⟩
theorem verify_any (root:List UInt8) (n:Int) (B:Option Addr) (cb:Nat) (msg:List UInt8) (idx:Int) (O:Option Addr) (oc:Nat) (op:List (List UInt8)) (C:Option Addr) (ec:Nat) (cl:List (List UInt8)) (P:Option Addr) (pc:Nat) (pa:List (List UInt8)) (w:World) (hd:root.length=32) (hm:Fl S w 1 (vl B msg.length cb) msg.length (byteVals msg)) (ho:Fl S w 32 (vl O op.length oc) op.length (digVals op)) (he:Fl S w 32 (vl C cl.length ec) cl.length (digVals cl)) (hp:Fl S w 32 (vl P pa.length pc) pa.length (digVals pa)) (h32o:All32 op) (h32c:All32 cl) (h32p:All32 pa) (hG:Glob w) :
  Calls Tryz.prog 39 #[.agg (byteVals root).toArray,.int .i64 n,.slice B msg.length cb,.agg #[.int .i64 idx,.slice O op.length oc,.slice C cl.length ec,.slice P pa.length pc]] w (fun e w'=>e=.returned (.bool (verifyF root n msg ⟨idx,op,cl,pa⟩))∧Ext w w'):=by
 have hb:Fl (Clip S w) w 1 (vl B msg.length cb) msg.length (byteVals msg):=hm.clip
 have hbc:=(Fl.cel hb).2.1
 have hco:Fl (Clip S w) w 32 (vl O op.length oc) op.length (digVals op):=ho.clip
 have hcoc:=(Fl.cel hco).2.1
 have hce:Fl (Clip S w) w 32 (vl C cl.length ec) cl.length (digVals cl):=he.clip
 have hcec:=(Fl.cel hce).2.1
 have hcp:Fl (Clip S w) w 32 (vl P pa.length pc) pa.length (digVals pa):=hp.clip
 have hcpc:=(Fl.cel hcp).2.1
 refine calls_enter Tryz.func39 rfl rfl rfl fun _ D=>wr fun G V=>D.xb rfl fun g2 D _ D G G J Y=>D.xb rfl fun D G _ G I I U M=>G.xv (.bool false) fun _ I=>wn V<|wp_seq_k fun G V=>wr fun G G=>I.xm rfl<|Xv (vd ((n:Int)<(1:Int)))<|Xm rfl fun _ I=>?_
 by_cases Z:(n:Int)<(1:Int)
 ·exact I.xu<|Xu<|Xv (.bool true)<|Xm rfl<|Xu<|Xu<|Xu<|Xv (.bool true)<|Xm rfl<|Xu<|Xu<|Xu<|Xu<|Xv (.bool true)<|Xm rfl<|Xu<|Xu<|Xu<|Xu<|Xv (.bool true)<|Xm rfl<|Xu<|Xu<|Xu<|Xu<|Xv (.bool true)<|Xm rfl<|Xu<|Xu<|Xu<|Xv (.bool true) fun _ I=>wn G<|have D:=I.k [0,1,2,3,4,7,8,46];D.ct<|wr fun G G=>D.xv (.bool false) fun _ D=>wn G<|wp_ret<|ret_then<|ret1 D rfl rfl<|⟨by rw [verify_not (s:=⟨idx,op,cl,pa⟩) (by unfold vShape;simp only;omega)],eX⟩
 refine I.xg (vi n)<|Xg (vd ((4096:Int)<(n:Int)))<|Xv (vd ((4096:Int)<(n:Int)))<|Xm rfl<|fun _ I=>?_
 by_cases Z:(4096:Int)<(n:Int)
 ·exact I.xu<|Xu<|Xu<|Xv (.bool true)<|Xm rfl<|Xu<|Xu<|Xu<|Xu<|Xv (.bool true)<|Xm rfl<|Xu<|Xu<|Xu<|Xu<|Xv (.bool true)<|Xm rfl<|Xu<|Xu<|Xu<|Xu<|Xv (.bool true)<|Xm rfl<|Xu<|Xu<|Xu<|Xv (.bool true) fun _ I=>wn G<|have D:=I.k [0,1,2,3,4,7,8,46];D.ct<|wr fun G G=>D.xv (.bool false) fun _ D=>wn G<|wp_ret<|ret_then<|ret1 D rfl rfl<|⟨by rw [verify_not (s:=⟨idx,op,cl,pa⟩) (by unfold vShape;simp only;omega)],eX⟩
 refine I.xg (vp D)<|Xgw (vi idx) (fun F=>rl F rfl (U.rule.1 0))<|Xg (vd ((idx:Int)<(0:Int)))<|Xv (vd ((idx:Int)<(0:Int)))<|Xm rfl<|fun _ I=>?_
 by_cases Z:(idx:Int)<(0:Int)
 ·exact I.xu<|Xu<|Xu<|Xu<|Xv (.bool true)<|Xm rfl<|Xu<|Xu<|Xu<|Xu<|Xv (.bool true)<|Xm rfl<|Xu<|Xu<|Xu<|Xu<|Xv (.bool true)<|Xm rfl<|Xu<|Xu<|Xu<|Xv (.bool true) fun _ I=>wn G<|have D:=I.k [0,1,2,3,4,7,8,46];D.ct<|wr fun G G=>D.xv (.bool false) fun _ D=>wn G<|wp_ret<|ret_then<|ret1 D rfl rfl<|⟨by rw [verify_not (s:=⟨idx,op,cl,pa⟩) (by unfold vShape;simp only;omega)],eX⟩
 refine I.xg (vp D)<|Xgw (vi idx) (fun F=>rl F rfl (U.rule.1 0))<|Xg (vi n)<|Xg (vd ((n:Int)≤(idx:Int)))<|Xv (vd ((n:Int)≤(idx:Int)))<|Xm rfl<|fun _ I=>?_
 by_cases Z:(n:Int)≤(idx:Int)
 ·exact I.xu<|Xu<|Xu<|Xu<|Xv (.bool true)<|Xm rfl<|Xu<|Xu<|Xu<|Xu<|Xv (.bool true)<|Xm rfl<|Xu<|Xu<|Xu<|Xv (.bool true) fun _ I=>wn G<|have D:=I.k [0,1,2,3,4,7,8,46];D.ct<|wr fun G G=>D.xv (.bool false) fun _ D=>wn G<|wp_ret<|ret_then<|ret1 D rfl rfl<|⟨by rw [verify_not (s:=⟨idx,op,cl,pa⟩) (by unfold vShape;simp only;omega)],eX⟩
 refine I.xg (vq D 1)<|Xgw (vl O op.length oc) (fun F=>rl F rfl (U.rule.1 1))<|Xg (vi op.length)<|Xg (vd ((op.length:Int)≠(64:Int)))<|Xv (vd ((op.length:Int)≠(64:Int)))<|Xm rfl<|fun _ I=>?_
 by_cases Z:(op.length:Int)≠(64:Int)
 ·exact I.xu<|Xu<|Xu<|Xu<|Xv (.bool true)<|Xm rfl<|Xu<|Xu<|Xu<|Xv (.bool true) fun _ I=>wn G<|have D:=I.k [0,1,2,3,4,7,8,46];D.ct<|wr fun G G=>D.xv (.bool false) fun _ D=>wn G<|wp_ret<|ret_then<|ret1 D rfl rfl<|⟨by rw [verify_not (s:=⟨idx,op,cl,pa⟩) (by unfold vShape;simp only;omega)],eX⟩
 refine I.xg (vq D 2)<|Xgw (vl C cl.length ec) (fun F=>rl F rfl (U.rule.1 2))<|Xg (vi cl.length)<|Xg (vd ((cl.length:Int)≠(64:Int)))<|Xv (vd ((cl.length:Int)≠(64:Int)))<|Xm rfl<|fun _ I=>?_
 by_cases Z:(cl.length:Int)≠(64:Int)
 ·exact I.xu<|Xu<|Xu<|Xv (.bool true) fun _ I=>wn G<|have D:=I.k [0,1,2,3,4,7,8,46];D.ct<|wr fun G G=>D.xv (.bool false) fun _ D=>wn G<|wp_ret<|ret_then<|ret1 D rfl rfl<|⟨by rw [verify_not (s:=⟨idx,op,cl,pa⟩) (by unfold vShape;simp only;omega)],eX⟩
 refine I.xg (vl B msg.length cb)<|Xg (vi msg.length)<|Xg (vd ((65536:Int)<(msg.length:Int)))<|Xv (vd ((65536:Int)<(msg.length:Int))) fun _ I=>wn G ?_
 have G:=I.k [0,1,2,3,4,7,8,46]
 by_cases I:(65536:Int)<(msg.length:Int)
 ·exact G.ct<|wr fun D I=>G.xv (.bool false) fun _ D=>wn I<|wp_ret<|ret_then<|ret1 D rfl rfl<|⟨by rw [verify_not (s:=⟨idx,op,cl,pa⟩) (by unfold vShape;simp only;omega)],eX⟩
 refine G.cf<|wp_skip<|V _ _<|wr fun I ab=>have ac:=(J.ext M);G.xw (.agg (byteVals root).toArray) (fun F=>rb F rfl ac (hk:=byteVals_len hd))<|Xv (vp D)<|Xw (vi idx) (fun F=>rl F rfl (U.rule.1 0))<|Xm rfl fun _ G=>?_
 have I:=(hb.ext Y).ext M
 have J:(((idx:Int).toNat:Nat):Int)=idx:=by omega
 refine G.xE (c:=signed_int (v:=(vl B msg.length cb)) (m:=msg.length) root idx msg _ hd I (hG.ext eX) (by omega) (by omega) (by omega)) (k:=fun G Z G _ G=>G.xz (boolVals (List.replicate 64 false)) 99 fun G I _ I J J J aa=>?_)
 refine I.xs rfl J (fun J ae V=>?_) (hk:=boolVals_len (bitsL_len root ((idx:Int).toNat) msg)) (hl:=boolVals_len (show List.length (List.replicate 64 false)=_ from List.length_replicate));have J:=V.size
 refine wn ab<|have J:=I.k [0,1,2,3,4,7,8,46,9];wr fun I I=>J.xw (.func (.func 80) #[] #[(vp G),(vp D)]) (fun F=>rn_makeFunc (args0 ) (args2 (F.get rfl) (F.get rfl)))<|Xa rfl fun _ ah=>wn I<|wp_seq_k fun I ai=>sX (fun I W=>Ext I W∧Blk W D 32 [(vi idx),(vl O op.length oc),(vl C cl.length ec),(vl P pa.length pc)]) (fun i=>i==12) 14 fun I J ab=>?_
 refine any_have (n1:=2) (L1:=#[true,true,true,true,true,true,true,true,true,true,true,true,false,false]) (fun a' W=>∃ (ab:Nat),Sl 71 [(0,(.agg (byteVals root).toArray)),(1,(vi n)),(2,(vl B msg.length cb)),(3,(.agg #[(vi idx),(vl O op.length oc),(vl C cl.length ec),(vl P pa.length pc)])),(4,(vp g2)),(7,(vp D)),(8,(.bool false)),(9,(vp G)),(10,(.func (.func 80) #[] #[(vp G),(vp D)])),(11,(vp ab)),(46,(vd ((65536:Int)<(msg.length:Int)))),(62,(.agg (byteVals ((climbF (publicD (shown (bitsL root ((idx:Int).toNat) msg) ⟨idx,op,cl,pa⟩)) idx n pa).1)).toArray)),(63,(vi ((climbF (publicD (shown (bitsL root ((idx:Int).toNat) msg) ⟨idx,op,cl,pa⟩)) idx n pa).2)))] a'∧Ext I W∧Blk W ab 29 (byteVals (List.replicate 32 0))∧I.heap.size≤ab) ?_ (fun ag=>?_)
 ·rintro D D ⟨ab,D,I,G,J⟩
  have J:=I.size
  have I:=G.lt
  refine ao 12 rfl (D.os rfl G (fun G M J=>an ?_) (hk:=byteVals_len (climbF_len _ _ _ _)));have G:=J.size
  refine D.yv 13 (vi ((climbF (publicD (shown (bitsL root ((idx:Int).toNat) msg) ⟨idx,op,cl,pa⟩)) idx n pa).2)) rfl fun _ D=>nK ai<|wr fun G G=>D.xm rfl<|Xv (vd (((climbF (publicD (shown (bitsL root ((idx:Int).toNat) msg) ⟨idx,op,cl,pa⟩)) idx n pa).2:Int)=(0:Int)))<|Xm rfl fun _ D=>?_
  by_cases I:((climbF (publicD (shown (bitsL root ((idx:Int).toNat) msg) ⟨idx,op,cl,pa⟩)) idx n pa).2:Int)=(0:Int)
  ·refine D.xgw (.agg (byteVals ((climbF (publicD (shown (bitsL root ((idx:Int).toNat) msg) ⟨idx,op,cl,pa⟩)) idx n pa).1)).toArray) (fun F=>rb F rfl M (hk:=byteVals_len (climbF_len _ _ _ _))) fun _ D=>have M:=ac.ug J;D.xgw (.agg (byteVals root).toArray) (fun F=>rb F rfl M (hk:=byteVals_len hd))<|Xgw (vd ((climbF (publicD (shown (bitsL root ((idx:Int).toNat) msg) ⟨idx,op,cl,pa⟩)) idx n pa).1=root)) (fun F=>rn_eqA uu29 uu5 inf5 (by kernel_rfl) (F.get rfl) (F.get rfl) (climbF_len _ _ _ _) hd)<|Xv (vd ((climbF (publicD (shown (bitsL root ((idx:Int).toNat) msg) ⟨idx,op,cl,pa⟩)) idx n pa).1=root))<|Xa rfl fun _ D=>wn G<|have G:=D.k [0,1,2,3,4,7,8,9,10,11,46,12];wp_ret<|ret1 G rfl rfl ?_
   have hv:vShape n msg ⟨idx,op,cl,pa⟩:=by unfold vShape;simp only;omega
   have hcs:climbS root n msg ⟨idx,op,cl,pa⟩=climbF (publicD (shown (bitsL root ((idx:Int).toNat) msg) ⟨idx,op,cl,pa⟩)) idx n pa:=rfl
   exact ⟨by rw [verify_yes hv,hcs,show decide (_=(0:Int))=true from (decide_eq_true I),Bool.true_and],eX⟩
  refine D.xu<|Xu<|Xu<|Xv (.bool false)<|Xa rfl fun _ D=>wn G<|have G:=D.k [0,1,2,3,4,7,8,9,10,11,46,12];wp_ret<|ret1 G rfl rfl ?_
  have hv:vShape n msg ⟨idx,op,cl,pa⟩:=by unfold vShape;simp only;omega
  have hcs:climbS root n msg ⟨idx,op,cl,pa⟩=climbF (publicD (shown (bitsL root ((idx:Int).toNat) msg) ⟨idx,op,cl,pa⟩)) idx n pa:=rfl
  exact ⟨by rw [verify_yes hv,hcs,show decide (_=(0:Int))=false from (decide_eq_false I)];rfl,eX⟩
 refine any_have (n1:=6) (L1:=#[true,true,true,true,true,true,true,false,false,false,false,true,false,false]) (fun a' W=>∃ (ab:Nat),Sl 71 [(0,(.agg (byteVals root).toArray)),(1,(vi n)),(2,(vl B msg.length cb)),(3,(.agg #[(vi idx),(vl O op.length oc),(vl C cl.length ec),(vl P pa.length pc)])),(4,(vp g2)),(7,(vp D)),(8,(.bool false)),(9,(vp G)),(10,(.func (.func 80) #[] #[(vp G),(vp D)])),(11,(vp ab)),(46,(vd ((65536:Int)<(msg.length:Int)))),(55,(.agg (byteVals (publicD (shown (bitsL root ((idx:Int).toNat) msg) ⟨idx,op,cl,pa⟩))).toArray)),(57,(vi idx)),(58,(vi n)),(60,(vl P pa.length pc))] a'∧Ext I W∧Blk W ab 29 (byteVals (List.replicate 32 0))∧I.heap.size≤ab) ?_ (fun ac=>?_)
 ·rintro D D ⟨ab,I,G,D,ac⟩
  have ac:=G.size
  have ac:=D.lt
  refine ao 7 rfl<|have ac:=(hcp.pres ((((((((Pres.refl w).ext Y).ext M).ext Z).ext aa).gc V).ext J).ext G));I.oe (climb_at (publicD (shown (bitsL root ((idx:Int).toNat) msg) ⟨idx,op,cl,pa⟩)) idx n pa _ (v:=(vl P pa.length pc)) (m:=pa.length) (publicD_len _) h32p ac (hG.ext eX)) fun G G I _ I=>?_
  have J:=U.ux G
  refine ⟨fun _ _=>⟨eX,J⟩,?_⟩
  exact I.ym 8 rfl<|Yv 9 (.agg (byteVals ((climbF (publicD (shown (bitsL root ((idx:Int).toNat) msg) ⟨idx,op,cl,pa⟩)) idx n pa).1)).toArray) rfl<|Yv 10 (vi ((climbF (publicD (shown (bitsL root ((idx:Int).toNat) msg) ⟨idx,op,cl,pa⟩)) idx n pa).2)) rfl fun _ I=>have J:=(D.ext G);ag _ _ ⟨ab,I.j,eX,J,(by omega)⟩
 refine ah.ym 0 rfl<|Yv 2 (vp D) rfl fun _ ah=>have ab:=U.ux J;have U:Ext I I∧Blk I D 32 [(vi idx),(vl O op.length oc),(vl C cl.length ec),(vl P pa.length pc)]:=⟨(Ext.refl I),ab⟩;ah.ys 3 (vi idx) rfl U (fun F W hW=>rl F rfl (hW.2.rule.1 0))<|Ym 4 rfl<|Yv 5 (vq D 3) rfl<|Ys 6 (vl P pa.length pc) rfl U (fun F W hW=>rl F rfl (hW.2.rule.1 3)) fun _ I=>?_
 refine any_two (i:=1) (k:=11) (by decide +kernel) rfl rfl ?_ ?_
 ·have U:=(ae.ext J)
  have ae:=U
  have ah:=ab
  have U:=hco.pres (((((((Pres.refl w).ext Y).ext M).ext Z).ext aa).gc V).ext J)
  have ai:=U
  have U:=hce.pres (((((((Pres.refl w).ext Y).ext M).ext Z).ext aa).gc V).ext J)
  have aj:=U
  have U:=hG.ext (.trans eX J)
  refine I.oE (c:=public_any 80 #[] #[(vp G),(vp D)] (shown (bitsL root ((idx:Int).toNat) msg) ⟨idx,op,cl,pa⟩) _ (fun _ _=>by kernel_rfl) (fun u v=>#[u,v,(vp G),(vp D)]) (fun u v=>by simp) (fun j b W hj hx=>shown_any j b G D (bitsL root ((idx:Int).toNat) msg) idx O oc op C ec cl pa _ W (ae.ext hx) (ah.ext hx) (ai.ext hx) (aj.ext hx) h32o h32c (U.ext hx) (bitsL_len root ((idx:Int).toNat) msg) hj (by omega) (by omega)) (fun j b hj=>shown_len h32o h32c (show j<op.length by omega) (show j<cl.length by omega)) U) (k:=fun D I D _ G=>?_)
  have D:=ab.ext I
  refine ⟨fun _ _=>⟨eX,D⟩,?_⟩
  refine any_two (i:=7) (k:=11) (by decide +kernel) rfl rfl ?_ ?_
  ·have U:=(hcp.pres ((((((((Pres.refl w).ext Y).ext M).ext Z).ext aa).gc V).ext J).ext I))
   refine G.oe (climb_at (publicD (shown (bitsL root ((idx:Int).toNat) msg) ⟨idx,op,cl,pa⟩)) idx n pa _ (v:=(vl P pa.length pc)) (m:=pa.length) (publicD_len _) h32p U (hG.ext eX)) fun G J G _ I=>?_
   have G:=D.ext J
   refine ⟨fun _ _=>⟨eX,G⟩,?_⟩
   refine I.ym 8 rfl<|Yv 9 (.agg (byteVals ((climbF (publicD (shown (bitsL root ((idx:Int).toNat) msg) ⟨idx,op,cl,pa⟩)) idx n pa).1)).toArray) rfl<|Yv 10 (vi ((climbF (publicD (shown (bitsL root ((idx:Int).toNat) msg) ⟨idx,op,cl,pa⟩)) idx n pa).2)) rfl fun _ D=>ao 11 rfl<|D.oz (byteVals (List.replicate 32 0)) 29 rfl fun M D _ D I I I U=>?_
   have J:=G.ext U
   refine ⟨fun _ _=>⟨eX,J⟩,?_⟩
   exact ag _ _ ⟨M,D.j,eX,I,(by omega)⟩
  refine G.oz (byteVals (List.replicate 32 0)) 29 rfl fun M G _ G I I I U=>?_
  have J:=D.ext U
  refine ⟨fun _ _=>⟨eX,J⟩,?_⟩
  exact ac _ _ ⟨M,G.j,eX,I,(by omega)⟩
 refine I.oz (byteVals (List.replicate 32 0)) 29 rfl fun ai I _ ag I I ah I=>?_
 have U:=ab.ext I
 refine ⟨fun _ _=>⟨eX,U⟩,?_⟩
 refine ao 1 rfl<|have ab:=ae.ux I;have ae:=ab;have aj:=U;have ab:=(hco.pres ((((((((Pres.refl w).ext Y).ext M).ext Z).ext aa).gc V).ext J).ext I));have ak:=ab;have ab:=(hce.pres ((((((((Pres.refl w).ext Y).ext M).ext Z).ext aa).gc V).ext J).ext I));have M:=ab;have J:=(hG.ext (.trans eX I));ag.oE (c:=public_any 80 #[] #[(vp G),(vp D)] (shown (bitsL root ((idx:Int).toNat) msg) ⟨idx,op,cl,pa⟩) _ (fun _ _=>by kernel_rfl) (fun u v=>#[u,v,(vp G),(vp D)]) (fun u v=>by simp) (fun j b W hj hx=>shown_any j b G D (bitsL root ((idx:Int).toNat) msg) idx O oc op C ec cl pa _ W (ae.ext hx) (aj.ext hx) (ak.ext hx) (M.ext hx) h32o h32c (J.ext hx) (bitsL_len root ((idx:Int).toNat) msg) hj (by omega) (by omega)) (fun j b hj=>shown_len h32o h32c (show j<op.length by omega) (show j<cl.length by omega)) J) (k:=fun D D G _ G=>?_)
 have I:=U.ext D
 refine ⟨fun _ _=>⟨eX,I⟩,?_⟩
 have I:=ah.ext D
 exact ac _ _ ⟨ai,G.j,eX,I,(by omega)⟩
theorem rverify_any (root:List UInt8) (n:Int) (B:Option Addr) (cb:Nat) (msg:List UInt8) (idx:Int) (O:Option Addr) (oc:Nat) (op:List (List UInt8)) (C:Option Addr) (ec:Nat) (cl:List (List UInt8)) (P:Option Addr) (pc:Nat) (pa:List (List UInt8)) (w:World) (hd:root.length=32) (hm:Fl S w 1 (vl B msg.length cb) msg.length (byteVals msg)) (ho:Fl S w 32 (vl O op.length oc) op.length (digVals op)) (he:Fl S w 32 (vl C cl.length ec) cl.length (digVals cl)) (hp:Fl S w 32 (vl P pa.length pc) pa.length (digVals pa)) (h32o:All32 op) (h32c:All32 cl) (h32p:All32 pa) :
  Calls Tryz.prog 40 #[.agg (byteVals root).toArray,.int .i64 n,.slice B msg.length cb,.agg #[.int .i64 idx,.slice O op.length oc,.slice C cl.length ec,.slice P pa.length pc]] w (fun e w'=>e=.returned (.bool (verifyF root n msg ⟨idx,op,cl,pa⟩))∧Ext w w'):=by
 have hb:Fl (Clip S w) w 1 (vl B msg.length cb) msg.length (byteVals msg):=hm.clip
 have hbc:=(Fl.cel hb).2.1
 have hco:Fl (Clip S w) w 32 (vl O op.length oc) op.length (digVals op):=ho.clip
 have hcoc:=(Fl.cel hco).2.1
 have hce:Fl (Clip S w) w 32 (vl C cl.length ec) cl.length (digVals cl):=he.clip
 have hcec:=(Fl.cel hce).2.1
 have hcp:Fl (Clip S w) w 32 (vl P pa.length pc) pa.length (digVals pa):=hp.clip
 have hcpc:=(Fl.cel hcp).2.1
 refine calls_enter Tryz.func40 rfl rfl rfl fun _ I=>wr fun K1 aU=>I.xb rfl fun G I _ I z6 z7 b4 aY=>I.xb rfl fun D aJ _ I ar ar U aH=>I.xv (.bool false) fun _ ar=>wn aU<|wp_seq_k fun I aU=>wr fun I I=>ar.xm rfl<|Xv (vd ((n:Int)<(1:Int)))<|Xm rfl fun _ ar=>?_
 by_cases a1:(n:Int)<(1:Int)
 ·exact ar.xu<|Xu<|Xv (.bool true)<|Xm rfl<|Xu<|Xu<|Xu<|Xv (.bool true)<|Xm rfl<|Xu<|Xu<|Xu<|Xu<|Xv (.bool true)<|Xm rfl<|Xu<|Xu<|Xu<|Xu<|Xv (.bool true)<|Xm rfl<|Xu<|Xu<|Xu<|Xu<|Xv (.bool true)<|Xm rfl<|Xu<|Xu<|Xu<|Xv (.bool true) fun _ G=>wn I<|have D:=G.k [0,1,2,3,4,7,8,47];D.ct<|wr fun G G=>D.xv (.bool false) fun _ D=>wn G<|wp_ret<|ret_then<|ret1 D rfl rfl<|⟨by rw [verify_not (s:=⟨idx,op,cl,pa⟩) (by unfold vShape;simp only;omega)],eX⟩
 refine ar.xg (vi n)<|Xg (vd ((4096:Int)<(n:Int)))<|Xv (vd ((4096:Int)<(n:Int)))<|Xm rfl<|fun _ ar=>?_
 by_cases a1:(4096:Int)<(n:Int)
 ·exact ar.xu<|Xu<|Xu<|Xv (.bool true)<|Xm rfl<|Xu<|Xu<|Xu<|Xu<|Xv (.bool true)<|Xm rfl<|Xu<|Xu<|Xu<|Xu<|Xv (.bool true)<|Xm rfl<|Xu<|Xu<|Xu<|Xu<|Xv (.bool true)<|Xm rfl<|Xu<|Xu<|Xu<|Xv (.bool true) fun _ G=>wn I<|have D:=G.k [0,1,2,3,4,7,8,47];D.ct<|wr fun G G=>D.xv (.bool false) fun _ D=>wn G<|wp_ret<|ret_then<|ret1 D rfl rfl<|⟨by rw [verify_not (s:=⟨idx,op,cl,pa⟩) (by unfold vShape;simp only;omega)],eX⟩
 refine ar.xg (vp D)<|Xgw (vi idx) (fun F=>rl F rfl (U.rule.1 0))<|Xg (vd ((idx:Int)<(0:Int)))<|Xv (vd ((idx:Int)<(0:Int)))<|Xm rfl<|fun _ ar=>?_
 by_cases a1:(idx:Int)<(0:Int)
 ·exact ar.xu<|Xu<|Xu<|Xu<|Xv (.bool true)<|Xm rfl<|Xu<|Xu<|Xu<|Xu<|Xv (.bool true)<|Xm rfl<|Xu<|Xu<|Xu<|Xu<|Xv (.bool true)<|Xm rfl<|Xu<|Xu<|Xu<|Xv (.bool true) fun _ G=>wn I<|have D:=G.k [0,1,2,3,4,7,8,47];D.ct<|wr fun G G=>D.xv (.bool false) fun _ D=>wn G<|wp_ret<|ret_then<|ret1 D rfl rfl<|⟨by rw [verify_not (s:=⟨idx,op,cl,pa⟩) (by unfold vShape;simp only;omega)],eX⟩
 refine ar.xg (vp D)<|Xgw (vi idx) (fun F=>rl F rfl (U.rule.1 0))<|Xg (vi n)<|Xg (vd ((n:Int)≤(idx:Int)))<|Xv (vd ((n:Int)≤(idx:Int)))<|Xm rfl<|fun _ ar=>?_
 by_cases a1:(n:Int)≤(idx:Int)
 ·exact ar.xu<|Xu<|Xu<|Xu<|Xv (.bool true)<|Xm rfl<|Xu<|Xu<|Xu<|Xu<|Xv (.bool true)<|Xm rfl<|Xu<|Xu<|Xu<|Xv (.bool true) fun _ G=>wn I<|have D:=G.k [0,1,2,3,4,7,8,47];D.ct<|wr fun G G=>D.xv (.bool false) fun _ D=>wn G<|wp_ret<|ret_then<|ret1 D rfl rfl<|⟨by rw [verify_not (s:=⟨idx,op,cl,pa⟩) (by unfold vShape;simp only;omega)],eX⟩
 refine ar.xg (vq D 1)<|Xgw (vl O op.length oc) (fun F=>rl F rfl (U.rule.1 1))<|Xg (vi op.length)<|Xg (vd ((op.length:Int)≠(64:Int)))<|Xv (vd ((op.length:Int)≠(64:Int)))<|Xm rfl<|fun _ ar=>?_
 by_cases a1:(op.length:Int)≠(64:Int)
 ·exact ar.xu<|Xu<|Xu<|Xu<|Xv (.bool true)<|Xm rfl<|Xu<|Xu<|Xu<|Xv (.bool true) fun _ G=>wn I<|have D:=G.k [0,1,2,3,4,7,8,47];D.ct<|wr fun G G=>D.xv (.bool false) fun _ D=>wn G<|wp_ret<|ret_then<|ret1 D rfl rfl<|⟨by rw [verify_not (s:=⟨idx,op,cl,pa⟩) (by unfold vShape;simp only;omega)],eX⟩
 refine ar.xg (vq D 2)<|Xgw (vl C cl.length ec) (fun F=>rl F rfl (U.rule.1 2))<|Xg (vi cl.length)<|Xg (vd ((cl.length:Int)≠(64:Int)))<|Xv (vd ((cl.length:Int)≠(64:Int)))<|Xm rfl<|fun _ ar=>?_
 by_cases a1:(cl.length:Int)≠(64:Int)
 ·exact ar.xu<|Xu<|Xu<|Xv (.bool true) fun _ G=>wn I<|have D:=G.k [0,1,2,3,4,7,8,47];D.ct<|wr fun G G=>D.xv (.bool false) fun _ D=>wn G<|wp_ret<|ret_then<|ret1 D rfl rfl<|⟨by rw [verify_not (s:=⟨idx,op,cl,pa⟩) (by unfold vShape;simp only;omega)],eX⟩
 refine ar.xg (vl B msg.length cb)<|Xg (vi msg.length)<|Xg (vd ((65536:Int)<(msg.length:Int)))<|Xv (vd ((65536:Int)<(msg.length:Int))) fun _ ar=>wn I ?_
 have I:=ar.k [0,1,2,3,4,7,8,47]
 by_cases ar:(65536:Int)<(msg.length:Int)
 ·exact I.ct<|wr fun D G=>I.xv (.bool false) fun _ D=>wn G<|wp_ret<|ret_then<|ret1 D rfl rfl<|⟨by rw [verify_not (s:=⟨idx,op,cl,pa⟩) (by unfold vShape;simp only;omega)],eX⟩
 refine I.cf<|wp_skip<|aU _ _<|wr fun ar aV=>have ay:=(b4.ext aH);I.xw (.agg (byteVals root).toArray) (fun F=>rb F rfl ay (hk:=byteVals_len hd))<|Xv (vp D)<|Xw (vi idx) (fun F=>rl F rfl (U.rule.1 0))<|Xm rfl fun _ I=>have ar:=((hb.ext aY).ext aH);I.xC (c:=rbits_in (v:=(vl B msg.length cb)) (m:=msg.length) root idx msg _ hd ar (by omega) (by omega) (by omega)) (k:= ?_)
 rintro _ aq ⟨Y,aa,rfl,aG,aX⟩
 have I:=(Fl.cel aG).2.1
 refine ⟨_,rfl,?_⟩;intro I I;have ar:=aX.size
 have aU:Fl (Clip (fun b=>aJ.heap.size≤b) aq) aq 1 (vl Y 64 aa) 64 (boolVals (bitsL root (idx:Int).toNat msg)):=aG.clip
 refine I.xa rfl fun _ I=>wn aV<|have ar:=I.k [0,1,2,3,4,7,8,47,9];wr fun I aH=>ar.xn (fun g=>(vl (some ⟨g,0,none⟩) 0 0)) [] 29 (fun F=>rn_buildSlice (parts0 ) (by kernel_rfl)) fun J aX _ ar I I aG I=>ar.xa rfl fun _ ar=>wn aH<|wp_seq_k fun aH aW=>wr fun aH aH=>ar.xv (vi 0) fun _ ar=>wn aH<|wp_block<|have aV:=own_blk0 (k:=32) aG;have aH:=(aU.ext I);have aG:=ay.ux I;have ay:=U.ux I;wp_loop (fun a' W=>∃ (k:Nat) (Ap:Option Addr) (np:Nat) (cp:Nat) (x:List (List UInt8)),Sl 108 [(0,(.agg (byteVals root).toArray)),(1,(vi n)),(2,(vl B msg.length cb)),(3,(.agg #[(vi idx),(vl O op.length oc),(vl C cl.length ec),(vl P pa.length pc)])),(4,(vp G)),(7,(vp D)),(8,(.bool false)),(47,(vd ((65536:Int)<(msg.length:Int)))),(9,(vl Y 64 aa)),(10,(vl Ap np cp)),(11,(vi k))] a'∧(k≤64∧np=2*k)∧x=pairsL (shown (bitsL root ((idx:Int).toNat) msg) ⟨idx,op,cl,pa⟩) k∧Ext w W∧Blk W G 29 (byteVals root)∧Blk W D 32 [(vi idx),(vl O op.length oc),(vl C cl.length ec),(vl P pa.length pc)]∧W.ownsRow J 29 32 (vl Ap np cp) np (digVals x)∧Fl (Clip (fun b=>aJ.heap.size≤b) aq) W 1 (vl Y 64 aa) 64 (boolVals (bitsL root (idx:Int).toNat msg))∧J≤W.heap.size∧aX.heap.size≤W.heap.size) (fun a' _=>64 - (intOf (a'.eval (.tmp 11))).toNat) ⟨0,(some ⟨J,0,none⟩),0,0,[],ar.j,⟨by omega,by omega⟩,rfl,eX,aG,ay,aV,aH,(by omega),(Nat.le_refl _)⟩ ?_
 rintro I aK ⟨k,Ap,np,cp,x,I,U,ak,M,ah,Z,ac,aj,U,U⟩
 have aF:=I
 have U:=M.size
 have U:=ah.lt
 have U:=Z.lt
 have U:=own_form0 ac
 have aI:All32 x:=by rw [ak];exact pairs_32 fun j b hj=>shown_len h32o h32c (show j<op.length by omega) (show j<cl.length by omega)
 refine wp_seq_k fun U U=>wr fun aq aq=>I.xm rfl<|Xv (vd ((k:Int)<(64:Int))) fun _ ae=>wn aq ?_
 by_cases I:(k:Int)<(64:Int)
 ·refine ae.ct<|wp_skip<|U _ _<|wp_seq_k fun I aE=>wp_block<|wr fun I ar=>ae.xm rfl<|Xm rfl fun _ U=>?_
  obtain ⟨aq,ay,I,-⟩:=Fl.at aj (by omega)
  refine U.xw (vq aq (ay+k)) (fun F=>rn_index1 uu104 inf4 ((F.get rfl).trans (by rw [I])) (F.get rfl) (zl _) (by omega:(k:Int)<((64:Nat):Int)))<|Xw (.bool ((bitsL root (idx:Int).toNat msg).getD k false)) (fun F=>rl F rfl (Fl.cellAt aj I (boolVals_at (i:=k) (by have:=(bitsL_len root (idx:Int).toNat msg);omega)))) fun _ I=>wn ar ?_
  have ag:=I.k [0,1,2,3,4,7,8,47,9,10,11,55,61]
  rcases Bool.eq_false_or_eq_true ((bitsL root (idx:Int).toNat msg).getD k false) with al | al
  ·refine ag.ct<|sX (fun V W=>Ext V W∧Blk W D 32 [(vi idx),(vl O op.length oc),(vl C cl.length ec),(vl P pa.length pc)]) (fun i=>i==13) 15 fun V ab I=>ag.ym 0 rfl<|Yv 1 (vq D 2) rfl fun _ au=>have az:=(Z.ext ab);have ai:Ext V V∧Blk V D 32 [(vi idx),(vl O op.length oc),(vl C cl.length ec),(vl P pa.length pc)]:=⟨(Ext.refl V),az⟩;anyt_val (i:=2) (v:=(vl C cl.length ec)) [4,5,12,13] au (fun j hj=>by simp at hj;first | (subst hj;decide) | (rcases hj with rfl | rfl <;> decide)) (by decide +kernel) (by decide +kernel) rfl rfl rfl rfl (fun _ _ _ _ h=>h) rfl ai (fun W hW=>(rl au rfl (hW.2.rule.1 2))) fun I aL=>aL.ym 3 rfl fun _ aM=>?_
   have aA:=(hce.ext M).ext ab
   obtain ⟨aS,aZ,aC,-⟩:=Fl.at aA (by omega)
   refine aM.yw 4 (vq aS (aZ+k*32)) rfl (fun F W=>rn_indexE uu30 inf29 ((F.get rfl).trans (by rw [aC])) (F.get rfl) (zl _) (il (by omega:k<cl.length)) (by omega)) fun _ av=>anyt_val (i:=5) (v:=(.agg (byteVals (cl.getD k [])).toArray)) [12,13] av (fun j hj=>by simp at hj;first | (subst hj;decide) | (rcases hj with rfl | rfl <;> decide)) (by decide +kernel) (by decide +kernel) rfl rfl rfl rfl (fun _ _ _ _ h=>h) rfl ai (fun W hW=>(rn_loadN (cs:=byteVals (cl.getD k [])) (av.get rfl) uu29 rfl (sk inf29 (byteVals_len (dig_len h32c k (by omega)))) (Fl.digAt (aA.ext hW.1) aC h32c (by omega)))) fun I aN=>aN.yv 6 (vq D 1) rfl fun _ aw=>anyt_val (i:=7) (v:=(vl O op.length oc)) [9,10,11,12,13] aw (fun j hj=>by simp at hj;first | (subst hj;decide) | (rcases hj with rfl | rfl <;> decide)) (by decide +kernel) (by decide +kernel) rfl rfl rfl rfl (fun _ _ _ _ h=>h) rfl ai (fun W hW=>(rl aw rfl (hW.2.rule.1 1))) fun I aO=>aO.ym 8 rfl fun _ aP=>?_
   have aB:=(hco.ext M).ext ab
   obtain ⟨aT,a0,aD,-⟩:=Fl.at aB (by omega)
   refine aP.yw 9 (vq aT (a0+k*32)) rfl (fun F W=>rn_indexE uu30 inf29 ((F.get rfl).trans (by rw [aD])) (F.get rfl) (zl _) (il (by omega:k<op.length)) (by omega)) fun _ ax=>anyt_val (i:=10) (v:=(.agg (byteVals (op.getD k [])).toArray)) [11,12,13] ax (fun j hj=>by simp at hj;first | (subst hj;decide) | (rcases hj with rfl | rfl <;> decide)) (by decide +kernel) (by decide +kernel) rfl rfl rfl rfl (fun _ _ _ _ h=>h) rfl ai (fun W hW=>(rn_loadN (cs:=byteVals (op.getD k [])) (ax.get rfl) uu29 rfl (sk inf29 (byteVals_len (dig_len h32o k (by omega)))) (Fl.digAt (aB.ext hW.1) aD h32o (by omega)))) fun I aQ=>ao 11 rfl<|aQ.oE (c:=rhash_any (op.getD k []) _ (dig_len h32o k (by omega))) (k:=fun I am I _ aR=>?_)
   have M:=az.ext am
   refine ⟨fun _ _=>⟨eX,M⟩,?_⟩
   have Z:=own_ext (own_ext ac ab) am
   have Y:=Z
   refine ao 12 rfl (aR.on (fun g=>(vl (some ⟨g,0,none⟩) 2 2)) (byteVals ((cl.getD k [])++(openD (op.getD k [])))) 29 rfl (fun F=>rn_buildSlice (parts2 (F.get rfl) (F.get rfl)) (build_wholeE (vs:=[(.agg (byteVals (cl.getD k [])).toArray),(.agg (byteVals (openD (op.getD k []))).toArray)]) El30 rfl rfl (fun v hv=>(List.mem_cons.1 hv).elim (fun h=>by rw [h];exact (byteVals_len (dig_len h32c k (by omega)))) (fun h=>by rw [List.mem_singleton.1 h];exact (byteVals_len (openD_len _)))) (by decide) (by decide) (by simp [Value.cells,byteVals]))) fun I D _ D U U V U=>?_)
   have ae:=own_new (g:=I) Y (by omega)
   have Y:=M.ext U
   refine ⟨fun _ _=>⟨eX,Y⟩,?_⟩
   refine ao 13 rfl<|have aa:=(own_ext Z U);have M:=aa;have Z:=ah.ux U;have ac:some G≠(Value.slice Ap np cp).ownBlock:=(own_ne aa (by omega:G<J));have J:=Z.lt;have ag:some I≠(Value.slice Ap np cp).ownBlock:=ae;have J:=V.lt;o_appB (zs:=digVals (x++([cl.getD k [],openD (op.getD k [])]))) El30 D rfl rfl rfl rfl rfl (D.get rfl) (D.get rfl) M (Fl.cel (Fl.digblk (S:=fun b=>b=I) V (All32.cons (dig_len h32c k (by omega)) (All32.sing (openD_len _))) (by simp [digVals,byteVals]))).2.2 (by omega) (by omega) (by omega) (digVals_app _ _) fun J V D D ae ah D aa aa aa=>?_;have ai:=D.size
   have ai:=aa G (by omega) ac
   have G:=aa I (by omega) ag
   refine ⟨fun h=>absurd h (by decide),?_⟩
   refine ae.yv 14 (vl J (np+2) V) rfl fun _ G=>nK aE<|have I:=G.k [0,1,2,3,4,7,8,47,9,10,11,55,61];wp_region_lit<|I.xm rfl<|Xv (vi (k+1:Nat))<|Xa rfl fun _ G=>wpList_nil ?_
   have aa:=aj.pres (Pres.row ((((Pres.refl aK).ext ab).ext am).ext U) D M (fun b hb h=>by simp only [Clip] at h;omega))
   have I:=Z.grown D ac
   have U:=grown_blk M D Y (by decide)
   refine ⟨⟨(k+1),J,np+2,V,x++([cl.getD k [],openD (op.getD k [])]),G.j,⟨by omega,by omega⟩,(pair_t (s:=⟨idx,op,cl,pa⟩) ak al),(ext_row eX D M (by omega)),I,U,ah,aa,(by omega),(by omega)⟩,?_⟩
   rw [G.get (t:=11) rfl,aF.get (t:=11) rfl];simp [intOf] <;> omega
  refine ag.cf<|sX (fun V W=>Ext V W∧Blk W D 32 [(vi idx),(vl O op.length oc),(vl C cl.length ec),(vl P pa.length pc)]) (fun i=>i==13) 15 fun V ab I=>ag.ym 0 rfl<|Yv 1 (vq D 1) rfl fun _ au=>have az:=(Z.ext ab);have ai:Ext V V∧Blk V D 32 [(vi idx),(vl O op.length oc),(vl C cl.length ec),(vl P pa.length pc)]:=⟨(Ext.refl V),az⟩;anyt_val (i:=2) (v:=(vl O op.length oc)) [4,5,6,12,13] au (fun j hj=>by simp at hj;first | (subst hj;decide) | (rcases hj with rfl | rfl <;> decide)) (by decide +kernel) (by decide +kernel) rfl rfl rfl rfl (fun _ _ _ _ h=>h) rfl ai (fun W hW=>(rl au rfl (hW.2.rule.1 1))) fun I aL=>aL.ym 3 rfl fun _ aM=>?_
  have aA:=(hco.ext M).ext ab
  obtain ⟨aS,aZ,aC,-⟩:=Fl.at aA (by omega)
  refine aM.yw 4 (vq aS (aZ+k*32)) rfl (fun F W=>rn_indexE uu30 inf29 ((F.get rfl).trans (by rw [aC])) (F.get rfl) (zl _) (il (by omega:k<op.length)) (by omega)) fun _ av=>anyt_val (i:=5) (v:=(.agg (byteVals (op.getD k [])).toArray)) [6,12,13] av (fun j hj=>by simp at hj;first | (subst hj;decide) | (rcases hj with rfl | rfl <;> decide)) (by decide +kernel) (by decide +kernel) rfl rfl rfl rfl (fun _ _ _ _ h=>h) rfl ai (fun W hW=>(rn_loadN (cs:=byteVals (op.getD k [])) (av.get rfl) uu29 rfl (sk inf29 (byteVals_len (dig_len h32o k (by omega)))) (Fl.digAt (aA.ext hW.1) aC h32o (by omega)))) fun I aN=>aN.yv 7 (vq D 2) rfl fun _ aw=>anyt_val (i:=8) (v:=(vl C cl.length ec)) [10,11,12,13] aw (fun j hj=>by simp at hj;first | (subst hj;decide) | (rcases hj with rfl | rfl <;> decide)) (by decide +kernel) (by decide +kernel) rfl rfl rfl rfl (fun _ _ _ _ h=>h) rfl ai (fun W hW=>(rl aw rfl (hW.2.rule.1 2))) fun I aO=>aO.ym 9 rfl fun _ aP=>?_
  have aB:=(hce.ext M).ext ab
  obtain ⟨aT,a0,aD,-⟩:=Fl.at aB (by omega)
  refine aP.yw 10 (vq aT (a0+k*32)) rfl (fun F W=>rn_indexE uu30 inf29 ((F.get rfl).trans (by rw [aD])) (F.get rfl) (zl _) (il (by omega:k<cl.length)) (by omega)) fun _ ax=>anyt_val (i:=11) (v:=(.agg (byteVals (cl.getD k [])).toArray)) [12,13] ax (fun j hj=>by simp at hj;first | (subst hj;decide) | (rcases hj with rfl | rfl <;> decide)) (by decide +kernel) (by decide +kernel) rfl rfl rfl rfl (fun _ _ _ _ h=>h) rfl ai (fun W hW=>(rn_loadN (cs:=byteVals (cl.getD k [])) (ax.get rfl) uu29 rfl (sk inf29 (byteVals_len (dig_len h32c k (by omega)))) (Fl.digAt (aB.ext hW.1) aD h32c (by omega)))) fun I aQ=>ao 6 rfl<|aQ.oE (c:=rhash_any (op.getD k []) _ (dig_len h32o k (by omega))) (k:=fun I am I _ aR=>?_)
  have M:=az.ext am
  refine ⟨fun _ _=>⟨eX,M⟩,?_⟩
  have Z:=own_ext (own_ext ac ab) am
  have Y:=Z
  refine ao 12 rfl (aR.on (fun g=>(vl (some ⟨g,0,none⟩) 2 2)) (byteVals ((openD (op.getD k []))++(cl.getD k []))) 29 rfl (fun F=>rn_buildSlice (parts2 (F.get rfl) (F.get rfl)) (build_wholeE (vs:=[(.agg (byteVals (openD (op.getD k []))).toArray),(.agg (byteVals (cl.getD k [])).toArray)]) El30 rfl rfl (fun v hv=>(List.mem_cons.1 hv).elim (fun h=>by rw [h];exact (byteVals_len (openD_len _))) (fun h=>by rw [List.mem_singleton.1 h];exact (byteVals_len (dig_len h32c k (by omega))))) (by decide) (by decide) (by simp [Value.cells,byteVals]))) fun I D _ D U U V U=>?_)
  have ae:=own_new (g:=I) Y (by omega)
  have Y:=M.ext U
  refine ⟨fun _ _=>⟨eX,Y⟩,?_⟩
  refine ao 13 rfl<|have aa:=(own_ext Z U);have M:=aa;have Z:=ah.ux U;have ac:some G≠(Value.slice Ap np cp).ownBlock:=(own_ne aa (by omega:G<J));have J:=Z.lt;have ag:some I≠(Value.slice Ap np cp).ownBlock:=ae;have J:=V.lt;o_appB (zs:=digVals (x++([openD (op.getD k []),cl.getD k []]))) El30 D rfl rfl rfl rfl rfl (D.get rfl) (D.get rfl) M (Fl.cel (Fl.digblk (S:=fun b=>b=I) V (All32.cons (openD_len _) (All32.sing (dig_len h32c k (by omega)))) (by simp [digVals,byteVals]))).2.2 (by omega) (by omega) (by omega) (digVals_app _ _) fun J V D D ae ah D aa aa aa=>?_;have ai:=D.size
  have ai:=aa G (by omega) ac
  have G:=aa I (by omega) ag
  refine ⟨fun h=>absurd h (by decide),?_⟩
  refine ae.yv 14 (vl J (np+2) V) rfl fun _ G=>nK aE<|have I:=G.k [0,1,2,3,4,7,8,47,9,10,11,55,61];wp_region_lit<|I.xm rfl<|Xv (vi (k+1:Nat))<|Xa rfl fun _ G=>wpList_nil ?_
  have aa:=aj.pres (Pres.row ((((Pres.refl aK).ext ab).ext am).ext U) D M (fun b hb h=>by simp only [Clip] at h;omega))
  have I:=Z.grown D ac
  have U:=grown_blk M D Y (by decide)
  refine ⟨⟨(k+1),J,np+2,V,x++([openD (op.getD k []),cl.getD k []]),G.j,⟨by omega,by omega⟩,(pair_f (s:=⟨idx,op,cl,pa⟩) ak al),(ext_row eX D M (by omega)),I,U,ah,aa,(by omega),(by omega)⟩,?_⟩
  rw [G.get (t:=11) rfl,aF.get (t:=11) rfl];simp [intOf] <;> omega
 refine ae.cf<|wp_exit<|exit_then<|exit_then<|exit_here<|aW _ _<|wp_seq_k fun I ag=>?_
 have hk:k=64:=by omega
 have hxx:=ak
 rw [hk] at hxx
 refine sX (fun I W=>Ext I W∧Blk W D 32 [(vi idx),(vl O op.length oc),(vl C cl.length ec),(vl P pa.length pc)]) (fun i=>i==12) 14 fun I V U=>?_
 refine any_have (n1:=2) (L1:=#[true,true,true,true,true,true,true,true,true,true,true,true,false,false]) (fun a' W=>∃ (U:Nat),Sl 108 [(0,(.agg (byteVals root).toArray)),(1,(vi n)),(2,(vl B msg.length cb)),(3,(.agg #[(vi idx),(vl O op.length oc),(vl C cl.length ec),(vl P pa.length pc)])),(4,(vp G)),(7,(vp D)),(8,(.bool false)),(9,(vl Y 64 aa)),(10,(vl Ap np cp)),(11,(vi k)),(12,(vp U)),(47,(vd ((65536:Int)<(msg.length:Int)))),(55,(vd ((k:Int)<(64:Int)))),(99,(.agg (byteVals ((climbF (tagged [111,110,101] x.flatten) idx n pa).1)).toArray)),(100,(vi ((climbF (tagged [111,110,101] x.flatten) idx n pa).2)))] a'∧Ext I W∧Blk W U 29 (byteVals (List.replicate 32 0))∧I.heap.size≤U) ?_ (fun ab=>?_)
 ·rintro D D ⟨U,D,I,G,J⟩
  have J:=I.size
  have I:=G.lt
  refine ao 12 rfl (D.os rfl G (fun G M J=>an ?_) (hk:=byteVals_len (climbF_len _ _ _ _)));have G:=J.size
  refine D.yv 13 (vi ((climbF (tagged [111,110,101] x.flatten) idx n pa).2)) rfl fun _ D=>nK ag<|wr fun G G=>D.xm rfl<|Xv (vd (((climbF (tagged [111,110,101] x.flatten) idx n pa).2:Int)=(0:Int)))<|Xm rfl fun _ D=>?_
  by_cases I:((climbF (tagged [111,110,101] x.flatten) idx n pa).2:Int)=(0:Int)
  ·refine D.xgw (.agg (byteVals ((climbF (tagged [111,110,101] x.flatten) idx n pa).1)).toArray) (fun F=>rb F rfl M (hk:=byteVals_len (climbF_len _ _ _ _))) fun _ D=>have M:=ah.ug J;D.xgw (.agg (byteVals root).toArray) (fun F=>rb F rfl M (hk:=byteVals_len hd))<|Xgw (vd ((climbF (tagged [111,110,101] x.flatten) idx n pa).1=root)) (fun F=>rn_eqA uu29 uu5 inf5 (by kernel_rfl) (F.get rfl) (F.get rfl) (climbF_len _ _ _ _) hd)<|Xv (vd ((climbF (tagged [111,110,101] x.flatten) idx n pa).1=root))<|Xa rfl fun _ D=>wn G<|have G:=D.k [0,1,2,3,4,7,8,9,10,11,12,47,55,13];wp_ret<|ret1 G rfl rfl ?_
   have hv:vShape n msg ⟨idx,op,cl,pa⟩:=by unfold vShape;simp only;omega
   have hcs:climbS root n msg ⟨idx,op,cl,pa⟩=climbF (tagged [111,110,101] x.flatten) idx n pa:=by rw [hxx,publicD_pairs];rfl
   exact ⟨by rw [verify_yes hv,hcs,show decide (_=(0:Int))=true from (decide_eq_true I),Bool.true_and],eX⟩
  refine D.xu<|Xu<|Xu<|Xv (.bool false)<|Xa rfl fun _ D=>wn G<|have G:=D.k [0,1,2,3,4,7,8,9,10,11,12,47,55,13];wp_ret<|ret1 G rfl rfl ?_
  have hv:vShape n msg ⟨idx,op,cl,pa⟩:=by unfold vShape;simp only;omega
  have hcs:climbS root n msg ⟨idx,op,cl,pa⟩=climbF (tagged [111,110,101] x.flatten) idx n pa:=by rw [hxx,publicD_pairs];rfl
  exact ⟨by rw [verify_yes hv,hcs,show decide (_=(0:Int))=false from (decide_eq_false I)];rfl,eX⟩
 refine any_have (n1:=6) (L1:=#[true,true,true,true,true,true,true,false,false,false,false,true,false,false]) (fun a' W=>∃ (U:Nat),Sl 108 [(0,(.agg (byteVals root).toArray)),(1,(vi n)),(2,(vl B msg.length cb)),(3,(.agg #[(vi idx),(vl O op.length oc),(vl C cl.length ec),(vl P pa.length pc)])),(4,(vp G)),(7,(vp D)),(8,(.bool false)),(9,(vl Y 64 aa)),(10,(vl Ap np cp)),(11,(vi k)),(12,(vp U)),(47,(vd ((65536:Int)<(msg.length:Int)))),(55,(vd ((k:Int)<(64:Int)))),(92,(.agg (byteVals (tagged [111,110,101] x.flatten)).toArray)),(94,(vi idx)),(95,(vi n)),(97,(vl P pa.length pc))] a'∧Ext I W∧Blk W U 29 (byteVals (List.replicate 32 0))∧I.heap.size≤U) ?_ (fun Y=>?_)
 ·rintro D D ⟨U,I,G,D,J⟩
  have J:=G.size
  have J:=D.lt
  refine ao 7 rfl<|have J:=(((hcp.ext M).ext V).ext G);I.oe (rClimb_at (tagged [111,110,101] x.flatten) idx n pa _ (v:=(vl P pa.length pc)) (m:=pa.length) (tagged_len _ _) h32p J) fun G G I _ I=>?_
  have J:=Z.ux G
  refine ⟨fun _ _=>⟨eX,J⟩,?_⟩
  exact I.ym 8 rfl<|Yv 9 (.agg (byteVals ((climbF (tagged [111,110,101] x.flatten) idx n pa).1)).toArray) rfl<|Yv 10 (vi ((climbF (tagged [111,110,101] x.flatten) idx n pa).2)) rfl fun _ I=>have J:=(D.ext G);ab _ _ ⟨U,I.j,eX,J,(by omega)⟩
 refine ae.ym 0 rfl<|Yv 2 (vp D) rfl fun _ aa=>have G:=(Z.ext V);have U:Ext I I∧Blk I D 32 [(vi idx),(vl O op.length oc),(vl C cl.length ec),(vl P pa.length pc)]:=⟨(Ext.refl I),G⟩;aa.ys 3 (vi idx) rfl U (fun F W hW=>rl F rfl (hW.2.rule.1 0))<|Ym 4 rfl<|Yv 5 (vq D 3) rfl<|Ys 6 (vl P pa.length pc) rfl U (fun F W hW=>rl F rfl (hW.2.rule.1 3)) fun _ D=>?_
 refine any_two (i:=1) (k:=11) (by decide +kernel) rfl rfl ?_ ?_
 ·have U:=(own_ext ac V)
  refine D.oE (c:=rone_at (v:=(vl Ap np cp)) (m:=np) x _ aI (Fl.own (S:=fun b=>J≤b) U (fun b hb=>hb) (digVals_one _)) (by omega)) (k:=fun D D I _ J=>?_)
  have I:=G.ext D
  refine ⟨fun _ _=>⟨eX,I⟩,?_⟩
  refine any_two (i:=7) (k:=11) (by decide +kernel) rfl rfl ?_ ?_
  ·have G:=(((hcp.ext M).ext V).ext D)
   refine J.oe (rClimb_at (tagged [111,110,101] x.flatten) idx n pa _ (v:=(vl P pa.length pc)) (m:=pa.length) (tagged_len _ _) h32p G) fun G J G _ M=>?_
   have G:=I.ext J
   refine ⟨fun _ _=>⟨eX,G⟩,?_⟩
   refine M.ym 8 rfl<|Yv 9 (.agg (byteVals ((climbF (tagged [111,110,101] x.flatten) idx n pa).1)).toArray) rfl<|Yv 10 (vi ((climbF (tagged [111,110,101] x.flatten) idx n pa).2)) rfl fun _ I=>have V:=(own_ext (own_ext U D) J);have M:=V;ao 11 rfl<|I.oz (byteVals (List.replicate 32 0)) 29 rfl fun D I _ I J J J U=>?_
   have V:=own_new (g:=D) M (by omega)
   have M:=G.ext U
   refine ⟨fun _ _=>⟨eX,M⟩,?_⟩
   exact ab _ _ ⟨D,I.j,eX,J,(by omega)⟩
  have G:=own_ext U D
  have M:=G
  refine J.oz (byteVals (List.replicate 32 0)) 29 rfl fun D G _ G J J J U=>?_
  have V:=own_new (g:=D) M (by omega)
  have M:=I.ext U
  refine ⟨fun _ _=>⟨eX,M⟩,?_⟩
  exact Y _ _ ⟨D,G.j,eX,J,(by omega)⟩
 have U:=own_ext ac V
 have aa:=U
 refine D.oz (byteVals (List.replicate 32 0)) 29 rfl fun I D _ V D D Z M=>?_
 have D:=own_new (g:=I) aa (by omega)
 have D:=G.ext M
 refine ⟨fun _ _=>⟨eX,D⟩,?_⟩
 refine ao 1 rfl<|have G:=(own_ext U M);V.oE (c:=rone_at (v:=(vl Ap np cp)) (m:=np) x _ aI (Fl.own (S:=fun b=>J≤b) G (fun b hb=>hb) (digVals_one _)) (by omega)) (k:=fun G G J _ J=>?_)
 have M:=D.ext G
 refine ⟨fun _ _=>⟨eX,M⟩,?_⟩
 have D:=Z.ext G
 exact Y _ _ ⟨I,J.j,eX,D,(by omega)⟩
theorem samed_any (A B:Option Addr) (c e:Nat) (a b:List (List UInt8)) (w:World) (h32a:All32 a) (h32b:All32 b) (ha:Fl S w 32 (vl A a.length c) a.length (digVals a)) (hb:Fl S2 w 32 (vl B b.length e) b.length (digVals b)) (hca:a.length≤9223372036854775807) :
  Calls Tryz.prog 79 #[.slice A a.length c,.slice B b.length e] w (fun e w'=>e=.returned (.bool (decide (a=b)))∧Ext w w'):=by
 refine calls_enter Tryz.func79 rfl rfl rfl fun _ C=>wr fun D D=>C.xv (.bool false) fun _ C=>wn D<|wp_seq_k fun D G=>wr fun D I=>C.xm rfl<|Xv (vi a.length)<|Xm rfl<|Xv (vi b.length)<|Xv (vd ((a.length:Int)≠(b.length:Int))) fun _ D=>wn I ?_
 have C:=D.k [0,1,4,10]
 by_cases D:(a.length:Int)≠(b.length:Int)
 ·exact C.ct<|wr fun D D=>C.xv (.bool false) fun _ C=>wn D<|wp_ret<|ret_then<|ret1 C rfl rfl<|have hab:a≠b:=ne_of_len (by omega);⟨by rw [decide_eq_false hab],(Ext.refl w)⟩
 refine C.cf<|wp_skip<|G _ _<|wp_seq_k fun D I=>wr fun D D=>C.xv (vi 0) fun _ C=>wn D<|wp_block<|wp_loop (fun a' W=>∃ (k:Nat),Sl 26 [(0,(vl A a.length c)),(1,(vl B b.length e)),(4,(.bool false)),(10,(vd ((a.length:Int)≠(b.length:Int)))),(5,(vi k))] a'∧k≤a.length∧a.take k=b.take k∧Ext w W∧w.heap.size≤W.heap.size) (fun a' _=>a.length - (intOf (a'.eval (.tmp 5))).toNat) ⟨0,C.j,(by omega),rfl,(Ext.refl w),(Nat.le_refl _)⟩ ?_
 rintro C C ⟨k,C,D,M,G,D⟩
 have Z:=C
 have D:=G.size
 refine wp_seq_k fun D J=>wr fun D O=>C.xm rfl<|Xm rfl<|Xv (vi a.length)<|Xv (vd ((k:Int)<(a.length:Int))) fun _ D=>wn O ?_
 by_cases C:(k:Int)<(a.length:Int)
 ·refine D.ct<|wp_skip<|J _ _<|wp_seq_k fun C V=>wp_block<|wp_seq_k fun C Y=>sX (fun C W=>Ext C W) (fun i=>false) 9 fun C O I=>D.ym 0 rfl<|Ym 1 rfl fun _ J=>?_
  have D:=(ha.ext G).ext O
  obtain ⟨U,aa,I,-⟩:=Fl.at D (by omega)
  refine J.yw 2 (vq U (aa+k*32)) rfl (fun F W=>rn_indexE uu30 inf29 ((F.get rfl).trans (by rw [I])) (F.get rfl) (zl _) (il (by omega:k<a.length)) (by omega)) fun _ U=>have J:Ex C C:=Ext.refl C;U.ys 3 (.agg (byteVals (a.getD k [])).toArray) rfl J (fun F W hW=>rn_loadN (cs:=byteVals (a.getD k [])) (F.get rfl) uu29 rfl (sk inf29 (byteVals_len (dig_len h32a k (by omega)))) (Fl.digAt (D.ext hW) I h32a (by omega)))<|Ym 4 rfl<|Ym 5 rfl fun _ I=>?_
  have C:=(hb.ext G).ext O
  obtain ⟨G,O,D,-⟩:=Fl.at C (by omega)
  refine I.yw 6 (vq G (O+k*32)) rfl (fun F W=>rn_indexE uu30 inf29 ((F.get rfl).trans (by rw [D])) (F.get rfl) (zl _) (il (by omega:k<b.length)) (by omega))<|Ys 7 (.agg (byteVals (b.getD k [])).toArray) rfl J (fun F W hW=>rn_loadN (cs:=byteVals (b.getD k [])) (F.get rfl) uu29 rfl (sk inf29 (byteVals_len (dig_len h32b k (by omega)))) (Fl.digAt (C.ext hW) D h32b (by omega)))<|Yw 8 (.bool (!decide (a.getD k []=b.getD k []))) rfl (fun F W=>rn_neA uu29 uu5 inf5 (by kernel_rfl) (F.get rfl) (F.get rfl) (dig_len h32a k (by omega)) (dig_len h32b k (by omega))) fun _ D=>nK Y ?_
  have C:=D.k [0,1,4,10,5,14,25]
  by_cases D:a.getD k []=b.getD k []
  ·refine C.cf<|wp_skip<|V _ _<|wp_region_lit<|C.xm rfl<|Xv (vi (k+1:Nat))<|Xa rfl fun _ C=>wpList_nil ?_
   refine ⟨⟨(k+1),C.j,(by omega),(take_succ_eq (d:=[]) M (by omega) (by omega) D),eX,(by omega)⟩,?_⟩
   rw [C.get (t:=5) rfl,Z.get (t:=5) rfl];simp [intOf] <;> omega
  exact C.ct<|wr fun G G=>C.xv (.bool false) fun _ C=>wn G<|wp_ret<|ret_block<|ret_then<|ret_then<|ret_block<|ret_then<|ret1 C rfl rfl<|have hab:a≠b:=ne_of_getD (k:=k) (d:=[]) D;⟨by rw [decide_eq_false hab],eX⟩
 exact D.cf<|wp_exit<|exit_then<|exit_then<|exit_here<|I _ _<|wr fun C G=>D.xv (.bool true) fun _ C=>wn G<|wp_ret<|ret1 C rfl rfl<|have hab:a=b:=take_all_eq M (by omega) (by omega);⟨by rw [decide_eq_true hab],eX⟩
theorem samed_at (a b:List (List UInt8)) (w:World) (h32a:All32 a) (h32b:All32 b) (ha:Fl S w 32 v n (digVals a)) (hb:Fl S2 w 32 u m (digVals b)):Calls Tryz.prog 79 #[v,u] w (fun e w'=>e=.returned (.bool (decide (a=b)))∧Ext w w'):=by
 have h1:=Fl.dlen ha h32a
 have h2:=Fl.dlen hb h32b
 subst h1 h2
 obtain ⟨A,c,rfl,hc⟩:=ha.form
 obtain ⟨B,e,rfl,he⟩:=hb.form
 exact samed_any A B c e a b w h32a h32b ha hb (by omega)
def sameS (x y:Sg):Bool:=decide (x.index=y.index)&&(decide (x.op=y.op)&&(decide (x.cl=y.cl)&&decide (x.path=y.path)))
theorem sameS_refl (x:Sg):sameS x x=true:=by simp [sameS]
def sameK (a b:List UInt8) (m1 u1 m2 u2:Int):Bool:=decide (m1=m2)&&(decide (u1=u2)&&decide (a=b))
theorem sames_any (xO xC xP:Option Addr) (xa xb xc:Nat) (x:Sg) (yO yC yP:Option Addr) (ya yb yc:Nat) (y:Sg) (w:World) (xhO:Fl S w 32 (vl xO x.op.length xa) x.op.length (digVals x.op)) (xAO:All32 x.op) (xhC:Fl S w 32 (vl xC x.cl.length xb) x.cl.length (digVals x.cl)) (xAC:All32 x.cl) (xhP:Fl S w 32 (vl xP x.path.length xc) x.path.length (digVals x.path)) (xAP:All32 x.path) (yhO:Fl S2 w 32 (vl yO y.op.length ya) y.op.length (digVals y.op)) (yAO:All32 y.op) (yhC:Fl S2 w 32 (vl yC y.cl.length yb) y.cl.length (digVals y.cl)) (yAC:All32 y.cl) (yhP:Fl S2 w 32 (vl yP y.path.length yc) y.path.length (digVals y.path)) (yAP:All32 y.path) :
  Calls Tryz.prog 38 #[.agg #[(vi x.index),(vl xO x.op.length xa),(vl xC x.cl.length xb),(vl xP x.path.length xc)],.agg #[(vi y.index),(vl yO y.op.length ya),(vl yC y.cl.length yb),(vl yP y.path.length yc)]] w (fun e w'=>e=.returned (.bool (sameS x y))∧Ext w w'):=by
 have xkO:Fl (Clip S w) w 32 (vl xO x.op.length xa) x.op.length (digVals x.op):=xhO.clip
 have xkOc:=(Fl.cel xkO).2.1
 have xkC:Fl (Clip S w) w 32 (vl xC x.cl.length xb) x.cl.length (digVals x.cl):=xhC.clip
 have xkCc:=(Fl.cel xkC).2.1
 have xkP:Fl (Clip S w) w 32 (vl xP x.path.length xc) x.path.length (digVals x.path):=xhP.clip
 have xkPc:=(Fl.cel xkP).2.1
 have ykO:Fl (Clip S2 w) w 32 (vl yO y.op.length ya) y.op.length (digVals y.op):=yhO.clip
 have ykOc:=(Fl.cel ykO).2.1
 have ykC:Fl (Clip S2 w) w 32 (vl yC y.cl.length yb) y.cl.length (digVals y.cl):=yhC.clip
 have ykCc:=(Fl.cel ykC).2.1
 have ykP:Fl (Clip S2 w) w 32 (vl yP y.path.length yc) y.path.length (digVals y.path):=yhP.clip
 have ykPc:=(Fl.cel ykP).2.1
 refine calls_enter Tryz.func38 rfl rfl rfl fun _ C=>wr fun D M=>C.xb rfl fun J C _ C D D O G=>C.xb rfl fun I C _ D C C U C=>D.xv (.bool false) fun _ D=>wn M<|wr fun M M=>D.xv (vp J) fun _ D=>have V:=(O.ext C);D.xw (vi x.index) (fun F=>rl F rfl (V.rule.1 0))<|Xv (vp I)<|Xw (vi y.index) (fun F=>rl F rfl (U.rule.1 0))<|Xv (vd ((x.index:Int)=(y.index:Int)))<|Xm rfl fun _ D=>?_
 by_cases O:(x.index:Int)=(y.index:Int)
 ·refine D.xg (vq J 1)<|Xgw (vl xO x.op.length xa) (fun F=>rl F rfl (V.rule.1 1))<|Xg (vq I 1)<|Xgw (vl yO y.op.length ya) (fun F=>rl F rfl (U.rule.1 1)) fun _ D=>have Y:=((xkO.ext G).ext C);have Z:=((ykO.ext G).ext C);wpl_op (i:=10) rfl (D.gE (c:=samed_at x.op y.op _ xAO yAO Y Z) (k:=fun D D Y _ Y=>Y.xv (vd (x.op=y.op))<|Xm rfl fun _ Z=>?_))
  by_cases Y:x.op=y.op
  ·refine Z.xg (vq J 2) fun _ aa=>have Z:=(V.ext D);aa.xgw (vl xC x.cl.length xb) (fun F=>rl F rfl (Z.rule.1 2))<|Xg (vq I 2) fun _ V=>have aa:=(U.ext D);V.xgw (vl yC y.cl.length yb) (fun F=>rl F rfl (aa.rule.1 2)) fun _ U=>have V:=(((xkC.ext G).ext C).ext D);have ab:=(((ykC.ext G).ext C).ext D);wpl_op (i:=17) rfl (U.gE (c:=samed_at x.cl y.cl _ xAC yAC V ab) (k:=fun U U V _ V=>V.xv (vd (x.cl=y.cl))<|Xm rfl fun _ V=>?_))
   by_cases ab:x.cl=y.cl
   ·exact V.xg (vq J 3) fun _ J=>have V:=(Z.ext U);J.xgw (vl xP x.path.length xc) (fun F=>rl F rfl (V.rule.1 3))<|Xg (vq I 3) fun _ I=>have J:=(aa.ext U);I.xgw (vl yP y.path.length yc) (fun F=>rl F rfl (J.rule.1 3)) fun _ I=>have J:=((((xkP.ext G).ext C).ext D).ext U);have V:=((((ykP.ext G).ext C).ext D).ext U);wpl_op (i:=24) rfl (I.gE (c:=samed_at x.path y.path _ xAP yAP J V) (k:=fun C C C _ C=>C.xv (vd (x.path=y.path))<|Xa rfl fun _ C=>wn M<|have D:=C.k [0,1,2,3,4];wp_ret<|ret1 D rfl rfl<|⟨by rw [sameS,show decide ((x.index:Int)=(y.index:Int))=true from (decide_eq_true O),show decide (x.op=y.op)=true from (decide_eq_true Y),show decide (x.cl=y.cl)=true from (decide_eq_true ab)];simp only [Bool.true_and],eX⟩))
   exact V.xu<|Xu<|Xu<|Xu<|Xu<|Xv (.bool false)<|Xa rfl fun _ C=>wn M<|have D:=C.k [0,1,2,3,4];wp_ret<|ret1 D rfl rfl<|⟨by rw [sameS,show decide ((x.index:Int)=(y.index:Int))=true from (decide_eq_true O),show decide (x.op=y.op)=true from (decide_eq_true Y),show decide (x.cl=y.cl)=false from (decide_eq_false ab)];simp only [Bool.false_and,Bool.and_false,Bool.true_and],eX⟩
  exact Z.xu<|Xu<|Xu<|Xu<|Xu<|Xv (.bool false)<|Xm rfl<|Xu<|Xu<|Xu<|Xu<|Xu<|Xv (.bool false)<|Xa rfl fun _ C=>wn M<|have D:=C.k [0,1,2,3,4];wp_ret<|ret1 D rfl rfl<|⟨by rw [sameS,show decide ((x.index:Int)=(y.index:Int))=true from (decide_eq_true O),show decide (x.op=y.op)=false from (decide_eq_false Y)];simp only [Bool.false_and,Bool.and_false,Bool.true_and],eX⟩
 exact D.xu<|Xu<|Xu<|Xu<|Xu<|Xv (.bool false)<|Xm rfl<|Xu<|Xu<|Xu<|Xu<|Xu<|Xv (.bool false)<|Xm rfl<|Xu<|Xu<|Xu<|Xu<|Xu<|Xv (.bool false)<|Xa rfl fun _ C=>wn M<|have D:=C.k [0,1,2,3,4];wp_ret<|ret1 D rfl rfl<|⟨by rw [sameS,show decide ((x.index:Int)=(y.index:Int))=false from (decide_eq_false O)];simp only [Bool.false_and,Bool.and_false,Bool.true_and],eX⟩
theorem samek_any (A B:Option Addr) (c e:Nat) (a b:List UInt8) (m1 u1 m2 u2:Int) (w:World) (ha:Fl S w 1 (vl A a.length c) a.length (byteVals a)) (hb:Fl S2 w 1 (vl B b.length e) b.length (byteVals b)) :
  Calls Tryz.prog 13 #[.agg #[.slice A a.length c,.int .i64 m1,.int .i64 u1],.agg #[.slice B b.length e,.int .i64 m2,.int .i64 u2]] w (fun e w'=>e=.returned (.bool (sameK a b m1 u1 m2 u2))∧Ext w w'):=by
 have hca:Fl (Clip S w) w 1 (vl A a.length c) a.length (byteVals a):=ha.clip
 have hcac:=(Fl.cel hca).2.1
 have hcb:Fl (Clip S2 w) w 1 (vl B b.length e) b.length (byteVals b):=hb.clip
 have hcbc:=(Fl.cel hcb).2.1
 refine calls_enter Tryz.func13 rfl rfl rfl fun _ C=>wr fun D J=>C.xb rfl fun I C _ C D D U Y=>C.xb rfl fun G C _ D C C C O=>D.xv (.bool false) fun _ D=>wn J<|wr fun J J=>D.xv (vq I 1) fun _ M=>have D:=(U.ext O);M.xw (vi m1) (fun F=>rl F rfl (D.rule.1 1))<|Xv (vq G 1)<|Xw (vi m2) (fun F=>rl F rfl (C.rule.1 1))<|Xv (vd ((m1:Int)=(m2:Int)))<|Xm rfl fun _ U=>?_
 by_cases M:(m1:Int)=(m2:Int)
 ·refine U.xg (vq I 2)<|Xgw (vi u1) (fun F=>rl F rfl (D.rule.1 2))<|Xg (vq G 2)<|Xgw (vi u2) (fun F=>rl F rfl (C.rule.1 2))<|Xg (vd ((u1:Int)=(u2:Int)))<|Xv (vd ((u1:Int)=(u2:Int)))<|Xm rfl<|fun _ U=>?_
  by_cases V:(u1:Int)=(u2:Int)
  ·exact U.xg (vp I)<|Xgw (vl A a.length c) (fun F=>rl F rfl (D.rule.1 0)) fun _ D=>have I:=((hca.ext Y).ext O);D.xgw (strOf a) (fun F=>rn_str (F.get rfl) (Fl.rbs I) uu22 uu5 uu9)<|Xg (vp G)<|Xgw (vl B b.length e) (fun F=>rl F rfl (C.rule.1 0)) fun _ C=>have D:=((hcb.ext Y).ext O);C.xgw (strOf b) (fun F=>rn_str (F.get rfl) (Fl.rbs D) uu22 uu5 uu9)<|Xgw (vd (a=b)) (fun F=>rn_eqs (F.get rfl) (F.get rfl) rfl)<|Xv (vd (a=b))<|Xa rfl fun _ C=>wn J<|have D:=C.k [0,1,2,3,4];wp_ret<|ret1 D rfl rfl<|⟨by rw [sameK,show decide ((m1:Int)=(m2:Int))=true from (decide_eq_true M),show decide ((u1:Int)=(u2:Int))=true from (decide_eq_true V)];simp only [Bool.true_and],eX⟩
  exact U.xu<|Xu<|Xu<|Xu<|Xu<|Xu<|Xu<|Xv (.bool false)<|Xa rfl fun _ C=>wn J<|have D:=C.k [0,1,2,3,4];wp_ret<|ret1 D rfl rfl<|⟨by rw [sameK,show decide ((m1:Int)=(m2:Int))=true from (decide_eq_true M),show decide ((u1:Int)=(u2:Int))=false from (decide_eq_false V)];simp only [Bool.false_and,Bool.and_false,Bool.true_and],eX⟩
 exact U.xu<|Xu<|Xu<|Xu<|Xu<|Xv (.bool false)<|Xm rfl<|Xu<|Xu<|Xu<|Xu<|Xu<|Xu<|Xu<|Xv (.bool false)<|Xa rfl fun _ C=>wn J<|have D:=C.k [0,1,2,3,4];wp_ret<|ret1 D rfl rfl<|⟨by rw [sameK,show decide ((m1:Int)=(m2:Int))=false from (decide_eq_false M)];simp only [Bool.false_and,Bool.and_false,Bool.true_and],eX⟩
theorem samek_at (a b:List UInt8) (m1 u1 m2 u2:Int) (w:World) (ha:Fl S w 1 v n (byteVals a)) (hb:Fl S2 w 1 u m (byteVals b)):Calls Tryz.prog 13 #[.agg #[v,.int .i64 m1,.int .i64 u1],.agg #[u,.int .i64 m2,.int .i64 u2]] w (fun e w'=>e=.returned (.bool (sameK a b m1 u1 m2 u2))∧Ext w w'):=by
 have h1:=ha.blen
 have h2:=hb.blen
 subst h1 h2
 obtain ⟨A,c,rfl,hc⟩:=ha.form
 obtain ⟨B,e,rfl,he⟩:=hb.form
 exact samek_any A B c e a b m1 u1 m2 u2 w ha hb
theorem few_any (A B:Option Addr) (c n e:Nat) (sd:List UInt8) (many used:Int) (w:World) :
  Calls Tryz.prog 6 #[.agg #[.slice A sd.length c,.int .i64 many,.int .i64 used],.slice B n e] w (fun e w'=>e=.returned (.bool (decide ((many≤2∧(sd.length:Int)≤100)∧(n:Int)≤300)))∧Ext w w'):=by
 refine calls_enter Tryz.func6 rfl rfl rfl fun _ C=>wr fun D J=>C.xb rfl fun I C _ C D D G D=>C.xv (.bool false) fun _ D=>wn J<|wr fun C C=>D.xv (vq I 1)<|Xw (vi many) (fun F=>rl F rfl (G.rule.1 1))<|Xv (vd ((many:Int)≤(2:Int)))<|Xm rfl fun _ D=>?_
 by_cases J:(many:Int)≤(2:Int)
 ·refine D.xg (vp I)<|Xgw (vl A sd.length c) (fun F=>rl F rfl (G.rule.1 0))<|Xg (vi sd.length)<|Xg (vd ((sd.length:Int)≤(100:Int)))<|Xv (vd ((sd.length:Int)≤(100:Int)))<|Xm rfl<|fun _ D=>?_
  by_cases G:(sd.length:Int)≤(100:Int)
  ·exact D.xg (vl B n e)<|Xg (vi n)<|Xg (vd ((n:Int)≤(300:Int)))<|Xv (vd ((n:Int)≤(300:Int)))<|Xa rfl fun _ D=>wn C<|have C:=D.k [0,1,2,4];wp_ret<|ret1 C rfl rfl<|⟨congrArg (fun b=>Ending.returned (.bool b)) (show (decide ((n:Int)≤(300:Int)))=decide ((many≤2∧(sd.length:Int)≤100)∧(n:Int)≤300) from decide_eq_decide.2 ⟨fun h=>by omega,fun h=>by omega⟩),eX⟩
  exact D.xu<|Xu<|Xu<|Xv (.bool false)<|Xa rfl fun _ D=>wn C<|have C:=D.k [0,1,2,4];wp_ret<|ret1 C rfl rfl<|⟨by rw [decide_eq_false (by omega)],eX⟩
 exact D.xu<|Xu<|Xu<|Xu<|Xv (.bool false)<|Xm rfl<|Xu<|Xu<|Xu<|Xv (.bool false)<|Xa rfl fun _ D=>wn C<|have C:=D.k [0,1,2,4];wp_ret<|ret1 C rfl rfl<|⟨by rw [decide_eq_false (by omega)],eX⟩
theorem verify_at {u1 u2 u3:Value} {n1 n2 n3:Nat} {S1 S3:Nat→Prop} (root:List UInt8) (n:Int) (msg:List UInt8) (sg:Sg) (w:World) (hd:root.length=32) (hm:Fl S w 1 v m (byteVals msg)) (ho:Fl S1 w 32 u1 n1 (digVals sg.op)) (he:Fl S2 w 32 u2 n2 (digVals sg.cl)) (hp:Fl S3 w 32 u3 n3 (digVals sg.path)) (h32o:All32 sg.op) (h32c:All32 sg.cl) (h32p:All32 sg.path) (hG:Glob w) :
  Calls Tryz.prog 39 #[.agg (byteVals root).toArray,.int .i64 n,v,.agg #[.int .i64 sg.index,u1,u2,u3]] w (fun e w'=>e=.returned (.bool (verifyF root n msg sg))∧Ext w w'):=by
 have h1:=hm.blen
 have h2:=Fl.dlen ho h32o
 have h3:=Fl.dlen he h32c
 have h4:=Fl.dlen hp h32p
 subst h1 h2 h3 h4
 obtain ⟨B,cb,rfl,_⟩:=hm.form
 obtain ⟨O,oc,rfl,_⟩:=ho.form
 obtain ⟨C,ec,rfl,_⟩:=he.form
 obtain ⟨P,pc,rfl,_⟩:=hp.form
 exact verify_any (S:=fun _=>True) root n B cb msg sg.index O oc sg.op C ec sg.cl P pc sg.path w hd (hm.sub fun _ _=>trivial) (ho.sub fun _ _=>trivial) (he.sub fun _ _=>trivial) (hp.sub fun _ _=>trivial) h32o h32c h32p hG
section
variable {sd:List UInt8} {used idx:Int} {msg other:List UInt8}
theorem sign_zero (h:signE sd many used idx msg=0):kOk sd many used=true∧¬ 65536<msg.length∧¬ (idx<0∨many≤idx):=by
  unfold signE at h
  split at h
  · cases h
  · rename_i h1
    split at h
    · cases h
    · rename_i h2
      split at h
      · cases h
      · rename_i h3
        exact ⟨by simpa using h1,h2,h3⟩
theorem sign_of (h:signE sd many used idx msg=0):signF sd many used idx msg=sgOf sd many.toNat idx.toNat msg:=by rw [signF,if_pos h]
theorem signF_o (sd:List UInt8) (many used idx:Int) (msg:List UInt8):All32 (signF sd many used idx msg).op:=by
  unfold signF;split
  · exact opTo_32 _ _ _ _
  · exact All32.nil
theorem signF_c (sd:List UInt8) (many used idx:Int) (msg:List UInt8):All32 (signF sd many used idx msg).cl:=by
  unfold signF;split
  · exact clTo_32 _ _ _ _
  · exact All32.nil
theorem signF_p (sd:List UInt8) (many used idx:Int) (msg:List UInt8):All32 (signF sd many used idx msg).path:=by
  unfold signF;split
  · exact pathD_32 _ _ _ (Nat.le_refl _)
  · exact All32.nil
theorem sign_len (h:signE sd many used idx msg=0):(signF sd many used idx msg).op.length=64∧(signF sd many used idx msg).cl.length=64∧(signF sd many used idx msg).index=idx:=by
  obtain ⟨h1,_,h3⟩:=sign_zero h
  rw [sign_of h]
  exact ⟨opTo_len _ _ _ _,clTo_len _ _ _ _,by simp only [sgOf];omega⟩
theorem sign_iff (h:kOk sd many used=true) (hm:msg.length≤65536):signE sd many used idx msg=0↔0≤idx∧idx<many:=by
  constructor
  · intro he;have:=sign_zero he;omega
  · intro he;exact signE4 h (by omega) (by omega)
theorem pub_zero (h:pubE sd many used=0):kOk sd many used=true:=by
  unfold pubE at h
  split at h
  · assumption
  · cases h
theorem pub_of (h:kOk sd many used=true):pubF sd many used=pubD sd many.toNat∧pubE sd many used=0:=by rw [pubF,pubE,if_pos h,if_pos h];exact ⟨rfl,rfl⟩
theorem verifies (h:signE sd many used idx msg=0) (ho:other.length≤65536) (hb:bitsR (pubF sd many used) (signF sd many used idx msg).index msg=bitsR (pubF sd many used) (signF sd many used idx msg).index other) :
    verifyF (pubF sd many used) many other (signF sd many used idx msg)=true:=by
  obtain ⟨h1,h2,h3⟩:=sign_zero h
  obtain ⟨h4,h5,h6,h7⟩:=kOk_iff.1 h1
  obtain ⟨k,rfl⟩:∃ k:Nat,many=(k:Int):=⟨many.toNat,by omega⟩
  obtain ⟨i,rfl⟩:∃ i:Nat,idx=(i:Int):=⟨idx.toNat,by omega⟩
  rw [(sign_len h).2.2,(pub_of h1).1,bitsR_in (by omega),bitsR_in (by omega)] at hb
  rw [(pub_of h1).1,sign_of h]
  simp only [Int.toNat_natCast] at hb ⊢
  exact verify_sg (by omega) (by omega) ho hb
theorem verifies1 (h:signE sd many used idx msg=0) (ho:msg.length≤65536):verifyF (pubF sd many used) many msg (signF sd many used idx msg)=true:=verifies h ho rfl
end
def numL (n:Nat):Nat→List UInt8
  | 0=>[]
  | k+1=>numL (n / 256) k++[UInt8.ofNat n]
theorem numL_len (n:Nat):∀ k,(numL n k).length=k
  | 0=>rfl
  | k+1=>by rw [numL,List.length_append,numL_len _ k];rfl
theorem numL_getD (n:Nat):∀ (k i:Nat),i<k→(numL n k).getD (k - 1 - i) 0=UInt8.ofNat (n / 256 ^ i)
  | 0,i,h=>absurd h (by omega)
  | k+1,0,_=>by rw [numL,List.getD_eq_getElem?_getD,List.getElem?_append_right (by rw [numL_len];omega),numL_len];simp
  | k+1,i+1,h=>by
    have:=numL_getD (n / 256) k i (by omega)
    rw [List.getD_eq_getElem?_getD] at this
    rw [numL,List.getD_eq_getElem?_getD,List.getElem?_append_left (by rw [numL_len];omega),show k+1 - 1 - (i+1)=k - 1 - i by omega,this,Nat.div_div_eq_div_mul,Nat.pow_succ,Nat.mul_comm]
def kd (s:List UInt8):UInt8:=s.getD 10 0
def kindOk (n:Nat) (q:UInt8):Prop:=n≤112∧q.toNat≤3∧(q.toNat<2→n=112)∧(q.toNat % 2=0→n≠0)
instance (n:Nat) (q:UInt8):Decidable (kindOk n q):=by unfold kindOk;infer_instance
def lenB (s:List UInt8):UInt8:=UInt8.ofNat s.length
def itLeaf (x:It):List UInt8:=tagged [105,116,101,109] ([lenB x.name]++x.name++x.data)
def cgLeaf (c:Cg):List UInt8:=tagged [99,104,97,110,103,101] ([bitB c.gone,lenB c.name]++c.name++c.data)
def stateD (l:List It):List UInt8:=if checkE l=0 then treeD (l.map itLeaf) else zero32
structure Vr where
  no:Int
  state:List UInt8
  chs:List Cg
  sg:Sg
structure Fo where
  pub:List UInt8
  many:Int
  no:Int
  items:List It
  early:List Vr
def vrNil:Vr:=⟨0,zero32,[],sgNil⟩
def foNil:Fo:=⟨zero32,0,0,[],[]⟩
instance:Inhabited Vr:=⟨vrNil⟩
def chD (l:List Cg):List UInt8:=treeD (l.map cgLeaf)
def msgV (no:Int) (state:List UInt8) (l:List Cg):List UInt8:=numL no.toNat 8++state++chD l
def Vr.msg (v:Vr):List UInt8:=msgV v.no v.state v.chs
def verifyE (pub:List UInt8) (many:Int) (v:Vr):Int :=
  if v.no<1∨4096<v.no then 420 else if ¬ validC v.chs then 400 else if v.sg.index≠v.no - 1∨verifyF pub many v.msg v.sg=false then 131 else 0
def versionE (sd:List UInt8) (many used:Int) (n:Nat) (a:List It) (l:List Cg):Int :=
  if pubE sd many used≠0 then pubE sd many used else if used≠(n:Int) then 420 else if checkE a≠0 then checkE a else if ¬ validC l then 400 else signE sd many used used (msgV (n+1:Nat) (stateD a) l)
def versionV (sd:List UInt8) (many used:Int) (n:Nat) (a:List It) (l:List Cg):Vr :=
  if versionE sd many used n a l=0 then ⟨(n+1:Nat),stateD a,l,signF sd many used used (msgV (n+1:Nat) (stateD a) l)⟩ else vrNil
def applyE (a:List It) (l:List Cg):Int :=
  if checkE a≠0 then checkE a else if ¬ validC l then 400 else if appOk a l=false then 400 else if 65536<(appL a l).length then 2 else 0
def applyV (a:List It) (l:List Cg):List It:=if applyE a l=0 then appL a l else []
def fits (f:Fo) (v:Vr):Prop:=applyE f.items v.chs=0∧checkE (appL f.items v.chs)=0∧stateD (appL f.items v.chs)=v.state
instance (f:Fo) (v:Vr):Decidable (fits f v):=inferInstanceAs (Decidable (_∧_∧_))
def stepF (f:Fo) (v:Vr):Fo:=if fits f v then { f with no:=v.no,items:=appL f.items v.chs } else f
def asc (n:Int) (l:List Vr):Prop:=∀ i,i<l.length→(if i=0 then n else (l.getD (i - 1) default).no)<(l.getD i default).no
instance (n:Int) (l:List Vr):Decidable (asc n l):=inferInstanceAs (Decidable (∀ i,i<l.length→_))
def firstE (g:Vr→Int):List Vr→Int
  | []=>0
  | v::l=>if g v≠0 then g v else firstE g l
def checkFE (f:Fo):Int :=
  if f.many<1∨4096<f.many then 40 else if f.no<0∨4096<f.no then 420 else if checkE f.items≠0 then checkE f.items else if f.no=0∧0<f.items.length then 400 else if 64<f.early.length then 2
  else if ¬ asc (f.no+1) f.early then 420 else firstE (verifyE f.pub f.many) f.early
def drain (f:Fo):List Vr→Fo
  | []=>{ f with early:=[] }
  | v::l=>if v.no=f.no+1 then drain (stepF f v) l else { f with early:=v::l }
def below (t:Int) (l:List Vr):Nat:=(l.takeWhile fun w=>decide (w.no<t)).length
def recE (f:Fo) (v:Vr):Int :=
  if checkFE f≠0 then checkFE f else if verifyE f.pub f.many v≠0 then verifyE f.pub f.many v
  else if (∃ w∈f.early,w.no=v.no)∨v.no≤f.no then 420
  else if f.no+1<v.no then (if f.early.length=64 then 2 else 0)
  else if fits f v then 0 else 400
def recF (f:Fo) (v:Vr):Fo :=
  if recE f v≠0 then foNil
  else if f.no+1<v.no then { f with early:=f.early.take (below v.no f.early)++[v]++f.early.drop (below v.no f.early) }
  else drain (stepF f v) f.early
def joinE (many:Int):Int:=if many<1∨4096<many then 40 else 0
def joinF (pub:List UInt8) (many:Int):Fo:=if joinE many=0 then ⟨pub,many,0,[],[]⟩ else foNil
theorem itLeaf_len (x:It):(itLeaf x).length=32:=tagged_len _ _
theorem cgLeaf_len (x:Cg):(cgLeaf x).length=32:=tagged_len _ _
theorem stateD_len (l:List It):(stateD l).length=32:=by
  unfold stateD
  split
  · exact treeD_len _
  · rfl
theorem chD_len (l:List Cg):(chD l).length=32:=treeD_len _
theorem msgV_len {state:List UInt8} (h:state.length=32):(msgV no state l).length=72:=by
  simp [msgV,numL_len,h,chD_len]
section
abbrev RelT (α:Type):=(Nat→Prop)→World→List Value→α→Prop
structure Rel {α:Type} (R:RelT α):Prop where
  pres:∀ {S:Nat→Prop} {w w':World} {cs:List Value} {x:α},R S w cs x→Pres S w w'→R S w' cs x
  subB:∀ {S S':Nat→Prop} {w:World} {cs:List Value} {x:α},R S w cs x→(∀ b,b<w.heap.size→S b→S' b)→R S' w cs x
variable {R:RelT α} 
theorem Rel.ext (hR:Rel R) {w w':World} {cs:List Value} {x:α} (h:R S w cs x) (he:Ext w w'):R S w' cs x:=hR.pres h (Pres.of_ext he)
theorem Rel.sub (hR:Rel R) {w:World} {cs:List Value} {x:α} (h:R S w cs x) (hs:∀ b,S b→S' b):R S' w cs x:=hR.subB h fun b _=>hs b
def RLs (R:RelT α) (k:Nat) (S:Nat→Prop) (w:World) (v:Value) (l:List α):Prop:=RSl S k (R S) w v l
theorem RLs.pres (hR:Rel R) {w w':World} {v:Value} {l:List α} (h:RLs R k S w v l) (hp:Pres S w w'):RLs R k S w' v l:=RSl.keep h hp.1 hp.2 fun _ _ h=>hR.pres h hp
theorem RLs.ext (hR:Rel R) {w w':World} {v:Value} {l:List α} (h:RLs R k S w v l) (he:Ext w w'):RLs R k S w' v l:=h.pres hR (Pres.of_ext he)
theorem RLs.subB (hR:Rel R) {w:World} {v:Value} {l:List α} (h:RLs R k S w v l) (hs:∀ b,b<w.heap.size→S b→S' b):RLs R k S' w v l:=RSl.subB h hs fun _ _ h=>hR.subB h hs
theorem RLs.sub (hR:Rel R) {w:World} {v:Value} {l:List α} (h:RLs R k S w v l) (hs:∀ b,S b→S' b):RLs R k S' w v l:=h.subB hR fun b _=>hs b
theorem RLs.clip (hR:Rel R) {w:World} {v:Value} {l:List α} (h:RLs R k S w v l):RLs R k (Clip S w) w v l:=h.subB hR fun _ hb hs=>⟨hs,hb⟩
theorem RLs.ux (hR:Rel R) {w w1 w2:World} {v:Value} {l:List α} (h:RLs R k S w v l) (hx:Ext w1 w2) (q:Pres S w w1:=by exact pX):RLs R k S w2 v l:=(h.pres hR q).ext hR hx
theorem RLs.ug (hR:Rel R) {w w1 w2:World} {v:Value} {l:List α} {m:Nat} (h:RLs R k S w v l) (hg:w1.grownBy w2 (some m)) (q:Pres S w w1:=by exact pX) (hn:¬ S m:=by exact fun h=>by first | (simp only [Clip] at h;omega) | exact h.1 rfl | exact h.2 rfl | exact h.2.1 rfl | exact h.2.2 rfl | exact h.2.2.1 rfl | exact h.2.2.2 rfl | omega):RLs R k S w2 v l:=h.pres hR (q.grownN hg hn)
theorem RLs.nil (w:World):RLs R k S w (.slice none 0 0) []:=RSl.nil w
theorem RLs.form {l:List α} (h:RLs R k S w v l):∃ A c,v=.slice A l.length c∧l.length≤c∧c≤9223372036854775807:=RSl.form h
theorem RLs.at {l:List α} (h:RLs R k S w (.slice A n c) l):n=l.length∧n≤c∧c≤9223372036854775807:=by
  obtain ⟨h1,h2,_⟩:=RSl.cel h;exact ⟨h1,h2⟩
theorem RLs.get {l:List α} (h:RLs R k S w (.slice A n c) l) {i:Nat} (hi:i<n) :
    ∃ b off x cs,A=some ⟨b,off,none⟩∧l[i]?=some x∧cs.length=k∧(∀ j u,cs[j]?=some u→w.cell? ⟨b,off+i*k+j,none⟩=some u)∧R S w cs x:=by
  obtain ⟨hn,_,hx⟩:=RSl.elem h
  obtain ⟨b,off,ha,_,hc⟩:=hx (by omega)
  have hi':i<l.length:=by omega
  obtain ⟨cs,h1,h2,h3⟩:=hc i hi'
  exact ⟨b,off,l[i],cs,ha,List.getElem?_eq_getElem hi',h1,h2,h3⟩
theorem RLs.take {l:List α} (h:RLs R k S w (.slice A n c) l) {m:Nat} (hm:m≤n):RLs R k S w (.slice A m c) (l.take m):=by
  have:=h.at
  exact RSl.take h hm (by omega) (by omega)
theorem RLs.dropAt {b off:Nat} {l:List α} (h:RLs R k S w (.slice A n c) l) (hA:A=some ⟨b,off,none⟩) (hj:j≤n):RLs R k S w (.slice (some ⟨b,off+j*k,none⟩) (n - j) (c - j)) (l.drop j):=by
  subst hA
  obtain ⟨hn,hc,xs,⟨h1,h2,h3⟩,hr⟩:=RSl.cel h
  subst hn
  refine ⟨some ⟨b,off+j*k,none⟩,c - j,xs.drop (j*k),by rw [List.length_drop],by rw [List.length_drop];omega,⟨by rw [List.length_drop,List.length_drop,h1,Nat.sub_mul],fun u hu=>h2 u (List.mem_of_mem_drop hu),fun h0=>?_⟩,fun i hi=>?_,fun h0=>?_⟩
  · rw [List.length_drop] at h0
    obtain ⟨b',off',ha,hb,hx⟩:=h3 (by omega)
    cases ha
    refine ⟨b,off+j*k,rfl,hb,fun i u hu=>?_⟩
    rw [List.getElem?_drop] at hu
    rw [Nat.add_assoc]
    exact hx _ u hu
  · rw [List.length_drop] at hi
    have:=hr (j+i) (by omega)
    rw [List.getElem_drop]
    unfold chunk at this ⊢
    rw [List.drop_drop,← Nat.add_mul]
    exact this
  · rw [List.length_drop] at h0
    obtain ⟨b',off',ha,hS⟩:=RSl.inS h (by omega)
    cases ha
    exact ⟨b,_,rfl,hS⟩
theorem RLs.cut {l:List α} (h:RLs R k S w (.slice A n c) l) (hj:j≤n):RLs R k S w (.slice (cutA A c j k) (n - j) (c - j)) (l.drop j):=by
  have h0:=h.at
  by_cases hn:n=j
  · subst hn
    obtain ⟨C,_⟩:=h0
    have e:l.drop n=[]:=List.drop_eq_nil_of_le (by omega)
    rw [e]
    exact ⟨cutA A c n k,c - n,[],by simp,by simp;omega,Cel.none _ _ _,fun i hi=>absurd hi (by simp),fun hi=>absurd hi (by simp)⟩
  · obtain ⟨b,off,ha,_⟩:=RSl.inS h (by omega)
    rw [cutA_eq ha (by omega)]
    exact h.dropAt ha hj
theorem RLs.one {t:TypeId} {x:α} (h:Blk w g t cs) (hk:cs.length=k) (h1:∀ u∈cs,u.oneCell'=true) (hS:S g) (hx:R S w cs x):RLs R k S w (.slice (some ⟨g,0,none⟩) 1 1) [x]:=by
  refine ⟨some ⟨g,0,none⟩,1,cs,rfl,⟨Nat.le_refl _,by omega⟩,⟨by simp [hk],h1,fun _=>⟨g,0,rfl,h.lt,fun j u hu=>?_⟩⟩,fun i hi=>?_,fun _=>⟨g,0,rfl,hS⟩⟩
  · rw [Nat.zero_add,h.rule.1];exact hu
  · simp only [List.length_singleton] at hi
    obtain rfl:i=0:=by omega
    rw [chunk_self hk];exact hx
def OwnL (R:RelT α) (k:Nat) (e:TypeId) (base:Nat) (w:World) (v:Value) (n:Nat) (xs:List Value) (l:List α):Prop :=
  w.ownsRow base e k v n xs∧n=l.length∧(∀ u∈xs,u.oneCell'=true)∧∀ i (h:i<l.length),R (fun b=>base≤b∧some b≠v.ownBlock) w (chunk k xs i) l[i]
theorem OwnL.nil (w:World) (hb:base≤w.heap.size):OwnL R k e base w (.slice none 0 0) 0 [] [] :=
  ⟨own_nil w base e k,rfl,fun u h=>absurd h (by simp),fun i h=>absurd h (by simp)⟩
theorem OwnL.pres (hR:Rel R) {w w':World} {v:Value} {n:Nat} {xs:List Value} {l:List α} (h:OwnL R k e base w v n xs l) (hp:Pres (fun b=>base≤b) w w'):OwnL R k e base w' v n xs l:=by
  obtain ⟨h1,h2,h3,h4⟩:=h
  refine ⟨?_,h2,h3,fun i hi=>hR.pres (h4 i hi) ⟨hp.1,fun b hb=>hp.2 b hb.1⟩⟩
  refine ⟨h1.1,?_⟩
  rcases h1.2 with h5 | ⟨g,cap,cur,hv,hb,hg,h6⟩
  · exact .inl h5
  · exact .inr ⟨g,cap,cur,hv,hb,(hp.2 g hb (Array.getElem?_eq_some_iff.1 hg).1).trans hg,h6⟩
theorem OwnL.ext (hR:Rel R) {w w':World} {v:Value} {n:Nat} {xs:List Value} {l:List α} (h:OwnL R k e base w v n xs l) (he:Ext w w'):OwnL R k e base w' v n xs l:=h.pres hR (Pres.of_ext he)
theorem OwnL.rls (hR:Rel R) {w:World} {v:Value} {n:Nat} {xs:List Value} {l:List α} (h:OwnL R k e base w v n xs l):RLs R k (fun b=>base≤b) w v l:=by
  obtain ⟨h1,h2,h3,h4⟩:=h
  exact RSl.own h1 (fun b hb=>hb) h2 h3 fun i hi=>hR.sub (h4 i hi) fun b hb=>hb.1
theorem OwnL.snoc (hR:Rel R) {w w':World} {v v':Value} {n:Nat} {xs cs:List Value} {l:List α} {x:α} (h:OwnL R k e base w v n xs l) (hr:w'.ownsRow base e k v' (n+1) (xs++cs)) (hg:w.grownBy w' v.ownBlock) (hn:∀ g,g<w.heap.size→some g≠v.ownBlock→some g≠v'.ownBlock)
    (hk:cs.length=k) (h1:∀ u∈cs,u.oneCell'=true) (hx:R S w cs x) (hS:∀ b,b<w.heap.size→S b→base≤b∧some b≠v.ownBlock):OwnL R k e base w' v' (n+1) (xs++cs) (l++[x]):=by
  obtain ⟨q1,q2,q3,q4⟩:=h
  have mv:∀ {cs:List Value} {x:α},R (fun b=>base≤b∧some b≠v.ownBlock) w cs x→R (fun b=>base≤b∧some b≠v'.ownBlock) w' cs x:=fun {cs x} hq =>
    hR.sub (hR.pres (hR.subB (S':=fun b=>(base≤b∧some b≠v'.ownBlock)∧some b≠v.ownBlock) hq fun b hlt hb=>⟨⟨hb.1,hn b hlt hb.2⟩,hb.2⟩) ⟨hg.size,fun b hb hlt=>hg.block b hlt hb.2⟩) fun b hb=>hb.1
  have hxl:xs.length=n*k:=q1.1
  refine ⟨hr,by simp [q2],fun u hu=>?_,fun i hi=>?_⟩
  · rcases List.mem_append.1 hu with hu | hu
    · exact q3 u hu
    · exact h1 u hu
  · by_cases C:i<l.length
    · rw [List.getElem_append_left C,chunk_append_left hxl (by omega)]
      exact mv (q4 i C)
    · simp only [List.length_append,List.length_singleton] at hi
      obtain rfl:i=l.length:=by omega
      have C:chunk k (xs++cs) l.length=cs:=by rw [chunk_append_right hxl (by omega),q2,Nat.sub_self,chunk_self hk]
      rw [C,List.getElem_concat_length rfl]
      exact mv (hR.subB hx hS)
def RIt (S:Nat→Prop) (w:World) (cs:List Value) (x:It):Prop:=∃ A c,cs=[strOf x.name,.slice A x.data.length c]∧Fl S w 1 (.slice A x.data.length c) x.data.length (byteVals x.data)
def RCg (S:Nat→Prop) (w:World) (cs:List Value) (x:Cg):Prop:=∃ A c,cs=[strOf x.name,.slice A x.data.length c,.bool x.gone]∧Fl S w 1 (.slice A x.data.length c) x.data.length (byteVals x.data)
theorem rIt:Rel RIt:=⟨fun ⟨A,c,h1,h2⟩ hp=>⟨A,c,h1,h2.pres hp⟩,fun ⟨A,c,h1,h2⟩ hs=>⟨A,c,h1,h2.subB hs⟩⟩
theorem rCg:Rel RCg:=⟨fun ⟨A,c,h1,h2⟩ hp=>⟨A,c,h1,h2.pres hp⟩,fun ⟨A,c,h1,h2⟩ hs=>⟨A,c,h1,h2.subB hs⟩⟩
abbrev RIts (S:Nat→Prop) (w:World) (v:Value) (l:List It):Prop:=RLs RIt 2 S w v l
abbrev RCgs (S:Nat→Prop) (w:World) (v:Value) (l:List Cg):Prop:=RLs RCg 3 S w v l
abbrev dg (st:List UInt8) (l:List Value):List Value:=byteVals st++l
abbrev ag (l:List Value):Value:=.agg l.toArray
abbrev vcs (no:Int) (st:List UInt8) (c:Value) (i:Int) (o e p:Value):List Value:=.int .i64 no::dg st [c,.int .i64 i,o,e,p]
abbrev fcs (pub:List UInt8) (many no:Int) (c e:Value):List Value:=dg pub [.int .i64 many,.int .i64 no,c,e]
structure RSg (S:Nat→Prop) (w:World) (o e p:Value) (g:Sg):Prop where
  op:Fl S w 32 o g.op.length (digVals g.op)
  cl:Fl S w 32 e g.cl.length (digVals g.cl)
  path:Fl S w 32 p g.path.length (digVals g.path)
  o32:All32 g.op
  c32:All32 g.cl
  p32:All32 g.path
theorem RSg.pres {o e p:Value} {g:Sg} (h:RSg S w o e p g) (hp:Pres S w w'):RSg S w' o e p g:=⟨h.op.pres hp,h.cl.pres hp,h.path.pres hp,h.o32,h.c32,h.p32⟩
theorem RSg.subB {o e p:Value} {g:Sg} (h:RSg S w o e p g) (hs:∀ b,b<w.heap.size→S b→S' b):RSg S' w o e p g:=⟨h.op.subB hs,h.cl.subB hs,h.path.subB hs,h.o32,h.c32,h.p32⟩
structure RVp (S:Nat→Prop) (w:World) (c o e p:Value) (v:Vr):Prop where
  st:v.state.length=32
  chs:RCgs S w c v.chs
  sg:RSg S w o e p v.sg
theorem RVp.pres {c o e p:Value} {v:Vr} (h:RVp S w c o e p v) (hp:Pres S w w'):RVp S w' c o e p v:=⟨h.st,h.chs.pres rCg hp,h.sg.pres hp⟩
theorem RVp.subB {c o e p:Value} {v:Vr} (h:RVp S w c o e p v) (hs:∀ b,b<w.heap.size→S b→S' b):RVp S' w c o e p v:=⟨h.st,h.chs.subB rCg hs,h.sg.subB hs⟩
def RVr (S:Nat→Prop) (w:World) (cs:List Value) (v:Vr):Prop:=∃ c o e p,cs=vcs v.no v.state c v.sg.index o e p∧RVp S w c o e p v
theorem rVr:Rel RVr:=⟨fun ⟨c,o,e,p,h1,h2⟩ hp=>⟨c,o,e,p,h1,h2.pres hp⟩,fun ⟨c,o,e,p,h1,h2⟩ hs=>⟨c,o,e,p,h1,h2.subB hs⟩⟩
abbrev RVrs (S:Nat→Prop) (w:World) (v:Value) (l:List Vr):Prop:=RLs RVr 38 S w v l
structure RFo (S:Nat→Prop) (w:World) (c e:Value) (f:Fo):Prop where
  pub:f.pub.length=32
  items:RIts S w c f.items
  early:RVrs S w e f.early
theorem RFo.pres {c e:Value} {f:Fo} (h:RFo S w c e f) (hp:Pres S w w'):RFo S w' c e f:=⟨h.pub,h.items.pres rIt hp,h.early.pres rVr hp⟩
theorem RFo.subB {c e:Value} {f:Fo} (h:RFo S w c e f) (hs:∀ b,b<w.heap.size→S b→S' b):RFo S' w c e f:=⟨h.pub,h.items.subB rIt hs,h.early.subB rVr hs⟩
theorem sgNil_at (w:World):RSg S w (.slice none 0 0) (.slice none 0 0) (.slice none 0 0) sgNil:=⟨Fl.nil w,Fl.nil w,Fl.nil w,All32.nil,All32.nil,All32.nil⟩
theorem vrNil_at (w:World):RVp S w (.slice none 0 0) (.slice none 0 0) (.slice none 0 0) (.slice none 0 0) vrNil:=⟨rfl,RLs.nil w,sgNil_at w⟩
theorem foNil_at (w:World):RFo S w (.slice none 0 0) (.slice none 0 0) foNil:=⟨rfl,RLs.nil w,RLs.nil w⟩
end
section
open Go.RowKit Go.ChangeShapes Go.WideShapes Go.ChangeAt Go.Deep Go.Joins
set_option maxRecDepth 100000
section
variable {H:Type} {enc:TypeId × Value→H} {W:World}
theorem open_str1 {c:Value} {y:DataW H × List MemPlace} (h:DataW.trod enc Tryz.prog W 0 (fun _=>true) true n 9 [c]=some y):∃ s:List UInt8,c=strOf s:=by
  obtain ⟨s,hs,_,_⟩:=DataW.trod_string uu9 h
  injection hs with hs
  subst hs
  exact ⟨s.data.toList,by simp [strOf]⟩
theorem open_it (n:Nat) (cs':List Value) (y:DataW H × List MemPlace) (h:DataW.trod enc Tryz.prog W 0 (fun _=>true) true n 61 cs'=some y) (hr:Reach Tryz.prog 61 y.1) :
    ∃ x:It,RIt (Old W) W cs' x∧True∧OneC cs':=by
  obtain ⟨xs,m,_,hx,hlen,hl,hg⟩:=DataW.trod_struct uu61 h
  have hC:Tryz.prog.cellsOf 61=2:=by kernel_rfl
  rw [hC] at hlen
  match cs',hlen with
  | [c0,c1],_ =>
    match xs,hl with
    | [y0,y1],_ =>
      have C:DataW.trod enc Tryz.prog W 0 (fun _=>true) true m 9 [c0]=some y0:=hg 0 _ rfl
      have D:DataW.trod enc Tryz.prog W 0 (fun _=>true) true m 22 [c1]=some y1:=hg 1 _ rfl
      obtain ⟨s,rfl⟩:=open_str1 C
      have hy:y.1=DataW.agg [y0.1,y1.1]:=congrArg Prod.fst hx
      rw [hy] at hr
      obtain ⟨A,c,l,rfl,h1,_⟩:=open_bytes1 D (hr.field (j:=1) uu61 rfl rfl)
      refine ⟨⟨s,l⟩,⟨A,c,rfl,h1⟩,trivial,fun u hu=>?_⟩
      simp at hu
      rcases hu with rfl | rfl <;> rfl
theorem open_items {y:DataW H × List MemPlace} (h:DataW.trod enc Tryz.prog W 0 (fun _=>true) true n 26 [v]=some y) (hr:Reach Tryz.prog 26 y.1) :
    ∃ A c l,v=.slice A (List.length (α:=It) l) c∧RLs RIt 2 (Old W) W (.slice A l.length c) l:=by
  obtain ⟨u,l,hu,h1,_,_,_⟩:=open_rsl (k:=2) (R:=RIt (Old W)) (B:=fun _=>True) uu26 (by kernel_rfl) (by omega) h hr open_it
  injection hu with hu
  subst hu
  have h2:RLs RIt 2 (Old W) W v l:=h1
  obtain ⟨A,c,rfl,_,_⟩:=h2.form
  exact ⟨A,c,l,rfl,h2⟩
theorem open_cg (n:Nat) (cs':List Value) (y:DataW H × List MemPlace) (h:DataW.trod enc Tryz.prog W 0 (fun _=>true) true n 66 cs'=some y) (hr:Reach Tryz.prog 66 y.1) :
    ∃ x:Cg,RCg (Old W) W cs' x∧True∧OneC cs':=by
  obtain ⟨xs,m,_,hx,hlen,hl,hg⟩:=DataW.trod_struct uu66 h
  have hC:Tryz.prog.cellsOf 66=3:=by kernel_rfl
  rw [hC] at hlen
  match cs',hlen with
  | [c0,c1,c2],_ =>
    match xs,hl with
    | [y0,y1],_ =>
      have C:DataW.trod enc Tryz.prog W 0 (fun _=>true) true m 61 [c0,c1]=some y0:=by
        have e:Tryz.prog.cellsOf 61=2:=by kernel_rfl
        have q:DataW.trod enc Tryz.prog W 0 (fun _=>true) true m 61 (List.take (Tryz.prog.cellsOf 61) (List.drop 0 [c0,c1,c2]))=some y0:=hg 0 _ rfl
        rw [e] at q
        exact q
      have D:DataW.trod enc Tryz.prog W 0 (fun _=>true) true m 4 [c2]=some y1:=hg 1 _ rfl
      have hy:y.1=DataW.agg [y0.1,y1.1]:=congrArg Prod.fst hx
      rw [hy] at hr
      obtain ⟨x,⟨A,c,he,h1⟩,_,_⟩:=open_it m _ y0 C (hr.field (j:=0) uu66 rfl rfl)
      obtain ⟨b,hb,_⟩:=DataW.trod_bool uu4 D
      injection hb with hb
      simp only [List.cons.injEq,and_true] at he
      obtain ⟨rfl,rfl⟩:=he
      subst hb
      refine ⟨⟨x.name,x.data,b⟩,⟨A,c,rfl,h1⟩,trivial,fun u hu=>?_⟩
      simp at hu
      rcases hu with rfl | rfl | rfl <;> rfl
theorem open_changes {y:DataW H × List MemPlace} (h:DataW.trod enc Tryz.prog W 0 (fun _=>true) true n 27 [v]=some y) (hr:Reach Tryz.prog 27 y.1) :
    ∃ A c l,v=.slice A (List.length (α:=Cg) l) c∧RLs RCg 3 (Old W) W (.slice A l.length c) l:=by
  obtain ⟨u,l,hu,h1,_,_,_⟩:=open_rsl (k:=3) (R:=RCg (Old W)) (B:=fun _=>True) uu27 (by kernel_rfl) (by omega) h hr open_cg
  injection hu with hu
  subst hu
  have h2:RLs RCg 3 (Old W) W v l:=h1
  obtain ⟨A,c,rfl,_,_⟩:=h2.form
  exact ⟨A,c,l,rfl,h2⟩
theorem open_sg1 {y:DataW H × List MemPlace} (h:DataW.trod enc Tryz.prog W 0 (fun _=>true) true n 32 cs'=some y) (hr:Reach Tryz.prog 32 y.1) :
    ∃ (g:Sg) (O:Option Addr) (oc:Nat) (E:Option Addr) (ec:Nat) (P:Option Addr) (pc:Nat),cs'=[.int .i64 g.index,.slice O g.op.length oc,.slice E g.cl.length ec,.slice P g.path.length pc]∧RSg (Old W) W (.slice O g.op.length oc) (.slice E g.cl.length ec) (.slice P g.path.length pc) g:=by
  obtain ⟨xs,m,_,hx,hlen,hl,hg⟩:=DataW.trod_struct uu32 h
  have hC:Tryz.prog.cellsOf 32=4:=by kernel_rfl
  rw [hC] at hlen
  match cs',hlen with
  | [c0,c1,c2,c3],_ =>
    match xs,hl with
    | [y0,y1,y2,y3],_ =>
      have M:DataW.trod enc Tryz.prog W 0 (fun _=>true) true m 3 [c0]=some y0:=hg 0 _ rfl
      have U:DataW.trod enc Tryz.prog W 0 (fun _=>true) true m 30 [c1]=some y1:=hg 1 _ rfl
      have V:DataW.trod enc Tryz.prog W 0 (fun _=>true) true m 30 [c2]=some y2:=hg 2 _ rfl
      have Y:DataW.trod enc Tryz.prog W 0 (fun _=>true) true m 30 [c3]=some y3:=hg 3 _ rfl
      obtain ⟨Z,D,_,_⟩:=DataW.trod_int uu3 M
      injection D with D
      subst D
      have hy:y.1=DataW.agg [y0.1,y1.1,y2.1,y3.1]:=congrArg Prod.fst hx
      rw [hy] at hr
      obtain ⟨O,oc,op,rfl,h1,G⟩:=open_digs U (hr.field (j:=1) uu32 rfl rfl)
      obtain ⟨C,ec,cl,rfl,h2,I⟩:=open_digs V (hr.field (j:=2) uu32 rfl rfl)
      obtain ⟨P,pc,pa,rfl,h3,J⟩:=open_digs Y (hr.field (j:=3) uu32 rfl rfl)
      exact ⟨⟨Z,op,cl,pa⟩,O,oc,C,ec,P,pc,rfl,h1,h2,h3,G,I,J⟩
theorem cs38 {l:List Value} (h:l.length=38):∃ c0 s c1 r,l=c0::(s++c1::r)∧s=(l.drop 1).take 32∧[c0]=(l.drop 0).take 1∧[c1]=(l.drop 33).take 1∧r=(l.drop 34).take 4:=by
  match l,h with
  | a::l,h =>
    have h1:l.length=37:=by simpa using h
    have h2:l=l.take 32++l.drop 32:=(List.take_append_drop 32 l).symm
    have h3:(l.drop 32).length=5:=by rw [List.length_drop,h1]
    match hd:l.drop 32,h3 with
    | [b,r0,r1,r2,r3],_ =>
      refine ⟨a,l.take 32,b,[r0,r1,r2,r3],?_,by simp,by simp,?_,?_⟩
      · exact congrArg (a::·) (h2.trans (congrArg (l.take 32++·) hd))
      · rfl
      · show _=(l.drop 33).take 4
        rw [show l.drop 33=(l.drop 32).drop 1 by rw [List.drop_drop],hd];rfl
theorem open_vr1 {y:DataW H × List MemPlace} (h:DataW.trod enc Tryz.prog W 0 (fun _=>true) true n 34 cs'=some y) (hr:Reach Tryz.prog 34 y.1) :
    ∃ (x:Vr) (C:Option Addr) (cc:Nat) (O:Option Addr) (oc:Nat) (E:Option Addr) (ec:Nat) (P:Option Addr) (pc:Nat),cs'=vcs x.no x.state (.slice C x.chs.length cc) x.sg.index (.slice O x.sg.op.length oc) (.slice E x.sg.cl.length ec) (.slice P x.sg.path.length pc)
      ∧ RVp (Old W) W (.slice C x.chs.length cc) (.slice O x.sg.op.length oc) (.slice E x.sg.cl.length ec) (.slice P x.sg.path.length pc) x:=by
  obtain ⟨xs,m,_,hx,hlen,hl,hg⟩:=DataW.trod_struct uu34 h
  have hC:Tryz.prog.cellsOf 34=38:=by kernel_rfl
  rw [hC] at hlen
  obtain ⟨G,s,I,r,he,hs,h0,h1,D⟩:=cs38 hlen
  match xs,hl with
  | [y0,y1,y2,y3],_ =>
    have J:DataW.trod enc Tryz.prog W 0 (fun _=>true) true m 3 [G]=some y0:=by rw [h0];exact hg 0 _ rfl
    have G:DataW.trod enc Tryz.prog W 0 (fun _=>true) true m 29 s=some y1:=by
      have e:Tryz.prog.cellsOf 29=32:=by kernel_rfl
      have q:DataW.trod enc Tryz.prog W 0 (fun _=>true) true m 29 (List.take (Tryz.prog.cellsOf 29) (List.drop 1 cs'))=some y1:=hg 1 _ rfl
      rw [e] at q
      rw [hs];exact q
    have M:DataW.trod enc Tryz.prog W 0 (fun _=>true) true m 27 [I]=some y2:=by rw [h1];exact hg 2 _ rfl
    have I:DataW.trod enc Tryz.prog W 0 (fun _=>true) true m 32 r=some y3:=by
      have e:Tryz.prog.cellsOf 32=4:=by kernel_rfl
      have q:DataW.trod enc Tryz.prog W 0 (fun _=>true) true m 32 (List.take (Tryz.prog.cellsOf 32) (List.drop 34 cs'))=some y3:=hg 3 _ rfl
      rw [e] at q
      rw [D];exact q
    clear hs h0 h1 D hg
    have hy:y.1=DataW.agg [y0.1,y1.1,y2.1,y3.1]:=congrArg Prod.fst hx
    rw [hy] at hr
    obtain ⟨U,D,_,_⟩:=DataW.trod_int uu3 J
    injection D with D
    obtain ⟨st,hst,hst2⟩:=trod_bytes uu29 uu5 (by kernel_rfl) (by kernel_rfl) G
    obtain ⟨C,cc,ch,hch,h2⟩:=open_changes M (hr.field (j:=2) uu34 rfl rfl)
    obtain ⟨sg,O,oc,E,ec,P,pc,hsg,h3⟩:=open_sg1 I (hr.field (j:=3) uu34 rfl rfl)
    exact ⟨⟨U,st,ch,sg⟩,C,cc,O,oc,E,ec,P,pc,by rw [he,D,hst2,hch,hsg],hst,h2,h3⟩
theorem open_varg {dd:DataW H} (hv:Value.okWide Tryz.prog W .any b0 34 v) (h:DataW.Trod enc Tryz.prog W 0 (fun _=>true) true 34 v dd p) (hr:Reach Tryz.prog 34 dd) :
    ∃ (x:Vr) (C:Option Addr) (cc:Nat) (O:Option Addr) (oc:Nat) (E:Option Addr) (ec:Nat) (P:Option Addr) (pc:Nat),v=ag (vcs x.no x.state (.slice C x.chs.length cc) x.sg.index (.slice O x.sg.op.length oc) (.slice E x.sg.cl.length ec) (.slice P x.sg.path.length pc))
      ∧ RVp (Old W) W (.slice C x.chs.length cc) (.slice O x.sg.op.length oc) (.slice E x.sg.cl.length ec) (.slice P x.sg.path.length pc) x:=by
  obtain ⟨cs,rfl,_⟩:=okWide_struct uu34 hv
  obtain ⟨fuel,hf⟩:=h
  obtain ⟨x,C,cc,O,oc,E,ec,P,pc,he,h1⟩:=open_vr1 hf hr
  refine ⟨x,C,cc,O,oc,E,ec,P,pc,?_,h1⟩
  have:cs.toList=vcs x.no x.state (.slice C x.chs.length cc) x.sg.index (.slice O x.sg.op.length oc) (.slice E x.sg.cl.length ec) (.slice P x.sg.path.length pc):=he
  unfold ag
  rw [← this]
theorem open_iarg {dd:DataW H} (hv:Value.okWide Tryz.prog W .any b0 26 v) (h:DataW.Trod enc Tryz.prog W 0 (fun _=>true) true 26 v dd p) (hr:Reach Tryz.prog 26 dd) :
    ∃ A c l,v=.slice A (List.length (α:=It) l) c∧RLs RIt 2 (Old W) W (.slice A l.length c) l:=by
  obtain ⟨C,n,c,rfl⟩:=okWide_slice uu26 hv
  obtain ⟨fuel,hf⟩:=h
  exact open_items hf hr
end
end
section
open Go.RowKit Go.ChangeShapes Go.WideShapes Go.ChangeAt Go.Deep Go.Joins
set_option maxRecDepth 100000
section
variable {H:Type} {enc:TypeId × Value→H} {W:World}
theorem open_carg {dd:DataW H} (hv:Value.okWide Tryz.prog W .any b0 27 v) (h:DataW.Trod enc Tryz.prog W 0 (fun _=>true) true 27 v dd p) (hr:Reach Tryz.prog 27 dd) :
    ∃ A c l,v=.slice A (List.length (α:=Cg) l) c∧RLs RCg 3 (Old W) W (.slice A l.length c) l:=by
  obtain ⟨C,n,c,rfl⟩:=okWide_slice uu27 hv
  obtain ⟨fuel,hf⟩:=h
  exact open_changes hf hr
theorem open_vlarg (hv:Value.okWide Tryz.prog W .any b0 25 v):∃ A n c,v=.slice A n c:=by
  obtain ⟨C,n,c,rfl⟩:=okWide_slice uu25 hv
  exact ⟨C,n,c,rfl⟩
end
end
section
open Go.RowKit Go.ChangeShapes Go.WideShapes
def laid3 : List (String × DataW Unit) := [("stopwatch/digest.start", Rows.laid_stopwatch_digest_start), ("stopwatch/digest.permutations", Rows.laid_stopwatch_digest_permutations)]
theorem cells_of (h:∀ j,W.cell? ⟨g,j,none⟩=cs[j]?) (hlt:0<cs.length) (h1:∀ u∈cs,u.oneCell'=true):Cel W 1 (some ⟨g,0,none⟩) cs.length cs:=by
  refine ⟨by omega,h1,fun _=>⟨g,0,rfl,?_,fun j u hu=>by rw [Nat.zero_add,h j];exact hu⟩⟩
  have h0:=h 0
  rw [List.getElem?_eq_getElem hlt] at h0
  exact World.block_lt_of_cell? W ⟨g,0,none⟩ h0
theorem glob_of_laid (h:laidMetH Tryz.prog laid3 W):Glob W:=by
  rw [MakeChecks.laidMetH_plain _ _ _ (by kernel_rfl)] at h
  obtain ⟨ps,⟨C,t0,G,f0,p0,q0,J,ht0,U,D,⟨C,t1,I,f1,p1,q1,M,ht1,V,O,_,_⟩,_⟩,_,_⟩:=h
  obtain rfl := Option.some.inj ((show Tryz.prog.globalNamed "stopwatch/digest.start" = some 0 by kernel_rfl).symm.trans J)
  obtain rfl := Option.some.inj ((show Tryz.prog.globalNamed "stopwatch/digest.permutations" = some 1 by kernel_rfl).symm.trans M)
  obtain rfl:=Option.some.inj ((show (Tryz.prog.globals[0]?).map (·.type)=some 144 by kernel_rfl).symm.trans ht0)
  obtain rfl:=Option.some.inj ((show (Tryz.prog.globals[1]?).map (·.type)=some 157 by kernel_rfl).symm.trans ht1)
  have C:G.toList=u32Vals iv:=(trod_nums (k:=.u32) (n:=8) (l:=iv.map fun c=>(c.toNat:Int)) uu144 uu143 (by kernel_rfl) (by kernel_rfl) D).trans rfl
  have D:I.toList=byteVals permB:=(trod_rows (k:=.u8) (n:=10) (m:=16) (l:=perms.map fun r=>r.map fun (c:Nat)=>(c:Int)) uu157 uu156 uu5 (by kernel_rfl) (by kernel_rfl) (by kernel_rfl) O).trans (by kernel_rfl)
  constructor
  · have h0:=cells_of (W:=W) (g:=0) (cs:=G.toList) (fun j=>by rw [World.var?_cell J U j];simp) (by rw [C];decide) (by rw [C];exact u32Vals_one _)
    rw [C] at h0
    exact h0
  · have h1:=cells_of (W:=W) (g:=1) (cs:=I.toList) (fun j=>by rw [World.var?_cell M V j];simp) (by rw [D,byteVals_len permB_len];decide) (by rw [D];exact byteVals_one _)
    rw [D,byteVals_len permB_len] at h1
    exact h1
theorem door_met (os:Os) (args:Array Value):laidMetH Tryz.prog laid3 ((World.doorLaid Tryz.prog 400 os).forCall (fun _ _=>0) ⟨#[],args,[]⟩).memory :=
  laidMetH_of_parts (laidMet_of_run' 8 (by kernel_rfl) (by kernel_rfl)) (by kernel_rfl)
theorem own3:ownKnob Tryz.prog.godebug=none:=by kernel_rfl
end
theorem at_app {A:List Value} (h:A.length=n):(A++B)[n+k]?=B[k]?:=by
  rw [List.getElem?_append_right (by omega)];congr 1;omega
theorem set_app {A:List Value} (h:A.length=n):(A++B).set (n+k) u=A++B.set k u:=by
  rw [List.set_append_right _ _ (by omega)];congr 2;omega
theorem one_nil:∀ u∈([]:List Value),u.oneCell'=true:=fun _ h=>absurd h (by simp)
theorem one_cons {l:List Value} (h:u.oneCell'=true) (k:∀ v∈l,v.oneCell'=true):∀ v∈u::l,v.oneCell'=true:=fun v hv=>by
  rcases List.mem_cons.1 hv with rfl | hv
  · exact h
  · exact k v hv
theorem one_app {A:List Value} (h:∀ v∈A,v.oneCell'=true) (k:∀ v∈B,v.oneCell'=true):∀ v∈A++B,v.oneCell'=true:=fun v hv=>by
  rcases List.mem_append.1 hv with hv | hv
  · exact h v hv
  · exact k v hv
theorem len_dig (h:st.length=32):(byteVals st++B).length=32+B.length:=by rw [List.length_append,byteVals_len h]
theorem Blk.part {w:World} {g:Nat} {t:TypeId} (h:Blk w g t cs) {A M B:List Value} {o:Nat} (e:cs=A++(M++B)) (ho:A.length=o):∀ j v,M[j]?=some v→w.cell? ⟨g,o+j,none⟩=some v:=by
  intro j v hv
  subst ho
  rw [h.rule.1,e,at_app rfl,List.getElem?_append_left (List.getElem?_eq_some_iff.1 hv).1]
  exact hv
theorem cells_part {w:World} {b p:Nat} (h:∀ j u,cs[j]?=some u→w.cell? ⟨b,p+j,none⟩=some u) {A M B:List Value} {o:Nat} (e:cs=A++(M++B)) (ho:A.length=o):∀ j v,M[j]?=some v→w.cell? ⟨b,p+o+j,none⟩=some v:=by
  intro j v hv
  subst ho
  rw [Nat.add_assoc]
  refine h _ _ ?_
  rw [e,at_app rfl,List.getElem?_append_left (List.getElem?_eq_some_iff.1 hv).1]
  exact hv
theorem list32 {l:List UInt8} (h:l.length=32):∃ a0 a1 a2 a3 a4 a5 a6 a7 a8 a9 b0 b1 b2 b3 b4 b5 b6 b7 b8 b9 c0 c1 c2 c3 c4 c5 c6 c7 c8 c9 d0 d1,l=[a0,a1,a2,a3,a4,a5,a6,a7,a8,a9,b0,b1,b2,b3,b4,b5,b6,b7,b8,b9,c0,c1,c2,c3,c4,c5,c6,c7,c8,c9,d0,d1]:=by
  refine ⟨l[0],l[1],l[2],l[3],l[4],l[5],l[6],l[7],l[8],l[9],l[10],l[11],l[12],l[13],l[14],l[15],l[16],l[17],l[18],l[19],l[20],l[21],l[22],l[23],l[24],l[25],l[26],l[27],l[28],l[29],l[30],l[31],?_⟩
  refine List.ext_getElem (by simp [h]) fun i hi _=>?_
  have:i=0∨i=1∨i=2∨i=3∨i=4∨i=5∨i=6∨i=7∨i=8∨i=9∨i=10∨i=11∨i=12∨i=13∨i=14∨i=15∨i=16∨i=17∨i=18∨i=19∨i=20∨i=21∨i=22∨i=23∨i=24∨i=25∨i=26∨i=27∨i=28∨i=29∨i=30∨i=31:=by omega
  rcases this with rfl | rfl | rfl | rfl | rfl | rfl | rfl | rfl | rfl | rfl | rfl | rfl | rfl | rfl | rfl | rfl | rfl | rfl | rfl | rfl | rfl | rfl | rfl | rfl | rfl | rfl | rfl | rfl | rfl | rfl | rfl | rfl <;> rfl
theorem build_fo {w:World} {pub:List UInt8} (h:pub.length=32):(Instr.build 48 #[(0,.agg (byteVals pub).toArray),(1,.int .i64 many)]).run Tryz.prog w=.ok (ag (dg pub [.int .i64 many,.int .i64 0,.slice none 0 0,.slice none 0 0])) w:=by
  obtain ⟨C,C,C,C,C,C,C,C,C,C,C,C,C,C,C,C,C,C,C,C,C,C,C,C,C,C,C,C,C,C,C,C,rfl⟩:=list32 h
  kernel_rfl
theorem build_vr {w:World} (h:st.length=32):(Instr.build 34 #[(0,.int .i64 no),(1,.agg (byteVals st).toArray),(2,.slice A n c)]).run Tryz.prog w=.ok (ag (.int .i64 no::dg st [.slice A n c,.int .i64 0,.slice none 0 0,.slice none 0 0,.slice none 0 0])) w:=by
  obtain ⟨C,C,C,C,C,C,C,C,C,C,C,C,C,C,C,C,C,C,C,C,C,C,C,C,C,C,C,C,C,C,C,C,rfl⟩:=list32 h
  kernel_rfl
theorem args0_1 {ρ:Operand→Value} {v0:Value} (h0:ρ x0=v0):#[]++#[x0].map ρ=#[v0]:=by simp [h0]
theorem args0_2 {ρ:Operand→Value} {x1:Operand} {v0:Value} (h0:ρ x0=v0) (h1:ρ x1=v1):#[]++#[x0,x1].map ρ=#[v0,v1]:=by simp [h0,h1]
theorem all_succ {p:Nat→Prop} (h:∀ j,j<k→p j) (hk:p k):∀ j,j<k+1→p j:=fun j hj=>by
  by_cases e:j<k
  · exact h j e
  · obtain rfl:j=k:=by omega
    exact hk
theorem fl_none {S:Nat→Prop} {w:World} {m:Nat} {l:List UInt8} (h:Fl S w 1 (.slice A n c) m (byteVals l)) (hA:A.isNone=true):n=0∧l=[]:=by
  obtain ⟨h1,_,h2⟩:=h.cel
  have hb:=h.blen
  have h0:m=0:=by
    rcases Nat.eq_zero_or_pos m with e | e
    · exact e
    · obtain ⟨b,o,ha,_⟩:=h2.2.2 e
      rw [ha] at hA;cases hA
  exact ⟨by omega,List.eq_nil_of_length_eq_zero (by omega)⟩
theorem RLs.norm {R:RelT α} {S:Nat→Prop} {w:World} {l:List α} (h:RLs R k S w (.slice A n c) l):RLs R k S w (.slice A l.length c) l:=by
  obtain ⟨e,_⟩:=h.at
  rw [← e];exact h
theorem head_at {l:List α} {x:α} (h:l[0]?=some x):l.head?=some x:=by rw [List.head?_eq_getElem?];exact h
theorem head_no {l:List α} (h:l.length=0):l.head?=none:=by rw [List.eq_nil_of_length_eq_zero h];rfl
def FarX (S:Nat→Prop) (w w':World):Prop:=Pres S w w'∧w'.os=w.os∧w'.tape=w.tape∧w'.output=w.output
section
variable {S S':Nat→Prop} {a b w w':World}
theorem FarX.refl (w:World):FarX S w w:=⟨Pres.refl w,rfl,rfl,rfl⟩
theorem FarX.trans (h:FarX S a b) (k:FarX S b w):FarX S a w:=⟨h.1.trans k.1,k.2.1.trans h.2.1,k.2.2.1.trans h.2.2.1,k.2.2.2.trans h.2.2.2⟩
theorem FarX.of_ext (h:Ext a w):FarX S a w:=⟨Pres.of_ext h,h.os,h.tape,h.output⟩
theorem FarX.ext (h:FarX S a w) (k:Ext w w'):FarX S a w':=h.trans (FarX.of_ext k)
theorem FarX.of_pres {r:Option Nat} (h:FarX S a w) (hg:w.grownBy w' r) (hp:Pres S w w'):FarX S a w':=h.trans ⟨hp,hg.os,hg.tape,hg.output⟩
theorem FarX.grownN (h:FarX S a w) (hg:w.grownBy w' (some n)) (hn:¬ S n):FarX S a w':=h.of_pres hg ((Pres.refl w).grownN hg hn)
theorem FarX.gn (h:FarX S a w) (hg:w.grownBy w' (some n)) (hn:¬ S n:=by first | omega | (intro h;simp at h;omega)):FarX S a w':=h.grownN hg hn
theorem FarX.gc (h:FarX S a w) (hg:w.grownBy w' (some n)) (hn:¬ S n:=by exact fun h=>by first | (simp only [Clip] at h;omega) | exact h.1 rfl | exact h.2 rfl | exact h.2.1 rfl | exact h.2.2 rfl | exact h.2.2.1 rfl | exact h.2.2.2 rfl | omega):FarX S a w':=h.grownN hg hn
theorem FarX.row {xs:List Value} (h:FarX S a w) (hg:w.grownBy w' v.ownBlock) (ho:w.ownsRow base e k v n xs) (hn:∀ b,base≤b→¬ S b):FarX S a w':=h.of_pres hg ((Pres.refl w).row hg ho hn)
theorem FarX.sub (h:FarX S' a w) (hs:∀ b,S b→S' b):FarX S a w:=⟨⟨h.1.1,fun b hb hl=>h.1.2 b (hs b hb) hl⟩,h.2⟩
theorem FarX.toExt (h:FarX S a w) (hs:∀ b,b<a.heap.size→S b):Ext a w:=⟨h.2.1,h.2.2.1,h.2.2.2,h.1.1,fun b hb=>h.1.2 b (hs b hb) hb⟩
end
theorem dstep_x {x y:List It} {a:It} (hx:x[0]?=some a) (hy:y.length=0):dstep (x.head?,y.head?)=[⟨a.name,[],true⟩]:=by rw [head_at hx,head_no hy];rfl
theorem dstep_y {x y:List It} {b:It} (hy:y[0]?=some b) (hx:x.length=0):dstep (x.head?,y.head?)=[⟨b.name,b.data,false⟩]:=by rw [head_at hy,head_no hx];rfl
theorem dstep_ne {x y:List It} {a b:It} (hx:x[0]?=some a) (hy:y[0]?=some b) (h:¬ a.data=b.data):dstep (x.head?,y.head?)=[⟨b.name,b.data,false⟩]:=by rw [head_at hy,head_at hx];exact if_neg h
theorem dstep_eq {x y:List It} {a b:It} (hx:x[0]?=some a) (hy:y[0]?=some b) (h:a.data=b.data):dstep (x.head?,y.head?)=[]:=by rw [head_at hy,head_at hx];exact if_pos h
def astepX (p:Option It × Option Cg):List It:=if aok p then astep p else []
theorem astep_x {x:List It} {y:List Cg} {a:It} (hx:x[0]?=some a) (hy:y.length=0):astepX (x.head?,y.head?)=[a]∧aok (x.head?,y.head?)=true:=by rw [head_at hx,head_no hy];exact ⟨rfl,rfl⟩
theorem astep_gone {x:List It} {y:List Cg} {b:Cg} (hy:y[0]?=some b) (h:b.gone=true):astepX (x.head?,y.head?)=[]∧aok (x.head?,y.head?)=decide ((0:Int)<(x.length:Int)):=by
  rw [head_at hy]
  cases x with
  | nil=>simp [astepX,aok,h]
  | cons a x=>simp [astepX,aok,astep,h] <;> omega
theorem astep_same {x:List It} {y:List Cg} {a:It} {b:Cg} (hx:x[0]?=some a) (hy:y[0]?=some b) (hg:b.gone=false) (h:a.data=b.data):astepX (x.head?,y.head?)=[]∧aok (x.head?,y.head?)=false:=by
  rw [head_at hy,head_at hx];simp [astepX,aok,hg,h]
theorem astep_ne {x:List It} {y:List Cg} {a:It} {b:Cg} (hx:x[0]?=some a) (hy:y[0]?=some b) (hg:b.gone=false) (h:¬ a.data=b.data):astepX (x.head?,y.head?)=[⟨b.name,b.data⟩]∧aok (x.head?,y.head?)=true:=by
  rw [head_at hy,head_at hx];simp [astepX,aok,astep,hg,h]
theorem astep_y {x:List It} {y:List Cg} {b:Cg} (hy:y[0]?=some b) (hg:b.gone=false) (hx:x.length=0):astepX (x.head?,y.head?)=[⟨b.name,b.data⟩]∧aok (x.head?,y.head?)=true:=by
  rw [head_at hy,head_no hx];simp [astepX,aok,astep,hg]
theorem blk_normal {id:Nat} {Q:Exit→Act→World→Prop} {a:Act} {w:World} (h:Q .normal a w):Exit.inBlock id Q .normal a w:=h
theorem Fl.digB {w:World} {g:Nat} {t:TypeId} {A:List Value} (h:Blk w g t cs) (e:cs=A++(byteVals st++B)) (ho:A.length=o) (hst:st.length=32):Fl (fun b=>b=g) w 1 (.slice (some ⟨g,o,none⟩) 32 32) 32 (byteVals st) :=
  ⟨some ⟨g,o,none⟩,32,rfl,⟨Nat.le_refl _,by omega⟩,⟨by rw [byteVals_len hst],byteVals_one _,fun _=>⟨g,o,rfl,h.lt,Blk.part h e ho⟩⟩,fun _=>⟨g,o,rfl,rfl⟩⟩
theorem num_step {e:Nat} (hk:k<8) (hl:bb.length=8) (h:∀ j,j<k→bb.getD j 0=(numL n 8).getD j 0) (he:e=8*(7 - k)):∀ j,j<k+1→(bb.set k (UInt8.ofNat (n / 2 ^ e))).getD j 0=(numL n 8).getD j 0:=by
  intro j hj
  by_cases ej:j=k
  · subst ej
    subst he
    have h1:=numL_getD n 8 (7 - j) (by omega)
    rw [show 8 - 1 - (7 - j)=j by omega] at h1
    rw [h1,List.getD_eq_getElem?_getD,List.getElem?_set_self (by omega),Option.getD_some,Nat.pow_mul]
  · rw [List.getD_eq_getElem?_getD,List.getElem?_set_ne (by omega),← List.getD_eq_getElem?_getD]
    exact h j (by omega)
theorem num_all (hl:bb.length=8) (h:∀ j,j<8→bb.getD j 0=(numL n 8).getD j 0):bb=numL n 8:=by
  refine List.ext_getElem (by rw [hl,numL_len]) fun i h1 h2=>?_
  have:=h i (by omega)
  rw [List.getD_eq_getElem?_getD,List.getD_eq_getElem?_getD,List.getElem?_eq_getElem h1,List.getElem?_eq_getElem h2] at this
  exact this
theorem cgleaf_step {l:List Cg} {x:Cg} {b:UInt8} (hx:l[k]?=some x) (hb:b=bitB x.gone):(l.take k).map cgLeaf++[tagged [99,104,97,110,103,101] ([b,UInt8.ofNat x.name.length]++x.name++x.data)]=(l.take (k+1)).map cgLeaf:=by
  subst hb
  rw [List.take_add_one,hx,List.map_append];rfl
theorem cgleaves_32 (l:List Cg):All32 (l.map cgLeaf):=fun x hx=>by
  obtain ⟨y,_,rfl⟩:=List.mem_map.1 hx
  exact cgLeaf_len y
theorem valid_name {l:List Cg} {x:Cg} (h:validC l) (hx:l[i]?=some x):1≤x.name.length∧x.name.length≤64:=named_ok h.2.1 _ (List.mem_map.2 ⟨x,List.mem_of_getElem? hx,rfl⟩)
theorem splice_mid {old A M cells new:List Value} (e:old=A++(M++B)) (ho:A.length=o) (hm:M.length=cells.length) (e2:A++(cells++B)=new):splice old o cells=new:=by
  subst e
  subst e2
  subst ho
  unfold splice
  rw [List.take_left,List.drop_append,List.drop_of_length_le (by omega),List.nil_append,Nat.add_sub_cancel_left,← hm,List.drop_left]
theorem first_all {g:Vr→Int} {l:List Vr} (h:∀ j,j<k→∀ x,l[j]?=some x→g x=0) (hk:l.length≤k):firstE g l=0:=by
  induction l generalizing k with
  | nil=>rfl
  | cons x l ih =>
    simp only [List.length_cons] at hk
    have h0:g x=0:=h 0 (by omega) x rfl
    rw [firstE,if_neg (fun q=>q h0)]
    exact ih (k:=k - 1) (fun j hj y hy=>h (j+1) (by omega) y (by simpa using hy)) (by omega)
theorem first_at {g:Vr→Int} {l:List Vr} {x:Vr} (h:∀ j,j<k→∀ x,l[j]?=some x→g x=0) (hx:l[k]?=some x) (hg:g x≠0):firstE g l=g x:=by
  induction l generalizing k with
  | nil=>simp at hx
  | cons y l ih =>
    cases k with
    | zero=>simp at hx;subst hx;rw [firstE,if_pos hg]
    | succ k =>
      have h0:g y=0:=h 0 (by omega) y rfl
      rw [firstE,if_neg (fun q=>q h0)]
      exact ih (k:=k) (fun j hj z hz=>h (j+1) (by omega) z (by simpa using hz)) (by simpa using hx)
def lastN (n:Int) (l:List Vr) (i:Nat):Int:=if i=0 then n else (l.getD (i - 1) default).no
theorem lastN_succ {n:Int} {l:List Vr} {x:Vr} (h:l[i]?=some x):x.no=lastN n l (i+1):=by simp [lastN,List.getD_eq_getElem?_getD,h]
theorem asc_no {n:Int} {l:List Vr} {x:Vr} (hx:l[k]?=some x) (h:x.no≤lastN n l k):¬ asc n l:=fun q=>by
  have hk:k<l.length:=(List.getElem?_eq_some_iff.1 hx).1
  have h1:lastN n l k<(l.getD k default).no:=q k hk
  rw [List.getD_eq_getElem?_getD,hx,Option.getD_some] at h1
  omega
theorem asc_step {n:Int} {l:List Vr} {x:Vr} (hx:l[k]?=some x) (h:¬ x.no≤lastN n l k):lastN n l k<(l.getD k default).no:=by
  rw [List.getD_eq_getElem?_getD,hx,Option.getD_some];omega
theorem asc_of {n:Int} {l:List Vr} (h:∀ j,j<k→lastN n l j<(l.getD j default).no) (hk:l.length≤k):asc n l:=fun i hi=>h i (by omega)
theorem le_mid {a b x y:Nat} (h:a=x) (k:b=y) (e:o+y≤x):o+b≤a:=by omega
theorem dec_ne0 {x:Int} (h:decide ((x:Int)≠(0:Int))=false):x=0:=Decidable.not_not.1 (of_decide_eq_false h)
theorem zero32_len:zero32.length=32:=rfl
abbrev vz:List Value:=(.int .i64 0)::dg zero32 [(.slice none 0 0),(.int .i64 0),(.slice none 0 0),(.slice none 0 0),(.slice none 0 0)]
abbrev fz:List Value:=dg zero32 [(.int .i64 0),(.int .i64 0),(.slice none 0 0),(.slice none 0 0)]
section
variable {ρ:Operand→Value} {W:World} {d:Option Tmp} {t:TypeId} {p:String} {af:Array Edge} {g:Option (Nat × Bool)} {x y:Operand} {xt yt:TypeId} {l m:List UInt8}
theorem lt_str (w:World) (a b:List UInt8):(binOp .lss 9 (strOf a) (strOf b)).run Tryz.prog w=.ok (.bool (ltS a b)) w:=by
  show Sem.run Tryz.prog (Op.stringOp .lss ⟨a.toArray⟩ ⟨b.toArray⟩) w=_
  simp [Op.stringOp,go_sem]
theorem ge_str (w:World) (a b:List UInt8):(binOp .geq 9 (strOf a) (strOf b)).run Tryz.prog w=.ok (.bool (!ltS a b)) w:=by
  show Sem.run Tryz.prog (Op.stringOp .geq ⟨a.toArray⟩ ⟨b.toArray⟩) w=_
  simp [Op.stringOp,go_sem]
theorem gt_str (w:World) (a b:List UInt8):(binOp .gtr 9 (strOf a) (strOf b)).run Tryz.prog w=.ok (.bool (ltS b a)) w:=by
  have h:(binOp .gtr 9 (.string ⟨a.toArray⟩) (.string ⟨b.toArray⟩)).run Tryz.prog w=.ok (.bool (!(Op.bytesLess a b||a==b))) w:=by
    show Sem.run Tryz.prog (Op.stringOp .gtr ⟨a.toArray⟩ ⟨b.toArray⟩) w=_
    simp [Op.stringOp,go_sem]
  unfold strOf
  rw [h]
  congr 2
  cases h1:ltS a b
  · have h1':Op.bytesLess a b=false:=h1
    rw [h1',Bool.false_or]
    by_cases h2:a=b
    · subst h2;rw [lt_irr];simp
    · cases h3:ltS b a
      · exact absurd (lt_conn h1 h3) h2
      · simp [h2]
  · have h1':Op.bytesLess a b=true:=h1
    rw [h1',lt_asym h1];rfl
theorem rn_lss_s (hx:ρ x=strOf l) (hy:ρ y=strOf m) (hu:xt=9):(execOp ρ ⟨d,.binOp .lss xt x y yt,t,p,af,g⟩).run Tryz.prog W=.ok (.value (.bool (ltS l m))) W:=by
  subst hu;exact rn_bin hx hy guard_str (lt_str W l m)
theorem rn_geq_s (hx:ρ x=strOf l) (hy:ρ y=strOf m) (hu:xt=9):(execOp ρ ⟨d,.binOp .geq xt x y yt,t,p,af,g⟩).run Tryz.prog W=.ok (.value (.bool (!ltS l m))) W:=by
  subst hu;exact rn_bin hx hy guard_str (ge_str W l m)
theorem rn_gtr_s (hx:ρ x=strOf l) (hy:ρ y=strOf m) (hu:xt=9):(execOp ρ ⟨d,.binOp .gtr xt x y yt,t,p,af,g⟩).run Tryz.prog W=.ok (.value (.bool (ltS m l))) W:=by
  subst hu;exact rn_bin hx hy guard_str (gt_str W l m)
end
theorem retCC1 {m:List (Nat × Value)} {a:Act} {P:Program} {w:World} {t s u b g:Nat} {ty2 tt2:TypeId} {cs2:List Value} {td2:TypeDesc} (hF:Sl N m a) (hr:fn.results=#[.cell t ty,.cell s ty2,.tmp u]) (hv:look m t=some (vq b 0)) (hw:look m s=some (vq g 0)) (hu:look m u=some v2)
    (hB:Blk w b tt cs) (hty:P.underlying ty=some td) (hd:aggTy td=true) (hi:(P.info? ty).map (·.size)=some cs.length)
    (hB2:Blk w g tt2 cs2) (hty2:P.underlying ty2=some td2) (hd2:aggTy td2=true) (hi2:(P.info? ty2).map (·.size)=some cs2.length) (h:R (.returned (.tuple #[.agg cs.toArray,.agg cs2.toArray,v2])) w):bodyPost P fn R .ret a w:=by
  have h1:=hF.get hv
  have h2:=hF.get hu
  have h3:=hF.get hw
  simp only [Act.eval] at h1 h2 h3
  refine bodyPost_ret ?_ hF.2.1 h
  have C:=run_loadVar_row (P:=P) w b tt ty cs.toArray (0,0) td hB hty (by cases td <;> simp_all [aggTy]) (by simpa using hi)
  have D:=run_loadVar_row (P:=P) w g tt2 ty2 cs2.toArray (0,0) td2 hB2 hty2 (by cases td2 <;> simp_all [aggTy]) (by simpa using hi2)
  rw [Array.getD_eq_getD_getElem?] at h1 h2 h3
  simp [results,hr,h1,h2,h3,asAddr,C,D]
theorem retS1 {m:List (Nat × Value)} {a:Act} {P:Program} {w:World} {t u b:Nat} (hF:Sl N m a) (hr:fn.results=#[.cell t ty,.tmp u]) (hv:look m t=some (vq b 0)) (hu:look m u=some v2)
    (hB:Blk w b tt [v1]) (hty:P.underlying ty=some td) (hd:aggTy td=false) (h:R (.returned (.tuple #[v1,v2])) w):bodyPost P fn R .ret a w:=by
  have h1:=hF.get hv
  have h2:=hF.get hu
  simp only [Act.eval] at h1 h2
  refine bodyPost_ret ?_ hF.2.1 h
  have C:(isAgg ty).run P w=.ok false w:=by cases td <;> simp_all [isAgg,run_underlying hty,aggTy]
  have D:(loadVar ty ⟨b,0,none⟩).run P w=.ok v1 w:=by
    have hc:w.cell? ⟨b,0,none⟩=some v1:=by rw [hB.rule.1];rfl
    simp [loadVar,go_sem,C,hc]
  rw [Array.getD_eq_getD_getElem?] at h1 h2
  simp [results,hr,h1,h2,asAddr,D]
section
variable {P:Program} {ρ:Operand→Value} {W:World} {d:Option Tmp} {t:TypeId} {p:String} {af:Array Edge} {g:Option (Nat × Bool)} {x y:Operand}
theorem rn_eqnil {xt yt:TypeId} (hu:P.underlying xt=some (.slice e)) (hx:ρ x=.slice A n c) (hy:ρ y=.slice none 0 0):(execOp ρ ⟨d,.binOp .eql xt x y yt,t,p,af,g⟩).run P W=.ok (.value (.bool A.isNone)) W :=
  rn_bin hx hy (by unfold eqGuard;simp <;> rfl) (Lib.run_eql_slice_nil W _ _ A n c 0 0 hu)
end
theorem getIt {l:List It} {x:It} (h:l[i]?=some x):(itNames l).getD i []=x.name:=by simp [itNames,List.getD_eq_getElem?_getD,h]
theorem getCg {x:Cg} (h:l[i]?=some x):(cgNames l).getD i []=x.name:=by simp [cgNames,List.getD_eq_getElem?_getD,h]
theorem name_yes {l:List (List UInt8)} {s:List UInt8} (h:l.getD i []=s) (ho:okN s) (hp:0<i→ltS (l.getD (i - 1) []) (l.getD i [])=true):nameAt l i:=⟨by rw [h];exact ho,hp⟩
theorem named_no {l:List (List UInt8)} (hk:k<l.length) (h:¬ nameAt l k):¬ named l:=fun q=>h (q k hk)
theorem itemName_any (n:List UInt8) (d:Value) (w:World) :
  Calls Tryz.prog 56 #[.agg #[strOf n,d]] w (fun e w'=>e=.returned (strOf n)∧Ext w w'):=by
 exact calls_enter Tryz.func56 rfl rfl rfl fun _ C=>wr fun D I=>C.xb rfl fun G C _ C D D D J=>C.xv (strOf ([])) fun _ C=>wn I<|wr fun I I=>C.xv (vp G)<|Xw (strOf n) (fun F=>rl F rfl (D.rule.1 0))<|Xa rfl fun _ C=>wn I<|wp_ret<|ret1 C rfl rfl<|⟨rfl,eX⟩
theorem changeName_b (n:List UInt8) (d:Value) (g:Bool) (w:World) :
  Calls Tryz.prog 111 #[.agg #[strOf n,d,.bool g]] w (fun e w'=>e=.returned (strOf n)∧Ext w w'):=by
 exact calls_enter Tryz.func111 rfl rfl rfl fun _ C=>wr fun D I=>C.xb rfl fun C D _ D G G G J=>D.xv (strOf ([])) fun _ D=>wn I<|wr fun I I=>D.xv (vp C)<|Xv (vp C)<|Xw (strOf n) (fun F=>rl F rfl (G.rule.1 0))<|Xa rfl fun _ C=>wn I<|wp_ret<|ret1 C rfl rfl<|⟨rfl,eX⟩
theorem changeName_any (n:List UInt8) (d:Value) {g:Bool} (v:Value) (w:World) (hv:v=.bool g:=by rfl):Calls Tryz.prog 111 #[.agg #[strOf n,d,v]] w (fun e w'=>e=.returned (strOf n)∧Ext w w'):=by
 subst hv
 exact changeName_b n d g w
theorem namedIt_any (A:Option Addr) (c:Nat) (l:List It) (w:World) (h:RLs RIt 2 S w (vl A l.length c) l) :
  Calls Tryz.prog 93 #[.slice A l.length c,.func (.func 56) #[] #[]] w (fun e w'=>e=.returned (.bool (decide (named (itNames l))))∧Ext w w'):=by
 have hc:RLs RIt 2 (Clip S w) w (vl A l.length c) l:=RLs.clip rIt h
 obtain ⟨-,hck,hcm⟩:=RLs.at h
 refine calls_enter Tryz.func93 rfl rfl rfl fun _ hF=>wr fun K1 ag=>hF.xv (.bool false) fun _ F3=>wn ag<|wp_seq_k fun K4 aD=>wr fun K5 al=>F3.xm rfl<|Xv (vi l.length)<|Xv (vi 0) fun _ ag=>wn al<|wp_block<|wp_loop (fun a' W=>∃ (k:Nat),Sl 43 [(0,(vl A l.length c)),(1,(.func (.func 56) #[] #[])),(4,(.bool false)),(8,(vl A l.length c)),(9,(vi l.length)),(10,(vi k))] a'∧k≤l.length∧(∀ j,j<k→nameAt (itNames l) j)∧Ext w W∧w.heap.size≤W.heap.size) (fun a' _=>l.length - (intOf (a'.eval (.tmp 10))).toNat) ⟨0,ag.j,(by omega),(fun j hj=>absurd hj (by omega)),(Ext.refl w),(Nat.le_refl _)⟩ ?_
 rintro ag ag ⟨k,ag,al,ae,al,aA⟩
 have ak:=ag
 have aA:=al.size
 refine wr fun aA aA=>ag.xv (vd ((k:Int)<(l.length:Int))) fun _ V=>wn aA<|wp_seq_k fun ag ag=>?_
 by_cases aA:(k:Int)<(l.length:Int)
 ·refine V.ct<|wp_skip<|ag _ _<|wp_seq_k fun ag aj=>wp_block<|wr fun ag aC=>V.xm rfl fun _ av=>?_
  have ag:=RLs.ext rIt hc al
  obtain ⟨ax,aL,C,al,az,M,al,aF,aJ⟩:=RLs.get ag (by omega:k<l.length)
  obtain ⟨I,J,rfl,aH⟩:=aJ
  have ag:=(Fl.cel aH).2.1
  refine av.xw (vq ax (aL+k*2)) (fun F=>rn_indexE uu26 inf61 ((F.get rfl).trans (by rw [az])) (F.get rfl) (zl _) (il (by omega:k<l.length)) (by omega))<|Xw (.agg #[(strOf C.name),(vl I C.data.length J)]) (fun F=>rn_loadN (cs:=[(strOf C.name),(vl I C.data.length J)]) (F.get rfl) uu61 rfl inf61 aF) fun _ ag=>ag.xz [(strOf ([])),v0] 61 fun ai ag _ ag al al al av=>ag.xa rfl fun _ ag=>ag.xs rfl al (fun al O al=>have av:=al.size;wn aC<|wr fun al al=>ag.xm rfl<|Xw (.agg #[(strOf C.name),(vl I C.data.length J)]) (fun F=>rb F rfl O) fun _ ag=>ag.xE (c:=itemName_any C.name (vl I C.data.length J) _) (k:=fun ag ag ag _ ag=>ag.xw (vi C.name.length) (fun F=>rn_lenS uu9 (F.get rfl))<|Xa rfl fun _ ag=>wn al<|have al:=ag.k [0,1,4,8,9,10,11,6,5,7];wp_seq_k fun ag Z=>sX (fun D W=>Ext D W∧Blk W ai 61 [(strOf C.name),(vl I C.data.length J)]) (fun i=>false) 23 fun D U ag=>al.ym 0 rfl<|Yv 1 (vd ((C.name.length:Int)<(1:Int))) rfl<|Ym 2 rfl fun _ ag=>?_))
  by_cases al:(C.name.length:Int)<(1:Int)
  ·refine ag.yu 3 rfl<|Yu 4 rfl<|Yv 5 (.bool true) rfl<|Ym 6 rfl<|Yu 7 rfl<|Yu 8 rfl<|Yu 9 rfl<|Yn 10 rfl<|Yn 11 rfl<|Yn 12 rfl<|Yn 13 rfl<|Yn 14 rfl<|Yn 15 rfl<|Yn 17 rfl<|Yn 18 rfl fun _ C=>ao 16 rfl<|o_skip C rfl (unwanted_undef rfl rfl rfl C rfl) rfl rfl fun C C=>?_
   have G:=O.ux U
   refine ⟨fun _ _=>⟨(Ext.refl D),G⟩,?_⟩
   refine ao 19 rfl<|o_skip C rfl (unwanted_undef rfl rfl rfl C rfl) rfl rfl fun C C=>?_
   refine ⟨fun _ _=>⟨(Ext.refl D),G⟩,?_⟩
   exact C.yn 20 rfl<|Yu 21 rfl<|Yv 22 (.bool true) rfl fun _ D=>nK Z<|have C:=D.k [0,1,4,8,9,10,11,6,5,7,41];C.ct<|wr fun D D=>C.xv (.bool false) fun _ C=>wn D<|wp_ret<|ret_block<|ret_then<|ret_then<|ret_block<|ret_then<|ret1 C rfl rfl<|⟨ret_bool (decide_eq_false (named_no (k:=k) (by simp [itNames];omega) (fun hq=>by have h1:=hq.1;rw [getIt M,okN] at h1;omega))).symm,eX⟩
  refine ag.yg 3 (vi C.name.length) rfl<|Yg 4 (vd ((64:Int)<(C.name.length:Int))) rfl<|Yv 5 (vd ((64:Int)<(C.name.length:Int))) rfl<|Ym 6 rfl<|fun _ ag=>?_
  by_cases al:(64:Int)<(C.name.length:Int)
  ·refine ag.yu 7 rfl<|Yu 8 rfl<|Yu 9 rfl<|Yn 10 rfl<|Yn 11 rfl<|Yn 12 rfl<|Yn 13 rfl<|Yn 14 rfl<|Yn 15 rfl<|Yn 17 rfl<|Yn 18 rfl fun _ C=>ao 16 rfl<|o_skip C rfl (unwanted_undef rfl rfl rfl C rfl) rfl rfl fun C C=>?_
   have G:=O.ux U
   refine ⟨fun _ _=>⟨(Ext.refl D),G⟩,?_⟩
   refine ao 19 rfl<|o_skip C rfl (unwanted_undef rfl rfl rfl C rfl) rfl rfl fun C C=>?_
   refine ⟨fun _ _=>⟨(Ext.refl D),G⟩,?_⟩
   exact C.yn 20 rfl<|Yu 21 rfl<|Yv 22 (.bool true) rfl fun _ D=>nK Z<|have C:=D.k [0,1,4,8,9,10,11,6,5,7,41];C.ct<|wr fun D D=>C.xv (.bool false) fun _ C=>wn D<|wp_ret<|ret_block<|ret_then<|ret_then<|ret_block<|ret_then<|ret1 C rfl rfl<|⟨ret_bool (decide_eq_false (named_no (k:=k) (by simp [itNames];omega) (fun hq=>by have h1:=hq.1;rw [getIt M,okN] at h1;omega))).symm,eX⟩
  refine ag.yg 7 (vi k) rfl<|Yg 8 (vd ((0:Int)<(k:Int))) rfl<|Yg 9 (vd ((0:Int)<(k:Int))) rfl<|fun _ ah=>?_
  by_cases am:(0:Int)<(k:Int)
  ·refine ah.yg 10 (.func (.func 56) #[] #[]) rfl<|Yg 11 (vl A l.length c) rfl<|Yg 12 (vi k) rfl<|Ygw 13 (vi (k - 1:Nat)) rfl (fun F W=>rn_subN (a:=k) (b:=1) (F.get rfl) rfl (by omega) (by omega))<|fun _ ar=>?_
   have ag:=RLs.ux rIt hc U
   obtain ⟨aw,aK,G,al,ay,aq,al,aE,aI⟩:=RLs.get ag (by omega:(k - 1)<l.length)
   obtain ⟨aa,ab,rfl,aG⟩:=aI
   have ag:=(Fl.cel aG).2.1
   refine ar.ygw 14 (.pointer (some ⟨aw,aK+(k - 1)*2,none⟩)) rfl (fun F W=>rn_indexE uu26 inf61 ((F.get rfl).trans (by rw [ay])) (F.get rfl) (by omega:(0:Int)≤(k - 1:Nat)) (by omega:((k - 1:Nat):Int)<(l.length:Int)) (by omega)) fun _ ar=>have ag:=O.ux U;have al:Ext D D∧Blk D ai 61 [(strOf C.name),(vl I C.data.length J)]:=⟨(Ext.refl D),ag⟩;ar.ysg 15 (.agg #[(strOf G.name),(vl aa G.data.length ab)]) rfl al (fun F W hW=>rn_loadN (cs:=[(strOf G.name),(vl aa G.data.length ab)]) (F.get rfl) uu61 rfl inf61 (fun j u hu=>Ext.keep ((Ext.refl D).trans hW.1) (aE j u hu)))<|Yg 17 (.func (.func 56) #[] #[]) rfl<|Ysg 18 (.agg #[(strOf C.name),(vl I C.data.length J)]) rfl al (fun F W hW=>rb F rfl hW.2) fun _ ai=>ao 16 rfl<|ai.gE (c:=itemName_any G.name (vl aa G.data.length ab) _) (k:=fun aa ai aa _ ab=>?_)
   have aa:=ag.ext ai
   refine ⟨fun _ _=>⟨eX,aa⟩,?_⟩
   refine ao 19 rfl<|ab.gE (c:=itemName_any C.name (vl I C.data.length J) _) (k:=fun I ab I _ I=>?_)
   have J:=aa.ext ab
   refine ⟨fun _ _=>⟨eX,J⟩,?_⟩
   refine I.ygw 20 (.bool (!ltS G.name C.name)) rfl (fun F W=>rn_geq_s (F.get rfl) (F.get rfl) rfl)<|Yg 21 (.bool (!ltS G.name C.name)) rfl<|Yv 22 (.bool (!ltS G.name C.name)) rfl fun _ I=>nK Z ?_
   have Y:=I.k [0,1,4,8,9,10,11,6,5,7,41]
   rcases Bool.eq_false_or_eq_true (ltS G.name C.name) with ac | ac
   ·refine Y.cf<|wp_skip<|aj _ _<|wp_region_lit<|Y.xv (vi (k+1:Nat))<|Xm rfl fun _ C=>wpList_nil ?_
    refine ⟨⟨(k+1),C.j,(by omega),(all_succ ae (name_yes (getIt M) ⟨by omega,by omega⟩ (fun _=>by rw [getIt (show l[k - 1]?=_ from (congrArg (fun z=>l[z]?) (by omega:k - 1=(k - 1))).trans aq),getIt M];exact ac))),eX,(by omega)⟩,?_⟩
    rw [C.get (t:=10) rfl,ak.get (t:=10) rfl];simp [intOf] <;> omega
   exact Y.ct<|wr fun C aB=>Y.xv (.bool false) fun _ au=>wn aB<|wp_ret<|ret_block<|ret_then<|ret_then<|ret_block<|ret_then<|ret1 au rfl rfl<|⟨ret_bool (decide_eq_false (named_no (k:=k) (by simp [itNames];omega) (fun hq=>by have h1:=hq.2 (by omega);rw [getIt (show l[k - 1]?=_ from (congrArg (fun z=>l[z]?) (by omega:k - 1=(k - 1))).trans aq),getIt M,ac] at h1;cases h1))).symm,eX⟩
  refine ah.yu 10 rfl<|Yu 11 rfl<|Yu 12 rfl<|Yu 13 rfl<|Yu 14 rfl<|Yu 15 rfl<|Yu 17 rfl<|Yu 18 rfl fun _ C=>ao 16 rfl<|o_skip C rfl (unwanted_guard rfl rfl rfl C rfl (decide_eq_false am) rfl) rfl rfl fun C C=>?_
  have G:=O.ux U
  refine ⟨fun _ _=>⟨(Ext.refl D),G⟩,?_⟩
  refine ao 19 rfl<|o_skip C rfl (unwanted_guard rfl rfl rfl C rfl (decide_eq_false am) rfl) rfl rfl fun C C=>?_
  refine ⟨fun _ _=>⟨(Ext.refl D),G⟩,?_⟩
  refine C.yu 20 rfl<|Yg 21 (.bool false) rfl<|Yv 22 (.bool false) rfl fun _ D=>nK Z<|have C:=D.k [0,1,4,8,9,10,11,6,5,7,41];C.cf<|wp_skip<|aj _ _<|wp_region_lit<|C.xv (vi (k+1:Nat))<|Xm rfl fun _ C=>wpList_nil ?_
  refine ⟨⟨(k+1),C.j,(by omega),(all_succ ae (name_yes (getIt M) ⟨by omega,by omega⟩ (fun h0=>absurd h0 (by omega)))),eX,(by omega)⟩,?_⟩
  rw [C.get (t:=10) rfl,ak.get (t:=10) rfl];simp [intOf] <;> omega
 exact V.cf<|wp_exit<|exit_then<|exit_then<|exit_here<|aD _ _<|wr fun C D=>V.xv (.bool true) fun _ C=>wn D<|wp_ret<|ret1 C rfl rfl<|⟨ret_bool (decide_eq_true (fun j hj=>ae j (by simp [itNames] at hj;omega))).symm,eX⟩
theorem namedIt_at (l:List It) (w:World) (h:RLs RIt 2 S w v l) :
  Calls Tryz.prog 93 #[v,.func (.func 56) #[] #[]] w (fun e w'=>e=.returned (.bool (decide (named (itNames l))))∧Ext w w'):=by
 obtain ⟨A,c,rfl,_⟩:=h.form
 exact namedIt_any A c l w h
theorem namedCg_any (A:Option Addr) (c:Nat) (l:List Cg) (w:World) (h:RLs RCg 3 S w (vl A l.length c) l) :
  Calls Tryz.prog 110 #[.slice A l.length c,.func (.func 111) #[] #[]] w (fun e w'=>e=.returned (.bool (decide (named (cgNames l))))∧Ext w w'):=by
 have hc:RLs RCg 3 (Clip S w) w (vl A l.length c) l:=RLs.clip rCg h
 obtain ⟨-,hck,hcm⟩:=RLs.at h
 refine calls_enter Tryz.func110 rfl rfl rfl fun _ hF=>wr fun K1 ag=>hF.xv (.bool false) fun _ F3=>wn ag<|wp_seq_k fun K4 aD=>wr fun K5 al=>F3.xm rfl<|Xv (vi l.length)<|Xv (vi 0) fun _ ag=>wn al<|wp_block<|wp_loop (fun a' W=>∃ (k:Nat),Sl 43 [(0,(vl A l.length c)),(1,(.func (.func 111) #[] #[])),(4,(.bool false)),(8,(vl A l.length c)),(9,(vi l.length)),(10,(vi k))] a'∧k≤l.length∧(∀ j,j<k→nameAt (cgNames l) j)∧Ext w W∧w.heap.size≤W.heap.size) (fun a' _=>l.length - (intOf (a'.eval (.tmp 10))).toNat) ⟨0,ag.j,(by omega),(fun j hj=>absurd hj (by omega)),(Ext.refl w),(Nat.le_refl _)⟩ ?_
 rintro ag ag ⟨k,ag,al,ae,al,aA⟩
 have ak:=ag
 have aA:=al.size
 refine wr fun aA aA=>ag.xv (vd ((k:Int)<(l.length:Int))) fun _ V=>wn aA<|wp_seq_k fun ag ag=>?_
 by_cases aA:(k:Int)<(l.length:Int)
 ·refine V.ct<|wp_skip<|ag _ _<|wp_seq_k fun ag aj=>wp_block<|wr fun ag aC=>V.xm rfl fun _ av=>?_
  have ag:=RLs.ext rCg hc al
  obtain ⟨ax,aL,C,al,az,M,al,aF,aJ⟩:=RLs.get ag (by omega:k<l.length)
  obtain ⟨I,J,rfl,aH⟩:=aJ
  have ag:=(Fl.cel aH).2.1
  refine av.xw (vq ax (aL+k*3)) (fun F=>rn_indexE uu27 inf66 ((F.get rfl).trans (by rw [az])) (F.get rfl) (zl _) (il (by omega:k<l.length)) (by omega))<|Xw (.agg #[(strOf C.name),(vl I C.data.length J),(.bool C.gone)]) (fun F=>rn_loadN (cs:=[(strOf C.name),(vl I C.data.length J),(.bool C.gone)]) (F.get rfl) uu66 rfl inf66 aF) fun _ ag=>ag.xz [(strOf ([])),v0,(.bool false)] 66 fun ai ag _ ag al al al av=>ag.xa rfl fun _ ag=>ag.xs rfl al (fun al O al=>have av:=al.size;wn aC<|wr fun al al=>ag.xm rfl<|Xw (.agg #[(strOf C.name),(vl I C.data.length J),(.bool C.gone)]) (fun F=>rb F rfl O) fun _ ag=>ag.xE (c:=changeName_any C.name (vl I C.data.length J) (.bool C.gone) _) (k:=fun ag ag ag _ ag=>ag.xw (vi C.name.length) (fun F=>rn_lenS uu9 (F.get rfl))<|Xa rfl fun _ ag=>wn al<|have al:=ag.k [0,1,4,8,9,10,11,6,5,7];wp_seq_k fun ag Z=>sX (fun D W=>Ext D W∧Blk W ai 66 [(strOf C.name),(vl I C.data.length J),(.bool C.gone)]) (fun i=>false) 23 fun D U ag=>al.ym 0 rfl<|Yv 1 (vd ((C.name.length:Int)<(1:Int))) rfl<|Ym 2 rfl fun _ ag=>?_))
  by_cases al:(C.name.length:Int)<(1:Int)
  ·refine ag.yu 3 rfl<|Yu 4 rfl<|Yv 5 (.bool true) rfl<|Ym 6 rfl<|Yu 7 rfl<|Yu 8 rfl<|Yu 9 rfl<|Yn 10 rfl<|Yn 11 rfl<|Yn 12 rfl<|Yn 13 rfl<|Yn 14 rfl<|Yn 15 rfl<|Yn 17 rfl<|Yn 18 rfl fun _ C=>ao 16 rfl<|o_skip C rfl (unwanted_undef rfl rfl rfl C rfl) rfl rfl fun C C=>?_
   have G:=O.ux U
   refine ⟨fun _ _=>⟨(Ext.refl D),G⟩,?_⟩
   refine ao 19 rfl<|o_skip C rfl (unwanted_undef rfl rfl rfl C rfl) rfl rfl fun C C=>?_
   refine ⟨fun _ _=>⟨(Ext.refl D),G⟩,?_⟩
   exact C.yn 20 rfl<|Yu 21 rfl<|Yv 22 (.bool true) rfl fun _ D=>nK Z<|have C:=D.k [0,1,4,8,9,10,11,6,5,7,41];C.ct<|wr fun D D=>C.xv (.bool false) fun _ C=>wn D<|wp_ret<|ret_block<|ret_then<|ret_then<|ret_block<|ret_then<|ret1 C rfl rfl<|⟨ret_bool (decide_eq_false (named_no (k:=k) (by simp [cgNames];omega) (fun hq=>by have h1:=hq.1;rw [getCg M,okN] at h1;omega))).symm,eX⟩
  refine ag.yg 3 (vi C.name.length) rfl<|Yg 4 (vd ((64:Int)<(C.name.length:Int))) rfl<|Yv 5 (vd ((64:Int)<(C.name.length:Int))) rfl<|Ym 6 rfl<|fun _ ag=>?_
  by_cases al:(64:Int)<(C.name.length:Int)
  ·refine ag.yu 7 rfl<|Yu 8 rfl<|Yu 9 rfl<|Yn 10 rfl<|Yn 11 rfl<|Yn 12 rfl<|Yn 13 rfl<|Yn 14 rfl<|Yn 15 rfl<|Yn 17 rfl<|Yn 18 rfl fun _ C=>ao 16 rfl<|o_skip C rfl (unwanted_undef rfl rfl rfl C rfl) rfl rfl fun C C=>?_
   have G:=O.ux U
   refine ⟨fun _ _=>⟨(Ext.refl D),G⟩,?_⟩
   refine ao 19 rfl<|o_skip C rfl (unwanted_undef rfl rfl rfl C rfl) rfl rfl fun C C=>?_
   refine ⟨fun _ _=>⟨(Ext.refl D),G⟩,?_⟩
   exact C.yn 20 rfl<|Yu 21 rfl<|Yv 22 (.bool true) rfl fun _ D=>nK Z<|have C:=D.k [0,1,4,8,9,10,11,6,5,7,41];C.ct<|wr fun D D=>C.xv (.bool false) fun _ C=>wn D<|wp_ret<|ret_block<|ret_then<|ret_then<|ret_block<|ret_then<|ret1 C rfl rfl<|⟨ret_bool (decide_eq_false (named_no (k:=k) (by simp [cgNames];omega) (fun hq=>by have h1:=hq.1;rw [getCg M,okN] at h1;omega))).symm,eX⟩
  refine ag.yg 7 (vi k) rfl<|Yg 8 (vd ((0:Int)<(k:Int))) rfl<|Yg 9 (vd ((0:Int)<(k:Int))) rfl<|fun _ ah=>?_
  by_cases am:(0:Int)<(k:Int)
  ·refine ah.yg 10 (.func (.func 111) #[] #[]) rfl<|Yg 11 (vl A l.length c) rfl<|Yg 12 (vi k) rfl<|Ygw 13 (vi (k - 1:Nat)) rfl (fun F W=>rn_subN (a:=k) (b:=1) (F.get rfl) rfl (by omega) (by omega))<|fun _ ar=>?_
   have ag:=RLs.ux rCg hc U
   obtain ⟨aw,aK,G,al,ay,aq,al,aE,aI⟩:=RLs.get ag (by omega:(k - 1)<l.length)
   obtain ⟨aa,ab,rfl,aG⟩:=aI
   have ag:=(Fl.cel aG).2.1
   refine ar.ygw 14 (.pointer (some ⟨aw,aK+(k - 1)*3,none⟩)) rfl (fun F W=>rn_indexE uu27 inf66 ((F.get rfl).trans (by rw [ay])) (F.get rfl) (by omega:(0:Int)≤(k - 1:Nat)) (by omega:((k - 1:Nat):Int)<(l.length:Int)) (by omega)) fun _ ar=>have ag:=O.ux U;have al:Ext D D∧Blk D ai 66 [(strOf C.name),(vl I C.data.length J),(.bool C.gone)]:=⟨(Ext.refl D),ag⟩;ar.ysg 15 (.agg #[(strOf G.name),(vl aa G.data.length ab),(.bool G.gone)]) rfl al (fun F W hW=>rn_loadN (cs:=[(strOf G.name),(vl aa G.data.length ab),(.bool G.gone)]) (F.get rfl) uu66 rfl inf66 (fun j u hu=>Ext.keep ((Ext.refl D).trans hW.1) (aE j u hu)))<|Yg 17 (.func (.func 111) #[] #[]) rfl<|Ysg 18 (.agg #[(strOf C.name),(vl I C.data.length J),(.bool C.gone)]) rfl al (fun F W hW=>rb F rfl hW.2) fun _ ai=>ao 16 rfl<|ai.gE (c:=changeName_any G.name (vl aa G.data.length ab) (.bool G.gone) _) (k:=fun aa ai aa _ ab=>?_)
   have aa:=ag.ext ai
   refine ⟨fun _ _=>⟨eX,aa⟩,?_⟩
   refine ao 19 rfl<|ab.gE (c:=changeName_any C.name (vl I C.data.length J) (.bool C.gone) _) (k:=fun I ab I _ I=>?_)
   have J:=aa.ext ab
   refine ⟨fun _ _=>⟨eX,J⟩,?_⟩
   refine I.ygw 20 (.bool (!ltS G.name C.name)) rfl (fun F W=>rn_geq_s (F.get rfl) (F.get rfl) rfl)<|Yg 21 (.bool (!ltS G.name C.name)) rfl<|Yv 22 (.bool (!ltS G.name C.name)) rfl fun _ I=>nK Z ?_
   have Y:=I.k [0,1,4,8,9,10,11,6,5,7,41]
   rcases Bool.eq_false_or_eq_true (ltS G.name C.name) with ac | ac
   ·refine Y.cf<|wp_skip<|aj _ _<|wp_region_lit<|Y.xv (vi (k+1:Nat))<|Xm rfl fun _ C=>wpList_nil ?_
    refine ⟨⟨(k+1),C.j,(by omega),(all_succ ae (name_yes (getCg M) ⟨by omega,by omega⟩ (fun _=>by rw [getCg (show l[k - 1]?=_ from (congrArg (fun z=>l[z]?) (by omega:k - 1=(k - 1))).trans aq),getCg M];exact ac))),eX,(by omega)⟩,?_⟩
    rw [C.get (t:=10) rfl,ak.get (t:=10) rfl];simp [intOf] <;> omega
   exact Y.ct<|wr fun C aB=>Y.xv (.bool false) fun _ au=>wn aB<|wp_ret<|ret_block<|ret_then<|ret_then<|ret_block<|ret_then<|ret1 au rfl rfl<|⟨ret_bool (decide_eq_false (named_no (k:=k) (by simp [cgNames];omega) (fun hq=>by have h1:=hq.2 (by omega);rw [getCg (show l[k - 1]?=_ from (congrArg (fun z=>l[z]?) (by omega:k - 1=(k - 1))).trans aq),getCg M,ac] at h1;cases h1))).symm,eX⟩
  refine ah.yu 10 rfl<|Yu 11 rfl<|Yu 12 rfl<|Yu 13 rfl<|Yu 14 rfl<|Yu 15 rfl<|Yu 17 rfl<|Yu 18 rfl fun _ C=>ao 16 rfl<|o_skip C rfl (unwanted_guard rfl rfl rfl C rfl (decide_eq_false am) rfl) rfl rfl fun C C=>?_
  have G:=O.ux U
  refine ⟨fun _ _=>⟨(Ext.refl D),G⟩,?_⟩
  refine ao 19 rfl<|o_skip C rfl (unwanted_guard rfl rfl rfl C rfl (decide_eq_false am) rfl) rfl rfl fun C C=>?_
  refine ⟨fun _ _=>⟨(Ext.refl D),G⟩,?_⟩
  refine C.yu 20 rfl<|Yg 21 (.bool false) rfl<|Yv 22 (.bool false) rfl fun _ D=>nK Z<|have C:=D.k [0,1,4,8,9,10,11,6,5,7,41];C.cf<|wp_skip<|aj _ _<|wp_region_lit<|C.xv (vi (k+1:Nat))<|Xm rfl fun _ C=>wpList_nil ?_
  refine ⟨⟨(k+1),C.j,(by omega),(all_succ ae (name_yes (getCg M) ⟨by omega,by omega⟩ (fun h0=>absurd h0 (by omega)))),eX,(by omega)⟩,?_⟩
  rw [C.get (t:=10) rfl,ak.get (t:=10) rfl];simp [intOf] <;> omega
 exact V.cf<|wp_exit<|exit_then<|exit_then<|exit_here<|aD _ _<|wr fun C D=>V.xv (.bool true) fun _ C=>wn D<|wp_ret<|ret1 C rfl rfl<|⟨ret_bool (decide_eq_true (fun j hj=>ae j (by simp [cgNames] at hj;omega))).symm,eX⟩
theorem namedCg_at (l:List Cg) (w:World) (h:RLs RCg 3 S w v l) :
  Calls Tryz.prog 110 #[v,.func (.func 111) #[] #[]] w (fun e w'=>e=.returned (.bool (decide (named (cgNames l))))∧Ext w w'):=by
 obtain ⟨A,c,rfl,_⟩:=h.form
 exact namedCg_any A c l w h
theorem pcheck_any (A:Option Addr) (c:Nat) (l:List It) (w:World) (h:RLs RIt 2 S w (vl A l.length c) l) :
  Calls Tryz.prog 49 #[.slice A l.length c] w (fun e w'=>e=.returned (vi (checkE l))∧Ext w w'):=by
 have hc:RLs RIt 2 (Clip S w) w (vl A l.length c) l:=RLs.clip rIt h
 obtain ⟨-,hck,hcm⟩:=RLs.at h
 refine calls_enter Tryz.func49 rfl rfl rfl fun _ C=>wr fun D D=>C.xv (vi 0) fun _ C=>wn D<|wp_seq_k fun D D=>wr fun G G=>C.xm rfl<|Xv (vi l.length)<|Xv (vd ((65536:Int)<(l.length:Int))) fun _ C=>wn G ?_
 by_cases G:(65536:Int)<(l.length:Int)
 ·exact C.ct<|wr fun D D=>C.xv (vi 2) fun _ C=>wn D<|wp_ret<|ret_then<|ret1 C rfl rfl<|⟨ret_int (show checkE l=2 from if_pos (by omega)).symm,(Ext.refl w)⟩
 refine C.cf<|wp_skip<|D _ _<|wp_seq_k fun D G=>wr fun D I=>C.xm rfl fun _ C=>C.xe (namedIt_at (v:=(vl A l.length c)) l _ hc) fun C C C _ C=>C.xw (.bool (!(decide (named (itNames l))))) (fun F=>rn_not' (F.get rfl) rfl) fun _ D=>wn I ?_
 have C:=D.k [0,2,5,8]
 by_cases D:named (itNames l)
 ·exact C.cf<|wp_skip<|G _ _<|wr fun G G=>C.xv (vi 0) fun _ C=>wn G<|wp_ret<|ret1 C rfl rfl<|⟨ret_int (show checkE l=0 from (if_neg (by omega)).trans (if_pos D)).symm,eX⟩
 exact C.ct<|wr fun G G=>C.xv (vi 400) fun _ C=>wn G<|wp_ret<|ret_then<|ret1 C rfl rfl<|⟨ret_int (show checkE l=400 from (if_neg (by omega)).trans (if_neg D)).symm,eX⟩
theorem pcheck_at (l:List It) (w:World) (h:RLs RIt 2 S w v l) :
  Calls Tryz.prog 49 #[v] w (fun e w'=>e=.returned (vi (checkE l))∧Ext w w'):=by
 obtain ⟨A,c,rfl,_⟩:=h.form
 exact pcheck_any A c l w h
theorem nofull {x:Cg} (hx:l[k]?=some x) (h:(x.gone&&decide (0<(x.data.length:Int)))=false):∀ y,l[k]?=some y→¬ fullC y:=fun y hy hq=>by
 rw [hx] at hy;injection hy with hy;subst hy
 rw [hq.1,decide_eq_true (show 0<(x.data.length:Int) by have:=hq.2;omega)] at h;cases h
theorem isfull {x:Cg} (h:(x.gone&&decide (0<(x.data.length:Int)))=true):fullC x:=by
 rw [Bool.and_eq_true] at h
 exact ⟨h.1,by have:=of_decide_eq_true h.2;omega⟩
theorem all_mem {p:Cg→Prop} (h:∀ j,j<k→∀ x,l[j]?=some x→p x) (hk:l.length≤k):∀ c∈l,p c:=fun c hc=>by
 obtain ⟨i,hi,rfl⟩:=List.getElem_of_mem hc
 exact h i (by omega) _ (List.getElem?_eq_getElem hi)
theorem contains_eq {r:Int} (h:0≤r↔¬ ∀ c∈l,¬ fullC c):decide ((0:Int)≤(r:Int))=(!decide (∀ c∈l,¬ fullC c)):=by
 by_cases q:∀ c∈l,¬ fullC c
 ·rw [decide_eq_true q,decide_eq_false (fun e=>h.1 e q)];rfl
 ·rw [decide_eq_false q,decide_eq_true (h.2 q)];rfl
theorem check_named {l:List It} (h:checkE l=0):l.length≤65536∧named (itNames l):=by
 unfold checkE at h
 split at h
 ·cases h
 ·split at h
  ·rename_i h1 h2;exact ⟨by omega,h2⟩
  ·cases h
theorem nm_ok {l:List It} {x:It} (h:checkE l=0) (hx:l[i]?=some x):1≤x.name.length∧x.name.length≤64:=named_ok (check_named h).2 _ (List.mem_map.2 ⟨x,List.mem_of_getElem? hx,rfl⟩)
theorem leaves_step {l:List It} {x:It} (hx:l[k]?=some x):(l.take k).map itLeaf++[itLeaf x]=(l.take (k+1)).map itLeaf:=by rw [List.take_add_one,hx,List.map_append];rfl
theorem leaves_32 (l:List It):All32 (l.map itLeaf):=fun x hx=>by
 obtain ⟨y,_,rfl⟩:=List.mem_map.1 hx
 exact itLeaf_len y
theorem bclone_any (A:Option Addr) (c:Nat) (l:List UInt8) (w:World) (hf:Fl S w 1 (vl A l.length c) l.length (byteVals l)) (hl:l.length≤140737488355328) :
  Calls Tryz.prog 59 #[.slice A l.length c] w (fun e w'=>∃ A c,e=.returned (vl A l.length c)∧Fl (fun b=>w.heap.size≤b) w' 1 (vl A l.length c) l.length (byteVals l)∧Ext w w'):=by
 have hc:Fl (Clip S w) w 1 (vl A l.length c) l.length (byteVals l):=hf.clip
 have hcc:=(Fl.cel hc).2.1
 refine calls_enter Tryz.func59 rfl rfl rfl fun _ D=>wr fun G G=>D.xv v0 fun _ D=>wn G<|wp_seq_k fun G J=>wr fun G G=>D.xm rfl<|Xw (.bool A.isNone) (fun F=>rn_eqnil uu22 (F.get rfl) rfl) fun _ C=>wn G ?_
 rcases Bool.eq_false_or_eq_true A.isNone with D | D
 ·refine C.ct<|wr fun G I=>C.xv v0 fun _ G=>wn I<|wp_ret<|ret_then<|ret1 G rfl rfl ?_
  obtain ⟨h1,h2⟩:=fl_none hf D
  subst h2;exact ⟨none,0,rfl,Fl.nil _,(Ext.refl w)⟩
 refine C.cf<|wp_skip<|J _ _<|wr fun D J=>C.xn (fun g=>(vl (some ⟨g,0,none⟩) 0 0)) [] 5 (fun F=>rn_buildSlice (parts0 ) (by kernel_rfl)) fun I O _ C D D D M=>C.xm rfl fun _ C=>have G:=(hc.ext M);have M:=(own_blk0 (k:=1) D);wpl_op (i:=2) rfl<|o_appB (zs:=byteVals l) El22 C rfl rfl rfl rfl rfl (C.get rfl) (C.get rfl) M (Fl.cel G).2.2 (by omega) (by omega) (by omega) (List.nil_append _) fun C C M C D G C U U U=>have U:=C.size;have U:O.grownBy M (some I):=C;D.xa rfl fun _ C=>wn J<|have D:=C.k [0,2,4];wp_ret<|ret1 D rfl rfl ?_
 have hrow:=Fl.own (S:=fun b=>w.heap.size≤b) G (fun b hb=>by omega) (byteVals_one _)
 have hzz:0+l.length=l.length:=Nat.zero_add _
 rw [hzz] at hrow ⊢
 exact ⟨_,_,rfl,hrow,eX⟩
theorem bclone_at (l:List UInt8) (w:World) (hf:Fl S w 1 v n (byteVals l)) (hl:n≤140737488355328) :
  Calls Tryz.prog 59 #[v] w (fun e w'=>∃ A c,e=.returned (vl A n c)∧Fl (fun b=>w.heap.size≤b) w' 1 (vl A n c) n (byteVals l)∧Ext w w'):=by
 have hm:=hf.blen
 subst hm
 obtain ⟨A,c,rfl,_⟩:=hf.form
 exact bclone_any A c l w hf hl
theorem isNaNs_any (a:List UInt8) (w:World) :
  Calls Tryz.prog 119 #[strOf a] w (fun e w'=>e=.returned (.bool false)∧Ext w w'):=by
 exact calls_enter Tryz.func119 rfl rfl rfl fun _ C=>wr fun D D=>C.xv (.bool false) fun _ C=>wn D<|wr fun D D=>C.xm rfl<|Xm rfl<|Xw (.bool (!decide (a=a))) (fun F=>rn_nes (F.get rfl) (F.get rfl) rfl)<|Xa rfl fun _ C=>wn D<|wp_ret<|ret1 C rfl rfl<|⟨ret_bool (by simp),(Ext.refl w)⟩
theorem isNaNi_any (a:Int) (w:World) :
  Calls Tryz.prog 86 #[.int .i64 a] w (fun e w'=>e=.returned (.bool false)∧Ext w w'):=by
 exact calls_enter Tryz.func86 rfl rfl rfl fun _ C=>wr fun D D=>C.xv (.bool false) fun _ C=>wn D<|wr fun D D=>C.xm rfl<|Xm rfl<|Xv (vd ((a:Int)≠(a:Int)))<|Xa rfl fun _ C=>wn D<|wp_ret<|ret1 C rfl rfl<|⟨ret_bool (by simp),(Ext.refl w)⟩
theorem cmps_lt (a b:List UInt8) (w:World) (h:ltS a b=true) :
  Calls Tryz.prog 97 #[strOf a,strOf b] w (fun e w'=>e=.returned (vi (-1))∧Ext w w'):=by
 exact calls_enter Tryz.func97 rfl rfl rfl fun _ C=>wr fun D D=>C.xv (vi 0) fun _ C=>wn D<|wr fun D D=>C.xm rfl fun _ C=>C.xe (isNaNs_any a _) fun C C C _ C=>C.xa rfl fun _ C=>wn D<|wr fun D D=>C.xm rfl fun _ C=>C.xe (isNaNs_any b _) fun C C C _ C=>C.xa rfl fun _ C=>wn D<|have D:=C.k [0,1,4,5,6];wp_seq_k fun C G=>wr fun C I=>D.xm rfl fun _ C=>wn I<|C.cf<|wp_skip<|G _ _<|wp_seq_k fun D D=>wr fun G G=>C.xm rfl fun _ C=>wn G<|C.cf<|wp_skip<|D _ _<|wp_seq_k fun D D=>wr fun D D=>C.xm rfl<|Xm rfl<|Xw (.bool (ltS a b)) (fun F=>rn_lss_s (F.get rfl) (F.get rfl) rfl) fun _ C=>wn D<|C.ct<|wr fun D D=>C.xv (vi (-1)) fun _ C=>wn D<|wp_ret<|ret_then<|ret1 C rfl rfl<|⟨rfl,eX⟩
theorem cmps_gt (a b:List UInt8) (w:World) (h1:ltS a b=false) (h:ltS b a=true) :
  Calls Tryz.prog 97 #[strOf a,strOf b] w (fun e w'=>e=.returned (vi 1)∧Ext w w'):=by
 exact calls_enter Tryz.func97 rfl rfl rfl fun _ C=>wr fun D D=>C.xv (vi 0) fun _ C=>wn D<|wr fun D D=>C.xm rfl fun _ C=>C.xe (isNaNs_any a _) fun C C C _ C=>C.xa rfl fun _ C=>wn D<|wr fun D D=>C.xm rfl fun _ C=>C.xe (isNaNs_any b _) fun C C C _ C=>C.xa rfl fun _ C=>wn D<|have D:=C.k [0,1,4,5,6];wp_seq_k fun C G=>wr fun C I=>D.xm rfl fun _ C=>wn I<|C.cf<|wp_skip<|G _ _<|wp_seq_k fun D D=>wr fun G G=>C.xm rfl fun _ C=>wn G<|C.cf<|wp_skip<|D _ _<|wp_seq_k fun D D=>wr fun G G=>C.xm rfl<|Xm rfl<|Xw (.bool (ltS a b)) (fun F=>rn_lss_s (F.get rfl) (F.get rfl) rfl) fun _ C=>wn G<|C.cf<|wp_skip<|D _ _<|wp_seq_k fun D D=>wr fun D G=>C.xm rfl<|Xm rfl<|Xw (.bool (ltS b a)) (fun F=>rn_gtr_s (F.get rfl) (F.get rfl) rfl) fun _ D=>wn G<|have C:=D.k [0,1,4,5,6,11,13,16,19];C.ct<|wr fun D D=>C.xv (vi 1) fun _ C=>wn D<|wp_ret<|ret_then<|ret1 C rfl rfl<|⟨rfl,eX⟩
theorem cmps_eq (a b:List UInt8) (w:World) (h1:ltS a b=false) (h:ltS b a=false) :
  Calls Tryz.prog 97 #[strOf a,strOf b] w (fun e w'=>e=.returned (vi 0)∧Ext w w'):=by
 exact calls_enter Tryz.func97 rfl rfl rfl fun _ C=>wr fun D D=>C.xv (vi 0) fun _ C=>wn D<|wr fun D D=>C.xm rfl fun _ C=>C.xe (isNaNs_any a _) fun C C C _ C=>C.xa rfl fun _ C=>wn D<|wr fun D D=>C.xm rfl fun _ C=>C.xe (isNaNs_any b _) fun C C C _ C=>C.xa rfl fun _ C=>wn D<|have D:=C.k [0,1,4,5,6];wp_seq_k fun C G=>wr fun C I=>D.xm rfl fun _ C=>wn I<|C.cf<|wp_skip<|G _ _<|wp_seq_k fun D D=>wr fun G G=>C.xm rfl fun _ C=>wn G<|C.cf<|wp_skip<|D _ _<|wp_seq_k fun D D=>wr fun G G=>C.xm rfl<|Xm rfl<|Xw (.bool (ltS a b)) (fun F=>rn_lss_s (F.get rfl) (F.get rfl) rfl) fun _ C=>wn G<|C.cf<|wp_skip<|D _ _<|wp_seq_k fun D G=>wr fun D I=>C.xm rfl<|Xm rfl<|Xw (.bool (ltS b a)) (fun F=>rn_gtr_s (F.get rfl) (F.get rfl) rfl) fun _ D=>wn I<|have C:=D.k [0,1,4,5,6,11,13,16,19];C.cf<|wp_skip<|G _ _<|wr fun D D=>C.xv (vi 0) fun _ C=>wn D<|wp_ret<|ret1 C rfl rfl<|⟨rfl,eX⟩
def cmpI (a b:Int):Int:=if a<b then -1 else if b<a then 1 else 0
theorem cmpi_any (a b:Int) (w:World) :
  Calls Tryz.prog 43 #[.int .i64 a,.int .i64 b] w (fun e w'=>e=.returned (vi (cmpI a b))∧Ext w w'):=by
 refine calls_enter Tryz.func43 rfl rfl rfl fun _ C=>wr fun D D=>C.xv (vi 0) fun _ C=>wn D<|wr fun D D=>C.xm rfl fun _ C=>C.xe (isNaNi_any a _) fun C C C _ C=>C.xa rfl fun _ C=>wn D<|wr fun D D=>C.xm rfl fun _ C=>C.xe (isNaNi_any b _) fun C C C _ C=>C.xa rfl fun _ C=>wn D<|have D:=C.k [0,1,4,5,6];wp_seq_k fun C G=>wr fun C I=>D.xm rfl fun _ C=>wn I<|C.cf<|wp_skip<|G _ _<|wp_seq_k fun D D=>wr fun G G=>C.xm rfl fun _ C=>wn G<|C.cf<|wp_skip<|D _ _<|wp_seq_k fun D D=>wr fun G G=>C.xm rfl<|Xm rfl<|Xv (vd ((a:Int)<(b:Int))) fun _ C=>wn G ?_
 by_cases G:(a:Int)<(b:Int)
 ·exact C.ct<|wr fun D D=>C.xv (vi (-1)) fun _ C=>wn D<|wp_ret<|ret_then<|ret1 C rfl rfl<|⟨ret_int (show -1=cmpI a b by unfold cmpI;split <;> (try split) <;> omega),eX⟩
 refine C.cf<|wp_skip<|D _ _<|wp_seq_k fun D G=>wr fun D I=>C.xm rfl<|Xm rfl<|Xv (vd ((b:Int)<(a:Int))) fun _ D=>wn I ?_
 have C:=D.k [0,1,4,5,6,11,13,16,19]
 by_cases D:(b:Int)<(a:Int)
 ·exact C.ct<|wr fun D D=>C.xv (vi 1) fun _ C=>wn D<|wp_ret<|ret_then<|ret1 C rfl rfl<|⟨ret_int (show 1=cmpI a b by unfold cmpI;split <;> (try split) <;> omega),eX⟩
 exact C.cf<|wp_skip<|G _ _<|wr fun D D=>C.xv (vi 0) fun _ C=>wn D<|wp_ret<|ret1 C rfl rfl<|⟨ret_int (show 0=cmpI a b by unfold cmpI;split <;> (try split) <;> omega),eX⟩
theorem full_any (a:List UInt8) (A:Option Addr) (n c:Nat) (g:Bool) (w:World) :
  Calls Tryz.prog 109 #[.agg #[strOf a,.slice A n c,.bool g]] w (fun e w'=>e=.returned (.bool (g&&decide (0<(n:Int))))∧Ext w w'):=by
 refine calls_enter Tryz.func109 rfl rfl rfl fun _ C=>wr fun D I=>C.xb rfl fun C D _ D G G G J=>D.xv (.bool false) fun _ D=>wn I<|wr fun I I=>D.xv (vq C 2)<|Xw (.bool g) (fun F=>rl F rfl (G.rule.1 2))<|Xm rfl fun _ D=>?_
 rcases Bool.eq_false_or_eq_true g with J | J
 ·exact D.xg (vp C)<|Xg (vq C 1)<|Xgw (vl A n c) (fun F=>rl F rfl (G.rule.1 1))<|Xg (vi n)<|Xg (vd ((0:Int)<(n:Int)))<|Xv (vd ((0:Int)<(n:Int)))<|Xa rfl fun _ C=>wn I<|have D:=C.k [0,1,2];wp_ret<|ret1 D rfl rfl<|⟨ret_bool (show (decide ((0:Int)<(n:Int)))=(g&&decide (0<(n:Int))) by simp_all),eX⟩
 exact D.xu<|Xu<|Xu<|Xu<|Xu<|Xv (.bool false)<|Xa rfl fun _ C=>wn I<|have D:=C.k [0,1,2];wp_ret<|ret1 D rfl rfl<|⟨ret_bool (show false=(g&&decide (0<(n:Int))) by simp_all),eX⟩
theorem index_any (A:Option Addr) (c:Nat) (l:List Cg) (w:World) (h:RLs RCg 3 S w (vl A l.length c) l) :
  Calls Tryz.prog 123 #[.slice A l.length c,.func (.func 109) #[] #[]] w (fun e w'=>∃ r,e=.returned (vi r)∧(0≤r↔¬ ∀ c∈l,¬ fullC c)∧Ext w w'):=by
 have hc:RLs RCg 3 (Clip S w) w (vl A l.length c) l:=RLs.clip rCg h
 obtain ⟨-,hck,hcm⟩:=RLs.at h
 refine calls_enter Tryz.func123 rfl rfl rfl fun _ J=>wr fun U U=>J.xv (vi 0) fun _ J=>wn U<|wp_seq_k fun U ae=>wr fun U U=>J.xm rfl<|Xv (vi l.length)<|Xv (vi 0) fun _ J=>wn U<|wp_block<|wp_loop (fun a' W=>∃ (k:Nat),Sl 19 [(0,(vl A l.length c)),(1,(.func (.func 109) #[] #[])),(4,(vi 0)),(7,(vi l.length)),(8,(vi k))] a'∧k≤l.length∧(∀ j,j<k→∀ x,l[j]?=some x→¬ fullC x)∧Ext w W∧w.heap.size≤W.heap.size) (fun a' _=>l.length - (intOf (a'.eval (.tmp 8))).toNat) ⟨0,J.j,(by omega),(fun j hj=>absurd hj (by omega)),(Ext.refl w),(Nat.le_refl _)⟩ ?_
 rintro J J ⟨k,J,U,O,U,aa⟩
 have ag:=J
 have aa:=U.size
 refine wr fun aa aa=>J.xv (vd ((k:Int)<(l.length:Int))) fun _ D=>wn aa<|wp_seq_k fun J J=>?_
 by_cases aa:(k:Int)<(l.length:Int)
 ·refine D.ct<|wp_skip<|J _ _<|wp_seq_k fun J ab=>wp_block<|wr fun J aa=>D.xm rfl<|Xa rfl fun _ J=>wn aa<|wr fun aa ac=>J.xm rfl<|Xm rfl<|Xm rfl fun _ V=>?_
  have J:=RLs.ext rCg hc U
  obtain ⟨Y,ak,C,U,Z,M,U,ah,aj⟩:=RLs.get J (by omega:k<l.length)
  obtain ⟨G,I,rfl,ai⟩:=aj
  have D:=(Fl.cel ai).2.1
  refine V.xw (vq Y (ak+k*3)) (fun F=>rn_indexE uu27 inf66 ((F.get rfl).trans (by rw [Z])) (F.get rfl) (zl _) (il (by omega:k<l.length)) (by omega))<|Xw (.agg #[(strOf C.name),(vl G C.data.length I),(.bool C.gone)]) (fun F=>rn_loadN (cs:=[(strOf C.name),(vl G C.data.length I),(.bool C.gone)]) (F.get rfl) uu66 rfl inf66 ah) fun _ D=>D.xE (c:=full_any C.name G C.data.length I C.gone _) (k:=fun D D D _ G=>wn ac ?_)
  have D:=G.k [0,1,4,7,8,9,5,16]
  rcases Bool.eq_false_or_eq_true (C.gone&&decide (0<(C.data.length:Int))) with G | G
  ·exact D.ct<|wr fun I I=>D.xm rfl<|Xa rfl fun _ D=>wn I<|wp_ret<|ret_block<|ret_then<|ret_then<|ret_block<|ret_then<|ret1 D rfl rfl<|⟨_,rfl,⟨fun _ hq=>hq C (List.mem_of_getElem? M) (isfull G),fun _=>by omega⟩,eX⟩
  refine D.cf<|wp_skip<|ab _ _<|wp_region_lit<|D.xv (vi (k+1:Nat))<|Xm rfl fun _ C=>wpList_nil ?_
  refine ⟨⟨(k+1),C.j,(by omega),(all_succ O (nofull M G)),eX,(by omega)⟩,?_⟩
  rw [C.get (t:=8) rfl,ag.get (t:=8) rfl];simp [intOf] <;> omega
 exact D.cf<|wp_exit<|exit_then<|exit_then<|exit_here<|ae _ _<|wr fun C G=>D.xv (vi (-1)) fun _ C=>wn G<|wp_ret<|ret1 C rfl rfl<|⟨_,rfl,⟨fun hq=>absurd hq (by omega),fun hq=>absurd (all_mem O (by omega)) hq⟩,eX⟩
theorem index_at (l:List Cg) (w:World) (h:RLs RCg 3 S w v l) :
  Calls Tryz.prog 123 #[v,.func (.func 109) #[] #[]] w (fun e w'=>∃ r,e=.returned (vi r)∧(0≤r↔¬ ∀ c∈l,¬ fullC c)∧Ext w w'):=by
 obtain ⟨A,c,rfl,_⟩:=h.form
 exact index_any A c l w h
theorem contains_any (A:Option Addr) (c:Nat) (l:List Cg) (w:World) (h:RLs RCg 3 S w (vl A l.length c) l) :
  Calls Tryz.prog 112 #[.slice A l.length c,.func (.func 109) #[] #[]] w (fun e w'=>e=.returned (.bool (!decide (∀ c∈l,¬ fullC c)))∧Ext w w'):=by
 have hc:RLs RCg 3 (Clip S w) w (vl A l.length c) l:=RLs.clip rCg h
 obtain ⟨-,hck,hcm⟩:=RLs.at h
 refine calls_enter Tryz.func112 rfl rfl rfl fun _ C=>wr fun D D=>C.xv (.bool false) fun _ C=>wn D<|wr fun D G=>C.xm rfl<|Xm rfl fun _ C=>C.xc (index_at (v:=(vl A l.length c)) l _ hc) ?_
 rintro _ C ⟨M,rfl,I,J⟩
 refine ⟨_,rfl,?_⟩;intro C C;have D:=J.size
 exact C.xv (vd ((0:Int)≤(M:Int)))<|Xa rfl fun _ C=>wn G<|have D:=C.k [0,1,4];wp_ret<|ret1 D rfl rfl<|⟨ret_bool (contains_eq I),eX⟩
theorem contains_at (l:List Cg) (w:World) (h:RLs RCg 3 S w v l) :
  Calls Tryz.prog 112 #[v,.func (.func 109) #[] #[]] w (fun e w'=>e=.returned (.bool (!decide (∀ c∈l,¬ fullC c)))∧Ext w w'):=by
 obtain ⟨A,c,rfl,_⟩:=h.form
 exact contains_any A c l w h
theorem state_any (A:Option Addr) (c:Nat) (l:List It) (w:World) (h:RLs RIt 2 S w (vl A l.length c) l) (hs:∀ x∈l,x.data.length≤4294967296) (hl:l.length≤4294967296) (hG:Glob w) :
  Calls Tryz.prog 28 #[.slice A l.length c] w (fun e w'=>e=.returned (.tuple #[.agg (byteVals (stateD l)).toArray,.int .i64 (checkE l)])∧Ext w w'):=by
 have hc:RLs RIt 2 (Clip S w) w (vl A l.length c) l:=RLs.clip rIt h
 obtain ⟨-,hck,hcm⟩:=RLs.at h
 refine calls_enter Tryz.func28 rfl rfl rfl fun _ J=>wr fun Z ai=>J.xz (byteVals (List.replicate 32 0)) 29 fun G J _ J Z Z Z aG=>J.xv (vi 0) fun _ J=>wn ai<|wp_seq_k fun ai aj=>wr fun ai ay=>J.xm rfl fun _ J=>have ai:=(RLs.ext rIt hc aG);J.xe (pcheck_at (v:=(vl A l.length c)) l _ ai) fun D ai J _ J=>J.xa rfl fun _ J=>wn ay<|wr fun ay ay=>J.xm rfl<|Xv (vd (((checkE l):Int)≠(0:Int))) fun _ J=>wn ay ?_
 by_cases U:((checkE l):Int)≠(0:Int)
 ·refine J.ct<|wr fun C I=>have D:=(Z.ext ai);J.xw (.agg (byteVals (List.replicate 32 0)).toArray) (fun F=>rb F rfl D (hk:=byteVals_len (show List.length (List.replicate 32 0)=_ from List.length_replicate)))<|Xm rfl fun _ C=>?_
  refine C.xs rfl D (fun D G D=>?_) (hk:=byteVals_len (show List.length (List.replicate 32 0)=_ from List.length_replicate));have J:=D.size
  refine C.xa rfl fun _ C=>wn I<|have D:=C.k [0,2,3,4,11];wp_ret<|ret_then ?_
  exact retC1 D rfl rfl rfl G uu29 rfl (sk inf29 (byteVals_len (show List.length (List.replicate 32 0)=_ from List.length_replicate)))<|⟨by rw [show stateD l=List.replicate 32 0 from if_neg U],eX⟩
 refine J.cf<|wp_skip<|aj _ _<|wr fun aj aj=>J.xv v0 fun _ J=>wn aj<|wp_seq_k fun aj az=>wr fun aj aj=>J.xm rfl<|Xv (vi l.length)<|Xv (vi 0) fun _ J=>wn aj<|wp_block<|have aj:=(Z.ext ai);wp_loop (fun a' W=>∃ (k:Nat) (Ap:Option Addr) (np:Nat) (cp:Nat) (ls:List (List UInt8)),Sl 39 [(0,(vl A l.length c)),(2,(vp G)),(3,(vi 0)),(4,(vi (checkE l))),(11,(vd (((checkE l):Int)≠(0:Int)))),(5,(vl Ap np cp)),(14,(vl A l.length c)),(15,(vi l.length)),(16,(vi k))] a'∧(k≤l.length∧np=k)∧ls=(l.take k).map itLeaf∧Ext w W∧Blk W G 29 (byteVals (List.replicate 32 0))∧W.ownsRow D.heap.size 29 32 (vl Ap np cp) np (digVals ls)∧D.heap.size≤W.heap.size∧D.heap.size≤W.heap.size) (fun a' _=>l.length - (intOf (a'.eval (.tmp 16))).toNat) ⟨0,none,0,0,[],J.j,⟨by omega,by omega⟩,rfl,eX,aj,(own_nil D D.heap.size 29 32),(by omega),(Nat.le_refl _)⟩ ?_
 rintro J aI ⟨k,Ap,np,cp,ls,J,Z,ac,Z,Y,ah,ai,ai⟩
 have aC:=J
 have ai:=Z.size
 have ai:=Y.lt
 have ai:=own_form0 ah
 have aE:All32 ls:=by rw [ac];exact leaves_32 _
 refine wr fun ai ai=>J.xv (vd ((k:Int)<(l.length:Int))) fun _ M=>wn ai<|wp_seq_k fun J J=>?_
 by_cases ai:(k:Int)<(l.length:Int)
 ·refine M.ct<|wp_skip<|J _ _<|wp_seq_k fun J aA=>wp_block<|wr fun J aB=>?_
  have J:=RLs.ext rIt hc Z
  obtain ⟨av,aH,C,Z,aw,ab,Z,aD,aF⟩:=RLs.get J (by omega:k<l.length)
  obtain ⟨I,O,rfl,al⟩:=aF
  have J:=(Fl.cel al).2.1
  obtain ⟨J,J⟩:=nm_ok (Decidable.not_not.1 U) ab;have J:=hs C (List.mem_of_getElem? ab)
  refine M.xw (vq av (aH+k*2)) (fun F=>rn_indexE uu26 inf61 ((F.get rfl).trans (by rw [aw])) (F.get rfl) (zl _) (il (by omega:k<l.length)) (by omega))<|Xw (.agg #[(strOf C.name),(vl I C.data.length O)]) (fun F=>rn_loadN (cs:=[(strOf C.name),(vl I C.data.length O)]) (F.get rfl) uu61 rfl inf61 aD) fun _ J=>J.xz [(strOf ([])),v0] 61 fun Z J _ J ai ai ak aq=>J.xs rfl ak (fun ai ai aa=>have aj:=aa.size;wn aB<|wp_region_lit<|J.xm rfl<|Xv (vp Z)<|Xw (strOf C.name) (fun F=>rl F rfl (ai.rule.1 0))<|Xw (vi C.name.length) (fun F=>rn_lenS uu9 (F.get rfl))<|Xw (.int .u8 ((UInt8.ofNat C.name.length).toNat:Nat)) (fun F=>rn_convW uu3 uu5 (F.get rfl) (cvi_8 C.name.length)) fun _ J=>J.xn (fun g=>(vl (some ⟨g,0,none⟩) 1 1)) [(.int .u8 ((UInt8.ofNat C.name.length).toNat:Nat))] 5 (fun F=>rn_buildSlice (parts1 (F.get rfl)) (by kernel_rfl)) fun J aj _ aj av av aw ae=>aj.xv (vp Z) fun _ av=>have aj:=(ai.ext ae);av.xw (strOf C.name) (fun F=>rl F rfl (aj.rule.1 0)) fun _ ai=>wpl_op (i:=8) rfl<|o_strB (l:=C.name) ai rfl rfl rfl rfl rfl (ai.get rfl) uu9 uu22 uu5 (by omega) fun ay av ai ai ai aB aB aB aB ag=>ai.xv (vq Z 1) fun _ Z=>have ai:=(aj.ext ag);Z.xw (vl I C.data.length O) (fun F=>rl F rfl (ai.rule.1 1)) fun _ Z=>Z.xn (fun g=>(vl (some ⟨g,0,none⟩) 3 3)) [(vl (some ⟨J,0,none⟩) 1 1),(vl (some ⟨ay,0,none⟩) C.name.length av),(vl I C.data.length O)] 22 (fun F=>rn_buildSlice (parts3 (F.get rfl) (F.get rfl) (F.get rfl)) (by kernel_rfl)) fun I I _ ai I I aj V=>?_)
  have I:=aw.ux V
  have O:=aB.ext V
  have Z:=al.pres ((((((Pres.refl aI).ext aq).gc aa).ext ae).ext ag).ext V)
  have hn161:=Fl.blen (Fl.blk (S:=fun b=>b=J) (k:=1) (n:=1) (c:=1) (cs:=byteVals [(UInt8.ofNat C.name.length)]) I rfl (byteVals_one _) (by omega) rfl)
  have hn162:=Fl.blen O
  have hn163:=Fl.blen Z
  have hn164:([[(UInt8.ofNat C.name.length)],C.name,C.data]).flatten.length=1+C.name.length+C.data.length:=by simp only [List.flatten_cons,List.flatten_nil,List.length_append,List.length_nil];omega
  refine ai.xC (c:=concat_at [[(UInt8.ofNat C.name.length)],C.name,C.data] _ (RBss.three aj (Fl.blk (S:=fun b=>b=J) (k:=1) (n:=1) (c:=1) (cs:=byteVals [(UInt8.ofNat C.name.length)]) I rfl (byteVals_one _) (by omega) rfl) O Z) hn164 (by omega)) (k:=?_)
  rintro _ I ⟨au,ax,rfl,am,ar⟩
  rw [show ([[(UInt8.ofNat C.name.length)],C.name,C.data]).flatten=([(UInt8.ofNat C.name.length)])++C.name++C.data from by simp] at am
  refine ⟨_,rfl,?_⟩;intro I I;have J:=ar.size
  refine I.xE (c:=tagged_at ([105,116,101,109]) (v:=(vl au (1+C.name.length+C.data.length) ax)) (n:=(1+C.name.length+C.data.length)) (([(UInt8.ofNat C.name.length)])++C.name++C.data) _ am (hG.ext eX) (by simp <;> omega) (by omega)) (k:=fun I J I _ I=>have O:=(own_ext (own_ext (own_ext (own_ext (own_ext (own_grownT (own_ext ah aq) ak aa (by decide)) ae) ag) V) ar) J);have U:=O;I.xn (fun g=>(vl (some ⟨g,0,none⟩) 1 1)) (byteVals ((tagged ([105,116,101,109]) (([(UInt8.ofNat C.name.length)])++C.name++C.data)))) 29 (fun F=>rn_buildSlice (parts1 (F.get rfl)) (build_wholeE (vs:=[(.agg (byteVals (tagged ([105,116,101,109]) (([(UInt8.ofNat C.name.length)])++C.name++C.data))).toArray)]) El30 rfl rfl (fun v hv=>by rw [List.mem_singleton.1 hv];exact (byteVals_len (tagged_len _ _))) (by decide) (by decide) (by simp [Value.cells,byteVals]))) fun I J _ J M M M V=>have aa:=own_new (g:=I) U (by omega);have Z:=(own_ext O V);have U:=Z;have O:=Y.ux V;have V:some G≠(Value.slice Ap np cp).ownBlock:=(own_ne Z (by omega:G<D.heap.size));have D:=O.lt;have ae:some I≠(Value.slice Ap np cp).ownBlock:=aa;have D:=M.lt;wpl_op (i:=15) rfl<|o_appB (zs:=digVals (ls++([tagged ([105,116,101,109]) (([(UInt8.ofNat C.name.length)])++C.name++C.data)]))) El30 J rfl rfl rfl rfl rfl (J.get rfl) (J.get rfl) U (Fl.cel (Fl.digblk (S:=fun b=>b=I) M (All32.sing (tagged_len _ _)) (by simp [digVals,byteVals]))).2.2 (by omega) (by omega) (by omega) (digVals_app _ _) fun M Z D D Y aa D J J J=>have ag:=D.size;have ag:=J G (by omega) V;have G:=J I (by omega) ae;Y.xa rfl fun _ G=>wn aA<|have I:=G.k [0,2,3,4,11,5,14,15,16,17,7];wp_region_lit<|I.xv (vi (k+1:Nat))<|Xm rfl fun _ G=>wpList_nil ?_)
  have I:=O.grown D V
  refine ⟨⟨(k+1),M,np+1,Z,ls++([tagged ([105,116,101,109]) (([(UInt8.ofNat C.name.length)])++C.name++C.data)]),G.j,⟨by omega,by omega⟩,(by rw [ac];exact leaves_step ab),(ext_row eX D U (by omega)),I,aa,(by omega),(by omega)⟩,?_⟩
  rw [G.get (t:=16) rfl,aC.get (t:=16) rfl];simp [intOf] <;> omega
 refine M.cf<|wp_exit<|exit_then<|exit_then<|exit_here<|az _ _<|wr fun C G=>M.xm rfl fun _ C=>have I:=(Fl.own (S:=fun b=>D.heap.size≤b) ah (fun b hb=>hb) (digVals_one _));C.xe (tree_at ls _ (n:=np) (v:=(vl Ap np cp)) aE I (hG.ext eX)) fun C I C _ C=>?_
 have D:=Y.ext I
 refine C.xs rfl D (fun D D I=>?_) (hk:=byteVals_len (treeD_len _));have J:=I.size
 refine C.xv (vi 0) fun _ C=>wn G<|wp_ret ?_
 refine retC1 C rfl rfl rfl D uu29 rfl (sk inf29 (byteVals_len (treeD_len _))) ?_
 have hk:k=l.length:=by omega
 have hl:=ac
 rw [hk,List.take_length] at hl
 exact ⟨by rw [show stateD l=treeD ls from (if_pos (Decidable.not_not.1 U)).trans (by rw [hl]),(Decidable.not_not.1 U)],eX⟩
theorem state_at (l:List It) (w:World) (h:RLs RIt 2 S w v l) (hs:∀ x∈l,x.data.length≤4294967296) (hl:l.length≤4294967296) (hG:Glob w) :
  Calls Tryz.prog 28 #[v] w (fun e w'=>e=.returned (.tuple #[.agg (byteVals (stateD l)).toArray,.int .i64 (checkE l)])∧Ext w w'):=by
 obtain ⟨A,c,rfl,_⟩:=h.form
 exact state_any A c l w h hs hl hG
theorem sub_drop {l l0:List α} (h:∀ z∈l,z∈l0) (i:Nat):∀ z∈l.drop i,z∈l0:=fun z hz=>h z (List.mem_of_mem_drop hz)
theorem sub_take {l l0:List α} (h:∀ z∈l,z∈l0) (i:Nat):∀ z∈l.take i,z∈l0:=fun z hz=>h z (List.mem_of_mem_take hz)
theorem mergeIt_any (A:Option Addr) (c:Nat) (a0:List It) (B:Option Addr) (d:Nat) (b0:List It) (f:FuncId) (first cap:Array Value) (hen:∀ (vs:Array Value) (W:World),(callFunc f vs).run Tryz.prog W=.ok (.enter f vs) W) (arg:Value→Value→Array Value) (harg:∀ u v,(first++#[u,v])++cap=arg u v)
  (J:List (Option It × Option It)→World→Prop) (hJ:∀ ps W W',J ps W→Ext W W'→J ps W') (N:Nat)
  (hp:∀ (ps:List (Option It × Option It)) (u v:Value) (x:List It) (y:List It) (W:World),J ps W→RLs RIt 2 S W u x→RLs RIt 2 S W v y→x.length≤1→y.length≤1→¬ (x=[]∧y=[])→(∀ z∈y,z∈b0)→(∀ z∈x,z∈a0)→ps.length<N→Calls Tryz.prog f (arg u v) W (fun e W'=>e=.returned (.tuple #[])∧J (ps++[(x.head?,y.head?)]) W'∧FarX S W W'))
  (w:World) (h1:RLs RIt 2 S w (vl A a0.length c) a0) (h2:RLs RIt 2 S w (vl B b0.length d) b0) (hN:(mrg It.name It.name a0 b0).length≤N) (hj:J [] w) :
  Calls Tryz.prog 55 #[.slice A a0.length c,.slice B b0.length d,.func (.func 56) #[] #[],.func (.func 56) #[] #[],.func (.func f) first cap] w (fun e w'=>e=.returned (.tuple #[])∧J (mrg It.name It.name a0 b0) w'∧FarX S w w'):=by
 obtain ⟨-,aD,aD⟩:=RLs.at h1;obtain ⟨-,aD,aD⟩:=RLs.at h2
 refine calls_enter Tryz.func55 rfl rfl rfl fun _ hF=>wp_block<|wp_loop (fun a' W=>∃ (D:List It) (C:List It) (U:Option Addr) (O:Nat) (B1:Option Addr) (M:Nat) (ps:List (Option It × Option It)),Sl 68 [(0,(vl U D.length O)),(1,(vl B1 C.length M)),(2,(.func (.func 56) #[] #[])),(3,(.func (.func 56) #[] #[])),(4,(.func (.func f) first cap))] a'∧ps++mrg It.name It.name D C=mrg It.name It.name a0 b0∧((∀ z∈D,z∈a0))∧((∀ z∈C,z∈b0))∧True∧RLs RIt 2 S W (vl U D.length O) D∧RLs RIt 2 S W (vl B1 C.length M) C∧J ps W∧FarX S w W) (fun a' _=>sliceLen (a'.eval (.tmp 0))+sliceLen (a'.eval (.tmp 1))) ⟨a0,b0,A,c,B,d,[],(((((hF.nil.cons (q_get hF (t:=4) rfl rfl)).cons (q_get hF (t:=3) rfl rfl)).cons (q_get hF (t:=2) rfl rfl)).cons (q_get hF (t:=1) rfl (by first | rfl | (simp only [List.length_drop])))).cons (q_get hF (t:=0) rfl (by first | rfl | (simp only [List.length_drop])))),(List.nil_append _),(fun _ h=>h),(fun _ h=>h),trivial,h1,h2,hj,(FarX.refl w)⟩ ?_
 rintro D w2 ⟨D,C,U,O,B1,M,ps,F3,aq,ay,az,aD,Y,Z,aw,ax⟩
 have au:=F3
 obtain ⟨-,aD,aD⟩:=RLs.at Y
 obtain ⟨-,aD,aD⟩:=RLs.at Z
 refine wp_meet (fun a' W=>Sl 68 [(0,(vl U D.length O)),(1,(vl B1 C.length M)),(2,(.func (.func 56) #[] #[])),(3,(.func (.func 56) #[] #[])),(4,(.func (.func f) first cap))] a'∧Ext w2 W∧(0<D.length∨0<C.length)) ?_ ?_
 ·refine wr fun G I=>F3.xm rfl<|Xv (vi D.length)<|Xv (vd ((0:Int)<(D.length:Int)))<|Xm rfl fun _ G=>?_
  by_cases V:(0:Int)<(D.length:Int)
  ·exact G.xu<|Xu<|Xu<|Xv (.bool true) fun _ D=>wn I<|have C:=D.k [0,1,2,3,4,20];C.ct<|wp_skip<|⟨C.j,(Ext.refl w2),(by omega)⟩
  refine G.xg (vl B1 C.length M)<|Xg (vi C.length)<|Xg (vd ((0:Int)<(C.length:Int)))<|Xv (vd ((0:Int)<(C.length:Int))) fun _ V=>wn I ?_
  have G:=V.k [0,1,2,3,4,20]
  by_cases I:(0:Int)<(C.length:Int)
  ·exact G.ct<|wp_skip<|⟨G.j,(Ext.refl w2),(by omega)⟩
  refine G.cf<|wp_exit<|exit_then<|exit_then<|exit_here<|ret0 G rfl ?_
  have he:=aq;rw [mrg_nil (a:=D) (b:=C) (by omega) (by omega),List.append_nil] at he;subst he
  exact ⟨rfl,hJ _ _ _ aw (Ext.refl w2),FarX.ext ax (Ext.refl w2)⟩
 ·rintro aD ar ⟨aD,ah,hne1⟩
  have aI:=ah.size
  refine wp_block<|wr fun aI aI=>aD.xv (vi 0) fun _ aD=>wn aI ?_
  refine wp_meet (fun a' W=>∃ (nn:Int) (ii:Nat) (kk:Nat),Sl 68 [(0,(vl U D.length O)),(1,(vl B1 C.length M)),(2,(.func (.func 56) #[] #[])),(3,(.func (.func 56) #[] #[])),(4,(.func (.func f) first cap)),(10,(vi nn))] a'∧Ext ar W∧(nn=-1∧ii=1∧kk=0∨nn=1∧ii=0∧kk=1∨nn=0∧ii=1∧kk=1)∧(ii≤D.length∧kk≤C.length)∧mrg It.name It.name D C=((D.take ii).head?,(C.take kk).head?)::mrg It.name It.name (D.drop ii) (C.drop kk)) ?_ ?_
  ·refine wp_block<|wr fun aI aI=>aD.xm rfl<|Xv (vi C.length)<|Xv (vd ((C.length:Int)=(0:Int)))<|Xa rfl fun _ ai=>wn aI ?_
   by_cases aD:(C.length:Int)=(0:Int)
   ·refine ai.ct<|wp_region_lit<|ai.xv (vi (-1)) fun _ G=>wpList_nil ?_
    have I:=RLs.ext rIt Y ah
    obtain ⟨ac,ac,ac,ac,ac,aa,ac,ac,ab⟩:=RLs.get I (by omega:0<D.length)
    obtain ⟨I,I,rfl,V⟩:=ab
    have I:=(Fl.cel V).2.1
    exact ⟨(-1),1,0,G.j,(Ext.refl ar),(by omega),(by omega),(mrg_l0 (na:=It.name) (nb:=It.name) (a:=D) (b:=C) aa (by omega))⟩
   refine ai.cf<|wr fun aD aD=>ai.xm rfl<|Xv (vi D.length)<|Xv (vd ((D.length:Int)=(0:Int)))<|Xa rfl fun _ ai=>wn aD ?_
   have ab:=ai.k [0,1,2,3,4,10,32,36]
   by_cases ai:(D.length:Int)=(0:Int)
   ·refine ab.ct<|wp_region_lit<|ab.xv (vi 1) fun _ G=>wpList_nil ?_
    have I:=RLs.ext rIt Z ah
    obtain ⟨ae,ae,ae,ae,ae,aa,ae,ae,ac⟩:=RLs.get I (by omega:0<C.length)
    obtain ⟨I,I,rfl,V⟩:=ac
    have I:=(Fl.cel V).2.1
    exact ⟨(1),0,1,G.j,(Ext.refl ar),(by omega),(by omega),(mrg_0r (na:=It.name) (nb:=It.name) (a:=D) (b:=C) aa (by omega))⟩
   refine ab.cf ?_
   have ai:=RLs.ext rIt Y ah
   obtain ⟨ar,ar,G,ar,ar,ac,ar,ar,aR⟩:=RLs.get ai (by omega:0<D.length)
   obtain ⟨ai,ai,rfl,aL⟩:=aR
   have ai:=(Fl.cel aL).2.1
   have ai:=RLs.ext rIt Z ah
   obtain ⟨ah,ah,I,ah,ah,ae,ah,ah,aS⟩:=RLs.get ai (by omega:0<C.length)
   obtain ⟨ah,ah,rfl,aM⟩:=aS
   have ah:=(Fl.cel aM).2.1
   rcases Bool.eq_false_or_eq_true (ltS G.name I.name) with V | V
   ·refine sX (fun aa W=>Ext aa W) (fun i=>false) 12 fun aa av ah=>ab.ym 0 rfl<|Ym 1 rfl fun _ aA=>?_
    have ah:=RLs.ux rIt Y av
    obtain ⟨aC,aU,aW,ai,aF,aO,ai,aH,aQ⟩:=RLs.get ah (by omega:0<D.length)
    obtain rfl:G=aW:=Option.some.inj (ac.symm.trans aO)
    obtain ⟨ag,ak,rfl,aK⟩:=aQ
    have ah:=(Fl.cel aK).2.1
    refine aA.yw 2 (vq aC (aU+0*2)) rfl (fun F W=>rn_indexE uu26 inf61 ((F.get rfl).trans (by rw [aF])) rfl (by omega:(0:Int)≤0) (by omega:(0:Int)<(D.length:Int)) (by omega)) fun _ ah=>have am:Ex aa aa:=Ext.refl aa;ah.ys 3 (.agg #[(strOf G.name),(vl ag G.data.length ak)]) rfl am (fun F W hW=>rn_loadN (cs:=[(strOf G.name),(vl ag G.data.length ak)]) (F.get rfl) uu61 rfl inf61 (fun j u hu=>Ext.keep ((Ext.refl aa).trans hW) (aH j u hu)))<|Ym 5 rfl<|Ym 6 rfl fun _ aB=>?_
    have ah:=RLs.ux rIt Z av
    obtain ⟨aE,aV,aX,ai,aG,aP,ai,aJ,aT⟩:=RLs.get ah (by omega:0<C.length)
    obtain rfl:I=aX:=Option.some.inj (ae.symm.trans aP)
    obtain ⟨aj,al,rfl,aN⟩:=aT
    have M:=(Fl.cel aN).2.1
    refine aB.yw 7 (vq aE (aV+0*2)) rfl (fun F W=>rn_indexE uu26 inf61 ((F.get rfl).trans (by rw [aG])) rfl (by omega:(0:Int)≤0) (by omega:(0:Int)<(C.length:Int)) (by omega))<|Ys 8 (.agg #[(strOf I.name),(vl aj I.data.length al)]) rfl am (fun F W hW=>rn_loadN (cs:=[(strOf I.name),(vl aj I.data.length al)]) (F.get rfl) uu61 rfl inf61 (fun j u hu=>Ext.keep ((Ext.refl aa).trans hW) (aJ j u hu))) fun _ M=>ao 4 rfl<|M.oE (c:=itemName_any G.name (vl ag G.data.length ak) _) (k:=fun M M M _ M=>?_)
    refine ⟨fun _ _=>eX,?_⟩
    refine ao 9 rfl<|M.oE (c:=itemName_any I.name (vl aj I.data.length al) _) (k:=fun M M M _ M=>?_)
    refine ⟨fun _ _=>eX,?_⟩
    refine ao 10 rfl<|M.oe (cmps_lt G.name I.name _ V) fun G G G _ G=>?_
    refine ⟨fun _ _=>eX,?_⟩
    exact G.yv 11 (vi (-1)) rfl fun _ G=>nN<|⟨(-1),1,0,G.j,eX,(by omega),(by omega),(mrg_lt (na:=It.name) (nb:=It.name) (a:=D) (b:=C) ac ae V)⟩
   rcases Bool.eq_false_or_eq_true (ltS I.name G.name) with ag | ag
   ·refine sX (fun aa W=>Ext aa W) (fun i=>false) 12 fun aa aA ah=>ab.ym 0 rfl<|Ym 1 rfl fun _ aB=>?_
    have ah:=RLs.ux rIt Y aA
    obtain ⟨aE,aV,aX,ai,aG,aP,ai,aJ,aT⟩:=RLs.get ah (by omega:0<D.length)
    obtain rfl:G=aX:=Option.some.inj (ac.symm.trans aP)
    obtain ⟨aj,al,rfl,aN⟩:=aT
    have ah:=(Fl.cel aN).2.1
    refine aB.yw 2 (vq aE (aV+0*2)) rfl (fun F W=>rn_indexE uu26 inf61 ((F.get rfl).trans (by rw [aG])) rfl (by omega:(0:Int)≤0) (by omega:(0:Int)<(D.length:Int)) (by omega)) fun _ ah=>have av:Ex aa aa:=Ext.refl aa;ah.ys 3 (.agg #[(strOf G.name),(vl aj G.data.length al)]) rfl av (fun F W hW=>rn_loadN (cs:=[(strOf G.name),(vl aj G.data.length al)]) (F.get rfl) uu61 rfl inf61 (fun j u hu=>Ext.keep ((Ext.refl aa).trans hW) (aJ j u hu)))<|Ym 5 rfl<|Ym 6 rfl fun _ aC=>?_
    have ah:=RLs.ux rIt Z aA
    obtain ⟨aF,aW,aY,ai,aH,aQ,ai,aK,aU⟩:=RLs.get ah (by omega:0<C.length)
    obtain rfl:I=aY:=Option.some.inj (ae.symm.trans aQ)
    obtain ⟨ak,am,rfl,aO⟩:=aU
    have M:=(Fl.cel aO).2.1
    refine aC.yw 7 (vq aF (aW+0*2)) rfl (fun F W=>rn_indexE uu26 inf61 ((F.get rfl).trans (by rw [aH])) rfl (by omega:(0:Int)≤0) (by omega:(0:Int)<(C.length:Int)) (by omega))<|Ys 8 (.agg #[(strOf I.name),(vl ak I.data.length am)]) rfl av (fun F W hW=>rn_loadN (cs:=[(strOf I.name),(vl ak I.data.length am)]) (F.get rfl) uu61 rfl inf61 (fun j u hu=>Ext.keep ((Ext.refl aa).trans hW) (aK j u hu))) fun _ M=>ao 4 rfl<|M.oE (c:=itemName_any G.name (vl aj G.data.length al) _) (k:=fun M M M _ M=>?_)
    refine ⟨fun _ _=>eX,?_⟩
    refine ao 9 rfl<|M.oE (c:=itemName_any I.name (vl ak I.data.length am) _) (k:=fun M M M _ M=>?_)
    refine ⟨fun _ _=>eX,?_⟩
    refine ao 10 rfl<|M.oe (cmps_gt G.name I.name _ V ag) fun G G G _ G=>?_
    refine ⟨fun _ _=>eX,?_⟩
    exact G.yv 11 (vi 1) rfl fun _ G=>nN<|⟨(1),0,1,G.j,eX,(by omega),(by omega),(mrg_gt (na:=It.name) (nb:=It.name) (a:=D) (b:=C) ac ae V ag)⟩
   refine sX (fun aa W=>Ext aa W) (fun i=>false) 12 fun aa aA ah=>ab.ym 0 rfl<|Ym 1 rfl fun _ aB=>?_
   have ab:=RLs.ux rIt Y aA
   obtain ⟨aE,aV,aX,ah,aG,aP,ah,aJ,aT⟩:=RLs.get ab (by omega:0<D.length)
   obtain rfl:G=aX:=Option.some.inj (ac.symm.trans aP)
   obtain ⟨aj,al,rfl,aN⟩:=aT
   have ab:=(Fl.cel aN).2.1
   refine aB.yw 2 (vq aE (aV+0*2)) rfl (fun F W=>rn_indexE uu26 inf61 ((F.get rfl).trans (by rw [aG])) rfl (by omega:(0:Int)≤0) (by omega:(0:Int)<(D.length:Int)) (by omega)) fun _ ab=>have av:Ex aa aa:=Ext.refl aa;ab.ys 3 (.agg #[(strOf G.name),(vl aj G.data.length al)]) rfl av (fun F W hW=>rn_loadN (cs:=[(strOf G.name),(vl aj G.data.length al)]) (F.get rfl) uu61 rfl inf61 (fun j u hu=>Ext.keep ((Ext.refl aa).trans hW) (aJ j u hu)))<|Ym 5 rfl<|Ym 6 rfl fun _ aC=>?_
   have ab:=RLs.ux rIt Z aA
   obtain ⟨aF,aW,aY,ah,aH,aQ,ah,aK,aU⟩:=RLs.get ab (by omega:0<C.length)
   obtain rfl:I=aY:=Option.some.inj (ae.symm.trans aQ)
   obtain ⟨ak,am,rfl,aO⟩:=aU
   have M:=(Fl.cel aO).2.1
   refine aC.yw 7 (vq aF (aW+0*2)) rfl (fun F W=>rn_indexE uu26 inf61 ((F.get rfl).trans (by rw [aH])) rfl (by omega:(0:Int)≤0) (by omega:(0:Int)<(C.length:Int)) (by omega))<|Ys 8 (.agg #[(strOf I.name),(vl ak I.data.length am)]) rfl av (fun F W hW=>rn_loadN (cs:=[(strOf I.name),(vl ak I.data.length am)]) (F.get rfl) uu61 rfl inf61 (fun j u hu=>Ext.keep ((Ext.refl aa).trans hW) (aK j u hu))) fun _ M=>ao 4 rfl<|M.oE (c:=itemName_any G.name (vl aj G.data.length al) _) (k:=fun M M M _ M=>?_)
   refine ⟨fun _ _=>eX,?_⟩
   refine ao 9 rfl<|M.oE (c:=itemName_any I.name (vl ak I.data.length am) _) (k:=fun M M M _ M=>?_)
   refine ⟨fun _ _=>eX,?_⟩
   refine ao 10 rfl<|M.oe (cmps_eq G.name I.name _ V ag) fun G G G _ G=>?_
   refine ⟨fun _ _=>eX,?_⟩
   exact G.yv 11 (vi 0) rfl fun _ G=>nN<|⟨(0),1,1,G.j,eX,(by omega),(by omega),(mrg_eq (na:=It.name) (nb:=It.name) (a:=D) (b:=C) ac ae V ag)⟩
  ·rintro G G ⟨nn,ii,kk,G,I,hnn,hik,hlem⟩
   have aa:=I.size
   refine wr fun I I=>G.xm rfl<|Xv (vi D.length)<|Xm rfl<|Xv (vi (1 - (ii:Nat):Int))<|Xv (vi ii)<|Xv (vi ii)<|Xv (vi ii)<|Xm rfl<|Xv (vi C.length)<|Xm rfl<|Xv (vi ((kk:Nat) - 1:Int))<|Xv (vi kk)<|Xv (vi kk)<|Xv (vi kk)<|Xa rfl<|Xa rfl fun _ G=>wn I<|have aa:=G.k [0,1,2,3,4,10,11,12];wp_seq_k fun G ac=>sX (fun G W=>True) (fun i=>false) 8 fun G I G=>aa.ym 0 rfl<|Ym 1 rfl<|Ym 2 rfl<|Yw 3 (vl U ii O) rfl (fun F W=>rn_sliceHi uu26 inf61 (F.get rfl) (F.get rfl) (zl _) (ie (by omega:ii≤O)))<|Ym 4 rfl<|Ym 5 rfl<|Yw 6 (vl B1 kk M) rfl (fun F W=>rn_sliceHi uu26 inf61 (F.get rfl) (F.get rfl) (zl _) (ie (by omega:kk≤M))) fun _ G=>ao 7 rfl<|have aa:=(RLs.ux rIt Y I);have Y:=(RLs.ux rIt Z I);have ab:=hlem;have Z:=hJ _ _ _ aw (.trans eX I);have ae:=(FarX.ext ax (.trans eX I));have I:=(RLs.take aa (by omega:ii≤D.length));have ag:=(RLs.take Y (by omega:kk≤C.length));have ai:=RLs.norm aa;have aj:=RLs.norm Y;o_call G rfl rfl rfl rfl (rn_callvc (G.get rfl) (argsw_2 harg (G.get rfl) (G.get rfl)) (hen _ _)) (hp ps _ _ (D.take ii) (C.take kk) _ Z I ag (by rw [List.length_take];omega) (by rw [List.length_take];omega) (fun q=>by have q1:=congrArg List.length q.1;have q2:=congrArg List.length q.2;simp only [List.length_take,List.length_nil] at q1 q2;omega) (sub_take az _) (sub_take ay _) (mrg_room aq ab hN)) ?_
   rintro _ G ⟨rfl,ak,V⟩
   refine ⟨_,rfl,?_⟩;intro G G
   have Z:=FarX.trans ae V
   have Y:=RLs.pres rIt ai V.1
   have aa:=RLs.pres rIt aj V.1
   refine ⟨fun _ _=>trivial,?_⟩
   refine nK ac<|have V:=G.k [0,1,2,3,4,10,11,12];sX (fun G W=>Ext G W) (fun i=>false) 8 fun G I G=>V.ym 0 rfl<|Ym 1 rfl<|Yw 2 (vl (cutA U O ii 2) (D.length - ii) (O - ii)) rfl (fun F W=>rn_cutLo (l:=ii) uu26 inf61 (F.get rfl) (F.get rfl) (by omega))<|Ym 3 rfl<|Ym 4 rfl<|Yw 5 (vl (cutA B1 M kk 2) (C.length - kk) (M - kk)) rfl (fun F W=>rn_cutLo (l:=kk) uu26 inf61 (F.get rfl) (F.get rfl) (by omega))<|Yv 6 (vl (cutA U O ii 2) (D.length - ii) (O - ii)) rfl<|Yv 7 (vl (cutA B1 M kk 2) (C.length - kk) (M - kk)) rfl fun _ G=>nN ?_
   have V:=RLs.ext rIt Y I
   have Y:=RLs.ext rIt aa I
   refine ⟨⟨(D.drop ii),(C.drop kk),(cutA U O ii 2),O - ii,(cutA B1 M kk 2),M - kk,(ps++[((D.take ii).head?,(C.take kk).head?)]),G.j,(by rw [List.append_assoc];exact (congrArg (fun z=>ps++z) ab.symm).trans aq),(sub_drop ay _),(sub_drop az _),trivial,(RLs.norm (RLs.cut V (by omega:ii≤D.length))),(RLs.norm (RLs.cut Y (by omega:kk≤C.length))),(hJ _ _ _ ak eX),(FarX.ext Z eX)⟩,?_⟩
   rw [G.get (t:=0) rfl,G.get (t:=1) rfl,au.get (t:=0) rfl,au.get (t:=1) rfl];simp only [sliceLen];omega
theorem mergeCg_any (A:Option Addr) (c:Nat) (a0:List It) (B:Option Addr) (d:Nat) (b0:List Cg) (f:FuncId) (first cap:Array Value) (hen:∀ (vs:Array Value) (W:World),(callFunc f vs).run Tryz.prog W=.ok (.enter f vs) W) (arg:Value→Value→Array Value) (harg:∀ u v,(first++#[u,v])++cap=arg u v)
  (J:List (Option It × Option Cg)→World→Prop) (hJ:∀ ps W W',J ps W→Ext W W'→J ps W') (N:Nat)
  (hp:∀ (ps:List (Option It × Option Cg)) (u v:Value) (x:List It) (y:List Cg) (W:World),J ps W→RLs RIt 2 S W u x→RLs RCg 3 S W v y→x.length≤1→y.length≤1→¬ (x=[]∧y=[])→(∀ z∈y,z∈b0)→(∀ z∈x,z∈a0)→ps.length<N→Calls Tryz.prog f (arg u v) W (fun e W'=>e=.returned (.tuple #[])∧J (ps++[(x.head?,y.head?)]) W'∧FarX S W W'))
  (w:World) (h1:RLs RIt 2 S w (vl A a0.length c) a0) (h2:RLs RCg 3 S w (vl B b0.length d) b0) (hN:(mrg It.name Cg.name a0 b0).length≤N) (hj:J [] w) :
  Calls Tryz.prog 113 #[.slice A a0.length c,.slice B b0.length d,.func (.func 56) #[] #[],.func (.func 111) #[] #[],.func (.func f) first cap] w (fun e w'=>e=.returned (.tuple #[])∧J (mrg It.name Cg.name a0 b0) w'∧FarX S w w'):=by
 obtain ⟨-,aD,aD⟩:=RLs.at h1;obtain ⟨-,aD,aD⟩:=RLs.at h2
 refine calls_enter Tryz.func113 rfl rfl rfl fun _ hF=>wp_block<|wp_loop (fun a' W=>∃ (D:List It) (C:List Cg) (U:Option Addr) (O:Nat) (B1:Option Addr) (M:Nat) (ps:List (Option It × Option Cg)),Sl 68 [(0,(vl U D.length O)),(1,(vl B1 C.length M)),(2,(.func (.func 56) #[] #[])),(3,(.func (.func 111) #[] #[])),(4,(.func (.func f) first cap))] a'∧ps++mrg It.name Cg.name D C=mrg It.name Cg.name a0 b0∧((∀ z∈D,z∈a0))∧((∀ z∈C,z∈b0))∧True∧RLs RIt 2 S W (vl U D.length O) D∧RLs RCg 3 S W (vl B1 C.length M) C∧J ps W∧FarX S w W) (fun a' _=>sliceLen (a'.eval (.tmp 0))+sliceLen (a'.eval (.tmp 1))) ⟨a0,b0,A,c,B,d,[],(((((hF.nil.cons (q_get hF (t:=4) rfl rfl)).cons (q_get hF (t:=3) rfl rfl)).cons (q_get hF (t:=2) rfl rfl)).cons (q_get hF (t:=1) rfl (by first | rfl | (simp only [List.length_drop])))).cons (q_get hF (t:=0) rfl (by first | rfl | (simp only [List.length_drop])))),(List.nil_append _),(fun _ h=>h),(fun _ h=>h),trivial,h1,h2,hj,(FarX.refl w)⟩ ?_
 rintro D w2 ⟨D,C,U,O,B1,M,ps,F3,aq,ay,az,aD,Y,Z,aw,ax⟩
 have au:=F3
 obtain ⟨-,aD,aD⟩:=RLs.at Y
 obtain ⟨-,aD,aD⟩:=RLs.at Z
 refine wp_meet (fun a' W=>Sl 68 [(0,(vl U D.length O)),(1,(vl B1 C.length M)),(2,(.func (.func 56) #[] #[])),(3,(.func (.func 111) #[] #[])),(4,(.func (.func f) first cap))] a'∧Ext w2 W∧(0<D.length∨0<C.length)) ?_ ?_
 ·refine wr fun G I=>F3.xm rfl<|Xv (vi D.length)<|Xv (vd ((0:Int)<(D.length:Int)))<|Xm rfl fun _ G=>?_
  by_cases V:(0:Int)<(D.length:Int)
  ·exact G.xu<|Xu<|Xu<|Xv (.bool true) fun _ D=>wn I<|have C:=D.k [0,1,2,3,4,20];C.ct<|wp_skip<|⟨C.j,(Ext.refl w2),(by omega)⟩
  refine G.xg (vl B1 C.length M)<|Xg (vi C.length)<|Xg (vd ((0:Int)<(C.length:Int)))<|Xv (vd ((0:Int)<(C.length:Int))) fun _ V=>wn I ?_
  have G:=V.k [0,1,2,3,4,20]
  by_cases I:(0:Int)<(C.length:Int)
  ·exact G.ct<|wp_skip<|⟨G.j,(Ext.refl w2),(by omega)⟩
  refine G.cf<|wp_exit<|exit_then<|exit_then<|exit_here<|ret0 G rfl ?_
  have he:=aq;rw [mrg_nil (a:=D) (b:=C) (by omega) (by omega),List.append_nil] at he;subst he
  exact ⟨rfl,hJ _ _ _ aw (Ext.refl w2),FarX.ext ax (Ext.refl w2)⟩
 ·rintro aD ar ⟨aD,ah,hne1⟩
  have aI:=ah.size
  refine wp_block<|wr fun aI aI=>aD.xv (vi 0) fun _ aD=>wn aI ?_
  refine wp_meet (fun a' W=>∃ (nn:Int) (ii:Nat) (kk:Nat),Sl 68 [(0,(vl U D.length O)),(1,(vl B1 C.length M)),(2,(.func (.func 56) #[] #[])),(3,(.func (.func 111) #[] #[])),(4,(.func (.func f) first cap)),(10,(vi nn))] a'∧Ext ar W∧(nn=-1∧ii=1∧kk=0∨nn=1∧ii=0∧kk=1∨nn=0∧ii=1∧kk=1)∧(ii≤D.length∧kk≤C.length)∧mrg It.name Cg.name D C=((D.take ii).head?,(C.take kk).head?)::mrg It.name Cg.name (D.drop ii) (C.drop kk)) ?_ ?_
  ·refine wp_block<|wr fun aI aI=>aD.xm rfl<|Xv (vi C.length)<|Xv (vd ((C.length:Int)=(0:Int)))<|Xa rfl fun _ ai=>wn aI ?_
   by_cases aD:(C.length:Int)=(0:Int)
   ·refine ai.ct<|wp_region_lit<|ai.xv (vi (-1)) fun _ G=>wpList_nil ?_
    have I:=RLs.ext rIt Y ah
    obtain ⟨ac,ac,ac,ac,ac,aa,ac,ac,ab⟩:=RLs.get I (by omega:0<D.length)
    obtain ⟨I,I,rfl,V⟩:=ab
    have I:=(Fl.cel V).2.1
    exact ⟨(-1),1,0,G.j,(Ext.refl ar),(by omega),(by omega),(mrg_l0 (na:=It.name) (nb:=Cg.name) (a:=D) (b:=C) aa (by omega))⟩
   refine ai.cf<|wr fun aD aD=>ai.xm rfl<|Xv (vi D.length)<|Xv (vd ((D.length:Int)=(0:Int)))<|Xa rfl fun _ ai=>wn aD ?_
   have ab:=ai.k [0,1,2,3,4,10,32,36]
   by_cases ai:(D.length:Int)=(0:Int)
   ·refine ab.ct<|wp_region_lit<|ab.xv (vi 1) fun _ G=>wpList_nil ?_
    have I:=RLs.ext rCg Z ah
    obtain ⟨ae,ae,ae,ae,ae,aa,ae,ae,ac⟩:=RLs.get I (by omega:0<C.length)
    obtain ⟨I,I,rfl,V⟩:=ac
    have I:=(Fl.cel V).2.1
    exact ⟨(1),0,1,G.j,(Ext.refl ar),(by omega),(by omega),(mrg_0r (na:=It.name) (nb:=Cg.name) (a:=D) (b:=C) aa (by omega))⟩
   refine ab.cf ?_
   have ai:=RLs.ext rIt Y ah
   obtain ⟨ar,ar,I,ar,ar,ac,ar,ar,aR⟩:=RLs.get ai (by omega:0<D.length)
   obtain ⟨ai,ai,rfl,aL⟩:=aR
   have ai:=(Fl.cel aL).2.1
   have ai:=RLs.ext rCg Z ah
   obtain ⟨ah,ah,G,ah,ah,ae,ah,ah,aS⟩:=RLs.get ai (by omega:0<C.length)
   obtain ⟨ah,ah,rfl,aM⟩:=aS
   have ah:=(Fl.cel aM).2.1
   rcases Bool.eq_false_or_eq_true (ltS I.name G.name) with V | V
   ·refine sX (fun aa W=>Ext aa W) (fun i=>false) 12 fun aa av ah=>ab.ym 0 rfl<|Ym 1 rfl fun _ aA=>?_
    have ah:=RLs.ux rIt Y av
    obtain ⟨aC,aU,aW,ai,aF,aO,ai,aH,aQ⟩:=RLs.get ah (by omega:0<D.length)
    obtain rfl:I=aW:=Option.some.inj (ac.symm.trans aO)
    obtain ⟨ag,ak,rfl,aK⟩:=aQ
    have ah:=(Fl.cel aK).2.1
    refine aA.yw 2 (vq aC (aU+0*2)) rfl (fun F W=>rn_indexE uu26 inf61 ((F.get rfl).trans (by rw [aF])) rfl (by omega:(0:Int)≤0) (by omega:(0:Int)<(D.length:Int)) (by omega)) fun _ ah=>have am:Ex aa aa:=Ext.refl aa;ah.ys 3 (.agg #[(strOf I.name),(vl ag I.data.length ak)]) rfl am (fun F W hW=>rn_loadN (cs:=[(strOf I.name),(vl ag I.data.length ak)]) (F.get rfl) uu61 rfl inf61 (fun j u hu=>Ext.keep ((Ext.refl aa).trans hW) (aH j u hu)))<|Ym 5 rfl<|Ym 6 rfl fun _ aB=>?_
    have ah:=RLs.ux rCg Z av
    obtain ⟨aE,aV,aX,ai,aG,aP,ai,aJ,aT⟩:=RLs.get ah (by omega:0<C.length)
    obtain rfl:G=aX:=Option.some.inj (ae.symm.trans aP)
    obtain ⟨aj,al,rfl,aN⟩:=aT
    have M:=(Fl.cel aN).2.1
    refine aB.yw 7 (vq aE (aV+0*3)) rfl (fun F W=>rn_indexE uu27 inf66 ((F.get rfl).trans (by rw [aG])) rfl (by omega:(0:Int)≤0) (by omega:(0:Int)<(C.length:Int)) (by omega))<|Ys 8 (.agg #[(strOf G.name),(vl aj G.data.length al),(.bool G.gone)]) rfl am (fun F W hW=>rn_loadN (cs:=[(strOf G.name),(vl aj G.data.length al),(.bool G.gone)]) (F.get rfl) uu66 rfl inf66 (fun j u hu=>Ext.keep ((Ext.refl aa).trans hW) (aJ j u hu))) fun _ M=>ao 4 rfl<|M.oE (c:=itemName_any I.name (vl ag I.data.length ak) _) (k:=fun M M M _ M=>?_)
    refine ⟨fun _ _=>eX,?_⟩
    refine ao 9 rfl<|M.oE (c:=changeName_any G.name (vl aj G.data.length al) (.bool G.gone) _) (k:=fun M M M _ M=>?_)
    refine ⟨fun _ _=>eX,?_⟩
    refine ao 10 rfl<|M.oe (cmps_lt I.name G.name _ V) fun G G G _ G=>?_
    refine ⟨fun _ _=>eX,?_⟩
    exact G.yv 11 (vi (-1)) rfl fun _ G=>nN<|⟨(-1),1,0,G.j,eX,(by omega),(by omega),(mrg_lt (na:=It.name) (nb:=Cg.name) (a:=D) (b:=C) ac ae V)⟩
   rcases Bool.eq_false_or_eq_true (ltS G.name I.name) with ag | ag
   ·refine sX (fun aa W=>Ext aa W) (fun i=>false) 12 fun aa aA ah=>ab.ym 0 rfl<|Ym 1 rfl fun _ aB=>?_
    have ah:=RLs.ux rIt Y aA
    obtain ⟨aE,aV,aX,ai,aG,aP,ai,aJ,aT⟩:=RLs.get ah (by omega:0<D.length)
    obtain rfl:I=aX:=Option.some.inj (ac.symm.trans aP)
    obtain ⟨aj,al,rfl,aN⟩:=aT
    have ah:=(Fl.cel aN).2.1
    refine aB.yw 2 (vq aE (aV+0*2)) rfl (fun F W=>rn_indexE uu26 inf61 ((F.get rfl).trans (by rw [aG])) rfl (by omega:(0:Int)≤0) (by omega:(0:Int)<(D.length:Int)) (by omega)) fun _ ah=>have av:Ex aa aa:=Ext.refl aa;ah.ys 3 (.agg #[(strOf I.name),(vl aj I.data.length al)]) rfl av (fun F W hW=>rn_loadN (cs:=[(strOf I.name),(vl aj I.data.length al)]) (F.get rfl) uu61 rfl inf61 (fun j u hu=>Ext.keep ((Ext.refl aa).trans hW) (aJ j u hu)))<|Ym 5 rfl<|Ym 6 rfl fun _ aC=>?_
    have ah:=RLs.ux rCg Z aA
    obtain ⟨aF,aW,aY,ai,aH,aQ,ai,aK,aU⟩:=RLs.get ah (by omega:0<C.length)
    obtain rfl:G=aY:=Option.some.inj (ae.symm.trans aQ)
    obtain ⟨ak,am,rfl,aO⟩:=aU
    have M:=(Fl.cel aO).2.1
    refine aC.yw 7 (vq aF (aW+0*3)) rfl (fun F W=>rn_indexE uu27 inf66 ((F.get rfl).trans (by rw [aH])) rfl (by omega:(0:Int)≤0) (by omega:(0:Int)<(C.length:Int)) (by omega))<|Ys 8 (.agg #[(strOf G.name),(vl ak G.data.length am),(.bool G.gone)]) rfl av (fun F W hW=>rn_loadN (cs:=[(strOf G.name),(vl ak G.data.length am),(.bool G.gone)]) (F.get rfl) uu66 rfl inf66 (fun j u hu=>Ext.keep ((Ext.refl aa).trans hW) (aK j u hu))) fun _ M=>ao 4 rfl<|M.oE (c:=itemName_any I.name (vl aj I.data.length al) _) (k:=fun M M M _ M=>?_)
    refine ⟨fun _ _=>eX,?_⟩
    refine ao 9 rfl<|M.oE (c:=changeName_any G.name (vl ak G.data.length am) (.bool G.gone) _) (k:=fun M M M _ M=>?_)
    refine ⟨fun _ _=>eX,?_⟩
    refine ao 10 rfl<|M.oe (cmps_gt I.name G.name _ V ag) fun G G G _ G=>?_
    refine ⟨fun _ _=>eX,?_⟩
    exact G.yv 11 (vi 1) rfl fun _ G=>nN<|⟨(1),0,1,G.j,eX,(by omega),(by omega),(mrg_gt (na:=It.name) (nb:=Cg.name) (a:=D) (b:=C) ac ae V ag)⟩
   refine sX (fun aa W=>Ext aa W) (fun i=>false) 12 fun aa aA ah=>ab.ym 0 rfl<|Ym 1 rfl fun _ aB=>?_
   have ab:=RLs.ux rIt Y aA
   obtain ⟨aE,aV,aX,ah,aG,aP,ah,aJ,aT⟩:=RLs.get ab (by omega:0<D.length)
   obtain rfl:I=aX:=Option.some.inj (ac.symm.trans aP)
   obtain ⟨aj,al,rfl,aN⟩:=aT
   have ab:=(Fl.cel aN).2.1
   refine aB.yw 2 (vq aE (aV+0*2)) rfl (fun F W=>rn_indexE uu26 inf61 ((F.get rfl).trans (by rw [aG])) rfl (by omega:(0:Int)≤0) (by omega:(0:Int)<(D.length:Int)) (by omega)) fun _ ab=>have av:Ex aa aa:=Ext.refl aa;ab.ys 3 (.agg #[(strOf I.name),(vl aj I.data.length al)]) rfl av (fun F W hW=>rn_loadN (cs:=[(strOf I.name),(vl aj I.data.length al)]) (F.get rfl) uu61 rfl inf61 (fun j u hu=>Ext.keep ((Ext.refl aa).trans hW) (aJ j u hu)))<|Ym 5 rfl<|Ym 6 rfl fun _ aC=>?_
   have ab:=RLs.ux rCg Z aA
   obtain ⟨aF,aW,aY,ah,aH,aQ,ah,aK,aU⟩:=RLs.get ab (by omega:0<C.length)
   obtain rfl:G=aY:=Option.some.inj (ae.symm.trans aQ)
   obtain ⟨ak,am,rfl,aO⟩:=aU
   have M:=(Fl.cel aO).2.1
   refine aC.yw 7 (vq aF (aW+0*3)) rfl (fun F W=>rn_indexE uu27 inf66 ((F.get rfl).trans (by rw [aH])) rfl (by omega:(0:Int)≤0) (by omega:(0:Int)<(C.length:Int)) (by omega))<|Ys 8 (.agg #[(strOf G.name),(vl ak G.data.length am),(.bool G.gone)]) rfl av (fun F W hW=>rn_loadN (cs:=[(strOf G.name),(vl ak G.data.length am),(.bool G.gone)]) (F.get rfl) uu66 rfl inf66 (fun j u hu=>Ext.keep ((Ext.refl aa).trans hW) (aK j u hu))) fun _ M=>ao 4 rfl<|M.oE (c:=itemName_any I.name (vl aj I.data.length al) _) (k:=fun M M M _ M=>?_)
   refine ⟨fun _ _=>eX,?_⟩
   refine ao 9 rfl<|M.oE (c:=changeName_any G.name (vl ak G.data.length am) (.bool G.gone) _) (k:=fun M M M _ M=>?_)
   refine ⟨fun _ _=>eX,?_⟩
   refine ao 10 rfl<|M.oe (cmps_eq I.name G.name _ V ag) fun G G G _ G=>?_
   refine ⟨fun _ _=>eX,?_⟩
   exact G.yv 11 (vi 0) rfl fun _ G=>nN<|⟨(0),1,1,G.j,eX,(by omega),(by omega),(mrg_eq (na:=It.name) (nb:=Cg.name) (a:=D) (b:=C) ac ae V ag)⟩
  ·rintro G G ⟨nn,ii,kk,G,I,hnn,hik,hlem⟩
   have aa:=I.size
   refine wr fun I I=>G.xm rfl<|Xv (vi D.length)<|Xm rfl<|Xv (vi (1 - (ii:Nat):Int))<|Xv (vi ii)<|Xv (vi ii)<|Xv (vi ii)<|Xm rfl<|Xv (vi C.length)<|Xm rfl<|Xv (vi ((kk:Nat) - 1:Int))<|Xv (vi kk)<|Xv (vi kk)<|Xv (vi kk)<|Xa rfl<|Xa rfl fun _ G=>wn I<|have aa:=G.k [0,1,2,3,4,10,11,12];wp_seq_k fun G ac=>sX (fun G W=>True) (fun i=>false) 8 fun G I G=>aa.ym 0 rfl<|Ym 1 rfl<|Ym 2 rfl<|Yw 3 (vl U ii O) rfl (fun F W=>rn_sliceHi uu26 inf61 (F.get rfl) (F.get rfl) (zl _) (ie (by omega:ii≤O)))<|Ym 4 rfl<|Ym 5 rfl<|Yw 6 (vl B1 kk M) rfl (fun F W=>rn_sliceHi uu27 inf66 (F.get rfl) (F.get rfl) (zl _) (ie (by omega:kk≤M))) fun _ G=>ao 7 rfl<|have aa:=(RLs.ux rIt Y I);have Y:=(RLs.ux rCg Z I);have ab:=hlem;have Z:=hJ _ _ _ aw (.trans eX I);have ae:=(FarX.ext ax (.trans eX I));have I:=(RLs.take aa (by omega:ii≤D.length));have ag:=(RLs.take Y (by omega:kk≤C.length));have ai:=RLs.norm aa;have aj:=RLs.norm Y;o_call G rfl rfl rfl rfl (rn_callvc (G.get rfl) (argsw_2 harg (G.get rfl) (G.get rfl)) (hen _ _)) (hp ps _ _ (D.take ii) (C.take kk) _ Z I ag (by rw [List.length_take];omega) (by rw [List.length_take];omega) (fun q=>by have q1:=congrArg List.length q.1;have q2:=congrArg List.length q.2;simp only [List.length_take,List.length_nil] at q1 q2;omega) (sub_take az _) (sub_take ay _) (mrg_room aq ab hN)) ?_
   rintro _ G ⟨rfl,ak,V⟩
   refine ⟨_,rfl,?_⟩;intro G G
   have Z:=FarX.trans ae V
   have Y:=RLs.pres rIt ai V.1
   have aa:=RLs.pres rCg aj V.1
   refine ⟨fun _ _=>trivial,?_⟩
   refine nK ac<|have V:=G.k [0,1,2,3,4,10,11,12];sX (fun G W=>Ext G W) (fun i=>false) 8 fun G I G=>V.ym 0 rfl<|Ym 1 rfl<|Yw 2 (vl (cutA U O ii 2) (D.length - ii) (O - ii)) rfl (fun F W=>rn_cutLo (l:=ii) uu26 inf61 (F.get rfl) (F.get rfl) (by omega))<|Ym 3 rfl<|Ym 4 rfl<|Yw 5 (vl (cutA B1 M kk 3) (C.length - kk) (M - kk)) rfl (fun F W=>rn_cutLo (l:=kk) uu27 inf66 (F.get rfl) (F.get rfl) (by omega))<|Yv 6 (vl (cutA U O ii 2) (D.length - ii) (O - ii)) rfl<|Yv 7 (vl (cutA B1 M kk 3) (C.length - kk) (M - kk)) rfl fun _ G=>nN ?_
   have V:=RLs.ext rIt Y I
   have Y:=RLs.ext rCg aa I
   refine ⟨⟨(D.drop ii),(C.drop kk),(cutA U O ii 2),O - ii,(cutA B1 M kk 3),M - kk,(ps++[((D.take ii).head?,(C.take kk).head?)]),G.j,(by rw [List.append_assoc];exact (congrArg (fun z=>ps++z) ab.symm).trans aq),(sub_drop ay _),(sub_drop az _),trivial,(RLs.norm (RLs.cut V (by omega:ii≤D.length))),(RLs.norm (RLs.cut Y (by omega:kk≤C.length))),(hJ _ _ _ ak eX),(FarX.ext Z eX)⟩,?_⟩
   rw [G.get (t:=0) rfl,G.get (t:=1) rfl,au.get (t:=0) rfl,au.get (t:=1) rfl];simp only [sliceLen];omega
end Go.Proofs.YtihgmaoghbnnaaaGreatDoor
