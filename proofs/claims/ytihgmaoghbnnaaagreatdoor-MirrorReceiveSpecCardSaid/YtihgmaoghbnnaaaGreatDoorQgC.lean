/- Several texts in one: Tree, DigG, DigH, DigI, DigJ, DigK, SealA, RefA3, RefB3, RefC3, RefD3. -/
import Derived.Test.YtihgmaoghbnnaaaGreatDoorQgA
import Derived.Test.YtihgmaoghbnnaaaGreatDoorProg
import Derived.Test.YtihgmaoghbnnaaaGreatDoorQgB
import Derived.Test.YtihgmaoghbnnaaaGreatDoorShelf
import Derived.Lib.ItoaNum
import Derived.KernelRfl
set_option linter.unusedVariables false
set_option linter.unusedSimpArgs false
set_option maxRecDepth 100000
set_option maxHeartbeats 1000000
namespace Go.Proofs.YtihgmaoghbnnaaaGreatDoor
open Go.RowKit
variable {q:Four} {l l0 p:List (List UInt8)} {bs f:List Bool} {h h0 m v':List UInt32} {b d msg root sd x:List UInt8} {a a0 c i i0 i1 i2 i3 i4 i5 i6 i7 j k many n n0 r z:Nat} {g:Nat→Bool→List UInt8} {S S':Nat→Prop} {x0 x1 x2 x3 x4 x5 x6 x7:Operand} {ρ:Operand→Value} {v v1 v2 v3 v4 v5 v6 v7:Value}
section
variable (nodeD:List UInt8→List UInt8→List UInt8) (leafD:List UInt8→List UInt8) (emptyD:List UInt8)
def half (n:Nat):Nat:=2 ^ Nat.log2 (n - 1)
theorem half_pos (n:Nat):1≤half n:=Nat.one_le_two_pow
theorem half_lt (h:2≤n):half n<n:=by
  have:=Nat.log2_self_le (n:=n - 1) (by omega)
  unfold half;omega
theorem half_unique (j:Nat) (hk:k=2 ^ j) (h1:k<n) (h2:n≤2*k):k=half n:=by
  subst hk
  unfold half
  congr 1
  have:(n - 1).log2=j:=by
    apply (Nat.log2_eq_iff (by have:=Nat.one_le_two_pow (n:=j);omega)).2
    rw [Nat.pow_succ];omega
  exact this.symm
def tree (l:List (List UInt8)):List UInt8 :=
  if l.length=0 then emptyD else if _h:l.length=1 then leafD (l.getD 0 []) else nodeD (tree (l.take (half l.length))) (tree (l.drop (half l.length)))
termination_by l.length
decreasing_by
  · have:=half_lt (n:=l.length) (by omega);simp;omega
  · have:=half_pos l.length;simp;omega
theorem tree_eq (h:2≤l.length):tree nodeD leafD emptyD l=nodeD (tree nodeD leafD emptyD (l.take (half l.length))) (tree nodeD leafD emptyD (l.drop (half l.length))):=by
  rw [tree,if_neg (by omega),dif_neg (by omega)]
theorem tree_one (h:l.length=1):tree nodeD leafD emptyD l=leafD (l.getD 0 []):=by
  rw [tree,if_neg (by omega),dif_pos h]
theorem tree_nil:tree nodeD leafD emptyD []=emptyD:=by
  rw [tree];rfl
def pathL (l:List (List UInt8)) (at_:Nat):List (List UInt8) :=
  if _h:l.length≤1 then [] else
    if at_<half l.length then pathL (l.take (half l.length)) at_++[tree nodeD leafD emptyD (l.drop (half l.length))]
    else pathL (l.drop (half l.length)) (at_ - half l.length)++[tree nodeD leafD emptyD (l.take (half l.length))]
termination_by l.length
decreasing_by
  · have:=half_lt (n:=l.length) (by omega);simp;omega
  · have:=half_pos l.length;simp;omega
def dirs (at_ n:Nat):List Bool :=
  if _h:n≤1 then [] else if at_<half n then true::dirs at_ (half n) else false::dirs (at_ - half n) (n - half n)
termination_by n
decreasing_by
  · have:=half_lt (n:=n) (by omega);omega
  · have:=half_pos n;omega
def step1 (x:List UInt8) (q:List UInt8 × Bool):List UInt8:=if q.2 then nodeD x q.1 else nodeD q.1 x
def climbL (d:List UInt8) (at_ n:Nat) (p:List (List UInt8)):List UInt8:=(p.zip (dirs at_ n).reverse).foldl (step1 nodeD) (leafD d)
theorem path_len (l:List (List UInt8)) (at_:Nat):(pathL nodeD leafD emptyD l at_).length=(dirs at_ l.length).length:=by
  fun_induction pathL nodeD leafD emptyD l at_ with
  | case1 l at_ h=>rw [dirs,dif_pos h];rfl
  | case2 l at_ h h2 ih =>
    rw [dirs,dif_neg h,if_pos h2]
    have:=half_lt (n:=l.length) (by omega)
    simp only [List.length_append,List.length_cons,List.length_nil,ih,List.length_take]
    rw [Nat.min_eq_left (by omega)]
  | case3 l at_ h h2 ih =>
    rw [dirs,dif_neg h,if_neg h2]
    simp only [List.length_append,List.length_cons,List.length_nil,ih,List.length_drop]
theorem climbs (l:List (List UInt8)) (at_:Nat) (h:at_<l.length):climbL nodeD leafD (l.getD at_ []) at_ l.length (pathL nodeD leafD emptyD l at_)=tree nodeD leafD emptyD l:=by
  fun_induction pathL nodeD leafD emptyD l at_ with
  | case1 l at_ h1 =>
    have:at_=0:=by omega
    subst this
    unfold climbL
    rw [dirs,dif_pos h1,tree_one nodeD leafD emptyD (by omega)];rfl
  | case2 l at_ h1 h2 ih =>
    have hl:=half_lt (n:=l.length) (by omega)
    have hlen:=path_len nodeD leafD emptyD (l.take (half l.length)) at_
    have ht:(l.take (half l.length)).length=half l.length:=by simp;omega
    rw [ht] at hlen ih
    have ih:=ih h2
    unfold climbL at ih ⊢
    rw [dirs,dif_neg h1,if_pos h2,List.reverse_cons,List.zip_append (by simpa using hlen),List.foldl_append]
    rw [tree_eq nodeD leafD emptyD (l:=l) (by omega),← ih]
    rw [show (l.take (half l.length)).getD at_ []=l.getD at_ [] by simp [List.getD_eq_getElem?_getD,h2]]
    rfl
  | case3 l at_ h1 h2 ih =>
    have hl:=half_lt (n:=l.length) (by omega)
    have hlen:=path_len nodeD leafD emptyD (l.drop (half l.length)) (at_ - half l.length)
    have ht:(l.drop (half l.length)).length=l.length - half l.length:=by simp
    rw [ht] at hlen ih
    have ih:=ih (by omega)
    unfold climbL at ih ⊢
    rw [dirs,dif_neg h1,if_neg h2,List.reverse_cons,List.zip_append (by simpa using hlen),List.foldl_append]
    rw [tree_eq nodeD leafD emptyD (l:=l) (by omega),← ih]
    rw [show (l.drop (half l.length)).getD (at_ - half l.length) []=l.getD at_ [] by simp [List.getD_eq_getElem?_getD,List.getElem?_drop];rw [Nat.add_sub_cancel' (by omega)]]
    rfl
theorem climb_first {at_:Nat} (h:2≤n) (h2:at_<half n) (hp:(p++[x]).length=(dirs at_ n).length) :
    climbL nodeD leafD d at_ n (p++[x])=nodeD (climbL nodeD leafD d at_ (half n) p) x:=by
  unfold climbL
  rw [dirs,dif_neg (by omega),if_pos h2] at hp ⊢
  rw [List.reverse_cons,List.zip_append (by simpa using hp),List.foldl_append]
  rfl
theorem climb_second {at_:Nat} (h:2≤n) (h2:¬ at_<half n) (hp:(p++[x]).length=(dirs at_ n).length) :
    climbL nodeD leafD d at_ n (p++[x])=nodeD x (climbL nodeD leafD d (at_ - half n) (n - half n) p):=by
  unfold climbL
  rw [dirs,dif_neg (by omega),if_neg h2] at hp ⊢
  rw [List.reverse_cons,List.zip_append (by simpa using hp),List.foldl_append]
  rfl
theorem dirs_one {at_:Nat} (h:n≤1):dirs at_ n=[]:=by rw [dirs,dif_pos h]
theorem dirs_first {at_:Nat} (h:2≤n) (h2:at_<half n):dirs at_ n=true::dirs at_ (half n):=by rw [dirs,dif_neg (by omega),if_pos h2]
theorem dirs_second {at_:Nat} (h:2≤n) (h2:¬ at_<half n):dirs at_ n=false::dirs (at_ - half n) (n - half n):=by rw [dirs,dif_neg (by omega),if_neg h2]
theorem path_one {at_:Nat} (h:l.length≤1):pathL nodeD leafD emptyD l at_=[]:=by rw [pathL,dif_pos h]
theorem path_first {at_:Nat} (h:2≤l.length) (h2:at_<half l.length):pathL nodeD leafD emptyD l at_=pathL nodeD leafD emptyD (l.take (half l.length)) at_++[tree nodeD leafD emptyD (l.drop (half l.length))]:=by rw [pathL,dif_neg (by omega),if_pos h2]
theorem path_second {at_:Nat} (h:2≤l.length) (h2:¬ at_<half l.length):pathL nodeD leafD emptyD l at_=pathL nodeD leafD emptyD (l.drop (half l.length)) (at_ - half l.length)++[tree nodeD leafD emptyD (l.take (half l.length))]:=by rw [pathL,dif_neg (by omega),if_neg h2]
end
def tagged (tag b:List UInt8):List UInt8:=bsum (bsum tag++b)
def leafD (d:List UInt8):List UInt8:=tagged [108,101,97,102] d
def nodeD (a b:List UInt8):List UInt8:=tagged [110,111,100,101] (a++b)
def emptyD:List UInt8:=tagged [101,109,112,116,121] []
def treeD (l:List (List UInt8)):List UInt8:=tree nodeD leafD emptyD l
theorem tagged_len (t b:List UInt8):(tagged t b).length=32:=bsum_len _
theorem leafD_len (d:List UInt8):(leafD d).length=32:=bsum_len _
theorem nodeD_len (a b:List UInt8):(nodeD a b).length=32:=bsum_len _
theorem treeD_len (l:List (List UInt8)):(treeD l).length=32:=by
 unfold treeD
 rw [tree]
 split
 ·exact bsum_len _
 ·split
  ·exact bsum_len _
  ·exact bsum_len _
theorem half_bits (h:2≤n) (h2:n≤9223372036854775807):1*2 ^ (Lib.bitLen (((UInt64.ofNat (n - 1)).toNat:Nat):Int).toNat - 1)=half n∧1≤Lib.bitLen (((UInt64.ofNat (n - 1)).toNat:Nat):Int).toNat∧Lib.bitLen (((UInt64.ofNat (n - 1)).toNat:Nat):Int).toNat≤63:=by
 rw [Int.toNat_natCast,UInt64.toNat_ofNat_of_lt' (by show n - 1<18446744073709551616;omega)]
 obtain ⟨h3,h4,h5⟩:=Lib.bitLenAux_bounds 64 (n - 1) (by omega) (by omega)
 have h6:=Lib.bitLen_le (n - 1) 63 (by omega) (by omega)
 unfold half
 have:(n - 1).log2=Lib.bitLen (n - 1) - 1:=(Nat.log2_eq_iff (by omega)).2 ⟨h4,by unfold Lib.bitLen;rw [show Lib.bitLenAux 64 (n - 1) - 1+1=Lib.bitLenAux 64 (n - 1) by omega];exact h5⟩
 rw [this]
 exact ⟨Nat.one_mul _,h3,h6⟩
theorem half_any (n:Nat) (w:World) (h2:2≤n) (hm:n≤9223372036854775807) :
  Calls Tryz.prog 95 #[.int .i64 (n:Nat)] w (fun e w'=>e=.returned (vi (half n:Nat))∧Ext w w'):=by
 obtain ⟨hb1,hb2,hb3⟩:=half_bits h2 hm
 have hlt:=half_lt h2
 refine calls_enter Tryz.func95 rfl rfl rfl fun _ D=>wr fun G G=>D.xv (vi 0) fun _ D=>wn G<|wr fun G I=>D.xm rfl<|Xw (vi (n - 1:Nat)) (fun F=>rn_subN (a:=n) (b:=1) (F.get rfl) rfl (by omega) (by omega))<|Xw (.int .u64 ((UInt64.ofNat (n - 1)).toNat:Nat)) (fun F=>rn_convW uu3 uu112 (F.get rfl) (cvi_64 (n - 1) (by omega))) fun _ D=>D.xC (c:=Tryz.bits_Len _ _ (by omega) (by have:=((UInt64.ofNat (n - 1))).toNat_lt;omega)) (k:= ?_)
 rintro _ D ⟨rfl,C⟩
 have C:=Ext.of_eq C
 refine ⟨_,rfl,?_⟩;intro D D;have G:=C.size
 exact D.xw (vi ((Lib.bitLen ((((UInt64.ofNat (n - 1))).toNat:Nat):Int).toNat) - 1:Nat)) (fun F=>rn_subN (a:=Lib.bitLen ((((UInt64.ofNat (n - 1))).toNat:Nat):Int).toNat) (b:=1) (F.get rfl) rfl (by omega) (by omega))<|Xw (vi (half n:Nat)) (fun F=>by rw [← hb1];exact rn_shlN rfl (F.get rfl) (by omega) (by omega))<|Xa rfl fun _ C=>wn I<|have D:=C.k [0,2];wp_ret<|ret1 D rfl rfl<|⟨rfl,eX⟩
theorem tagged_any (tag:List UInt8) (A:Option Addr) (c:Nat) (b:List UInt8) (w:World) (hf:Fl S w 1 (vl A b.length c) b.length (byteVals b)) (hG:Glob w) (ht:tag.length≤9223372036854775807) (hb:b.length≤140737488355296) :
  Calls Tryz.prog 60 #[strOf tag,.slice A b.length c] w (fun e w'=>e=.returned (.agg (byteVals (tagged tag b)).toArray)∧Ext w w'):=by
 have hc:Fl (Clip S w) w 1 (vl A b.length c) b.length (byteVals b):=hf.clip
 have hcc:=(Fl.cel hc).2.1
 refine calls_enter Tryz.func60 rfl rfl rfl fun _ C=>wr fun D D=>C.xz (byteVals (List.replicate 32 0)) 29 fun C C _ C G G U G=>wn D<|wr fun D J=>C.xm rfl fun _ C=>wpl_op (i:=1) rfl<|o_strB (l:=tag) C rfl rfl rfl rfl rfl (C.get rfl) uu9 uu22 uu5 (by omega) fun G D C C C O O O O V=>C.xe (sum_at (v:=(vl (some ⟨G,0,none⟩) tag.length D)) (n:=tag.length) tag _ O (hG.ext eX)) fun C C C _ C=>C.xz (byteVals (List.replicate 32 0)) 29 fun C D _ D G G G O=>?_
 refine D.xs rfl G (fun G G O=>?_) (hk:=byteVals_len (bsum_len _));have V:=O.size
 refine wn J<|wr fun J Z=>D.xw (vl (some ⟨C,0,none⟩) 32 32) (fun F=>rn_arrAll uu29 inf5 (F.get rfl))<|Xm rfl fun _ D=>D.xn (fun g=>(vl (some ⟨g,0,none⟩) 2 2)) [(vl (some ⟨C,0,none⟩) 32 32),(vl A b.length c)] 22 (fun F=>rn_buildSlice (parts2 (F.get rfl) (F.get rfl)) (by kernel_rfl)) fun D D _ O D D V J=>?_
 have D:=G.ext J
 have G:=hc.ux J
 have hn58:=Fl.blen (Fl.blk (S:=fun b=>b=C) (k:=1) (n:=32) (c:=32) D (by rw [byteVals_len (bsum_len _),Nat.mul_one]) (byteVals_one _) (by omega) rfl)
 have hn59:=Fl.blen G
 have hn60:([bsum tag,b]).flatten.length=32+b.length:=by simp only [List.flatten_cons,List.flatten_nil,List.length_append,List.length_nil];omega
 refine O.xC (c:=concat_at [bsum tag,b] _ (RBss.two V (Fl.blk (S:=fun b=>b=C) (k:=1) (n:=32) (c:=32) D (by rw [byteVals_len (bsum_len _),Nat.mul_one]) (byteVals_one _) (by omega) rfl) G) hn60 (by omega)) (k:=?_)
 rintro _ C ⟨M,Y,rfl,I,aa⟩
 rw [show ([bsum tag,b]).flatten=(bsum tag)++b from by simp] at I
 refine ⟨_,rfl,?_⟩;intro C C;have D:=aa.size
 refine C.xe (sum_at (v:=(vl M (32+b.length) Y)) (n:=(32+b.length)) ((bsum tag)++b) _ I (hG.ext eX)) fun C G C _ C=>?_
 have D:=U.ux G
 refine C.xs rfl D (fun D G D=>?_) (hk:=byteVals_len (bsum_len _));have I:=D.size
 exact wn Z<|have D:=C.k [0,1,4,5];wp_ret<|retC D rfl rfl G uu29 rfl (sk inf29 (byteVals_len (bsum_len _)))<|⟨rfl,eX⟩
theorem tagged_at (tag:List UInt8) {v:Value} {n:Nat} (b:List UInt8) (w:World) (hf:Fl S w 1 v n (byteVals b)) (hG:Glob w) (ht:tag.length≤9223372036854775807) (hb:n≤140737488355296):Calls Tryz.prog 60 #[strOf tag,v] w (fun e w'=>e=.returned (.agg (byteVals (tagged tag b)).toArray)∧Ext w w'):=by
 have hm:=hf.blen
 subst hm
 obtain ⟨A,c,rfl,_⟩:=hf.form
 exact tagged_any tag A c b w hf hG ht hb
theorem leaf_any (d:List UInt8) (w:World) (hd:d.length=32) (hG:Glob w) :
  Calls Tryz.prog 94 #[.agg (byteVals d).toArray] w (fun e w'=>e=.returned (.agg (byteVals (leafD d)).toArray)∧Ext w w'):=by
 refine calls_enter Tryz.func94 rfl rfl rfl fun _ C=>wr fun D I=>C.xb rfl fun C D _ D G G J G=>D.xz (byteVals (List.replicate 32 0)) 29 fun D D _ D G G G O=>wn I<|wr fun I M=>D.xw (vl (some ⟨C,0,none⟩) 32 32) (fun F=>rn_arrAll uu29 inf5 (F.get rfl)) fun _ D=>have I:=(J.ext O);D.xE (c:=tagged_at ([108,101,97,102]) (v:=(vl (some ⟨C,0,none⟩) 32 32)) (n:=32) d _ (Fl.blk (S:=fun b=>b=C) (k:=1) (n:=32) (c:=32) I (by rw [byteVals_len hd,Nat.mul_one]) (byteVals_one _) (by omega) rfl) (hG.ext eX) (by simp <;> omega) (by omega)) (k:=fun C I C _ C=>?_)
 have D:=G.ext I
 refine C.xs rfl D (fun D D G=>?_) (hk:=byteVals_len (tagged_len _ _));have I:=G.size
 exact wn M<|wp_ret<|retC C rfl rfl D uu29 rfl (sk inf29 (byteVals_len (tagged_len _ _)))<|⟨rfl,eX⟩
theorem node_any (d d2:List UInt8) (w:World) (hd:d.length=32) (hd2:d2.length=32) (hG:Glob w) :
  Calls Tryz.prog 96 #[.agg (byteVals d).toArray,.agg (byteVals d2).toArray] w (fun e w'=>e=.returned (.agg (byteVals (nodeD d d2)).toArray)∧Ext w w'):=by
 refine calls_enter Tryz.func96 rfl rfl rfl fun _ C=>wr fun D ae=>C.xb rfl fun D C _ C M M b4 M=>C.xb rfl fun C M _ M Y Y Z Y=>M.xz (byteVals (List.replicate 32 0)) 29 fun ab M _ Y M M aa M=>wn ae<|wp_seq_k fun M ag=>sX (fun M W=>Ext M W∧Blk W D 29 (byteVals d)∧Blk W C 29 (byteVals d2)∧Blk W ab 29 (byteVals (List.replicate 32 0))) (fun i=>i==5) 6 fun M M M=>Y.yw 0 (vl (some ⟨D,0,none⟩) 32 32) rfl (fun F W=>rn_arrAll uu29 inf5 (F.get rfl))<|Yw 1 (vl (some ⟨C,0,none⟩) 32 32) rfl (fun F W=>rn_arrAll uu29 inf5 (F.get rfl)) fun _ M=>ao 2 rfl<|M.on (fun g=>(vl (some ⟨g,0,none⟩) 2 2)) [(vl (some ⟨D,0,none⟩) 32 32),(vl (some ⟨C,0,none⟩) 32 32)] 22 rfl (fun F=>rn_buildSlice (parts2 (F.get rfl) (F.get rfl)) (by kernel_rfl)) fun M M _ Y M M ab M=>?_
 have G:=b4.ux M
 have I:=Z.ux M
 have O:=aa.ux M
 refine ⟨fun _ _=>⟨eX,G,I,O⟩,?_⟩
 refine ao 3 rfl ?_
 have hn49:=Fl.blen (Fl.blk (S:=fun b=>b=D) (k:=1) (n:=32) (c:=32) G (by rw [byteVals_len hd,Nat.mul_one]) (byteVals_one _) (by omega) rfl)
 have hn50:=Fl.blen (Fl.blk (S:=fun b=>b=C) (k:=1) (n:=32) (c:=32) I (by rw [byteVals_len hd2,Nat.mul_one]) (byteVals_one _) (by omega) rfl)
 have hn51:([d,d2]).flatten.length=32+32:=by simp only [List.flatten_cons,List.flatten_nil,List.length_append,List.length_nil];omega
 refine Y.oC (c:=concat_at [d,d2] _ (RBss.two ab (Fl.blk (S:=fun b=>b=D) (k:=1) (n:=32) (c:=32) G (by rw [byteVals_len hd,Nat.mul_one]) (byteVals_one _) (by omega) rfl) (Fl.blk (S:=fun b=>b=C) (k:=1) (n:=32) (c:=32) I (by rw [byteVals_len hd2,Nat.mul_one]) (byteVals_one _) (by omega) rfl)) hn51 (by omega)) (k:=?_)
 rintro _ C ⟨V,ac,rfl,U,J⟩
 rw [show ([d,d2]).flatten=d++d2 from by simp] at U
 refine ⟨_,rfl,?_⟩;intro C C;have D:=J.size
 have M:=G.ext J
 have G:=I.ext J
 have I:=O.ext J
 refine ⟨fun _ _=>⟨eX,M,G,I⟩,?_⟩
 refine ao 4 rfl<|C.oE (c:=tagged_at ([110,111,100,101]) (v:=(vl V (32+32) ac)) (n:=(32+32)) (d++d2) _ U (hG.ext eX) (by simp <;> omega) (by omega)) (k:=fun C C D _ D=>?_)
 have J:=M.ext C
 have M:=G.ext C
 have G:=I.ext C
 refine ⟨fun _ _=>⟨eX,J,M,G⟩,?_⟩
 refine ao 5 rfl (D.os rfl G (fun C G C=>an ?_) (hk:=byteVals_len (tagged_len _ _)));have I:=C.size
 exact nK ag<|have C:=D.k [0,1,2,3,4];wp_ret<|retC C rfl rfl G uu29 rfl (sk inf29 (byteVals_len (tagged_len _ _)))<|⟨rfl,eX⟩
theorem tree_nil' (h:l.length=0):treeD l=tagged [101,109,112,116,121] []:=by rw [List.eq_nil_of_length_eq_zero h,treeD,tree_nil];rfl
theorem tree_one' (h:l.length=1):treeD l=leafD (l.getD 0 []):=by rw [treeD,tree_one _ _ _ h]
theorem tree_two' (h:2≤l.length):treeD l=nodeD (treeD (l.take (half l.length))) (treeD (l.drop (half l.length))):=by rw [treeD,tree_eq _ _ _ h];rfl
theorem tree_ind:∀ (N:Nat) (l:List (List UInt8)) (S:Nat→Prop) (w:World) {n:Nat} (v:Value) (_:All32 l) (_:Fl S w 32 v n (digVals l)) (_:Glob w) (_:l.length<N),
  Calls Tryz.prog 53 #[v] w (fun e w'=>e=.returned (.agg (byteVals (treeD l)).toArray)∧Ext w w'):=by
 intro N
 induction N with
 | zero=>intro l S w n v _ _ _ h;omega
 | succ N ih0 =>
 intro l S w n v h32 C hG hN
 have ih:∀ (l':List (List UInt8)) (w':World) {n:Nat} {S:Nat→Prop} (v':Value) (_:All32 l') (_:Fl S w' 32 v' n (digVals l')) (_:Glob w') (_:l'.length<l.length),Calls Tryz.prog 53 #[v'] w' (fun e w''=>e=.returned (.agg (byteVals (treeD l')).toArray)∧Ext w' w''):=fun l' w' n S v' a b c d=>ih0 l' S w' v' a b c (by omega)
 clear ih0
 have hm:=Fl.dlen C h32
 subst hm
 obtain ⟨A,c,rfl,hcc0⟩:=C.form
 have hf:=C
 have hc:Fl (Clip S w) w 32 (vl A l.length c) l.length (digVals l):=hf.clip
 have hcc:=(Fl.cel hc).2.1
 refine calls_enter Tryz.func53 rfl rfl rfl fun _ C=>wr fun D G=>C.xz (byteVals (List.replicate 32 0)) 29 fun I M _ C D D D O=>wn G<|wp_seq_k fun G G=>wr fun J J=>C.xm rfl<|Xv (vi l.length) fun _ C=>wn J<|wp_block<|wr fun J J=>C.xv (vd ((l.length:Int)=(0:Int)))<|Xa rfl fun _ C=>wn J ?_
 by_cases J:(l.length:Int)=(0:Int)
 ·refine C.ct<|wr fun G I=>C.xE (c:=tagged_at ([101,109,112,116,121]) (v:=v0) (n:=0) ([]) _ (show Fl (fun _=>False) M 1 v0 0 (byteVals []) from Fl.nil _) (hG.ext eX) (by simp <;> omega) (by omega)) (k:=fun C J C _ C=>?_)
  have G:=D.ext J
  refine C.xs rfl G (fun D D G=>?_) (hk:=byteVals_len (tagged_len _ _));have J:=G.size
  exact wn I<|wp_ret<|ret_block<|ret_then<|retC C rfl rfl D uu29 rfl (sk inf29 (byteVals_len (tagged_len _ _)))<|⟨by rw [tree_nil' (l:=l) (by omega)],eX⟩
 refine C.cf<|wr fun J J=>C.xv (vd ((l.length:Int)=(1:Int)))<|Xa rfl fun _ C=>wn J ?_
 by_cases J:(l.length:Int)=(1:Int)
 ·refine C.ct<|wr fun G M=>C.xm rfl fun _ I=>?_
  have C:=hc.ext O
  obtain ⟨J,O,G,-⟩:=Fl.at C (by omega)
  refine I.xw (vq J (O+0*32)) (fun F=>rn_indexE uu30 inf29 ((F.get rfl).trans (by rw [G])) rfl (by omega:(0:Int)≤0) (by omega:(0:Int)<(l.length:Int)) (by omega))<|Xw (.agg (byteVals (l.getD 0 [])).toArray) (fun F=>rn_loadN (cs:=byteVals (l.getD 0 [])) (F.get rfl) uu29 rfl (sk inf29 (byteVals_len (dig_len h32 0 (by omega)))) (Fl.digAt C G h32 (by omega))) fun _ C=>C.xE (c:=leaf_any (l.getD 0 []) _ (dig_len h32 0 (by omega)) (hG.ext eX)) (k:=fun C I C _ C=>?_)
  have G:=D.ext I
  refine C.xs rfl G (fun D G D=>?_) (hk:=byteVals_len (leafD_len _));have I:=D.size
  exact wn M<|have D:=C.k [0,2,5,6,9];wp_ret<|ret_block<|ret_then<|retC D rfl rfl G uu29 rfl (sk inf29 (byteVals_len (leafD_len _)))<|⟨by rw [tree_one' (l:=l) (by omega)],eX⟩
 refine C.cf<|wp_skip<|G _ _<|wr fun G G=>C.xm rfl<|Xv (vi l.length) fun _ C=>have J:=half_lt (n:=l.length) (by omega);have J:=half_pos l.length;C.xE (c:=half_any l.length _ (by omega) (by omega)) (k:=fun C C C _ C=>C.xa rfl fun _ C=>wn G<|have G:=C.k [0,2,5,6,9,3];wp_seq_k fun C V=>sX (fun C W=>Ext C W∧Blk W I 29 (byteVals (List.replicate 32 0))) (fun i=>i==9) 10 fun C I C=>G.ym 0 rfl<|Ym 1 rfl<|Yw 2 (vl A (half l.length) c) rfl (fun F W=>rn_sliceHi uu30 inf29 (F.get rfl) (F.get rfl) (by omega:(0:Int)≤(half l.length:Nat)) (by omega:((half l.length:Nat):Int)≤((c:Nat):Int)))<|Ym 4 rfl<|Ym 5 rfl fun _ J=>?_)
 have C:=hc.ux I
 obtain ⟨G,M,I,-⟩:=Fl.at C (by omega)
 refine J.yw 6 (vl (some ⟨G,M+(half l.length)*32,none⟩) (l.length - (half l.length)) (c - (half l.length))) rfl (fun F W=>rn_sliceLo (l:=(half l.length)) uu30 inf29 ((F.get rfl).trans (by rw [I])) (F.get rfl) (by omega:(half l.length)≤l.length) (by omega:(half l.length)<c)) fun _ O=>ao 3 rfl<|have J:=(Fl.take_eq (j:=(half l.length)) C (by omega) (digVals_take h32 _));have C:=Fl.dlen J (All32.take h32 _);O.oE (c:=ih (l.take (half l.length)) _ (n:=(half l.length)) (vl A (half l.length) c) (All32.take h32 _) J (hG.ext eX) (by omega)) (k:=fun C J C _ O=>?_)
 have C:=D.ux J
 refine ⟨fun _ _=>⟨eX,C⟩,?_⟩
 refine ao 7 rfl<|have U:=(hc.ux J);have D:=(Fl.drop_eq (j:=(half l.length)) U I (by omega) (digVals_drop h32 _));have I:=Fl.dlen D (All32.drop h32 _);O.oE (c:=ih (l.drop (half l.length)) _ (n:=l.length - (half l.length)) (vl (some ⟨G,M+(half l.length)*32,none⟩) (l.length - (half l.length)) (c - (half l.length))) (All32.drop h32 _) D (hG.ext eX) (by omega)) (k:=fun D I D _ G=>?_)
 have D:=C.ext I
 refine ⟨fun _ _=>⟨eX,D⟩,?_⟩
 refine ao 8 rfl<|G.oe (node_any (treeD (l.take (half l.length))) (treeD (l.drop (half l.length))) _ (treeD_len _) (treeD_len _) (hG.ext eX)) fun C I C _ C=>?_
 have G:=D.ext I
 refine ⟨fun _ _=>⟨eX,G⟩,?_⟩
 refine ao 9 rfl (C.os rfl G (fun D G D=>an ?_) (hk:=byteVals_len (nodeD_len _ _)));have I:=D.size
 exact nK V<|have D:=C.k [0,2,5,6,9,3];wp_ret<|retC D rfl rfl G uu29 rfl (sk inf29 (byteVals_len (nodeD_len _ _)))<|⟨by rw [tree_two' (l:=l) (by omega)],eX⟩
theorem tree_at (l:List (List UInt8)) (w:World) {n:Nat} {v:Value} (h32:All32 l) (hf:Fl S w 32 v n (digVals l)) (hG:Glob w):Calls Tryz.prog 53 #[v] w (fun e w'=>e=.returned (.agg (byteVals (treeD l)).toArray)∧Ext w w'):=tree_ind _ l S w v h32 hf hG (Nat.lt_succ_self _)
theorem rev_any (g n c base:Nat) (l:List (List UInt8)) (w:World) (h32:All32 l) (hr:w.ownsRow base 29 32 (vl (some ⟨g,0,none⟩) n c) n (digVals l)) :
  Calls Tryz.prog 100 #[.slice (some ⟨g,0,none⟩) n c] w (fun e w'=>e=.returned (.tuple #[])∧w'.ownsRow base 29 32 (vl (some ⟨g,0,none⟩) n c) n (digVals l.reverse)∧w.grownBy w' (some g)):=by
 have hln:=Fl.dlen (Fl.own (S:=fun _=>True) hr (fun _ _=>trivial) (digVals_one _)) h32
 have hgg:=own_lt hr
 refine calls_enter Tryz.func100 rfl rfl rfl fun _ C=>wr fun D D=>C.xm rfl<|Xv (vi n)<|Xv (vi ((n:Nat) - 1))<|Xv (vi 0)<|Xa rfl fun _ C=>wn D<|wp_block<|wp_loop (fun a' W=>∃ (i1:Nat) (j1:Int) (lk:List (List UInt8)),Sl 28 [(0,(vl (some ⟨g,0,none⟩) n c)),(2,(vi i1)),(3,(vi j1))] a'∧(i1:Int)+j1+1=n∧RevInv l lk i1∧i1≤n+1∧w.grownBy W (some g)∧W.ownsRow base 29 32 (vl (some ⟨g,0,none⟩) n c) n (digVals lk)∧base≤W.heap.size∧w.heap.size≤W.heap.size) (fun a' _=>n+2 - (intOf (a'.eval (.tmp 2))).toNat) ⟨0,((n:Int) - 1),l,C.j,(by omega),(RevInv.start l),(by omega),(grow_refl w g),hr,(by omega),(Nat.le_refl _)⟩ ?_
 rintro C C ⟨i1,j1,lk,D,C,I,C,J,M,C,C⟩
 have Z:=D
 have C:=J.size
 have C:=own_lt M
 have C:=I.all32 h32
 have hlk:=I.1
 refine wp_seq_k fun G O=>wr fun G U=>D.xm rfl<|Xm rfl<|Xv (vd ((i1:Int)<(j1:Int))) fun _ G=>wn U ?_
 by_cases D:(i1:Int)<(j1:Int)
 ·refine G.ct<|wp_skip<|O _ _<|wp_seq_k fun D Y=>wp_block<|sX (fun D W=>Ext D W) (fun i=>i==13||i==15) 16 fun D U O=>G.ym 0 rfl<|Ym 1 rfl<|Ym 2 rfl<|Ym 3 rfl<|Ym 4 rfl<|Ym 5 rfl<|Yw 6 (.pointer (some ⟨g,0+(j1:Int).toNat*32,none⟩)) rfl (fun F W=>rn_indexE uu30 inf29 (F.get rfl) (F.get rfl) (by omega:(0:Int)≤j1) (by omega:(j1:Int)<(n:Int)) (by omega)) fun _ V=>have O:Ex D D:=Ext.refl D;have G:=(own_ext M U);have D:=(Fl.own (S:=fun b=>base≤b) G (fun b hb=>hb) (digVals_one _));V.ys 7 (.agg (byteVals (lk.getD ((j1:Int).toNat) [])).toArray) rfl O (fun F W hW=>rn_loadN (cs:=byteVals (lk.getD ((j1:Int).toNat) [])) (F.get rfl) uu29 rfl (sk inf29 (byteVals_len (dig_len C ((j1:Int).toNat) (by have:=hlk;omega)))) (Fl.digAt (D.ext hW) rfl C (by have:=hlk;omega)))<|Ym 8 rfl<|Ym 9 rfl<|Yw 10 (vq g (0+i1*32)) rfl (fun F W=>rn_indexE uu30 inf29 (F.get rfl) (F.get rfl) (zl _) (il (by omega:i1<n)) (by omega)) fun _ D=>have M:=(Fl.own (S:=fun b=>base≤b) G (fun b hb=>hb) (digVals_one _));D.ys 11 (.agg (byteVals (lk.getD i1 [])).toArray) rfl O (fun F W hW=>rn_loadN (cs:=byteVals (lk.getD i1 [])) (F.get rfl) uu29 rfl (sk inf29 (byteVals_len (dig_len C i1 (by have:=hlk;omega)))) (Fl.digAt (M.ext hW) rfl C (by have:=hlk;omega)))<|Yw 12 (vq g (0+i1*32)) rfl (fun F W=>rn_indexE uu30 inf29 (F.get rfl) (F.get rfl) (zl _) (il (by omega:i1<n)) (by omega)) fun _ D=>ao 13 rfl<|have M:=(Fl.own (S:=fun b=>base≤b) G (fun b hb=>hb) (digVals_one _));o_storeRowK (j:=i1) (k:=32) (cells:=byteVals (lk.getD ((j1:Int).toNat) [])) (zs:=digVals (lk.set i1 (lk.getD ((j1:Int).toNat) []))) D rfl rfl rfl rfl (D.get rfl) (D.get rfl) G (sk inf29 (byteVals_len (dig_len C ((j1:Int).toNat) (by have:=hlk;omega)))) (by omega) (by omega) (byteVals_len (dig_len C ((j1:Int).toNat) (by have:=hlk;omega))) (byteVals_one _) (digVals_set C (by have:=Fl.dlen M C;omega) (dig_len C ((j1:Int).toNat) (by have:=hlk;omega))) fun G M G=>?_;have O:=G.size
  refine ⟨fun h=>absurd h (by decide),?_⟩
  refine D.yw 14 (.pointer (some ⟨g,0+(j1:Int).toNat*32,none⟩)) rfl (fun F W=>rn_indexE uu30 inf29 (F.get rfl) (F.get rfl) (by omega:(0:Int)≤j1) (by omega:(j1:Int)<(n:Int)) (by omega)) fun _ D=>ao 15 rfl<|have O:=(Fl.own (S:=fun b=>base≤b) M (fun b hb=>hb) (digVals_one _));o_storeRowK (j:=(j1:Int).toNat) (k:=32) (cells:=byteVals (lk.getD i1 [])) (zs:=digVals ((lk.set i1 (lk.getD ((j1:Int).toNat) [])).set ((j1:Int).toNat) (lk.getD i1 []))) D rfl rfl rfl rfl (D.get rfl) (D.get rfl) M (sk inf29 (byteVals_len (dig_len C i1 (by have:=hlk;omega)))) (by omega) (by omega) (byteVals_len (dig_len C i1 (by have:=hlk;omega))) (byteVals_one _) (digVals_set (All32.set C (dig_len C ((j1:Int).toNat) (by have:=hlk;omega))) (by have:=Fl.dlen O (All32.set C (dig_len C ((j1:Int).toNat) (by have:=hlk;omega)));omega) (dig_len C i1 (by have:=hlk;omega))) fun C O M=>?_;have C:=M.size
  refine ⟨fun h=>absurd h (by decide),?_⟩
  refine nK Y<|have C:=D.k [0,2,3,9];wp_region_lit<|C.xm rfl<|Xv (vi (i1+1:Nat))<|Xm rfl<|Xv (vi (j1 - 1))<|Xa rfl<|Xa rfl fun _ C=>wpList_nil ?_
  refine ⟨⟨(i1+1),(j1 - 1),(lk.set i1 (lk.getD ((j1:Int).toNat) [])).set ((j1:Int).toNat) (lk.getD i1 []),C.j,(by omega),(RevInv.step I (by omega) (by omega)),(by omega),(grow_set (grow_set (grow_ext (grow_set (grow_refl w g) J) U) G) M),O,(by omega),(by omega)⟩,?_⟩
  rw [C.get (t:=2) rfl,Z.get (t:=2) rfl];simp [intOf] <;> omega
 exact G.cf<|wp_exit<|exit_then<|exit_then<|exit_here<|ret0 G rfl<|have hdone:=RevInv.done I (by omega);⟨rfl,hdone ▸ M,(grow_set (grow_refl w g) J)⟩
theorem rev_nil (w:World) :
  Calls Tryz.prog 100 #[.slice none 0 0] w (fun e w'=>e=.returned (.tuple #[])∧Ext w w'):=by
 refine calls_enter Tryz.func100 rfl rfl rfl fun _ C=>wr fun D D=>C.xm rfl<|Xv (vi 0)<|Xv (vi (-1))<|Xv (vi 0)<|Xa rfl fun _ C=>wn D<|wp_block<|wp_loop (fun a' W=>Sl 28 [(0,v0),(2,(vi 0)),(3,(vi (-1)))] a'∧Ext w W∧w.heap.size≤W.heap.size) (fun a' _=>0 - (intOf (a'.eval (.tmp 2))).toNat) ⟨C.j,(Ext.refl w),(Nat.le_refl _)⟩ ?_
 rintro C C ⟨C,D,G⟩
 have G:=C
 have G:=D.size
 exact wp_seq_k fun D D=>wr fun D D=>C.xm rfl<|Xm rfl<|Xv (.bool false) fun _ C=>wn D<|C.cf<|wp_exit<|exit_then<|exit_then<|exit_here<|ret0 C rfl<|⟨rfl,eX⟩
theorem rev_at {A:Option Addr} {base:Nat} (l:List (List UInt8)) (w:World) (h32:All32 l) (hr:w.ownsRow base 29 32 (vl A n c) n (digVals l)) :
  Calls Tryz.prog 100 #[.slice A n c] w (fun e w'=>e=.returned (.tuple #[])∧w'.ownsRow base 29 32 (vl A n c) n (digVals l.reverse)∧w.grownBy w' (Value.slice A n c).ownBlock):=by
 rcases hr.2 with ⟨h',h0⟩ | ⟨g,cap,cur,h',_⟩
 ·cases h'
  have hl:l=[]:=List.eq_nil_of_length_eq_zero ((Fl.dlen (Fl.own (S:=fun _=>True) hr (fun _ _=>trivial) (digVals_one _)) h32))
  subst hl
  refine (rev_nil w).mono ?_
  rintro e w' ⟨rfl,hx⟩
  exact ⟨rfl,own_ext hr hx,⟨hx.below.os,hx.below.tape,hx.below.output,hx.size,fun i hi _=>hx.below.block i hi⟩⟩
 ·cases h'
  exact rev_any g n c base l w h32 hr
def pathD (l:List (List UInt8)) (at_:Nat):List (List UInt8):=pathL nodeD leafD emptyD l at_
def pathF (l:List (List UInt8)) (at_:Int):List (List UInt8) × Int:=if at_<0∨(l.length:Int)≤at_ then ([],1) else (pathD l at_.toNat,0)
theorem pathD_first (h:2≤l0.length) (h2:a0<half l0.length) (e:pathD l a=pathD l0 a0++p.reverse):pathD l a=pathD (l0.take (half l0.length)) a0++(p++[treeD (l0.drop (half l0.length))]).reverse:=by
 rw [e,pathD,path_first _ _ _ h h2];simp [pathD,treeD]
theorem pathD_second (h:2≤l0.length) (h2:¬ a0<half l0.length) (e:pathD l a=pathD l0 a0++p.reverse):pathD l a=pathD (l0.drop (half l0.length)) (a0 - half l0.length)++(p++[treeD (l0.take (half l0.length))]).reverse:=by
 rw [e,pathD,path_second _ _ _ h h2];simp [pathD,treeD]
theorem pathD_done (h:l0.length≤1) (e:pathD l a=pathD l0 a0++p.reverse):p.reverse=pathD l a:=by
 rw [e,pathD,path_one _ _ _ h];rfl
theorem path_any (A:Option Addr) (c:Nat) (l:List (List UInt8)) (at_:Int) (w:World) (h32:All32 l) (hf:Fl S w 32 (vl A l.length c) l.length (digVals l)) (hG:Glob w) (hbig:l.length≤4398046511104) :
  Calls Tryz.prog 62 #[.slice A l.length c,.int .i64 at_] w (fun e w'=>∃ A' n c',e=.returned (.tuple #[.slice A' n c',.int .i64 (pathF l at_).2])∧Fl (fun b=>w.heap.size≤b) w' 32 (vl A' n c') n (digVals (pathF l at_).1)∧All32 (pathF l at_).1∧Ext w w'):=by
 have hc:Fl (Clip S w) w 32 (vl A l.length c) l.length (digVals l):=hf.clip
 have hcc:=(Fl.cel hc).2.1
 refine calls_enter Tryz.func62 rfl rfl rfl fun _ O=>wr fun K1 aq=>O.xv v0<|Xv (vi 0) fun _ O=>wn aq<|wp_seq_k fun K6 ax=>wr fun K7 aq=>O.xm rfl<|Xv (vd ((at_:Int)<(0:Int)))<|Xm rfl fun _ O=>?_
 by_cases aw:(at_:Int)<(0:Int)
 ·exact O.xu<|Xu<|Xu<|Xu<|Xv (.bool true) fun _ D=>wn aq<|have C:=D.k [0,1,4,5,14];C.ct<|wr fun D D=>C.xv v0<|Xv (vi 1) fun _ C=>wn D<|wp_ret<|ret_then<|ret2 C rfl rfl rfl<|⟨none,0,0,by rw [pathF,if_pos (by omega)],by rw [pathF,if_pos (by omega)];exact Fl.nil _,by rw [pathF,if_pos (by omega)];exact All32.nil,(Ext.refl w)⟩
 refine O.xg (vi at_)<|Xg (vl A l.length c)<|Xg (vi l.length)<|Xg (vd ((l.length:Int)≤(at_:Int)))<|Xv (vd ((l.length:Int)≤(at_:Int))) fun _ aw=>wn aq ?_
 have O:=aw.k [0,1,4,5,14]
 by_cases aq:(l.length:Int)≤(at_:Int)
 ·exact O.ct<|wr fun C D=>O.xv v0<|Xv (vi 1) fun _ C=>wn D<|wp_ret<|ret_then<|ret2 C rfl rfl rfl<|⟨none,0,0,by rw [pathF,if_pos (by omega)],by rw [pathF,if_pos (by omega)];exact Fl.nil _,by rw [pathF,if_pos (by omega)];exact All32.nil,(Ext.refl w)⟩
 refine O.cf<|wp_skip<|ax _ _<|wp_seq_k fun aq ay=>wp_block ?_
 obtain ⟨an,han⟩:∃ an:Nat,at_=(an:Int):=⟨at_.toNat,by omega⟩
 refine wp_loop (fun a' W=>∃ (J:Option Addr) (C:Nat) (D:Nat) (l0:List (List UInt8)) (I:Nat) (Ap:Option Addr) (np:Nat) (cp:Nat) (p0:List (List UInt8)),Sl 50 [(0,(vl J C D)),(1,(vi I)),(4,(vl Ap np cp)),(5,(vi 0)),(14,(vd ((l.length:Int)≤(at_:Int))))] a'∧l0.length=C∧pathD l an=pathD l0 I++p0.reverse∧I<C∧All32 l0∧All32 p0∧np+C≤l.length∧Ext w W∧W.ownsRow w.heap.size 29 32 (vl Ap np cp) np (digVals p0)∧Fl (Clip S w) W 32 (vl J C D) C (digVals l0)∧w.heap.size≤W.heap.size∧w.heap.size≤W.heap.size) (fun a' _=>(sliceLen (a'.eval (.tmp 0)))) ⟨A,l.length,c,l,an,none,0,0,[],O.j,rfl,(List.append_nil _).symm,(by omega),h32,All32.nil,(by omega),(Ext.refl w),(own_nil w w.heap.size 29 32),hc,(by omega),(Nat.le_refl _)⟩ ?_
 rintro O av ⟨J,C,D,l0,I,Ap,np,cp,p0,O,au,ah,aq,aq,aw,ax,ax,aa,M,aB,aB⟩
 have ar:=O
 have aB:=ax.size
 have ax:=own_form0 aa
 have G:=aq
 have Y:=aw
 have hcc1:=(Fl.cel M).2.1
 refine wp_seq_k fun aq aq=>wr fun aw aw=>O.xm rfl<|Xv (vi C)<|Xv (vd ((1:Int)<(C:Int))) fun _ U=>wn aw ?_
 by_cases O:(1:Int)<(C:Int)
 ·refine U.ct<|wp_skip<|aq _ _<|wp_block<|wr fun O aq=>U.xm rfl<|Xv (vi C) fun _ O=>have aw:=half_lt (n:=C) (by omega);have aw:=half_pos C;O.xE (c:=half_any C _ (by omega) (by omega)) (k:=fun O Z O _ O=>O.xa rfl fun _ O=>wn aq<|have aq:=O.k [0,1,4,5,14,17,6];wr fun O O=>aq.xm rfl<|Xm rfl<|Xv (vd ((I:Int)<((half C:Nat):Int))) fun _ V=>wn O ?_)
  by_cases O:(I:Int)<((half C:Nat):Int)
  ·refine V.ct<|sX (fun O W=>True) (fun i=>false) 12 fun O ae O=>V.ym 0 rfl<|Ym 1 rfl<|Ym 2 rfl fun _ aw=>?_
   have ak:=M.ux ae
   obtain ⟨O,aq,am,-⟩:=Fl.at ak (by omega)
   refine aw.yw 3 (vl (some ⟨O,aq+(half C)*32,none⟩) (C - (half C)) (D - (half C))) rfl (fun F W=>rn_sliceLo (l:=(half C)) uu30 inf29 ((F.get rfl).trans (by rw [am])) (F.get rfl) (by omega:(half C)≤C) (by omega:(half C)<D))<|Ym 7 rfl<|Ym 8 rfl<|Yw 9 (vl J (half C) D) rfl (fun F W=>rn_sliceHi uu30 inf29 (F.get rfl) (F.get rfl) (by omega:(0:Int)≤(half C:Nat)) (by omega:((half C:Nat):Int)≤(D:Int))) fun _ aw=>ao 4 rfl<|have ax:=(Fl.drop_eq (j:=(half C)) ak am (by omega) (digVals_drop G _));aw.oe (tree_at (l0.drop (half C)) _ (n:=C - (half C)) (v:=(vl (some ⟨O,aq+(half C)*32,none⟩) (C - (half C)) (D - (half C)))) (All32.drop G _) ax (hG.ext eX)) fun O ak O _ O=>?_
   refine ⟨fun _ _=>trivial,?_⟩
   refine ao 5 rfl (O.on (fun g=>(vl (some ⟨g,0,none⟩) 1 1)) (byteVals ((treeD (l0.drop (half C))))) 29 rfl (fun F=>rn_buildSlice (parts1 (F.get rfl)) (build_wholeE (vs:=[(.agg (byteVals (treeD (l0.drop (half C)))).toArray)]) El30 rfl rfl (fun v hv=>by rw [List.mem_singleton.1 hv];exact (byteVals_len (treeD_len _))) (by decide) (by decide) (by simp [Value.cells,byteVals]))) fun aw O _ O am am aq am=>?_)
   refine ⟨fun _ _=>trivial,?_⟩
   refine ao 6 rfl<|have ax:=(own_ext (own_ext (own_ext (own_ext aa Z) ae) ak) am);have ab:=ax;o_appA (zs:=digVals (p0++([treeD (l0.drop (half C))]))) El30 O rfl rfl rfl rfl rfl (O.get rfl) (O.get rfl) ab (Fl.cel (Fl.digblk (S:=fun b=>b=aw) aq (All32.sing (treeD_len _)) (by simp [digVals,byteVals]))).2.2 (by omega) (by omega) (by omega) (digVals_app _ _) fun ag aj O O O az ac aq aq=>?_;have aq:=ac.size
   refine ⟨fun _ _=>trivial,?_⟩
   refine O.yv 10 (vl ag (np+1) aj) rfl<|Yv 11 (vl J (half C) D) rfl fun _ ai=>nN ?_
   have al:=M.pres (Pres.row (((((Pres.refl av).ext Z).ext ae).ext ak).ext am) ac ab (fun b hb h=>by simp only [Clip] at h;omega))
   refine ⟨⟨J,(half C),D,l0.take (half C),I,ag,np+1,aj,p0++([treeD (l0.drop (half C))]),ai.j,(Fl.dlen (Fl.take_eq (j:=(half C)) al (by omega) (digVals_take G _)) (All32.take G _)),(by have hpl:l0.length=C:=au;subst hpl;exact pathD_first (by omega) (by omega) ah),(by omega),(All32.take G _),(All32.app Y (All32.sing (treeD_len _))),(by omega),(ext_row eX ac ab (by omega)),az,(Fl.take_eq (j:=(half C)) al (by omega) (digVals_take G _)),(by omega),(by omega)⟩,?_⟩
   rw [ai.get (t:=0) rfl,ar.get (t:=0) rfl];simp only [sliceLen];omega
  refine V.cf<|sX (fun O W=>True) (fun i=>false) 16 fun O O aq=>V.ym 0 rfl<|Ym 1 rfl<|Ym 2 rfl<|Yw 3 (vl J (half C) D) rfl (fun F W=>rn_sliceHi uu30 inf29 (F.get rfl) (F.get rfl) (by omega:(0:Int)≤(half C:Nat)) (by omega:((half C:Nat):Int)≤(D:Int)))<|Ym 7 rfl<|Ym 8 rfl fun _ aq=>?_
  have V:=M.ux O
  obtain ⟨ab,ai,ac,-⟩:=Fl.at V (by omega)
  refine aq.yw 9 (vl (some ⟨ab,ai+(half C)*32,none⟩) (C - (half C)) (D - (half C))) rfl (fun F W=>rn_sliceLo (l:=(half C)) uu30 inf29 ((F.get rfl).trans (by rw [ac])) (F.get rfl) (by omega:(half C)≤C) (by omega:(half C)<D))<|Ym 10 rfl<|Ym 11 rfl<|Yw 12 (vi (I - (half C):Nat)) rfl (fun F W=>rn_subN (a:=I) (b:=half C) (F.get rfl) (F.get rfl) (by omega) (by omega)) fun _ aq=>ao 4 rfl<|have aw:=(Fl.take_eq (j:=(half C)) V (by omega) (digVals_take G _));aq.oe (tree_at (l0.take (half C)) _ (n:=(half C)) (v:=(vl J (half C) D)) (All32.take G _) aw (hG.ext eX)) fun J V J _ J=>?_
  refine ⟨fun _ _=>trivial,?_⟩
  refine ao 5 rfl (J.on (fun g=>(vl (some ⟨g,0,none⟩) 1 1)) (byteVals ((treeD (l0.take (half C))))) 29 rfl (fun F=>rn_buildSlice (parts1 (F.get rfl)) (build_wholeE (vs:=[(.agg (byteVals (treeD (l0.take (half C)))).toArray)]) El30 rfl rfl (fun v hv=>by rw [List.mem_singleton.1 hv];exact (byteVals_len (treeD_len _))) (by decide) (by decide) (by simp [Value.cells,byteVals]))) fun ax J _ J aq aq aw aq=>?_)
  refine ⟨fun _ _=>trivial,?_⟩
  refine ao 6 rfl<|have az:=(own_ext (own_ext (own_ext (own_ext aa Z) O) V) aq);have ae:=az;o_appA (zs:=digVals (p0++([treeD (l0.take (half C))]))) El30 J rfl rfl rfl rfl rfl (J.get rfl) (J.get rfl) ae (Fl.cel (Fl.digblk (S:=fun b=>b=ax) aw (All32.sing (treeD_len _)) (by simp [digVals,byteVals]))).2.2 (by omega) (by omega) (by omega) (digVals_app _ _) fun aj al J J J aA ag aw aw=>?_;have aw:=ag.size
  refine ⟨fun _ _=>trivial,?_⟩
  refine J.yv 13 (vl aj (np+1) al) rfl<|Yv 14 (vl (some ⟨ab,ai+(half C)*32,none⟩) (C - (half C)) (D - (half C))) rfl<|Yv 15 (vi (I - (half C):Nat)) rfl fun _ ak=>nN ?_
  have am:=M.pres (Pres.row (((((Pres.refl av).ext Z).ext O).ext V).ext aq) ag ae (fun b hb h=>by simp only [Clip] at h;omega))
  refine ⟨⟨(some ⟨ab,ai+(half C)*32,none⟩),C - (half C),D - (half C),l0.drop (half C),I - (half C),aj,np+1,al,p0++([treeD (l0.take (half C))]),ak.j,(Fl.dlen (Fl.drop_eq (j:=(half C)) am ac (by omega) (digVals_drop G _)) (All32.drop G _)),(by have hpl:l0.length=C:=au;subst hpl;exact pathD_second (by omega) (by omega) ah),(by omega),(All32.drop G _),(All32.app Y (All32.sing (treeD_len _))),(by omega),(ext_row eX ag ae (by omega)),aA,(Fl.drop_eq (j:=(half C)) am ac (by omega) (digVals_drop G _)),(by omega),(by omega)⟩,?_⟩
  rw [ak.get (t:=0) rfl,ar.get (t:=0) rfl];simp only [sliceLen];omega
 refine U.cf<|wp_exit<|exit_then<|exit_then<|exit_here<|ay _ _<|wr fun C ab=>U.xm rfl fun _ C=>have V:=aa;C.xc (rev_at p0 _ Y V) ?_
 rintro _ C ⟨rfl,ac,Z⟩
 refine ⟨_,rfl,?_⟩;intro C C;have D:=Z.size
 refine wn ab<|have D:=C.k [0,1,4,5,14,17];wr fun C G=>D.xm rfl<|Xa rfl<|Xv (vi 0) fun _ C=>wn G<|wp_ret<|ret2 C rfl rfl rfl ?_
 have hdone:=pathD_done (by omega) ah
 have hpf:pathF l at_=(pathD l an,0):=by rw [pathF,if_neg (by omega),han,Int.toNat_natCast]
 have hrow:=Fl.own (S:=fun b=>w.heap.size≤b) ac (fun b hb=>by omega) (digVals_one _)
 rw [hdone] at hrow
 exact ⟨Ap,np,cp,by rw [hpf],by rw [hpf];exact hrow,by rw [hpf,← hdone];exact Y.rev,(ext_row eX Z V (by omega))⟩
theorem path_at (l:List (List UInt8)) (at_:Int) (w:World) (h32:All32 l) (hf:Fl S w 32 v n (digVals l)) (hG:Glob w) (hbig:n≤4398046511104) :
  Calls Tryz.prog 62 #[v,.int .i64 at_] w (fun e w'=>∃ A' n c',e=.returned (.tuple #[.slice A' n c',.int .i64 (pathF l at_).2])∧Fl (fun b=>w.heap.size≤b) w' 32 (vl A' n c') n (digVals (pathF l at_).1)∧All32 (pathF l at_).1∧Ext w w'):=by
 have hm:=Fl.dlen hf h32
 subst hm
 obtain ⟨A,c,rfl,_⟩:=hf.form
 exact path_any A c l at_ w h32 hf hG hbig
def zero32:List UInt8:=List.replicate 32 0
def climbF (d:List UInt8) (at_ n:Int) (p:List (List UInt8)):List UInt8 × Int:=if (n<1∨1099511627776<n∨at_<0∨n≤at_)∨p.length≠(dirs at_.toNat n.toNat).length then (zero32,1) else (climbL nodeD leafD d at_.toNat n.toNat p,0)
theorem dirs_step1 {h0:Nat} (hh:h0=half n0) (h:2≤n0) (h2:a0<h0) (e:dirs a n=f++dirs a0 n0):dirs a n=(f++[decide ((a0:Int)<(h0:Int))])++dirs a0 h0:=by
 subst hh
 rw [e,dirs_first h h2,decide_eq_true (by omega)];simp
theorem dirs_step2 {h0:Nat} (hh:h0=half n0) (h:2≤n0) (h2:¬ a0<h0) (e:dirs a n=f++dirs a0 n0):dirs a n=(f++[decide ((a0:Int)<(h0:Int))])++dirs (a0 - h0) (n0 - h0):=by
 subst hh
 rw [e,dirs_second h h2,decide_eq_false (by omega)];simp
def climbTo (d:List UInt8) (f:List Bool) (p:List (List UInt8)) (k:Nat):List UInt8:=((p.take k).zip (f.reverse.take k)).foldl (step1 nodeD) (leafD d)
theorem climbTo_step {m:Nat} {b:Bool} (hx:x=climbTo d f p k) (hk:k<p.length) (hl:p.length=f.length) (hm:m=f.length - 1 - k) (hb:f.getD m false=b):step1 nodeD x (p.getD k [],b)=climbTo d f p (k+1):=by
 subst hm
 have h1:p.take (k+1)=p.take k++[p.getD k []]:=by rw [List.take_add_one,List.getD_eq_getElem?_getD,List.getElem?_eq_getElem hk];simp
 have h2:f.reverse.take (k+1)=f.reverse.take k++[b]:=by
  rw [List.take_add_one,List.getElem?_reverse (by omega),← hb,List.getD_eq_getElem?_getD,List.getElem?_eq_getElem (by omega)];simp
 rw [hx,climbTo,climbTo,h1,h2,List.zip_append (by simp;omega),List.foldl_append];rfl
theorem climbTo_t {m:Nat} (hx:x=climbTo d f p k) (hk:k<p.length) (hl:p.length=f.length) (hm:m=f.length - 1 - k) (hb:f.getD m false=true):nodeD x (p.getD k [])=climbTo d f p (k+1):=climbTo_step hx hk hl hm hb
theorem climbTo_f {m:Nat} (hx:x=climbTo d f p k) (hk:k<p.length) (hl:p.length=f.length) (hm:m=f.length - 1 - k) (hb:f.getD m false=false):nodeD (p.getD k []) x=climbTo d f p (k+1):=climbTo_step hx hk hl hm hb
theorem climbTo_done (hx:x=climbTo d f p k) (hk:k=p.length) (hl:p.length=f.length) (hf:dirs a n=f):x=climbL nodeD leafD d a n p:=by
 subst hk
 rw [hx,climbTo,climbL,hf,List.take_length,List.take_of_length_le (by simp;omega)]
theorem Fl.boollen {w:World} {l:List Bool} (h:Fl S w 1 v n (boolVals l)):l.length=n:=by
 have:=h.len;simp [boolVals] at this;omega
theorem climbF_len (d:List UInt8) (at_ n:Int) (p:List (List UInt8)):(climbF d at_ n p).1.length=32:=by
 unfold climbF
 split
 ·rfl
 ·show (climbL nodeD leafD d at_.toNat n.toNat p).length=32
  unfold climbL
  generalize p.zip (dirs at_.toNat n.toNat).reverse=l
  have:∀ (l:List (List UInt8 × Bool)) (x:List UInt8),x.length=32→(l.foldl (step1 nodeD) x).length=32:=by
   intro l
   induction l with
   | nil=>intro x h;exact h
   | cons q l ih=>intro x h;exact ih _ (by unfold step1;split <;> exact nodeD_len _ _)
  exact this l _ (leafD_len d)
theorem climb_any (d:List UInt8) (at_ n:Int) (A:Option Addr) (c:Nat) (p:List (List UInt8)) (w:World) (hd:d.length=32) (h32:All32 p) (hf:Fl S w 32 (vl A p.length c) p.length (digVals p)) (hG:Glob w) :
  Calls Tryz.prog 82 #[.agg (byteVals d).toArray,.int .i64 at_,.int .i64 n,.slice A p.length c] w (fun e w'=>e=.returned (.tuple #[.agg (byteVals (climbF d at_ n p).1).toArray,.int .i64 (climbF d at_ n p).2])∧Ext w w'):=by
 have hc:Fl (Clip S w) w 32 (vl A p.length c) p.length (digVals p):=hf.clip
 have hcc:=(Fl.cel hc).2.1
 refine calls_enter Tryz.func82 rfl rfl rfl fun _ C=>wr fun D J=>C.xb rfl fun U C _ C D D V D=>C.xz (byteVals (List.replicate 32 0)) 29 fun O G _ C D D I Y=>C.xv (vi 0) fun _ D=>wn J<|wp_seq_k fun C J=>wr fun C C=>D.xm rfl<|Xv (vd ((n:Int)<(1:Int)))<|Xm rfl fun _ D=>?_
 by_cases M:(n:Int)<(1:Int)
 ·refine D.xu<|Xu<|Xv (.bool true)<|Xm rfl<|Xu<|Xu<|Xv (.bool true)<|Xm rfl<|Xu<|Xu<|Xu<|Xv (.bool true) fun _ D=>wn C<|have C:=D.k [0,1,2,3,4,8,9,28];C.ct<|wr fun D G=>C.xw (.agg (byteVals (List.replicate 32 0)).toArray) (fun F=>rb F rfl I (hk:=byteVals_len (show List.length (List.replicate 32 0)=_ from List.length_replicate))) fun _ C=>?_
  refine C.xs rfl I (fun D D I=>?_) (hk:=byteVals_len (show List.length (List.replicate 32 0)=_ from List.length_replicate));have J:=I.size
  refine C.xv (vi 1) fun _ C=>wn G<|wp_ret<|ret_then ?_
  refine retC1 C rfl rfl rfl D uu29 rfl (sk inf29 (byteVals_len (show List.length (List.replicate 32 0)=_ from List.length_replicate))) ?_
  have hcl:climbF d at_ n p=(zero32,1):=by rw [climbF,if_pos (.inl (by omega))]
  exact ⟨by rw [hcl];rfl,eX⟩
 refine D.xg (vi n)<|Xg (vd ((1099511627776:Int)<(n:Int)))<|Xv (vd ((1099511627776:Int)<(n:Int)))<|Xm rfl<|fun _ D=>?_
 by_cases M:(1099511627776:Int)<(n:Int)
 ·refine D.xu<|Xu<|Xv (.bool true)<|Xm rfl<|Xu<|Xu<|Xu<|Xv (.bool true) fun _ D=>wn C<|have C:=D.k [0,1,2,3,4,8,9,28];C.ct<|wr fun D G=>C.xw (.agg (byteVals (List.replicate 32 0)).toArray) (fun F=>rb F rfl I (hk:=byteVals_len (show List.length (List.replicate 32 0)=_ from List.length_replicate))) fun _ C=>?_
  refine C.xs rfl I (fun D D I=>?_) (hk:=byteVals_len (show List.length (List.replicate 32 0)=_ from List.length_replicate));have J:=I.size
  refine C.xv (vi 1) fun _ C=>wn G<|wp_ret<|ret_then ?_
  refine retC1 C rfl rfl rfl D uu29 rfl (sk inf29 (byteVals_len (show List.length (List.replicate 32 0)=_ from List.length_replicate))) ?_
  have hcl:climbF d at_ n p=(zero32,1):=by rw [climbF,if_pos (.inl (by omega))]
  exact ⟨by rw [hcl];rfl,eX⟩
 refine D.xg (vi at_)<|Xg (vd ((at_:Int)<(0:Int)))<|Xv (vd ((at_:Int)<(0:Int)))<|Xm rfl<|fun _ D=>?_
 by_cases M:(at_:Int)<(0:Int)
 ·refine D.xu<|Xu<|Xu<|Xv (.bool true) fun _ D=>wn C<|have C:=D.k [0,1,2,3,4,8,9,28];C.ct<|wr fun D G=>C.xw (.agg (byteVals (List.replicate 32 0)).toArray) (fun F=>rb F rfl I (hk:=byteVals_len (show List.length (List.replicate 32 0)=_ from List.length_replicate))) fun _ C=>?_
  refine C.xs rfl I (fun D D I=>?_) (hk:=byteVals_len (show List.length (List.replicate 32 0)=_ from List.length_replicate));have J:=I.size
  refine C.xv (vi 1) fun _ C=>wn G<|wp_ret<|ret_then ?_
  refine retC1 C rfl rfl rfl D uu29 rfl (sk inf29 (byteVals_len (show List.length (List.replicate 32 0)=_ from List.length_replicate))) ?_
  have hcl:climbF d at_ n p=(zero32,1):=by rw [climbF,if_pos (.inl (by omega))]
  exact ⟨by rw [hcl];rfl,eX⟩
 refine D.xg (vi at_)<|Xg (vi n)<|Xg (vd ((n:Int)≤(at_:Int)))<|Xv (vd ((n:Int)≤(at_:Int))) fun _ D=>wn C ?_
 have C:=D.k [0,1,2,3,4,8,9,28]
 by_cases D:(n:Int)≤(at_:Int)
 ·refine C.ct<|wr fun D G=>C.xw (.agg (byteVals (List.replicate 32 0)).toArray) (fun F=>rb F rfl I (hk:=byteVals_len (show List.length (List.replicate 32 0)=_ from List.length_replicate))) fun _ C=>?_
  refine C.xs rfl I (fun D D I=>?_) (hk:=byteVals_len (show List.length (List.replicate 32 0)=_ from List.length_replicate));have J:=I.size
  refine C.xv (vi 1) fun _ C=>wn G<|wp_ret<|ret_then ?_
  refine retC1 C rfl rfl rfl D uu29 rfl (sk inf29 (byteVals_len (show List.length (List.replicate 32 0)=_ from List.length_replicate))) ?_
  have hcl:climbF d at_ n p=(zero32,1):=by rw [climbF,if_pos (.inl (by omega))]
  exact ⟨by rw [hcl];rfl,eX⟩
 refine C.cf<|wp_skip<|J _ _<|wr fun D D=>C.xv v0 fun _ J=>wn D<|wp_seq_k fun C Z=>wp_block ?_
 obtain ⟨an,han⟩:∃ an:Nat,at_=(an:Int):=⟨at_.toNat,by omega⟩
 obtain ⟨nn,hnn⟩:∃ nn:Nat,n=(nn:Int):=⟨n.toNat,by omega⟩
 have M:=V.ext Y
 refine wp_loop (fun a' W=>∃ (D:Nat) (C:Nat) (Af:Option Addr) (nf:Nat) (cf:Nat) (f0:List Bool),Sl 81 [(0,(.agg (byteVals d).toArray)),(1,(vi D)),(2,(vi C)),(3,(vl A p.length c)),(4,(vp U)),(8,(vp O)),(9,(vi 0)),(28,(vd ((n:Int)≤(at_:Int)))),(10,(vl Af nf cf))] a'∧dirs an nn=f0++dirs D C∧D<C∧nf+C≤nn∧Ext w W∧Blk W U 29 (byteVals d)∧Blk W O 29 (byteVals (List.replicate 32 0))∧W.ownsRow G.heap.size 4 1 (vl Af nf cf) nf (boolVals f0)∧G.heap.size≤W.heap.size∧G.heap.size≤W.heap.size) (fun a' _=>(intOf (a'.eval (.tmp 2))).toNat) ⟨an,nn,none,0,0,[],J.j,rfl,(by omega),(by omega),eX,M,I,(own_nil G G.heap.size 4 1),(by omega),(Nat.le_refl _)⟩ ?_
 rintro C C ⟨D,C,Af,nf,cf,f0,J,Y,I,I,aa,M,I,V,ab,ab⟩
 have ab:=J
 have ac:=aa.size
 have aa:=M.lt
 have aa:=I.lt
 have aa:=own_form0 V
 refine wp_seq_k fun aa aa=>wr fun ac ac=>J.xm rfl<|Xv (vd ((1:Int)<(C:Int))) fun _ J=>wn ac ?_
 by_cases ac:(1:Int)<(C:Int)
 ·refine J.ct<|wp_skip<|aa _ _<|wp_block<|wr fun G U=>J.xm rfl fun _ G=>have J:=half_lt (n:=C) (by omega);have J:=half_pos C;G.xE (c:=half_any C _ (by omega) (by omega)) (k:=fun G O G _ G=>G.xa rfl fun _ G=>wn U<|wr fun J ae=>G.xm rfl<|Xm rfl<|Xm rfl<|Xv (vd ((D:Int)<((half C:Nat):Int))) fun _ G=>G.xn (fun g=>(vl (some ⟨g,0,none⟩) 1 1)) [(vd ((D:Int)<((half C:Nat):Int)))] 4 (fun F=>rn_buildSlice (parts1 (F.get rfl)) (by kernel_rfl)) fun aa G _ J G G Z U=>have ac:=(own_ext (own_ext V O) U);have G:=ac;wpl_op (i:=5) rfl<|o_appA (zs:=boolVals (f0++([decide ((D:Int)<((half C:Nat):Int))]))) El104 J rfl rfl rfl rfl rfl (J.get rfl) (J.get rfl) G (Fl.cel (Fl.blk (S:=fun b=>b=aa) (k:=1) (n:=1) (c:=1) (cs:=boolVals [decide ((D:Int)<((half C:Nat):Int))]) Z rfl (boolVals_one _) (by omega) rfl)).2.2 (by omega) (by omega) (by omega) (boolVals_app _ _) fun Z aa J J V ac J ag ag=>have ag:=J.size;V.xa rfl fun _ V=>wn ae<|have ae:=V.k [0,1,2,3,4,8,9,28,10,31,11];wr fun V ag=>ae.xm rfl<|Xm rfl<|Xv (vd ((D:Int)<((half C:Nat):Int))) fun _ V=>wn ag ?_)
  by_cases ae:(D:Int)<((half C:Nat):Int)
  ·refine V.ct<|wp_region_lit<|V.xm rfl<|Xa rfl fun _ V=>wpList_nil ?_
   have ae:=grown_blk G J ((M.ext O).ext U) (by decide)
   have M:=grown_blk G J ((I.ext O).ext U) (by decide)
   refine ⟨⟨D,half C,Z,nf+1,aa,f0++([decide ((D:Int)<((half C:Nat):Int))]),V.j,(dirs_step1 rfl (by omega) (by omega) Y),(by omega),(by omega),(ext_row eX J G (by omega)),ae,M,ac,(by omega),(by omega)⟩,?_⟩
   rw [V.get (t:=2) rfl,ab.get (t:=2) rfl];simp [intOf] <;> omega
  refine V.cf<|wp_region_lit<|V.xm rfl<|Xm rfl<|Xw (vi (D - (half C):Nat)) (fun F=>rn_subN (a:=D) (b:=half C) (F.get rfl) (F.get rfl) (by omega) (by omega))<|Xm rfl<|Xm rfl<|Xw (vi (C - (half C):Nat)) (fun F=>rn_subN (a:=C) (b:=half C) (F.get rfl) (F.get rfl) (by omega) (by omega))<|Xa rfl<|Xa rfl fun _ V=>wpList_nil ?_
  have ae:=grown_blk G J ((M.ext O).ext U) (by decide)
  have M:=grown_blk G J ((I.ext O).ext U) (by decide)
  refine ⟨⟨D - (half C),C - (half C),Z,nf+1,aa,f0++([decide ((D:Int)<((half C:Nat):Int))]),V.j,(dirs_step2 rfl (by omega) (by omega) Y),(by omega),(by omega),(ext_row eX J G (by omega)),ae,M,ac,(by omega),(by omega)⟩,?_⟩
  rw [V.get (t:=2) rfl,ab.get (t:=2) rfl];simp [intOf] <;> omega
 refine J.cf<|wp_exit<|exit_then<|exit_then<|exit_here<|Z _ _<|wp_seq_k fun Z aa=>wr fun Z ab=>J.xm rfl<|Xv (vi p.length)<|Xm rfl<|Xv (vi nf)<|Xv (vd ((p.length:Int)≠(nf:Int))) fun _ Z=>wn ab ?_
 have J:=Z.k [0,1,2,3,4,8,9,28,10,31,54]
 by_cases Z:(p.length:Int)≠(nf:Int)
 ·refine J.ct<|wr fun C M=>J.xw (.agg (byteVals (List.replicate 32 0)).toArray) (fun F=>rb F rfl I (hk:=byteVals_len (show List.length (List.replicate 32 0)=_ from List.length_replicate))) fun _ C=>?_
  refine C.xs rfl I (fun D J D=>?_) (hk:=byteVals_len (show List.length (List.replicate 32 0)=_ from List.length_replicate));have O:=D.size
  refine C.xv (vi 1) fun _ C=>wn M<|wp_ret<|ret_then ?_
  refine retC1 C rfl rfl rfl J uu29 rfl (sk inf29 (byteVals_len (show List.length (List.replicate 32 0)=_ from List.length_replicate))) ?_
  have hdir:dirs an nn=f0:=by rw [Y,dirs_one (by omega),List.append_nil]
  have C:=own_grownT V I D (by decide)
  have hnf:=Fl.boollen (Fl.own (S:=fun b=>G.heap.size≤b) C (fun b hb=>hb) (boolVals_one _))
  have hcl:climbF d at_ n p=(zero32,1):=by rw [climbF,han,hnn,Int.toNat_natCast,Int.toNat_natCast,hdir,if_pos (.inr (by omega))]
  exact ⟨by rw [hcl];rfl,eX⟩
 refine J.cf<|wp_skip<|aa _ _<|wr fun Z ab=>J.xw (.agg (byteVals d).toArray) (fun F=>rb F rfl M (hk:=byteVals_len hd)) fun _ J=>J.xe (leaf_any d _ hd (hG.ext eX)) fun J aa J _ J=>?_
 have Z:=I.ext aa
 refine J.xs rfl Z (fun ah ac I=>?_) (hk:=byteVals_len (leafD_len _));have ae:=I.size
 refine wn ab<|wp_seq_k fun ab ae=>wr fun ab ag=>J.xm rfl<|Xv (vi p.length)<|Xv (vi 0) fun _ ab=>wn ag<|wp_block<|have hdir:dirs an nn=f0:=(by rw [Y,dirs_one (by omega),List.append_nil]);have J:=(own_grownT (own_ext V aa) Z I (by decide));have hnf:=Fl.boollen (Fl.own (S:=fun b=>G.heap.size≤b) J (fun b hb=>hb) (boolVals_one _));have V:=M.ug I;wp_loop (fun a' W=>∃ (k:Nat) (xx:List UInt8),Sl 81 [(0,(.agg (byteVals d).toArray)),(1,(vi D)),(2,(vi C)),(3,(vl A p.length c)),(4,(vp U)),(8,(vp O)),(9,(vi 0)),(28,(vd ((n:Int)≤(at_:Int)))),(10,(vl Af nf cf)),(31,(vd ((1:Int)<(C:Int)))),(54,(vd ((p.length:Int)≠(nf:Int)))),(58,(vl A p.length c)),(59,(vi p.length)),(60,(vi k))] a'∧k≤p.length∧xx.length=32∧xx=climbTo d f0 p k∧Ext w W∧Blk W U 29 (byteVals d)∧Blk W O 29 (byteVals xx)∧W.ownsRow G.heap.size 4 1 (vl Af nf cf) nf (boolVals f0)∧G.heap.size≤W.heap.size∧ah.heap.size≤W.heap.size) (fun a' _=>p.length - (intOf (a'.eval (.tmp 60))).toNat) ⟨0,leafD d,ab.j,(by omega),(leafD_len _),rfl,eX,V,ac,J,(by omega),(Nat.le_refl _)⟩ ?_
 rintro C C ⟨k,xx,D,C,O,M,I,J,C,aa,U,U⟩
 have Z:=D
 have U:=I.size
 have U:=J.lt
 have U:=C.lt
 have U:=own_form0 aa
 have hxl:xx.length=32:=O
 refine wr fun O O=>D.xv (vd ((k:Int)<(p.length:Int))) fun _ D=>wn O<|wp_seq_k fun O O=>?_
 by_cases U:(k:Int)<(p.length:Int)
 ·refine D.ct<|wp_skip<|O _ _<|wp_seq_k fun O Y=>wp_block<|wr fun O ab=>D.xm rfl fun _ O=>?_
  have D:=hc.ext I
  obtain ⟨U,V,I,-⟩:=Fl.at D (by omega)
  refine O.xw (vq U (V+k*32)) (fun F=>rn_indexE uu30 inf29 ((F.get rfl).trans (by rw [I])) (F.get rfl) (zl _) (il (by omega:k<p.length)) (by omega))<|Xw (.agg (byteVals (p.getD k [])).toArray) (fun F=>rn_loadN (cs:=byteVals (p.getD k [])) (F.get rfl) uu29 rfl (sk inf29 (byteVals_len (dig_len h32 k (by omega)))) (Fl.digAt D I h32 (by omega))) fun _ D=>D.xz (byteVals (List.replicate 32 0)) 29 fun D D _ D I I U ae=>D.xa rfl fun _ D=>?_
  refine D.xs rfl U (fun I V I=>?_) (hk:=byteVals_len (dig_len h32 k (by omega)));have O:=I.size
  refine wn ab<|wr fun O ac=>D.xm rfl<|Xm rfl<|Xv (vi nf)<|Xw (vi (nf - 1:Nat)) (fun F=>rn_subN (a:=nf) (b:=1) (F.get rfl) rfl (by omega) (by omega))<|Xm rfl<|Xw (vi ((nf - 1) - k:Nat)) (fun F=>rn_subN (a:=nf - 1) (b:=k) (F.get rfl) (F.get rfl) (by omega) (by omega)) fun _ ab=>?_
  have O:=own_grownT (own_ext aa ae) U I (by decide)
  have U:=Fl.own (S:=fun b=>G.heap.size≤b) O (fun b hb=>hb) (boolVals_one _)
  obtain ⟨G,aa,D,-⟩:=Fl.at U (by omega)
  refine ab.xw (.pointer (some ⟨G,aa+((nf - 1) - k),none⟩)) (fun F=>rn_index1 uu104 inf4 ((F.get rfl).trans (by rw [D])) (F.get rfl) (by omega:(0:Int)≤((nf - 1) - k:Nat)) (by omega:(((nf - 1) - k:Nat):Int)<(nf:Int)))<|Xw (.bool (f0.getD ((nf - 1) - k) false)) (fun F=>rl F rfl (Fl.cellAt U D (boolVals_at (i:=((nf - 1) - k)) (by have:=hnf;omega)))) fun _ G=>wn ac ?_
  have D:=G.k [0,1,2,3,4,8,9,28,10,31,54,58,59,60,61,13,12,72]
  rcases Bool.eq_false_or_eq_true (f0.getD ((nf - 1) - k) false) with G | G
  ·refine D.ct<|wp_region_lit<|have U:=C.ug I;D.xw (.agg (byteVals xx).toArray) (fun F=>rb F rfl U (hk:=byteVals_len hxl))<|Xw (.agg (byteVals (p.getD k [])).toArray) (fun F=>rb F rfl V (hk:=byteVals_len (dig_len h32 k (by omega)))) fun _ C=>C.xE (c:=node_any xx (p.getD k []) _ hxl (dig_len h32 k (by omega)) (hG.ext eX)) (k:=fun C V C _ D=>?_)
   have I:=U.ext V
   refine D.xs rfl I (fun C U C=>?_) (hk:=byteVals_len (nodeD_len _ _)) (hl:=byteVals_len hxl);have aa:=C.size
   refine wn Y<|wp_region_lit<|D.xv (vi (k+1:Nat))<|Xm rfl fun _ D=>wpList_nil ?_
   have Y:=J.ug C
   have J:=own_grownT (own_ext O V) I C (by decide)
   refine ⟨⟨(k+1),nodeD xx (p.getD k []),D.j,(by omega),(nodeD_len _ _),(climbTo_t M (by omega) (by omega) (by omega) G),eX,Y,U,J,(by omega),(by omega)⟩,?_⟩
   rw [D.get (t:=60) rfl,Z.get (t:=60) rfl];simp [intOf] <;> omega
  refine D.cf<|wp_region_lit<|D.xw (.agg (byteVals (p.getD k [])).toArray) (fun F=>rb F rfl V (hk:=byteVals_len (dig_len h32 k (by omega)))) fun _ D=>have U:=C.ug I;D.xw (.agg (byteVals xx).toArray) (fun F=>rb F rfl U (hk:=byteVals_len hxl)) fun _ C=>C.xE (c:=node_any (p.getD k []) xx _ (dig_len h32 k (by omega)) hxl (hG.ext eX)) (k:=fun C V C _ D=>?_)
  have I:=U.ext V
  refine D.xs rfl I (fun C U C=>?_) (hk:=byteVals_len (nodeD_len _ _)) (hl:=byteVals_len hxl);have aa:=C.size
  refine wn Y<|wp_region_lit<|D.xv (vi (k+1:Nat))<|Xm rfl fun _ D=>wpList_nil ?_
  have Y:=J.ug C
  have J:=own_grownT (own_ext O V) I C (by decide)
  refine ⟨⟨(k+1),nodeD (p.getD k []) xx,D.j,(by omega),(nodeD_len _ _),(climbTo_f M (by omega) (by omega) (by omega) G),eX,Y,U,J,(by omega),(by omega)⟩,?_⟩
  rw [D.get (t:=60) rfl,Z.get (t:=60) rfl];simp [intOf] <;> omega
 refine D.cf<|wp_exit<|exit_then<|exit_then<|exit_here<|ae _ _<|wr fun G I=>D.xw (.agg (byteVals xx).toArray) (fun F=>rb F rfl C (hk:=byteVals_len hxl)) fun _ D=>?_
 refine D.xs rfl C (fun C G C=>?_) (hk:=byteVals_len hxl) (hl:=byteVals_len hxl);have J:=C.size
 refine D.xv (vi 0) fun _ C=>wn I<|wp_ret ?_
 refine retC1 C rfl rfl rfl G uu29 rfl (sk inf29 (byteVals_len hxl)) ?_
 have hcl:climbF d at_ n p=(climbL nodeD leafD d an nn p,0):=by rw [climbF,han,hnn,Int.toNat_natCast,Int.toNat_natCast,hdir,if_neg (by omega)]
 have hdone:=climbTo_done M (by omega) (by omega) hdir
 exact ⟨by rw [hcl,← hdone],eX⟩
theorem climb_at {m:Nat} (d:List UInt8) (at_ n:Int) (p:List (List UInt8)) (w:World) (hd:d.length=32) (h32:All32 p) (hf:Fl S w 32 v m (digVals p)) (hG:Glob w):Calls Tryz.prog 82 #[.agg (byteVals d).toArray,.int .i64 at_,.int .i64 n,v] w (fun e w'=>e=.returned (.tuple #[.agg (byteVals (climbF d at_ n p).1).toArray,.int .i64 (climbF d at_ n p).2])∧Ext w w'):=by
 have hm:=Fl.dlen hf h32
 subst hm
 obtain ⟨A,c,rfl,_⟩:=hf.form
 exact climb_any d at_ n A c p w hd h32 hf hG
theorem pathD_one' (h:l.length≤1):pathD l a=[]:=by rw [pathD,path_one _ _ _ h]
theorem pathD_first' (h:2≤l.length) (h2:a<half l.length):pathD l a=pathD (l.take (half l.length)) a++[treeD (l.drop (half l.length))]:=by rw [pathD,path_first _ _ _ h h2];rfl
theorem pathD_second' (h:2≤l.length) (h2:¬ a<half l.length):pathD l a=pathD (l.drop (half l.length)) (a - half l.length)++[treeD (l.take (half l.length))]:=by rw [pathD,path_second _ _ _ h h2];rfl
theorem dirs_le:∀ (N a n:Nat),n≤N→(dirs a n).length≤n:=by
  intro N
  induction N with
  | zero=>intro a n h;rw [dirs_one (by omega)];simp
  | succ N ih =>
    intro a n h
    by_cases h1:n≤1
    · rw [dirs_one h1];simp
    · have hl:=half_lt (n:=n) (by omega)
      have hp:=half_pos n
      by_cases h2:a<half n
      · rw [dirs_first (by omega) h2];have:=ih a (half n) (by omega);simp;omega
      · rw [dirs_second (by omega) h2];have:=ih (a - half n) (n - half n) (by omega);simp;omega
theorem pathD_32:∀ (N:Nat) (l:List (List UInt8)) (a:Nat),l.length≤N→All32 (pathD l a):=by
  intro N
  induction N with
  | zero=>intro l a h;rw [pathD_one' (by omega)];exact All32.nil
  | succ N ih =>
    intro l a h
    by_cases h1:l.length≤1
    · rw [pathD_one' h1];exact All32.nil
    · have hl:=half_lt (n:=l.length) (by omega)
      have hp:=half_pos l.length
      by_cases h2:a<half l.length
      · rw [pathD_first' (by omega) h2];exact (ih _ _ (by rw [List.length_take];omega)).app (All32.sing (treeD_len _))
      · rw [pathD_second' (by omega) h2];exact (ih _ _ (by rw [List.length_drop];omega)).app (All32.sing (treeD_len _))
theorem climb_one' (h:n≤1):climbL nodeD leafD d a n p=leafD d:=by rw [climbL,dirs_one h];simp
theorem climbL_len (d:List UInt8) (a n:Nat) (p:List (List UInt8)):(climbL nodeD leafD d a n p).length=32:=by
  unfold climbL
  generalize p.zip (dirs a n).reverse=l
  have:∀ (l:List (List UInt8 × Bool)) (x:List UInt8),x.length=32→(l.foldl (step1 nodeD) x).length=32:=by
    intro l
    induction l with
    | nil=>intro x h;exact h
    | cons q l ih=>intro x h;exact ih _ (by unfold step1;split <;> exact nodeD_len _ _)
  exact this l _ (leafD_len d)
def kOk (sd:List UInt8) (many used:Int):Bool:=decide ((1≤sd.length∧sd.length≤64)∧(1≤many∧many≤4096)∧0≤used∧used≤many)
def two (n:Nat):List UInt8:=[UInt8.ofNat (n / 256),UInt8.ofNat n]
def bitB (b:Bool):UInt8:=if b then 1 else 0
def secretD (sd:List UInt8) (i j:Nat) (b:Bool):List UInt8:=tagged [115,101,99,114,101,116] (sd++two i++[UInt8.ofNat j,bitB b])
def openD (d:List UInt8):List UInt8:=tagged [111,112,101,110] d
def hashD (sd:List UInt8) (i j:Nat) (b:Bool):List UInt8:=openD (secretD sd i j b)
def manyD (h:Nat→Bool→List UInt8) (k:Nat):List UInt8:=(List.range k).flatMap fun j=>h j false++h j true
def publicD (h:Nat→Bool→List UInt8):List UInt8:=tagged [111,110,101] (manyD h 64)
def pubsL (sd:List UInt8) (k:Nat):List (List UInt8):=(List.range k).map fun i=>publicD (hashD sd i)
def pubD (sd:List UInt8) (many:Nat):List UInt8:=treeD (pubsL sd many)
def msgD (root:List UInt8) (i:Nat) (msg:List UInt8):List UInt8:=tagged [109,101,115,115,97,103,101] (root++two i++msg)
def bitOf (d:List UInt8) (k:Nat):Bool:=decide ((((d.getD (k / 8) 0 >>> UInt8.ofNat (7 - k % 8)) &&& 1).toNat:Int)=1)
def bitsTo (d:List UInt8) (k:Nat):List Bool:=(List.range k).map (bitOf d)
def bitsL (root:List UInt8) (i:Nat) (msg:List UInt8):List Bool:=bitsTo (msgD root i msg) 64
theorem secretD_len (sd:List UInt8) (i j:Nat) (b:Bool):(secretD sd i j b).length=32:=tagged_len _ _
theorem openD_len (d:List UInt8):(openD d).length=32:=tagged_len _ _
theorem hashD_len (sd:List UInt8) (i j:Nat) (b:Bool):(hashD sd i j b).length=32:=tagged_len _ _
theorem publicD_len (h:Nat→Bool→List UInt8):(publicD h).length=32:=tagged_len _ _
theorem pubsL_len (sd:List UInt8) (k:Nat):(pubsL sd k).length=k:=by simp [pubsL]
theorem pubsL_32 (sd:List UInt8) (k:Nat):All32 (pubsL sd k):=fun x hx=>by
  obtain ⟨i,_,rfl⟩:=List.mem_map.1 hx;exact publicD_len _
theorem pubsL_step (sd:List UInt8) (k:Nat):pubsL sd k++[publicD (hashD sd k)]=pubsL sd (k+1):=by rw [pubsL,pubsL,List.range_succ,List.map_append];rfl
theorem bitsTo_len (d:List UInt8) (k:Nat):(bitsTo d k).length=k:=by simp [bitsTo]
theorem bitsL_len (root:List UInt8) (i:Nat) (msg:List UInt8):(bitsL root i msg).length=64:=bitsTo_len _ _
theorem bitsTo_step (d:List UInt8) (k:Nat):bitsTo d k++[bitOf d k]=bitsTo d (k+1):=by rw [bitsTo,bitsTo,List.range_succ,List.map_append];rfl
theorem manyD_step (h:Nat→Bool→List UInt8) (k:Nat):(manyD h k++h k false)++h k true=manyD h (k+1):=by
  rw [manyD,manyD,List.range_succ,List.flatMap_append,List.flatMap_cons,List.flatMap_nil,List.append_nil,List.append_assoc]
theorem manyD_congr {h:Nat→Bool→List UInt8}:∀ {k:Nat},(∀ j b,j<k→g j b=h j b)→manyD g k=manyD h k
  | 0,_=>rfl
  | k+1,e=>by rw [← manyD_step,← manyD_step,manyD_congr (k:=k) fun j b hj=>e j b (by omega),e k false (by omega),e k true (by omega)]
theorem publicD_congr {h:Nat→Bool→List UInt8} (e:∀ j b,j<64→g j b=h j b):publicD g=publicD h:=by rw [publicD,publicD,manyD_congr e]
structure Sg where
  (index:Int)
  (op cl path:List (List UInt8))
def opTo (sd:List UInt8) (i:Nat) (bs:List Bool) (k:Nat):List (List UInt8):=(List.range k).map fun j=>secretD sd i j (bs.getD j false)
def clTo (sd:List UInt8) (i:Nat) (bs:List Bool) (k:Nat):List (List UInt8):=(List.range k).map fun j=>hashD sd i j (!bs.getD j false)
theorem opTo_step (sd:List UInt8) (i:Nat) (bs:List Bool) (k:Nat):opTo sd i bs k++[secretD sd i k (bs.getD k false)]=opTo sd i bs (k+1):=by rw [opTo,opTo,List.range_succ,List.map_append];rfl
theorem clTo_step (sd:List UInt8) (i:Nat) (bs:List Bool) (k:Nat):clTo sd i bs k++[hashD sd i k (!bs.getD k false)]=clTo sd i bs (k+1):=by rw [clTo,clTo,List.range_succ,List.map_append];rfl
theorem opTo_len (sd:List UInt8) (i:Nat) (bs:List Bool) (k:Nat):(opTo sd i bs k).length=k:=by simp [opTo]
theorem clTo_len (sd:List UInt8) (i:Nat) (bs:List Bool) (k:Nat):(clTo sd i bs k).length=k:=by simp [clTo]
theorem opTo_32 (sd:List UInt8) (i:Nat) (bs:List Bool) (k:Nat):All32 (opTo sd i bs k):=fun x hx=>by obtain ⟨j,_,rfl⟩:=List.mem_map.1 hx;exact secretD_len _ _ _ _
theorem clTo_32 (sd:List UInt8) (i:Nat) (bs:List Bool) (k:Nat):All32 (clTo sd i bs k):=fun x hx=>by obtain ⟨j,_,rfl⟩:=List.mem_map.1 hx;exact hashD_len _ _ _ _
theorem opTo_at (h:j<k):(opTo sd i bs k).getD j []=secretD sd i j (bs.getD j false):=by
  rw [List.getD_eq_getElem?_getD,opTo,List.getElem?_map,List.getElem?_range h];rfl
theorem clTo_at (h:j<k):(clTo sd i bs k).getD j []=hashD sd i j (!bs.getD j false):=by
  rw [List.getD_eq_getElem?_getD,clTo,List.getElem?_map,List.getElem?_range h];rfl
def sgNil:Sg:=⟨0,[],[],[]⟩
def signE (sd:List UInt8) (many used idx:Int) (msg:List UInt8):Int:=if kOk sd many used=false then 40 else if 65536<msg.length then 2 else if idx<0∨many≤idx then 40 else 0
def sgOf (sd:List UInt8) (many idx:Nat) (msg:List UInt8):Sg :=
  ⟨idx,opTo sd idx (bitsL (pubD sd many) idx msg) 64,clTo sd idx (bitsL (pubD sd many) idx msg) 64,pathD (pubsL sd many) idx⟩
def signF (sd:List UInt8) (many used idx:Int) (msg:List UInt8):Sg:=if signE sd many used idx msg=0 then sgOf sd many.toNat idx.toNat msg else sgNil
def shown (bs:List Bool) (s:Sg) (j:Nat) (b:Bool):List UInt8:=if bs.getD j false=b then openD (s.op.getD j []) else s.cl.getD j []
def vShape (n:Int) (msg:List UInt8) (s:Sg):Prop:=¬ (n<1∨4096<n∨s.index<0∨n≤s.index∨s.op.length≠64∨s.cl.length≠64∨65536<msg.length)
instance (n:Int) (msg:List UInt8) (s:Sg):Decidable (vShape n msg s):=by unfold vShape;exact inferInstance
def climbS (root:List UInt8) (n:Int) (msg:List UInt8) (s:Sg):List UInt8 × Int:=climbF (publicD (shown (bitsL root s.index.toNat msg) s)) s.index n s.path
def verifyF (root:List UInt8) (n:Int) (msg:List UInt8) (s:Sg):Bool:=decide (vShape n msg s)&&(decide ((climbS root n msg s).2=0)&&decide ((climbS root n msg s).1=root))
theorem climb_pubs (h:i<many) (hm:many≤4096):climbF (publicD (hashD sd i)) i many (pathD (pubsL sd many) i)=(pubD sd many,0):=by
  have h1:=climbs nodeD leafD emptyD (pubsL sd many) i (by rw [pubsL_len];exact h)
  have h2:=path_len nodeD leafD emptyD (pubsL sd many) i
  rw [pubsL_len] at h1 h2
  have h3:(pubsL sd many).getD i []=publicD (hashD sd i):=by
    rw [List.getD_eq_getElem?_getD,pubsL,List.getElem?_map,List.getElem?_range h];rfl
  rw [h3] at h1
  rw [climbF,if_neg (by simp only [Int.toNat_natCast,pathD];omega)]
  simp only [Int.toNat_natCast,pathD]
  rw [h1];rfl
theorem shown_sg {b:Bool} (hj:j<64):shown (bitsL (pubD sd many) i msg) (sgOf sd many i msg) j b=hashD sd i j b:=by
  unfold shown
  simp only [sgOf]
  rw [opTo_at hj,clTo_at hj]
  generalize (bitsL (pubD sd many) i msg).getD j false=c
  cases c <;> cases b <;> rfl
theorem verify_sg {other:List UInt8} (h:i<many) (hm:many≤4096) (hl:other.length≤65536) (hb:bitsL (pubD sd many) i msg=bitsL (pubD sd many) i other):verifyF (pubD sd many) many other (sgOf sd many i msg)=true:=by
  have e:climbS (pubD sd many) many other (sgOf sd many i msg)=(pubD sd many,0):=by
    unfold climbS
    have h1:publicD (shown (bitsL (pubD sd many) (sgOf sd many i msg).index.toNat other) (sgOf sd many i msg))=publicD (hashD sd i):=publicD_congr fun j b hj=>by
      have:(sgOf sd many i msg).index.toNat=i:=by simp [sgOf]
      rw [this,← hb];exact shown_sg hj
    rw [h1]
    exact climb_pubs h hm
  have hv:vShape many other (sgOf sd many i msg):=by
    have h1:(sgOf sd many i msg).op.length=64:=opTo_len _ _ _ _
    have h2:(sgOf sd many i msg).cl.length=64:=clTo_len _ _ _ _
    have h3:(sgOf sd many i msg).index=i:=rfl
    unfold vShape
    omega
  unfold verifyF
  rw [e,decide_eq_true hv];simp
theorem verify_not {n:Int} {s:Sg} (h:¬ vShape n msg s):verifyF root n msg s=false:=by rw [verifyF,decide_eq_false h];rfl
theorem verify_yes {n:Int} {s:Sg} (h:vShape n msg s):verifyF root n msg s=(decide ((climbS root n msg s).2=0)&&decide ((climbS root n msg s).1=root)):=by rw [verifyF,decide_eq_true h];rfl
theorem kOk_iff {many used:Int}:kOk sd many used=true↔(1≤sd.length∧sd.length≤64)∧(1≤many∧many≤4096)∧0≤used∧used≤many:=decide_eq_true_iff
theorem parts10 {x8 x9:Operand} {v0 v8 v9:Value} {i8 i9:Nat} (h0:ρ x0=v0) (h1:ρ x1=v1) (h2:ρ x2=v2) (h3:ρ x3=v3) (h4:ρ x4=v4) (h5:ρ x5=v5) (h6:ρ x6=v6) (h7:ρ x7=v7) (h8:ρ x8=v8) (h9:ρ x9=v9) :
  #[(i0,x0),(i1,x1),(i2,x2),(i3,x3),(i4,x4),(i5,x5),(i6,x6),(i7,x7),(i8,x8),(i9,x9)].map (fun x=>(x.1,ρ x.2))=#[(i0,v0),(i1,v1),(i2,v2),(i3,v3),(i4,v4),(i5,v5),(i6,v6),(i7,v7),(i8,v8),(i9,v9)]:=by simp [h0,h1,h2,h3,h4,h5,h6,h7,h8,h9]
theorem parts8 {v0:Value} (h0:ρ x0=v0) (h1:ρ x1=v1) (h2:ρ x2=v2) (h3:ρ x3=v3) (h4:ρ x4=v4) (h5:ρ x5=v5) (h6:ρ x6=v6) (h7:ρ x7=v7) :
  #[(i0,x0),(i1,x1),(i2,x2),(i3,x3),(i4,x4),(i5,x5),(i6,x6),(i7,x7)].map (fun x=>(x.1,ρ x.2))=#[(i0,v0),(i1,v1),(i2,v2),(i3,v3),(i4,v4),(i5,v5),(i6,v6),(i7,v7)]:=by simp [h0,h1,h2,h3,h4,h5,h6,h7]
theorem parts16 {c0 c1 c2 c3 c4 c5 c6 c7 c8 c9 c10 c11 c12 c13 c14 c15:Value} (hc:∀ v,ρ (.const v)=v) {i0 i1 i2 i3 i4 i5 i6 i7 i8 i9 i10 i11 i12 i13 i14 i15:Nat} :
  #[(i0,Operand.const c0),(i1,.const c1),(i2,.const c2),(i3,.const c3),(i4,.const c4),(i5,.const c5),(i6,.const c6),(i7,.const c7),(i8,.const c8),(i9,.const c9),(i10,.const c10),(i11,.const c11),(i12,.const c12),(i13,.const c13),(i14,.const c14),(i15,.const c15)].map (fun x=>(x.1,ρ x.2))=#[(i0,c0),(i1,c1),(i2,c2),(i3,c3),(i4,c4),(i5,c5),(i6,c6),(i7,c7),(i8,c8),(i9,c9),(i10,c10),(i11,c11),(i12,c12),(i13,c13),(i14,c14),(i15,c15)]:=by simp [hc]
def permI:List Int:=perms.flatten.map Int.ofNat
theorem permI_len:permI.length=160:=by decide +kernel
theorem permI_all:∀ r<10,∀ j<16,permI.getD (r*16+j) 0=Int.ofNat ((permRow r).getD j 0)∧(permRow r).getD j 0<16:=by decide +kernel
theorem permRow_lt (hr:r<10) (hj:j<16):(permRow r).getD j 0<16:=(permI_all r hr j hj).2
theorem blk_perm {W:World} {g o:Nat} {t:TypeId} (h:Blk W g t (intVals permI)) {r j:Nat} (hr:r<10) (hj:j<16) (ho:o=r*16+j):W.cell? ⟨g,o,none⟩=some (vi (((permRow r).getD j 0:Nat):Int)):=by
 rw [blk_intVals h ho (by rw [permI_len];omega),(permI_all r hr j hj).1];rfl
theorem rror_any (x:UInt32) (n:Nat) (w:World) (h0:0<n) (h1:n<32) :
  Calls Tryz.prog 130 #[.int .u32 (x.toNat:Nat),.int .i64 (n:Nat)] w (fun e w'=>e=.returned (.int .u32 ((ror x n).toNat:Nat))∧Ext w w'):=by
 exact calls_enter Tryz.func130 rfl rfl rfl fun _ C=>wr fun D G=>C.xv (.int .u32 0) fun _ D=>wn G<|wp_seq_k fun C G=>sX (fun C W=>Ext C W) (fun i=>false) 9 fun C C C=>D.ym 0 rfl<|Ym 1 rfl<|Yw 2 (.int .u32 ((x >>> UInt32.ofNat n).toNat:Nat)) rfl (fun F W=>rn_shr32 (a:=x) (n:=n) (F.get rfl) (F.get rfl) (by omega))<|Ym 3 rfl<|Ym 4 rfl<|Yw 5 (vi (32 - n:Nat)) rfl (fun F W=>rn_subN (a:=32) (b:=n) rfl (F.get rfl) (by omega) (by omega))<|Yw 6 (.int .u32 ((x <<< UInt32.ofNat (32 - n)).toNat:Nat)) rfl (fun F W=>rn_shl32 (a:=x) (n:=(32 - n)) (F.get rfl) (F.get rfl) (by omega))<|Yw 7 (.int .u32 (((x >>> UInt32.ofNat n) ||| (x <<< UInt32.ofNat (32 - n))).toNat:Nat)) rfl (fun F W=>rn_or32 (a:=(x >>> UInt32.ofNat n)) (b:=(x <<< UInt32.ofNat (32 - n))) (F.get rfl) (F.get rfl))<|Yv 8 (.int .u32 (((x >>> UInt32.ofNat n) ||| (x <<< UInt32.ofNat (32 - n))).toNat:Nat)) rfl fun _ C=>nK G<|have D:=C.k [0,1,4];wp_ret<|ret1 D rfl rfl<|⟨rfl,eX⟩
theorem rmix_any (xa xb xc xd xx xy:UInt32) (w:World) :
  Calls Tryz.prog 128 #[.int .u32 (xa.toNat:Nat),.int .u32 (xb.toNat:Nat),.int .u32 (xc.toNat:Nat),.int .u32 (xd.toNat:Nat),.int .u32 (xx.toNat:Nat),.int .u32 (xy.toNat:Nat)] w (fun e w'=>e=.returned (.tuple #[.int .u32 ((mix4 xa xb xc xd xx xy).a.toNat:Nat),.int .u32 ((mix4 xa xb xc xd xx xy).b.toNat:Nat),.int .u32 ((mix4 xa xb xc xd xx xy).c.toNat:Nat),.int .u32 ((mix4 xa xb xc xd xx xy).d.toNat:Nat)])∧Ext w w'):=by
 refine calls_enter Tryz.func128 rfl rfl rfl fun _ C=>wr fun D D=>C.xv (.int .u32 0)<|Xv (.int .u32 0)<|Xv (.int .u32 0)<|Xv (.int .u32 0) fun _ C=>wn D<|wr fun D D=>C.xm rfl<|Xm rfl<|Xw (.int .u32 ((xa+xb).toNat:Nat)) (fun F=>rn_add32 (a:=xa) (b:=xb) (F.get rfl) (F.get rfl))<|Xm rfl<|Xw (.int .u32 (((xa+xb)+xx).toNat:Nat)) (fun F=>rn_add32 (a:=(xa+xb)) (b:=xx) (F.get rfl) (F.get rfl))<|Xa rfl fun _ C=>wn D<|have D:=C.k [0,1,2,3,4,5,12,13,14,15];wr fun C G=>D.xm rfl<|Xm rfl<|Xw (.int .u32 ((xd^^^((xa+xb)+xx)).toNat:Nat)) (fun F=>rn_xor32 (a:=xd) (b:=((xa+xb)+xx)) (F.get rfl) (F.get rfl)) fun _ C=>C.xE (c:=rror_any (xd^^^((xa+xb)+xx)) 16 _ (by omega) (by omega)) (k:=fun C C C _ C=>C.xa rfl fun _ C=>wn G<|have D:=C.k [0,1,2,3,4,5,12,13,14,15];wr fun C G=>D.xm rfl<|Xm rfl<|Xw (.int .u32 ((xc+(ror (xd^^^((xa+xb)+xx)) 16)).toNat:Nat)) (fun F=>rn_add32 (a:=xc) (b:=(ror (xd^^^((xa+xb)+xx)) 16)) (F.get rfl) (F.get rfl))<|Xa rfl fun _ C=>wn G<|wr fun D D=>C.xm rfl<|Xm rfl<|Xw (.int .u32 ((xb^^^(xc+(ror (xd^^^((xa+xb)+xx)) 16))).toNat:Nat)) (fun F=>rn_xor32 (a:=xb) (b:=(xc+(ror (xd^^^((xa+xb)+xx)) 16))) (F.get rfl) (F.get rfl)) fun _ C=>C.xE (c:=rror_any (xb^^^(xc+(ror (xd^^^((xa+xb)+xx)) 16))) 12 _ (by omega) (by omega)) (k:=fun C C C _ C=>C.xa rfl fun _ C=>wn D<|have D:=C.k [0,1,2,3,4,5,12,13,14,15];wr fun C G=>D.xm rfl<|Xm rfl<|Xw (.int .u32 ((((xa+xb)+xx)+(ror (xb^^^(xc+(ror (xd^^^((xa+xb)+xx)) 16))) 12)).toNat:Nat)) (fun F=>rn_add32 (a:=((xa+xb)+xx)) (b:=(ror (xb^^^(xc+(ror (xd^^^((xa+xb)+xx)) 16))) 12)) (F.get rfl) (F.get rfl))<|Xm rfl<|Xw (.int .u32 (((((xa+xb)+xx)+(ror (xb^^^(xc+(ror (xd^^^((xa+xb)+xx)) 16))) 12))+xy).toNat:Nat)) (fun F=>rn_add32 (a:=(((xa+xb)+xx)+(ror (xb^^^(xc+(ror (xd^^^((xa+xb)+xx)) 16))) 12))) (b:=xy) (F.get rfl) (F.get rfl))<|Xa rfl fun _ C=>wn G<|have D:=C.k [0,1,2,3,4,5,12,13,14,15];wr fun C G=>D.xm rfl<|Xm rfl<|Xw (.int .u32 (((ror (xd^^^((xa+xb)+xx)) 16)^^^((((xa+xb)+xx)+(ror (xb^^^(xc+(ror (xd^^^((xa+xb)+xx)) 16))) 12))+xy)).toNat:Nat)) (fun F=>rn_xor32 (a:=(ror (xd^^^((xa+xb)+xx)) 16)) (b:=((((xa+xb)+xx)+(ror (xb^^^(xc+(ror (xd^^^((xa+xb)+xx)) 16))) 12))+xy)) (F.get rfl) (F.get rfl)) fun _ C=>C.xE (c:=rror_any ((ror (xd^^^((xa+xb)+xx)) 16)^^^((((xa+xb)+xx)+(ror (xb^^^(xc+(ror (xd^^^((xa+xb)+xx)) 16))) 12))+xy)) 8 _ (by omega) (by omega)) (k:=fun C C C _ C=>C.xa rfl fun _ C=>wn G<|have D:=C.k [0,1,2,3,4,5,12,13,14,15];wr fun C G=>?_)))
 exact D.xm rfl<|Xm rfl<|Xw (.int .u32 (((xc+(ror (xd^^^((xa+xb)+xx)) 16))+(ror ((ror (xd^^^((xa+xb)+xx)) 16)^^^((((xa+xb)+xx)+(ror (xb^^^(xc+(ror (xd^^^((xa+xb)+xx)) 16))) 12))+xy)) 8)).toNat:Nat)) (fun F=>rn_add32 (a:=(xc+(ror (xd^^^((xa+xb)+xx)) 16))) (b:=(ror ((ror (xd^^^((xa+xb)+xx)) 16)^^^((((xa+xb)+xx)+(ror (xb^^^(xc+(ror (xd^^^((xa+xb)+xx)) 16))) 12))+xy)) 8)) (F.get rfl) (F.get rfl))<|Xa rfl fun _ C=>wn G<|wr fun D D=>C.xm rfl<|Xm rfl<|Xw (.int .u32 (((ror (xb^^^(xc+(ror (xd^^^((xa+xb)+xx)) 16))) 12)^^^((xc+(ror (xd^^^((xa+xb)+xx)) 16))+(ror ((ror (xd^^^((xa+xb)+xx)) 16)^^^((((xa+xb)+xx)+(ror (xb^^^(xc+(ror (xd^^^((xa+xb)+xx)) 16))) 12))+xy)) 8))).toNat:Nat)) (fun F=>rn_xor32 (a:=(ror (xb^^^(xc+(ror (xd^^^((xa+xb)+xx)) 16))) 12)) (b:=((xc+(ror (xd^^^((xa+xb)+xx)) 16))+(ror ((ror (xd^^^((xa+xb)+xx)) 16)^^^((((xa+xb)+xx)+(ror (xb^^^(xc+(ror (xd^^^((xa+xb)+xx)) 16))) 12))+xy)) 8))) (F.get rfl) (F.get rfl)) fun _ C=>C.xE (c:=rror_any ((ror (xb^^^(xc+(ror (xd^^^((xa+xb)+xx)) 16))) 12)^^^((xc+(ror (xd^^^((xa+xb)+xx)) 16))+(ror ((ror (xd^^^((xa+xb)+xx)) 16)^^^((((xa+xb)+xx)+(ror (xb^^^(xc+(ror (xd^^^((xa+xb)+xx)) 16))) 12))+xy)) 8))) 7 _ (by omega) (by omega)) (k:=fun C C C _ C=>C.xa rfl fun _ C=>wn D<|have D:=C.k [0,1,2,3,4,5,12,13,14,15];wr fun C G=>D.xm rfl<|Xm rfl<|Xm rfl<|Xm rfl<|Xa rfl<|Xa rfl<|Xa rfl<|Xa rfl fun _ C=>wn G<|have D:=C.k [0,1,2,3,4,5,12,13,14,15];wp_ret<|ret4 D rfl rfl rfl rfl rfl<|⟨rfl,eX⟩)
theorem rinitial_any (w:World) :
  Calls Tryz.prog 121 #[] w (fun e w'=>e=.returned (.agg (u32Vals iv).toArray)∧Ext w w'):=by
 refine calls_enter Tryz.func121 rfl rfl rfl fun _ C=>wr fun D G=>C.xz (u32Vals (List.replicate 8 0)) 144 fun C C _ C D D D I=>wn G<|wr fun G G=>C.xw (.agg (u32Vals ([(1779033703:UInt32),(3144134277:UInt32),(1013904242:UInt32),(2773480762:UInt32),(1359893119:UInt32),(2600822924:UInt32),(528734635:UInt32),(1541459225:UInt32)])).toArray) (fun F=>rn_build (parts8 rfl rfl rfl rfl rfl rfl rfl rfl) (by kernel_rfl)) fun _ C=>?_
 refine C.xs rfl D (fun D D I=>?_) (hk:=u32Vals_len (show List.length [(1779033703:UInt32),(3144134277:UInt32),(1013904242:UInt32),(2773480762:UInt32),(1359893119:UInt32),(2600822924:UInt32),(528734635:UInt32),(1541459225:UInt32)]=8 from rfl)) (hl:=u32Vals_len (show List.length (List.replicate 8 0)=_ from List.length_replicate)) (h1:=u32Vals_one _);have J:=I.size
 exact wn G<|wp_ret<|retC C rfl rfl D uu144 rfl (sk inf144 (u32Vals_len (show List.length [(1779033703:UInt32),(3144134277:UInt32),(1013904242:UInt32),(2773480762:UInt32),(1359893119:UInt32),(2600822924:UInt32),(528734635:UInt32),(1541459225:UInt32)]=8 from rfl)))<|⟨rfl,eX⟩
theorem rperm_any (w:World) :
  Calls Tryz.prog 127 #[] w (fun e w'=>e=.returned (.agg (intVals permI).toArray)∧Ext w w'):=by
 refine calls_enter Tryz.func127 rfl rfl rfl fun _ C=>wr fun D G=>C.xz (intVals (List.replicate 160 0)) 159 fun C C _ C D D D I=>wn G<|wr fun G I=>C.xw (.agg (intVals ([(0:Int),(1:Int),(2:Int),(3:Int),(4:Int),(5:Int),(6:Int),(7:Int),(8:Int),(9:Int),(10:Int),(11:Int),(12:Int),(13:Int),(14:Int),(15:Int)])).toArray) (fun F=>rn_build (parts16 (fun _=>rfl)) (by kernel_rfl))<|Xw (.agg (intVals ([(14:Int),(10:Int),(4:Int),(8:Int),(9:Int),(15:Int),(13:Int),(6:Int),(1:Int),(12:Int),(0:Int),(2:Int),(11:Int),(7:Int),(5:Int),(3:Int)])).toArray) (fun F=>rn_build (parts16 (fun _=>rfl)) (by kernel_rfl))<|Xw (.agg (intVals ([(11:Int),(8:Int),(12:Int),(0:Int),(5:Int),(2:Int),(15:Int),(13:Int),(10:Int),(14:Int),(3:Int),(6:Int),(7:Int),(1:Int),(9:Int),(4:Int)])).toArray) (fun F=>rn_build (parts16 (fun _=>rfl)) (by kernel_rfl))<|Xw (.agg (intVals ([(7:Int),(9:Int),(3:Int),(1:Int),(13:Int),(12:Int),(11:Int),(14:Int),(2:Int),(6:Int),(5:Int),(10:Int),(4:Int),(0:Int),(15:Int),(8:Int)])).toArray) (fun F=>rn_build (parts16 (fun _=>rfl)) (by kernel_rfl))<|Xw (.agg (intVals ([(9:Int),(0:Int),(5:Int),(7:Int),(2:Int),(4:Int),(10:Int),(15:Int),(14:Int),(1:Int),(11:Int),(12:Int),(6:Int),(8:Int),(3:Int),(13:Int)])).toArray) (fun F=>rn_build (parts16 (fun _=>rfl)) (by kernel_rfl))<|Xw (.agg (intVals ([(2:Int),(12:Int),(6:Int),(10:Int),(0:Int),(11:Int),(8:Int),(3:Int),(4:Int),(13:Int),(7:Int),(5:Int),(15:Int),(14:Int),(1:Int),(9:Int)])).toArray) (fun F=>rn_build (parts16 (fun _=>rfl)) (by kernel_rfl))<|Xw (.agg (intVals ([(12:Int),(5:Int),(1:Int),(15:Int),(14:Int),(13:Int),(4:Int),(10:Int),(0:Int),(7:Int),(6:Int),(3:Int),(9:Int),(2:Int),(8:Int),(11:Int)])).toArray) (fun F=>rn_build (parts16 (fun _=>rfl)) (by kernel_rfl))<|Xw (.agg (intVals ([(13:Int),(11:Int),(7:Int),(14:Int),(12:Int),(1:Int),(3:Int),(9:Int),(5:Int),(0:Int),(15:Int),(4:Int),(8:Int),(6:Int),(2:Int),(10:Int)])).toArray) (fun F=>rn_build (parts16 (fun _=>rfl)) (by kernel_rfl))<|Xw (.agg (intVals ([(6:Int),(15:Int),(14:Int),(9:Int),(11:Int),(3:Int),(0:Int),(8:Int),(12:Int),(2:Int),(13:Int),(7:Int),(1:Int),(4:Int),(10:Int),(5:Int)])).toArray) (fun F=>rn_build (parts16 (fun _=>rfl)) (by kernel_rfl))<|Xw (.agg (intVals ([(10:Int),(2:Int),(8:Int),(4:Int),(7:Int),(6:Int),(1:Int),(5:Int),(15:Int),(11:Int),(9:Int),(14:Int),(3:Int),(12:Int),(13:Int),(0:Int)])).toArray) (fun F=>rn_build (parts16 (fun _=>rfl)) (by kernel_rfl))<|Xw (.agg (intVals permI).toArray) (fun F=>rn_build (parts10 (F.get rfl) (F.get rfl) (F.get rfl) (F.get rfl) (F.get rfl) (F.get rfl) (F.get rfl) (F.get rfl) (F.get rfl) (F.get rfl)) (by kernel_rfl)) fun _ C=>?_
 refine C.xs rfl D (fun D G D=>?_) (hk:=intVals_len permI_len) (hl:=intVals_len (show List.length (List.replicate 160 0)=_ from List.length_replicate)) (h1:=intVals_one _);have J:=D.size
 exact wn I<|have D:=C.k [0];wp_ret<|retC D rfl rfl G uu159 rfl (sk inf159 (intVals_len permI_len))<|⟨rfl,eX⟩
def vTo (h:List UInt32) (k:Nat):List UInt32:=(h.take k++List.replicate (8 - k) 0)++(iv.take k++List.replicate (8 - k) 0)
theorem vTo_len (hh:h.length=8) (hk:k≤8):(vTo h k).length=16:=by simp [vTo,hh,iv_len];omega
theorem half_set {a:List UInt32} (ha:a.length=8) (hk:k<8):(a.take k++List.replicate (8 - k) (0:UInt32)).set k (a.getD k 0)=a.take (k+1)++List.replicate (8 - (k+1)) 0:=by
 rw [List.set_append_right _ _ (by simp;omega),List.length_take,Nat.min_eq_left (by omega),Nat.sub_self,show 8 - k=(8 - (k+1))+1 by omega,List.replicate_succ,List.set_cons_zero,List.take_add_one,List.getD_eq_getElem?_getD,List.getElem?_eq_getElem (by omega),List.append_assoc]
 rfl
theorem vTo_step {v:List UInt32} (hh:h.length=8) (hk:k<8) (hv:v=vTo h k) (he:v'=(v.set k (h.getD k 0)).set (8+k) (iv.getD k 0)):v'=vTo h (k+1):=by
 have h1:(h.take k++List.replicate (8 - k) (0:UInt32)).length=8:=by simp [hh];omega
 rw [he,hv,vTo,List.set_append_left _ _ (by omega),half_set hh hk,List.set_append_right _ _ (by simp [hh];omega)]
 have h2:(h.take (k+1)++List.replicate (8 - (k+1)) (0:UInt32)).length=8:=by simp [hh];omega
 rw [h2,Nat.add_sub_cancel_left,half_set iv_len hk];rfl
theorem vTo_done {v:List UInt32} (hh:h.length=8) (hv:v=vTo h 8):v=h++iv:=by rw [hv,vTo,List.take_of_length_le (by omega),List.take_of_length_le (by rw [iv_len];omega)];simp
theorem xor_all (a:UInt32):a^^^4294967295= ~~~ a:=by
 rw [UInt32.xor_comm]
 exact UInt32.toBitVec_inj.1 (BitVec.allOnes_xor (x:=a.toBitVec))
theorem mixTo_r1 {v0 v:List UInt32} {b d:Nat} (hk:k<4) (hv:v=mixTo m (permRow r) v0 k) (ha:a=k % 4) (hb:b=4+k % 4) (hc:c=8+k % 4) (hd:d=12+k % 4)
  (hq:q=mix4 (v.getD a 0) (v.getD b 0) (v.getD c 0) (v.getD d 0) (m.getD ((permRow r).getD (2*k) 0) 0) (m.getD ((permRow r).getD (2*k+1) 0) 0)) (he:v'=(((v.set a q.a).set b q.b).set c q.c).set d q.d):v'=mixTo m (permRow r) v0 (k+1):=by
 have h0:k % 4=k:=Nat.mod_eq_of_lt hk
 rw [h0] at ha hb hc hd
 subst ha hb hc hd hq
 rw [mixTo,foldl_range,← mixTo,← hv,he]
 simp [mixAt,hk,mixv,put4,at_]
theorem mixTo_r2 {v0 v:List UInt32} {b d:Nat} (hk:¬ k<4) (hv:v=mixTo m (permRow r) v0 k) (ha:a=k % 4) (hb:b=4+(k % 4+1) % 4) (hc:c=8+(k % 4+2) % 4) (hd:d=12+(k % 4+3) % 4)
  (hq:q=mix4 (v.getD a 0) (v.getD b 0) (v.getD c 0) (v.getD d 0) (m.getD ((permRow r).getD (2*k) 0) 0) (m.getD ((permRow r).getD (2*k+1) 0) 0)) (he:v'=(((v.set a q.a).set b q.b).set c q.c).set d q.d):v'=mixTo m (permRow r) v0 (k+1):=by
 subst ha hb hc hd hq
 rw [mixTo,foldl_range,← mixTo,← hv,he]
 simp only [mixAt,hk,if_false,mixv,put4,at_]
theorem mixTo_r {v0 v:List UInt32} {b d:Nat} (hv:v=mixTo m (permRow r) v0 k)
  (hp:(k<4∧a=k % 4∧b=4+k % 4∧c=8+k % 4∧d=12+k % 4)∨(¬ k<4∧a=k % 4∧b=4+(k % 4+1) % 4∧c=8+(k % 4+2) % 4∧d=12+(k % 4+3) % 4))
  (hq:q=mix4 (v.getD a 0) (v.getD b 0) (v.getD c 0) (v.getD d 0) (m.getD ((permRow r).getD (2*k) 0) 0) (m.getD ((permRow r).getD (2*k+1) 0) 0)) (he:v'=(((v.set a q.a).set b q.b).set c q.c).set d q.d):v'=mixTo m (permRow r) v0 (k+1):=by
 rcases hp with ⟨hk,ha,hb,hc,hd⟩ | ⟨hk,ha,hb,hc,hd⟩
 ·exact mixTo_r1 hk hv ha hb hc hd hq he
 ·exact mixTo_r2 hk hv ha hb hc hd hq he
theorem closeTo_r {v h':List UInt32} (hh:h=closeTo v h0 k) (he:h'=h.set k ((h.getD k 0^^^v.getD k 0)^^^v.getD (8+k) 0)):h'=closeTo v h0 (k+1):=by
 rw [he,hh,closeTo,closeTo,foldl_range,← closeTo,close_,at_,at_,at_]
theorem rblock_any (h:List UInt32) (A:Option Addr) (c:Nat) (b:List UInt8) (n:UInt64) (last:Bool) (w:World) (hh:h.length=8) (hf:Fl S w 1 (vl A 64 c) 64 (byteVals b)) :
  Calls Tryz.prog 122 #[.agg (u32Vals h).toArray,.slice A 64 c,.int .u64 (n.toNat:Nat),.bool last] w (fun e w'=>e=.returned (.agg (u32Vals (absorb h b n last)).toArray)∧Ext w w'):=by
 have hc:Fl (Clip S w) w 1 (vl A 64 c) 64 (byteVals b):=hf.clip
 have hcc:=(Fl.cel hc).2.1
 have hbl:=Fl.blen hf
 refine calls_enter Tryz.func122 rfl rfl rfl fun _ D=>wr fun V V=>D.xb rfl fun M D _ D z6 z7 b4 ag=>D.xz (u32Vals (List.replicate 8 0)) 144 fun O D _ D ag ag ag ai=>wn V<|wr fun V ak=>D.xw (.agg (u32Vals (List.replicate 16 0)).toArray) (fun F=>rn_build parts0 (by kernel_rfl)) fun _ D=>D.xz (u32Vals (List.replicate 16 0)) 152 fun J D _ V D D D ai=>?_
 refine V.xs rfl D (fun au ai D=>?_) (hk:=u32Vals_len (show List.length (List.replicate 16 0)=_ from List.length_replicate)) (hl:=u32Vals_len (show List.length (List.replicate 16 0)=_ from List.length_replicate)) (h1:=u32Vals_one _);have al:=D.size
 refine wn ak<|wp_seq_k fun ak am=>wr fun ak ak=>V.xv (vi 0) fun _ V=>wn ak<|wp_block<|have ak:=b4.ug D;have al:=ag.ug D;wp_loop (fun a' W=>∃ (k:Nat) (m:List UInt32),Sl 182 [(0,(.agg (u32Vals h).toArray)),(1,(vl A 64 c)),(2,(.int .u64 n.toNat)),(3,(.bool last)),(4,(vp M)),(8,(vp O)),(9,(vp J)),(10,(vi k))] a'∧k≤64∧m=wordsTo b k∧Ext w W∧Blk W M 144 (u32Vals h)∧Blk W O 144 (u32Vals (List.replicate 8 0))∧Blk W J 152 (u32Vals m)∧au.heap.size≤W.heap.size) (fun a' _=>64 - (intOf (a'.eval (.tmp 10))).toNat) ⟨0,(List.replicate 16 0),V.j,(by omega),rfl,eX,ak,al,ai,(Nat.le_refl _)⟩ ?_
 rintro D D ⟨k,m,D,V,ak,al,V,ag,ai,au⟩
 have aw:=D
 have au:=al.size
 have al:=V.lt
 have al:=ag.lt
 have al:=ai.lt
 have hm:m.length=16:=by rw [ak];exact wordsTo_len _ _
 refine wp_seq_k fun al al=>wr fun au au=>D.xm rfl<|Xv (vd ((k:Int)<(64:Int))) fun _ D=>wn au ?_
 by_cases au:(k:Int)<(64:Int)
 ·refine D.ct<|wp_skip<|al _ _<|wp_seq_k fun C U=>wp_block<|sX (fun C W=>Ext C W∧Blk W J 152 (u32Vals m)) (fun i=>i==17) 18 fun C I G=>D.ym 0 rfl<|Yw 1 (vi (k / 4:Nat)) rfl (fun F W=>rn_quoN (a:=k) (b:=4) (F.get rfl) rfl (by omega) (by omega))<|Ym 2 rfl<|Yw 3 (vi (k / 4:Nat)) rfl (fun F W=>rn_quoN (a:=k) (b:=4) (F.get rfl) rfl (by omega) (by omega))<|Yw 4 (.pointer (some ⟨J,0+(k / 4),none⟩)) rfl (fun F W=>rn_indexArr uu152 inf143 (F.get rfl) (F.get rfl) (by omega:(0:Int)≤(k / 4:Nat)) (by omega:((k / 4:Nat):Int)<((16:Nat):Int))) fun _ M=>have G:=(ai.ext I);have D:Ext C C∧Blk C J 152 (u32Vals m):=⟨(Ext.refl C),G⟩;M.ys 5 (.int .u32 ((m.getD (k / 4) 0).toNat:Nat)) rfl D (fun F W hW=>rl F rfl (blk_word hW.2 (by omega) (by have:=(show List.length m=_ from hm);omega)))<|Ym 6 rfl<|Ym 7 rfl fun _ M=>?_
  have C:=hc.ux I
  obtain ⟨O,Y,I,-⟩:=Fl.at C (by omega)
  refine M.yw 8 (vq O (Y+k)) rfl (fun F W=>rn_index1 uu22 inf5 ((F.get rfl).trans (by rw [I])) (F.get rfl) (zl _) (by omega:(k:Int)<((64:Nat):Int)))<|Ys 9 (.int .u8 ((b.getD k 0).toNat:Nat)) rfl D (fun F W hW=>rl F rfl (Fl.cellAt (C.ext hW.1) I (byteVals_at (i:=k) (by have:=hbl;omega))))<|Ys 10 (.int .u32 (((b.getD k 0).toUInt32).toNat:Nat)) rfl D (fun F W hW=>rn_convW uu5 uu143 (F.get rfl) (cv8_32 (b.getD k 0)))<|Ym 11 rfl<|Yw 12 (vi (k % 4:Nat)) rfl (fun F W=>rn_remN (a:=k) (b:=4) (F.get rfl) rfl (by omega))<|Yw 13 (vi (8*(k % 4):Nat)) rfl (fun F W=>rn_mulN (a:=8) (b:=k % 4) rfl (F.get rfl) (by omega))<|Yw 14 (.int .u32 ((((b.getD k 0).toUInt32) <<< UInt32.ofNat (8*(k % 4))).toNat:Nat)) rfl (fun F W=>rn_shl32 (a:=((b.getD k 0).toUInt32)) (n:=(8*(k % 4))) (F.get rfl) (F.get rfl) (by omega))<|Yw 15 (.int .u32 (((m.getD (k / 4) 0) ||| (((b.getD k 0).toUInt32) <<< UInt32.ofNat (8*(k % 4)))).toNat:Nat)) rfl (fun F W=>rn_or32 (a:=(m.getD (k / 4) 0)) (b:=(((b.getD k 0).toUInt32) <<< UInt32.ofNat (8*(k % 4)))) (F.get rfl) (F.get rfl))<|Yw 16 (.pointer (some ⟨J,0+(k / 4),none⟩)) rfl (fun F W=>rn_indexArr uu152 inf143 (F.get rfl) (F.get rfl) (by omega:(0:Int)≤(k / 4:Nat)) (by omega:((k / 4:Nat):Int)<((16:Nat):Int))) fun _ C=>ao 17 rfl<|o_store1 (new:=(u32Vals (m.set (k / 4) ((m.getD (k / 4) 0) ||| (((b.getD k 0).toUInt32) <<< UInt32.ofNat (8*(k % 4))))))) C rfl rfl rfl rfl (C.get rfl) (C.get rfl) G inf143 (by rw [u32Vals_len hm];omega) rfl (u32Vals_set (by omega)) fun D I D=>?_;have G:=D.size
  refine ⟨fun h=>absurd h (by decide),?_⟩
  refine nK U<|have G:=C.k [0,1,2,3,4,8,9,10,22];wp_region_lit<|G.xm rfl<|Xv (vi (k+1:Nat))<|Xa rfl fun _ G=>wpList_nil ?_
  obtain ⟨J,C⟩:∃ z,z=m.set (k / 4) ((m.getD (k / 4) 0) ||| (((b.getD k 0).toUInt32) <<< UInt32.ofNat (8*(k % 4)))):=⟨_,rfl⟩
  have M:J.length=16:=(congrArg List.length C).trans (show List.length (m.set (k / 4) ((m.getD (k / 4) 0) ||| (((b.getD k 0).toUInt32) <<< UInt32.ofNat (8*(k % 4)))))=_ from List.length_set.trans hm)
  rw [← C] at I
  have M:=V.ug D
  have O:=ag.ug D
  refine ⟨⟨(k+1),J,G.j,(by omega),(wordsTo_step ak C),eX,M,O,I,(by omega)⟩,?_⟩
  rw [G.get (t:=10) rfl,aw.get (t:=10) rfl];simp [intOf] <;> omega
 refine D.cf<|wp_exit<|exit_then<|exit_then<|exit_here<|am _ _<|wr fun al au=>D.xw (.agg (u32Vals (List.replicate 16 0)).toArray) (fun F=>rn_build parts0 (by kernel_rfl)) fun _ D=>D.xz (u32Vals (List.replicate 16 0)) 152 fun I D _ D al al al am=>?_
 refine D.xs rfl al (fun al am al=>?_) (hk:=u32Vals_len (show List.length (List.replicate 16 0)=_ from List.length_replicate)) (hl:=u32Vals_len (show List.length (List.replicate 16 0)=_ from List.length_replicate)) (h1:=u32Vals_one _);have aw:=al.size
 refine wn au<|wr fun al aw=>D.xE (c:=rinitial_any _) (k:=fun D D D _ D=>D.xz (u32Vals (List.replicate 8 0)) 144 fun U D _ al D D D au=>?_)
 refine al.xs rfl D (fun aA au D=>?_) (hk:=u32Vals_len iv_len) (hl:=u32Vals_len (show List.length (List.replicate 8 0)=_ from List.length_replicate)) (h1:=u32Vals_one _);have az:=D.size
 refine wn aw<|wp_seq_k fun aw aw=>wr fun az az=>al.xv (vi 0) fun _ al=>wn az<|wp_block<|have hmw:m=words b:=words_eq ak (by omega);have ak:=V.ug D;have V:=ag.ug D;have ag:=ai.ug D;have ai:=am.ug D;wp_loop (fun a' W=>∃ (G:Nat) (C:List UInt32),Sl 182 [(0,(.agg (u32Vals h).toArray)),(1,(vl A 64 c)),(2,(.int .u64 n.toNat)),(3,(.bool last)),(4,(vp M)),(8,(vp O)),(9,(vp J)),(10,(vi k)),(22,(vd ((k:Int)<(64:Int)))),(11,(vp I)),(12,(vp U)),(13,(vi G))] a'∧G≤8∧C=vTo h G∧Ext w W∧Blk W M 144 (u32Vals h)∧Blk W O 144 (u32Vals (List.replicate 8 0))∧Blk W J 152 (u32Vals m)∧Blk W I 152 (u32Vals C)∧Blk W U 144 (u32Vals iv)∧aA.heap.size≤W.heap.size) (fun a' _=>8 - (intOf (a'.eval (.tmp 13))).toNat) ⟨0,(List.replicate 16 0),al.j,(by omega),rfl,eX,ak,V,ag,ai,au,(Nat.le_refl _)⟩ ?_
 rintro D D ⟨G,C,D,V,ae,ag,Y,aa,ab,V,ac,ai⟩
 have ak:=D
 have ai:=ag.size
 have ag:=Y.lt
 have ag:=aa.lt
 have ag:=ab.lt
 have ag:=V.lt
 have ag:=ac.lt
 have hvl0:C.length=16:=by rw [ae];exact vTo_len hh (by omega)
 refine wp_seq_k fun ag ag=>wr fun ai ai=>D.xm rfl<|Xv (vd ((G:Int)<(8:Int))) fun _ D=>wn ai ?_
 by_cases ai:(G:Int)<(8:Int)
 ·refine D.ct<|wp_skip<|ag _ _<|wp_seq_k fun J Z=>wp_block<|wr fun J ag=>D.xm rfl<|Xm rfl<|Xw (vq M (0+G)) (fun F=>rn_indexArr uu144 inf143 (F.get rfl) (F.get rfl) (zl _) (by omega:(G:Int)<((8:Nat):Int)))<|Xw (.int .u32 ((h.getD G 0).toNat:Nat)) (fun F=>rl F rfl (blk_word Y (by omega) (by have:=(show List.length h=_ from hh);omega)))<|Xw (vq I (0+G)) (fun F=>rn_indexArr uu152 inf143 (F.get rfl) (F.get rfl) (zl _) (by omega:(G:Int)<((16:Nat):Int))) fun _ D=>wpl_op (i:=5) rfl<|o_store1 (new:=(u32Vals (C.set G (h.getD G 0)))) D rfl rfl rfl rfl (D.get rfl) (D.get rfl) V inf143 (by rw [u32Vals_len hvl0];omega) rfl (u32Vals_set (by omega)) fun J O J=>have M:=J.size;wn ag<|have M:=D.k [0,1,2,3,4,8,9,10,22,11,12,13,45];wp_region_lit<|M.xm rfl<|Xw (vi (8+G:Nat)) (fun F=>rn_addN (a:=8) (b:=G) rfl (F.get rfl) (by omega))<|Xm rfl<|Xw (vq U (0+G)) (fun F=>rn_indexArr uu144 inf143 (F.get rfl) (F.get rfl) (zl _) (by omega:(G:Int)<((8:Nat):Int))) fun _ D=>have M:=(ac.gn J);D.xw (.int .u32 ((iv.getD G 0).toNat:Nat)) (fun F=>rl F rfl (blk_word M (by omega) (by have:=(show List.length iv=_ from iv_len);omega)))<|Xw (.pointer (some ⟨I,0+(8+G),none⟩)) (fun F=>rn_indexArr uu152 inf143 (F.get rfl) (F.get rfl) (by omega:(0:Int)≤(8+G:Nat)) (by omega:((8+G:Nat):Int)<((16:Nat):Int))) fun _ I=>wpl_op (i:=6) rfl<|o_store1 (new:=(u32Vals ((C.set G (h.getD G 0)).set (8+G) (iv.getD G 0)))) I rfl rfl rfl rfl (I.get rfl) (I.get rfl) O inf143 (by rw [u32Vals_len (show List.length (C.set G (h.getD G 0))=_ from List.length_set.trans hvl0)];omega) rfl (u32Vals_set (by omega)) fun D O D=>have J:=D.size;wn Z<|have J:=I.k [0,1,2,3,4,8,9,10,22,11,12,13,45];wp_region_lit<|J.xm rfl<|Xv (vi (G+1:Nat))<|Xa rfl fun _ J=>wpList_nil ?_
  obtain ⟨U,I⟩:∃ z,z=(C.set G (h.getD G 0)).set (8+G) (iv.getD G 0):=⟨_,rfl⟩
  have V:U.length=16:=(congrArg List.length I).trans (show List.length ((C.set G (h.getD G 0)).set (8+G) (iv.getD G 0))=_ from List.length_set.trans (show List.length (C.set G (h.getD G 0))=_ from List.length_set.trans hvl0))
  rw [← I] at O
  have C:=Y.ug D
  have V:=aa.ug D
  have Y:=ab.ug D
  have Z:=M.gn D
  refine ⟨⟨(G+1),U,J.j,(by omega),(vTo_step hh (by omega) ae I),eX,C,V,Y,O,Z,(by omega)⟩,?_⟩
  rw [J.get (t:=13) rfl,ak.get (t:=13) rfl];simp [intOf] <;> omega
 refine D.cf<|wp_exit<|exit_then<|exit_then<|exit_here<|aw _ _<|wr fun ag ag=>D.xw (vq I (0+12)) (fun F=>rn_indexArr uu152 inf143 (F.get rfl) rfl (by omega:(0:Int)≤12) (by omega:(12:Int)<((16:Nat):Int)))<|Xw (.int .u32 ((C.getD 12 0).toNat:Nat)) (fun F=>rl F rfl (blk_word V (by omega) (by have:=(show List.length C=_ from hvl0);omega)))<|Xm rfl<|Xw (.int .u32 n.toUInt32.toNat) (fun F=>rn_convW uu130 uu143 (F.get rfl) (cv64_32 n))<|Xw (.int .u32 (((C.getD 12 0)^^^n.toUInt32).toNat:Nat)) (fun F=>rn_xor32 (a:=(C.getD 12 0)) (b:=n.toUInt32) (F.get rfl) (F.get rfl))<|Xw (vq I (0+12)) (fun F=>rn_indexArr uu152 inf143 (F.get rfl) rfl (by omega:(0:Int)≤12) (by omega:(12:Int)<((16:Nat):Int))) fun _ D=>wpl_op (i:=6) rfl<|o_store1 (new:=(u32Vals (C.set 12 ((C.getD 12 0)^^^n.toUInt32)))) D rfl rfl rfl rfl (D.get rfl) (D.get rfl) V inf143 (by rw [u32Vals_len hvl0];omega) rfl (u32Vals_set (by omega)) fun V V ai=>have ak:=ai.size;wn ag<|have ag:=D.k [0,1,2,3,4,8,9,10,22,11,12,13,45];wr fun D ai=>ag.xw (vq I (0+13)) (fun F=>rn_indexArr uu152 inf143 (F.get rfl) rfl (by omega:(0:Int)≤13) (by omega:(13:Int)<((16:Nat):Int)))<|Xw (.int .u32 (((C.set 12 ((C.getD 12 0)^^^n.toUInt32)).getD 13 0).toNat:Nat)) (fun F=>rl F rfl (blk_word V (by omega) (by have:=(show List.length (C.set 12 ((C.getD 12 0)^^^n.toUInt32))=_ from (show List.length (C.set 12 ((C.getD 12 0)^^^n.toUInt32))=_ from List.length_set.trans hvl0));omega)))<|Xm rfl<|Xw (.int .u64 ((n >>> UInt64.ofNat 32).toNat:Nat)) (fun F=>rn_shr64 (a:=n) (n:=32) (F.get rfl) rfl (by omega))<|Xw (.int .u32 (((n >>> UInt64.ofNat 32).toUInt32).toNat:Nat)) (fun F=>rn_convW uu130 uu143 (F.get rfl) (cv64_32 (n >>> UInt64.ofNat 32)))<|Xw (.int .u32 ((((C.set 12 ((C.getD 12 0)^^^n.toUInt32)).getD 13 0)^^^((n >>> UInt64.ofNat 32).toUInt32)).toNat:Nat)) (fun F=>rn_xor32 (a:=((C.set 12 ((C.getD 12 0)^^^n.toUInt32)).getD 13 0)) (b:=((n >>> UInt64.ofNat 32).toUInt32)) (F.get rfl) (F.get rfl))<|Xw (vq I (0+13)) (fun F=>rn_indexArr uu152 inf143 (F.get rfl) rfl (by omega:(0:Int)≤13) (by omega:(13:Int)<((16:Nat):Int))) fun _ D=>wpl_op (i:=7) rfl<|o_store1 (new:=(u32Vals ((C.set 12 ((C.getD 12 0)^^^n.toUInt32)).set 13 (((C.set 12 ((C.getD 12 0)^^^n.toUInt32)).getD 13 0)^^^((n >>> UInt64.ofNat 32).toUInt32))))) D rfl rfl rfl rfl (D.get rfl) (D.get rfl) V inf143 (by rw [u32Vals_len (show List.length (C.set 12 ((C.getD 12 0)^^^n.toUInt32))=_ from List.length_set.trans hvl0)];omega) rfl (u32Vals_set (by omega)) ?_
 intro V ah V;have ag:=V.size
 refine wn ai<|have V:=D.k [0,1,2,3,4,8,9,10,22,11,12,13,45];wp_seq_k fun D ay=>wr fun D D=>V.xm rfl fun _ Z=>wn D ?_
 rcases Bool.eq_false_or_eq_true last with aq | aq
 ·refine Z.ct<|wp_region_lit<|Z.xw (vq I (0+14)) (fun F=>rn_indexArr uu152 inf143 (F.get rfl) rfl (by omega:(0:Int)≤14) (by omega:(14:Int)<((16:Nat):Int)))<|Xw (.int .u32 ((((C.set 12 ((C.getD 12 0)^^^n.toUInt32)).set 13 (((C.set 12 ((C.getD 12 0)^^^n.toUInt32)).getD 13 0)^^^((n >>> UInt64.ofNat 32).toUInt32))).getD 14 0).toNat:Nat)) (fun F=>rl F rfl (blk_word ah (by omega) (by have:=(show List.length ((C.set 12 ((C.getD 12 0)^^^n.toUInt32)).set 13 (((C.set 12 ((C.getD 12 0)^^^n.toUInt32)).getD 13 0)^^^((n >>> UInt64.ofNat 32).toUInt32)))=_ from (show List.length ((C.set 12 ((C.getD 12 0)^^^n.toUInt32)).set 13 (((C.set 12 ((C.getD 12 0)^^^n.toUInt32)).getD 13 0)^^^((n >>> UInt64.ofNat 32).toUInt32)))=_ from List.length_set.trans (show List.length (C.set 12 ((C.getD 12 0)^^^n.toUInt32))=_ from List.length_set.trans hvl0)));omega)))<|Xw (.int .u32 (((((C.set 12 ((C.getD 12 0)^^^n.toUInt32)).set 13 (((C.set 12 ((C.getD 12 0)^^^n.toUInt32)).getD 13 0)^^^((n >>> UInt64.ofNat 32).toUInt32))).getD 14 0)^^^(4294967295:UInt32)).toNat:Nat)) (fun F=>rn_xor32 (a:=(((C.set 12 ((C.getD 12 0)^^^n.toUInt32)).set 13 (((C.set 12 ((C.getD 12 0)^^^n.toUInt32)).getD 13 0)^^^((n >>> UInt64.ofNat 32).toUInt32))).getD 14 0)) (b:=(4294967295:UInt32)) (F.get rfl) rfl)<|Xw (vq I (0+14)) (fun F=>rn_indexArr uu152 inf143 (F.get rfl) rfl (by omega:(0:Int)≤14) (by omega:(14:Int)<((16:Nat):Int))) fun _ D=>wpl_op (i:=4) rfl<|o_store1 (new:=(u32Vals (((C.set 12 ((C.getD 12 0)^^^n.toUInt32)).set 13 (((C.set 12 ((C.getD 12 0)^^^n.toUInt32)).getD 13 0)^^^((n >>> UInt64.ofNat 32).toUInt32))).set 14 ((((C.set 12 ((C.getD 12 0)^^^n.toUInt32)).set 13 (((C.set 12 ((C.getD 12 0)^^^n.toUInt32)).getD 13 0)^^^((n >>> UInt64.ofNat 32).toUInt32))).getD 14 0)^^^(4294967295:UInt32))))) D rfl rfl rfl rfl (D.get rfl) (D.get rfl) ah inf143 (by rw [u32Vals_len (show List.length ((C.set 12 ((C.getD 12 0)^^^n.toUInt32)).set 13 (((C.set 12 ((C.getD 12 0)^^^n.toUInt32)).getD 13 0)^^^((n >>> UInt64.ofNat 32).toUInt32)))=_ from List.length_set.trans (show List.length (C.set 12 ((C.getD 12 0)^^^n.toUInt32))=_ from List.length_set.trans hvl0))];omega) rfl (u32Vals_set (by omega)) fun V ai V=>have ag:=V.size;wn ay<|have V:=D.k [0,1,2,3,4,8,9,10,22,11,12,13,45,72];wr fun D aj=>V.xE (c:=rperm_any _) (k:=fun D D D _ D=>D.xz (intVals (List.replicate 160 0)) 159 fun V D _ ag D D D ak=>?_)
  refine ag.xs rfl D (fun aC am D=>?_) (hk:=intVals_len permI_len) (hl:=intVals_len (show List.length (List.replicate 160 0)=_ from List.length_replicate)) (h1:=intVals_one _);have ak:=D.size
  refine wn aj<|wp_seq_k fun aj aA=>wr fun aj aj=>ag.xv (vi 0) fun _ al=>wn aj<|wp_block ?_
  have ak:C=h++iv:=vTo_done hh (by rw [ae,show G=8 by omega])
  have aj:=ai.ug D
  obtain ⟨ag,ai⟩:∃ z,z=((C.set 12 ((C.getD 12 0)^^^n.toUInt32)).set 13 (((C.set 12 ((C.getD 12 0)^^^n.toUInt32)).getD 13 0)^^^((n >>> UInt64.ofNat 32).toUInt32))).set 14 ((((C.set 12 ((C.getD 12 0)^^^n.toUInt32)).set 13 (((C.set 12 ((C.getD 12 0)^^^n.toUInt32)).getD 13 0)^^^((n >>> UInt64.ofNat 32).toUInt32))).getD 14 0)^^^(4294967295:UInt32)):=⟨_,rfl⟩
  have aB:ag.length=16:=(congrArg List.length ai).trans (show List.length (((C.set 12 ((C.getD 12 0)^^^n.toUInt32)).set 13 (((C.set 12 ((C.getD 12 0)^^^n.toUInt32)).getD 13 0)^^^((n >>> UInt64.ofNat 32).toUInt32))).set 14 ((((C.set 12 ((C.getD 12 0)^^^n.toUInt32)).set 13 (((C.set 12 ((C.getD 12 0)^^^n.toUInt32)).getD 13 0)^^^((n >>> UInt64.ofNat 32).toUInt32))).getD 14 0)^^^(4294967295:UInt32)))=_ from List.length_set.trans (show List.length ((C.set 12 ((C.getD 12 0)^^^n.toUInt32)).set 13 (((C.set 12 ((C.getD 12 0)^^^n.toUInt32)).getD 13 0)^^^((n >>> UInt64.ofNat 32).toUInt32)))=_ from List.length_set.trans (show List.length (C.set 12 ((C.getD 12 0)^^^n.toUInt32))=_ from List.length_set.trans hvl0)))
  rw [← ai] at aj
  have aw:ag=begin_ h n last:=by rw [ai,ak,aq];rw [xor_all];exact begin_true
  have ai:=Y.ug D
  have ak:=aa.ug D
  have au:=ab.ug D
  have az:=ac.ug D
  refine wp_loop (fun a' W=>∃ (r:Nat) (v:List UInt32),Sl 182 [(0,(.agg (u32Vals h).toArray)),(1,(vl A 64 c)),(2,(.int .u64 n.toNat)),(3,(.bool last)),(4,(vp M)),(8,(vp O)),(9,(vp J)),(10,(vi k)),(22,(vd ((k:Int)<(64:Int)))),(11,(vp I)),(12,(vp U)),(13,(vi G)),(45,(vd ((G:Int)<(8:Int)))),(72,(.bool last)),(14,(vp V)),(15,(vi r))] a'∧r≤10∧v=roundTo m ag r∧Ext w W∧Blk W M 144 (u32Vals h)∧Blk W O 144 (u32Vals (List.replicate 8 0))∧Blk W J 152 (u32Vals m)∧Blk W I 152 (u32Vals v)∧Blk W U 144 (u32Vals iv)∧Blk W V 159 (intVals permI)∧aC.heap.size≤W.heap.size) (fun a' _=>10 - (intOf (a'.eval (.tmp 15))).toNat) ⟨0,ag,al.j,(by omega),rfl,eX,ai,ak,au,aj,az,am,(Nat.le_refl _)⟩ ?_
  rintro D az ⟨r,v,D,ag,au,aC,ag,ai,aj,ak,al,am,aD⟩
  have aD:=D
  have aE:=aC.size
  have aC:=ag.lt
  have aC:=ai.lt
  have aC:=aj.lt
  have aC:=ak.lt
  have aC:=al.lt
  have aC:=am.lt
  have hvl:v.length=16:=by rw [au];exact roundTo_len aB
  refine wp_seq_k fun aB aB=>wr fun aC aC=>D.xm rfl<|Xv (vd ((r:Int)<(10:Int))) fun _ D=>wn aC ?_
  by_cases aC:(r:Int)<(10:Int)
  ·refine D.ct<|wp_skip<|aB _ _<|wp_seq_k fun C Y=>wp_block<|wr fun C C=>D.xv (vi 0) fun _ D=>wn C<|wp_block<|wp_loop (fun a' W=>∃ (i2:Nat) (C:List UInt32),Sl 182 [(0,(.agg (u32Vals h).toArray)),(1,(vl A 64 c)),(2,(.int .u64 n.toNat)),(3,(.bool last)),(4,(vp M)),(8,(vp O)),(9,(vp J)),(10,(vi k)),(22,(vd ((k:Int)<(64:Int)))),(11,(vp I)),(12,(vp U)),(13,(vi G)),(45,(vd ((G:Int)<(8:Int)))),(72,(.bool last)),(14,(vp V)),(15,(vi r)),(79,(vd ((r:Int)<(10:Int)))),(16,(vi i2))] a'∧i2≤8∧C=mixTo m (permRow r) v i2∧Ext w W∧Blk W M 144 (u32Vals h)∧Blk W O 144 (u32Vals (List.replicate 8 0))∧Blk W J 152 (u32Vals m)∧Blk W I 152 (u32Vals C)∧Blk W U 144 (u32Vals iv)∧Blk W V 159 (intVals permI)∧az.heap.size≤W.heap.size) (fun a' _=>8 - (intOf (a'.eval (.tmp 16))).toNat) ⟨0,v,D.j,(by omega),rfl,eX,ag,ai,aj,ak,al,am,(Nat.le_refl _)⟩ ?_
   rintro C C ⟨i2,C,D,Z,ah,ai,Z,aa,ab,ac,ae,ag,aj⟩
   have am:=D
   have aj:=ai.size
   have ai:=Z.lt
   have ai:=aa.lt
   have ai:=ab.lt
   have ai:=ac.lt
   have ai:=ae.lt
   have ai:=ag.lt
   have hvl2:C.length=16:=by rw [ah];exact mixTo_len hvl
   refine wp_seq_k fun ai ai=>wr fun aj aj=>D.xm rfl<|Xv (vd ((i2:Int)<(8:Int))) fun _ D=>wn aj ?_
   by_cases aj:(i2:Int)<(8:Int)
   ·refine D.ct<|wp_skip<|ai _ _<|wp_seq_k fun Y al=>wp_block<|wr fun Y Y=>D.xm rfl<|Xw (vi (i2 % 4:Nat)) (fun F=>rn_remN (a:=i2) (b:=4) (F.get rfl) rfl (by omega))<|Xa rfl fun _ D=>wn Y<|wr fun Y ak=>D.xm rfl<|Xm rfl<|Xw (vi (4+(i2 % 4):Nat)) (fun F=>rn_addN (a:=4) (b:=i2 % 4) rfl (F.get rfl) (by omega))<|Xm rfl<|Xw (vi (8+(i2 % 4):Nat)) (fun F=>rn_addN (a:=8) (b:=i2 % 4) rfl (F.get rfl) (by omega))<|Xm rfl<|Xw (vi (12+(i2 % 4):Nat)) (fun F=>rn_addN (a:=12) (b:=i2 % 4) rfl (F.get rfl) (by omega))<|Xw (.agg (intVals ([((i2 % 4:Nat):Int),((4+(i2 % 4):Nat):Int),((8+(i2 % 4):Nat):Int),((12+(i2 % 4):Nat):Int)])).toArray) (fun F=>rn_build (parts4 (F.get rfl) (F.get rfl) (F.get rfl) (F.get rfl)) (by kernel_rfl)) fun _ D=>D.xz (intVals (List.replicate 4 0)) 161 fun Y D _ ai D D D aj=>?_
    refine ai.xs rfl D (fun aq aj D=>?_) (hk:=intVals_len (show List.length [((i2 % 4:Nat):Int),((4+(i2 % 4):Nat):Int),((8+(i2 % 4):Nat):Int),((12+(i2 % 4):Nat):Int)]=4 from rfl)) (hl:=intVals_len (show List.length (List.replicate 4 0)=_ from List.length_replicate)) (h1:=intVals_one _);have ar:=D.size
    refine wn ak ?_
    have ak:=ai.k [0,1,2,3,4,8,9,10,22,11,12,13,45,72,14,15,79,16,83,17,18]
    refine wp_meet (fun a' W=>∃ (pa pb pc pd:Nat),Sl 182 [(0,(.agg (u32Vals h).toArray)),(1,(vl A 64 c)),(2,(.int .u64 n.toNat)),(3,(.bool last)),(4,(vp M)),(8,(vp O)),(9,(vp J)),(10,(vi k)),(22,(vd ((k:Int)<(64:Int)))),(11,(vp I)),(12,(vp U)),(13,(vi G)),(45,(vd ((G:Int)<(8:Int)))),(72,(.bool last)),(14,(vp V)),(15,(vi r)),(79,(vd ((r:Int)<(10:Int)))),(16,(vi i2)),(83,(vd ((i2:Int)<(8:Int)))),(17,(vi (i2 % 4:Nat))),(18,(vp Y))] a'∧Ext w W∧Blk W M 144 (u32Vals h)∧Blk W O 144 (u32Vals (List.replicate 8 0))∧Blk W J 152 (u32Vals m)∧Blk W I 152 (u32Vals C)∧Blk W U 144 (u32Vals iv)∧Blk W V 159 (intVals permI)∧Blk W Y 161 (intVals [(pa:Int),(pb:Int),(pc:Int),(pd:Int)])∧((i2<4∧pa=i2 % 4∧pb=4+i2 % 4∧pc=8+i2 % 4∧pd=12+i2 % 4)∨(¬ i2<4∧pa=i2 % 4∧pb=4+(i2 % 4+1) % 4∧pc=8+(i2 % 4+2) % 4∧pd=12+(i2 % 4+3) % 4))∧aq.heap.size≤W.heap.size) ?_ ?_
    ·refine wr fun C G=>ak.xm rfl<|Xv (vd ((4:Int)≤(i2:Int))) fun _ C=>wn G ?_
     by_cases G:(4:Int)≤(i2:Int)
     ·refine C.ct<|wp_region_lit<|C.xm rfl<|Xm rfl<|Xv (vi ((i2 % 4)+1:Nat))<|Xw (vi (((i2 % 4)+1) % 4:Nat)) (fun F=>rn_remN (a:=(i2 % 4)+1) (b:=4) (F.get rfl) rfl (by omega))<|Xw (vi (4+(((i2 % 4)+1) % 4):Nat)) (fun F=>rn_addN (a:=4) (b:=((i2 % 4)+1) % 4) rfl (F.get rfl) (by omega))<|Xm rfl<|Xv (vi ((i2 % 4)+2:Nat))<|Xw (vi (((i2 % 4)+2) % 4:Nat)) (fun F=>rn_remN (a:=(i2 % 4)+2) (b:=4) (F.get rfl) rfl (by omega))<|Xw (vi (8+(((i2 % 4)+2) % 4):Nat)) (fun F=>rn_addN (a:=8) (b:=((i2 % 4)+2) % 4) rfl (F.get rfl) (by omega))<|Xm rfl<|Xv (vi ((i2 % 4)+3:Nat))<|Xw (vi (((i2 % 4)+3) % 4:Nat)) (fun F=>rn_remN (a:=(i2 % 4)+3) (b:=4) (F.get rfl) rfl (by omega))<|Xw (vi (12+(((i2 % 4)+3) % 4):Nat)) (fun F=>rn_addN (a:=12) (b:=((i2 % 4)+3) % 4) rfl (F.get rfl) (by omega))<|Xw (.agg (intVals ([((i2 % 4:Nat):Int),((4+(((i2 % 4)+1) % 4):Nat):Int),((8+(((i2 % 4)+2) % 4):Nat):Int),((12+(((i2 % 4)+3) % 4):Nat):Int)])).toArray) (fun F=>rn_build (parts4 (F.get rfl) (F.get rfl) (F.get rfl) (F.get rfl)) (by kernel_rfl)) fun _ D=>?_
      refine D.xs rfl aj (fun C G C=>?_) (hk:=intVals_len (show List.length [((i2 % 4:Nat):Int),((4+(((i2 % 4)+1) % 4):Nat):Int),((8+(((i2 % 4)+2) % 4):Nat):Int),((12+(((i2 % 4)+3) % 4):Nat):Int)]=4 from rfl)) (hl:=intVals_len (show List.length [((i2 % 4:Nat):Int),((4+(i2 % 4):Nat):Int),((8+(i2 % 4):Nat):Int),((12+(i2 % 4):Nat):Int)]=4 from rfl)) (h1:=intVals_one _);have I:=C.size
      exact wpList_nil<|have I:=Z.ug C;have J:=aa.ug C;have M:=ab.ug C;have O:=ac.ug C;have U:=ae.ug C;have V:=ag.ug C;⟨i2 % 4,4+(((i2 % 4)+1) % 4),8+(((i2 % 4)+2) % 4),12+(((i2 % 4)+3) % 4),D.j,eX,I,J,M,O,U,V,G,(by omega),(by omega)⟩
     exact C.cf<|wp_skip<|have G:=Z.ug D;have I:=aa.ug D;have J:=ab.ug D;have M:=ac.ug D;have O:=ae.ug D;have U:=ag.ug D;⟨i2 % 4,4+(i2 % 4),8+(i2 % 4),12+(i2 % 4),C.j,eX,G,I,J,M,O,U,aj,(by omega),(by omega)⟩
    ·rintro D D ⟨pa,pb,pc,pd,M,G,aa,ab,ac,O,ae,U,ag,pm475,G⟩
     have G:=aa.lt
     have G:=ab.lt
     have G:=ac.lt
     have G:=O.lt
     have G:=ae.lt
     have G:=U.lt
     have G:=ag.lt
     have G:=permRow_lt (r:=r) (by omega) (j:=2*i2) (by omega);have G:=permRow_lt (r:=r) (by omega) (j:=2*i2+1) (by omega)
     have G:∃ W,D.drew=W∧Ext D W:=⟨_,rfl,(Ext.refl _).drew⟩
     obtain ⟨D,Z,G⟩:=G
     have ai:=G.size
     refine anyg_start (fun W=>Ext D W∧Blk W Y 161 (intVals [(pa:Int),(pb:Int),(pc:Int),(pd:Int)])∧Blk W I 152 (u32Vals C)∧Blk W V 159 (intVals permI)∧Blk W J 152 (u32Vals m)) (fun i=>i==48||i==50||i==52||i==54) (fun W=>Blk W Y 161 (intVals [(pa:Int),(pb:Int),(pc:Int),(pd:Int)])∧Blk W V 159 (intVals permI)∧Blk W J 152 (u32Vals m)) 55 #[false,false,false,false,false,false,false,false,false,false,false,false,false,false,false,false,false,false,false,false,false,false,false,false,false,false,false,false,false,false,false,false,false,false,false,false,false,false,false,false,false,false,false,false,false,false,false,false,false,false,false,false,false,false,false] rfl rfl rfl ?_
     rw [Z];clear Z
     refine gp 0 (vq Y (0+0)) M rfl rfl (fun W=>(rn_indexArr uu161 inf3 (M.get rfl) rfl (by omega:(0:Int)≤0) (by omega:(0:Int)<((4:Nat):Int)))) fun _ Z=>?_
     have M:=ag.ext G
     have ag:=O.ext G
     have O:=U.ext G
     have U:=ac.ext G
     have G:Ext D D∧Blk D Y 161 (intVals [(pa:Int),(pb:Int),(pc:Int),(pd:Int)])∧Blk D I 152 (u32Vals C)∧Blk D V 159 (intVals permI)∧Blk D J 152 (u32Vals m):=⟨(Ext.refl D),M,ag,O,U⟩
     refine gs 1 (vi pa) Z rfl rfl G (fun W hW=>(rl Z rfl (blk_intVals hW.2.1 (by omega) (show 0<4 from by decide)))) fun _ Z=>?_
     refine gp 2 (vq Y (0+1)) Z rfl rfl (fun W=>(rn_indexArr uu161 inf3 (Z.get rfl) rfl (by omega:(0:Int)≤1) (by omega:(1:Int)<((4:Nat):Int)))) fun _ Z=>?_
     have ac:Blk D Y 161 (intVals [(pa:Int),(pb:Int),(pc:Int),(pd:Int)])∧Blk D V 159 (intVals permI)∧Blk D J 152 (u32Vals m):=⟨M,O,U⟩
     refine anyg_val2 (i:=3) (v:=(vi pb)) Z (by decide +kernel) (by decide +kernel) rfl rfl rfl rfl (fun _ _ _ _ h=>h) rfl ac (fun W hW=>(rl Z rfl (blk_intVals hW.1 (by omega) (show 1<4 from by decide)))) fun Z Z=>gp 4 (vq Y (0+2)) Z rfl rfl (fun W=>(rn_indexArr uu161 inf3 (Z.get rfl) rfl (by omega:(0:Int)≤2) (by omega:(2:Int)<((4:Nat):Int)))) fun _ Z=>?_
     have ac:Blk D Y 161 (intVals [(pa:Int),(pb:Int),(pc:Int),(pd:Int)])∧Blk D V 159 (intVals permI)∧Blk D J 152 (u32Vals m):=⟨M,O,U⟩
     refine anyg_val2 (i:=5) (v:=(vi pc)) Z (by decide +kernel) (by decide +kernel) rfl rfl rfl rfl (fun _ _ _ _ h=>h) rfl ac (fun W hW=>(rl Z rfl (blk_intVals hW.1 (by omega) (show 2<4 from by decide)))) fun Z Z=>gp 6 (vq Y (0+3)) Z rfl rfl (fun W=>(rn_indexArr uu161 inf3 (Z.get rfl) rfl (by omega:(0:Int)≤3) (by omega:(3:Int)<((4:Nat):Int)))) fun _ Z=>?_
     have ac:Blk D Y 161 (intVals [(pa:Int),(pb:Int),(pc:Int),(pd:Int)])∧Blk D V 159 (intVals permI)∧Blk D J 152 (u32Vals m):=⟨M,O,U⟩
     refine anyg_val2 (i:=7) (v:=(vi pd)) Z (by decide +kernel) (by decide +kernel) rfl rfl rfl rfl (fun _ _ _ _ h=>h) rfl ac (fun W hW=>(rl Z rfl (blk_intVals hW.1 (by omega) (show 3<4 from by decide)))) fun D D=>gp 8 (vq Y (0+0)) D rfl rfl (fun W=>(rn_indexArr uu161 inf3 (D.get rfl) rfl (by omega:(0:Int)≤0) (by omega:(0:Int)<((4:Nat):Int)))) fun _ D=>?_
     refine gs 9 (vi pa) D rfl rfl G (fun W hW=>(rl D rfl (blk_intVals hW.2.1 (by omega) (show 0<4 from by decide)))) fun _ D=>?_
     refine gp 10 (vq I (0+pa)) D rfl rfl (fun W=>(rn_indexArr uu152 inf143 (D.get rfl) (D.get rfl) (zl _) (by omega:(pa:Int)<((16:Nat):Int)))) fun _ D=>?_
     refine gs 11 (.int .u32 ((C.getD pa 0).toNat:Nat)) D rfl rfl G (fun W hW=>(rl D rfl (blk_word hW.2.2.1 (by omega) (by have:=(show List.length C=_ from hvl2);omega)))) fun _ D=>?_
     refine gp 12 (vq Y (0+1)) D rfl rfl (fun W=>(rn_indexArr uu161 inf3 (D.get rfl) rfl (by omega:(0:Int)≤1) (by omega:(1:Int)<((4:Nat):Int)))) fun _ D=>?_
     refine gs 13 (vi pb) D rfl rfl G (fun W hW=>(rl D rfl (blk_intVals hW.2.1 (by omega) (show 1<4 from by decide)))) fun _ D=>?_
     refine gp 14 (vq I (0+pb)) D rfl rfl (fun W=>(rn_indexArr uu152 inf143 (D.get rfl) (D.get rfl) (zl _) (by omega:(pb:Int)<((16:Nat):Int)))) fun _ D=>?_
     refine gs 15 (.int .u32 ((C.getD pb 0).toNat:Nat)) D rfl rfl G (fun W hW=>(rl D rfl (blk_word hW.2.2.1 (by omega) (by have:=(show List.length C=_ from hvl2);omega)))) fun _ D=>?_
     refine gp 16 (vq Y (0+2)) D rfl rfl (fun W=>(rn_indexArr uu161 inf3 (D.get rfl) rfl (by omega:(0:Int)≤2) (by omega:(2:Int)<((4:Nat):Int)))) fun _ D=>?_
     refine gs 17 (vi pc) D rfl rfl G (fun W hW=>(rl D rfl (blk_intVals hW.2.1 (by omega) (show 2<4 from by decide)))) fun _ D=>?_
     refine gp 18 (vq I (0+pc)) D rfl rfl (fun W=>(rn_indexArr uu152 inf143 (D.get rfl) (D.get rfl) (zl _) (by omega:(pc:Int)<((16:Nat):Int)))) fun _ D=>?_
     refine gs 19 (.int .u32 ((C.getD pc 0).toNat:Nat)) D rfl rfl G (fun W hW=>(rl D rfl (blk_word hW.2.2.1 (by omega) (by have:=(show List.length C=_ from hvl2);omega)))) fun _ D=>?_
     refine gp 20 (vq Y (0+3)) D rfl rfl (fun W=>(rn_indexArr uu161 inf3 (D.get rfl) rfl (by omega:(0:Int)≤3) (by omega:(3:Int)<((4:Nat):Int)))) fun _ D=>?_
     refine gs 21 (vi pd) D rfl rfl G (fun W hW=>(rl D rfl (blk_intVals hW.2.1 (by omega) (show 3<4 from by decide)))) fun _ D=>?_
     refine gp 22 (vq I (0+pd)) D rfl rfl (fun W=>(rn_indexArr uu152 inf143 (D.get rfl) (D.get rfl) (zl _) (by omega:(pd:Int)<((16:Nat):Int)))) fun _ D=>?_
     refine gs 23 (.int .u32 ((C.getD pd 0).toNat:Nat)) D rfl rfl G (fun W hW=>(rl D rfl (blk_word hW.2.2.1 (by omega) (by have:=(show List.length C=_ from hvl2);omega)))) fun _ D=>?_
     refine gp 24 (vi r) D rfl rfl (fun W=>(rn_move (D.get rfl))) fun _ D=>?_
     refine gp 25 (vi i2) D rfl rfl (fun W=>(rn_move (D.get rfl))) fun _ D=>?_
     refine gp 26 (vi (2*i2:Nat)) D rfl rfl (fun W=>(rn_mulN (a:=2) (b:=i2) rfl (D.get rfl) (by omega))) fun _ D=>?_
     refine gp 27 (vq V (0+r*16)) D rfl rfl (fun W=>(rn_indexArrE uu159 inf158 (D.get rfl) (D.get rfl) (zl _) (by omega:(r:Int)<((10:Nat):Int)) (by omega))) fun _ D=>?_
     refine gp 28 (.pointer (some ⟨V,0+r*16+(2*i2),none⟩)) D rfl rfl (fun W=>(rn_indexArr uu158 inf3 (D.get rfl) (D.get rfl) (by omega:(0:Int)≤(2*i2:Nat)) (by omega:((2*i2:Nat):Int)<((16:Nat):Int)))) fun _ D=>?_
     refine gs 29 (vi ((permRow r).getD (2*i2) 0:Nat)) D rfl rfl G (fun W hW=>(rl D rfl (blk_perm hW.2.2.2.1 (r:=r) (j:=(2*i2)) (by omega) (by omega) (by omega)))) fun _ D=>?_
     refine gp 30 (.pointer (some ⟨J,0+((permRow r).getD (2*i2) 0),none⟩)) D rfl rfl (fun W=>(rn_indexArr uu152 inf143 (D.get rfl) (D.get rfl) (by omega:(0:Int)≤((permRow r).getD (2*i2) 0:Nat)) (by omega:(((permRow r).getD (2*i2) 0:Nat):Int)<((16:Nat):Int)))) fun _ D=>?_
     refine gs 31 (.int .u32 ((m.getD ((permRow r).getD (2*i2) 0) 0).toNat:Nat)) D rfl rfl G (fun W hW=>(rl D rfl (blk_word hW.2.2.2.2 (by omega) (by have:=(show List.length m=_ from hm);omega)))) fun _ D=>?_
     refine gp 32 (vi r) D rfl rfl (fun W=>(rn_move (D.get rfl))) fun _ D=>?_
     refine gp 33 (vi i2) D rfl rfl (fun W=>(rn_move (D.get rfl))) fun _ D=>?_
     refine gp 34 (vi (2*i2:Nat)) D rfl rfl (fun W=>(rn_mulN (a:=2) (b:=i2) rfl (D.get rfl) (by omega))) fun _ D=>?_
     refine gp 35 (vi ((2*i2)+1:Nat)) D rfl rfl (fun W=>(rn_addN (a:=2*i2) (b:=1) (D.get rfl) rfl (by omega))) fun _ D=>?_
     refine gp 36 (vq V (0+r*16)) D rfl rfl (fun W=>(rn_indexArrE uu159 inf158 (D.get rfl) (D.get rfl) (zl _) (by omega:(r:Int)<((10:Nat):Int)) (by omega))) fun _ D=>?_
     refine gp 37 (.pointer (some ⟨V,0+r*16+((2*i2)+1),none⟩)) D rfl rfl (fun W=>(rn_indexArr uu158 inf3 (D.get rfl) (D.get rfl) (by omega:(0:Int)≤((2*i2)+1:Nat)) (by omega:(((2*i2)+1:Nat):Int)<((16:Nat):Int)))) fun _ D=>?_
     refine gs 38 (vi ((permRow r).getD ((2*i2)+1) 0:Nat)) D rfl rfl G (fun W hW=>(rl D rfl (blk_perm hW.2.2.2.1 (r:=r) (j:=((2*i2)+1)) (by omega) (by omega) (by omega)))) fun _ D=>?_
     refine gp 39 (.pointer (some ⟨J,0+((permRow r).getD ((2*i2)+1) 0),none⟩)) D rfl rfl (fun W=>(rn_indexArr uu152 inf143 (D.get rfl) (D.get rfl) (by omega:(0:Int)≤((permRow r).getD ((2*i2)+1) 0:Nat)) (by omega:(((permRow r).getD ((2*i2)+1) 0:Nat):Int)<((16:Nat):Int)))) fun _ D=>?_
     refine gs 40 (.int .u32 ((m.getD ((permRow r).getD ((2*i2)+1) 0) 0).toNat:Nat)) D rfl rfl G (fun W hW=>(rl D rfl (blk_word hW.2.2.2.2 (by omega) (by have:=(show List.length m=_ from hm);omega)))) fun _ D=>?_
     refine anyg_one (i:=41) (by decide +kernel) rfl<|o_callE D rfl rfl rfl rfl (rn_call (args6 (D.get rfl) (D.get rfl) (D.get rfl) (D.get rfl) (D.get rfl) (D.get rfl)) rfl (by kernel_rfl)) (rmix_any (C.getD pa 0) (C.getD pb 0) (C.getD pc 0) (C.getD pd 0) (m.getD ((permRow r).getD (2*i2) 0) 0) (m.getD ((permRow r).getD ((2*i2)+1) 0) 0) _) fun D D G _ G=>?_
     have J:=M.ext D
     have V:=ag.ext D
     have M:=O.ext D
     have O:=U.ext D
     refine ⟨⟨fun _ _=>⟨eX,J,V,M,O⟩,fun _=>⟨J,M,O⟩⟩,?_⟩
     refine gp 42 (.tuple #[(.int .u32 (((mix4 (C.getD pa 0) (C.getD pb 0) (C.getD pc 0) (C.getD pd 0) (m.getD ((permRow r).getD (2*i2) 0) 0) (m.getD ((permRow r).getD ((2*i2)+1) 0) 0)).a).toNat:Nat)),(.int .u32 (((mix4 (C.getD pa 0) (C.getD pb 0) (C.getD pc 0) (C.getD pd 0) (m.getD ((permRow r).getD (2*i2) 0) 0) (m.getD ((permRow r).getD ((2*i2)+1) 0) 0)).b).toNat:Nat)),(.int .u32 (((mix4 (C.getD pa 0) (C.getD pb 0) (C.getD pc 0) (C.getD pd 0) (m.getD ((permRow r).getD (2*i2) 0) 0) (m.getD ((permRow r).getD ((2*i2)+1) 0) 0)).c).toNat:Nat)),(.int .u32 (((mix4 (C.getD pa 0) (C.getD pb 0) (C.getD pc 0) (C.getD pd 0) (m.getD ((permRow r).getD (2*i2) 0) 0) (m.getD ((permRow r).getD ((2*i2)+1) 0) 0)).d).toNat:Nat))]) G rfl rfl (fun W=>(rn_move (G.get rfl))) fun _ D=>?_
     refine gp 43 (.int .u32 (((mix4 (C.getD pa 0) (C.getD pb 0) (C.getD pc 0) (C.getD pd 0) (m.getD ((permRow r).getD (2*i2) 0) 0) (m.getD ((permRow r).getD ((2*i2)+1) 0) 0)).a).toNat:Nat)) D rfl rfl (fun W=>(rn_extract (D.get rfl) rfl)) fun _ D=>?_
     refine gp 44 (.int .u32 (((mix4 (C.getD pa 0) (C.getD pb 0) (C.getD pc 0) (C.getD pd 0) (m.getD ((permRow r).getD (2*i2) 0) 0) (m.getD ((permRow r).getD ((2*i2)+1) 0) 0)).b).toNat:Nat)) D rfl rfl (fun W=>(rn_extract (D.get rfl) rfl)) fun _ D=>?_
     refine gp 45 (.int .u32 (((mix4 (C.getD pa 0) (C.getD pb 0) (C.getD pc 0) (C.getD pd 0) (m.getD ((permRow r).getD (2*i2) 0) 0) (m.getD ((permRow r).getD ((2*i2)+1) 0) 0)).c).toNat:Nat)) D rfl rfl (fun W=>(rn_extract (D.get rfl) rfl)) fun _ D=>?_
     refine gp 46 (.int .u32 (((mix4 (C.getD pa 0) (C.getD pb 0) (C.getD pc 0) (C.getD pd 0) (m.getD ((permRow r).getD (2*i2) 0) 0) (m.getD ((permRow r).getD ((2*i2)+1) 0) 0)).d).toNat:Nat)) D rfl rfl (fun W=>(rn_extract (D.get rfl) rfl)) fun _ D=>?_
     refine gp 47 (vq I (0+pa)) D rfl rfl (fun W=>(rn_indexArr uu152 inf143 (D.get rfl) (D.get rfl) (zl _) (by omega:(pa:Int)<((16:Nat):Int)))) fun _ D=>?_
     refine anyg_one (i:=48) (by decide +kernel) rfl<|o_store1 (new:=(u32Vals (C.set pa ((mix4 (C.getD pa 0) (C.getD pb 0) (C.getD pc 0) (C.getD pd 0) (m.getD ((permRow r).getD (2*i2) 0) 0) (m.getD ((permRow r).getD ((2*i2)+1) 0) 0)).a)))) D rfl rfl rfl rfl (D.get rfl) (D.get rfl) V inf143 (by rw [u32Vals_len hvl2];omega) rfl (u32Vals_set (by omega)) fun G V G=>?_;have U:=G.size
     have U:=J.gn G
     have J:=M.gn G
     have M:=O.gn G
     refine ⟨⟨fun h=>absurd h (by decide),fun _=>⟨U,J,M⟩⟩,?_⟩
     refine gp 49 (vq I (0+pb)) D rfl rfl (fun W=>(rn_indexArr uu152 inf143 (D.get rfl) (D.get rfl) (zl _) (by omega:(pb:Int)<((16:Nat):Int)))) fun _ D=>?_
     refine anyg_one (i:=50) (by decide +kernel) rfl<|o_store1 (new:=(u32Vals ((C.set pa ((mix4 (C.getD pa 0) (C.getD pb 0) (C.getD pc 0) (C.getD pd 0) (m.getD ((permRow r).getD (2*i2) 0) 0) (m.getD ((permRow r).getD ((2*i2)+1) 0) 0)).a)).set pb ((mix4 (C.getD pa 0) (C.getD pb 0) (C.getD pc 0) (C.getD pd 0) (m.getD ((permRow r).getD (2*i2) 0) 0) (m.getD ((permRow r).getD ((2*i2)+1) 0) 0)).b)))) D rfl rfl rfl rfl (D.get rfl) (D.get rfl) V inf143 (by rw [u32Vals_len (show List.length (C.set pa ((mix4 (C.getD pa 0) (C.getD pb 0) (C.getD pc 0) (C.getD pd 0) (m.getD ((permRow r).getD (2*i2) 0) 0) (m.getD ((permRow r).getD ((2*i2)+1) 0) 0)).a))=_ from List.length_set.trans hvl2)];omega) rfl (u32Vals_set (by omega)) fun G V G=>?_;have O:=G.size
     have O:=U.gn G
     have U:=J.gn G
     have J:=M.gn G
     refine ⟨⟨fun h=>absurd h (by decide),fun _=>⟨O,U,J⟩⟩,?_⟩
     refine gp 51 (vq I (0+pc)) D rfl rfl (fun W=>(rn_indexArr uu152 inf143 (D.get rfl) (D.get rfl) (zl _) (by omega:(pc:Int)<((16:Nat):Int)))) fun _ D=>?_
     refine anyg_one (i:=52) (by decide +kernel) rfl<|o_store1 (new:=(u32Vals (((C.set pa ((mix4 (C.getD pa 0) (C.getD pb 0) (C.getD pc 0) (C.getD pd 0) (m.getD ((permRow r).getD (2*i2) 0) 0) (m.getD ((permRow r).getD ((2*i2)+1) 0) 0)).a)).set pb ((mix4 (C.getD pa 0) (C.getD pb 0) (C.getD pc 0) (C.getD pd 0) (m.getD ((permRow r).getD (2*i2) 0) 0) (m.getD ((permRow r).getD ((2*i2)+1) 0) 0)).b)).set pc ((mix4 (C.getD pa 0) (C.getD pb 0) (C.getD pc 0) (C.getD pd 0) (m.getD ((permRow r).getD (2*i2) 0) 0) (m.getD ((permRow r).getD ((2*i2)+1) 0) 0)).c)))) D rfl rfl rfl rfl (D.get rfl) (D.get rfl) V inf143 (by rw [u32Vals_len (show List.length ((C.set pa ((mix4 (C.getD pa 0) (C.getD pb 0) (C.getD pc 0) (C.getD pd 0) (m.getD ((permRow r).getD (2*i2) 0) 0) (m.getD ((permRow r).getD ((2*i2)+1) 0) 0)).a)).set pb ((mix4 (C.getD pa 0) (C.getD pb 0) (C.getD pc 0) (C.getD pd 0) (m.getD ((permRow r).getD (2*i2) 0) 0) (m.getD ((permRow r).getD ((2*i2)+1) 0) 0)).b))=_ from List.length_set.trans (show List.length (C.set pa ((mix4 (C.getD pa 0) (C.getD pb 0) (C.getD pc 0) (C.getD pd 0) (m.getD ((permRow r).getD (2*i2) 0) 0) (m.getD ((permRow r).getD ((2*i2)+1) 0) 0)).a))=_ from List.length_set.trans hvl2))];omega) rfl (u32Vals_set (by omega)) fun G V G=>?_;have M:=G.size
     have M:=O.gn G
     have O:=U.gn G
     have U:=J.gn G
     refine ⟨⟨fun h=>absurd h (by decide),fun _=>⟨M,O,U⟩⟩,?_⟩
     refine gp 53 (vq I (0+pd)) D rfl rfl (fun W=>(rn_indexArr uu152 inf143 (D.get rfl) (D.get rfl) (zl _) (by omega:(pd:Int)<((16:Nat):Int)))) fun _ G=>?_
     refine anyg_one (i:=54) (by decide +kernel) rfl<|o_store1 (new:=(u32Vals ((((C.set pa ((mix4 (C.getD pa 0) (C.getD pb 0) (C.getD pc 0) (C.getD pd 0) (m.getD ((permRow r).getD (2*i2) 0) 0) (m.getD ((permRow r).getD ((2*i2)+1) 0) 0)).a)).set pb ((mix4 (C.getD pa 0) (C.getD pb 0) (C.getD pc 0) (C.getD pd 0) (m.getD ((permRow r).getD (2*i2) 0) 0) (m.getD ((permRow r).getD ((2*i2)+1) 0) 0)).b)).set pc ((mix4 (C.getD pa 0) (C.getD pb 0) (C.getD pc 0) (C.getD pd 0) (m.getD ((permRow r).getD (2*i2) 0) 0) (m.getD ((permRow r).getD ((2*i2)+1) 0) 0)).c)).set pd ((mix4 (C.getD pa 0) (C.getD pb 0) (C.getD pc 0) (C.getD pd 0) (m.getD ((permRow r).getD (2*i2) 0) 0) (m.getD ((permRow r).getD ((2*i2)+1) 0) 0)).d)))) G rfl rfl rfl rfl (G.get rfl) (G.get rfl) V inf143 (by rw [u32Vals_len (show List.length (((C.set pa ((mix4 (C.getD pa 0) (C.getD pb 0) (C.getD pc 0) (C.getD pd 0) (m.getD ((permRow r).getD (2*i2) 0) 0) (m.getD ((permRow r).getD ((2*i2)+1) 0) 0)).a)).set pb ((mix4 (C.getD pa 0) (C.getD pb 0) (C.getD pc 0) (C.getD pd 0) (m.getD ((permRow r).getD (2*i2) 0) 0) (m.getD ((permRow r).getD ((2*i2)+1) 0) 0)).b)).set pc ((mix4 (C.getD pa 0) (C.getD pb 0) (C.getD pc 0) (C.getD pd 0) (m.getD ((permRow r).getD (2*i2) 0) 0) (m.getD ((permRow r).getD ((2*i2)+1) 0) 0)).c))=_ from List.length_set.trans (show List.length ((C.set pa ((mix4 (C.getD pa 0) (C.getD pb 0) (C.getD pc 0) (C.getD pd 0) (m.getD ((permRow r).getD (2*i2) 0) 0) (m.getD ((permRow r).getD ((2*i2)+1) 0) 0)).a)).set pb ((mix4 (C.getD pa 0) (C.getD pb 0) (C.getD pc 0) (C.getD pd 0) (m.getD ((permRow r).getD (2*i2) 0) 0) (m.getD ((permRow r).getD ((2*i2)+1) 0) 0)).b))=_ from List.length_set.trans (show List.length (C.set pa ((mix4 (C.getD pa 0) (C.getD pb 0) (C.getD pc 0) (C.getD pd 0) (m.getD ((permRow r).getD (2*i2) 0) 0) (m.getD ((permRow r).getD ((2*i2)+1) 0) 0)).a))=_ from List.length_set.trans hvl2)))];omega) rfl (u32Vals_set (by omega)) fun D J D=>?_;have I:=D.size
     have I:=M.gn D
     have M:=O.gn D
     have O:=U.gn D
     refine ⟨⟨fun h=>absurd h (by decide),fun _=>⟨I,M,O⟩⟩,?_⟩
     refine anyg_nil (by decide +kernel)<|al _ _<|have I:=G.k [0,1,2,3,4,8,9,10,22,11,12,13,45,72,14,15,79,16,83,17,18];wp_region_lit<|I.xm rfl<|Xv (vi (i2+1:Nat))<|Xa rfl fun _ I=>wpList_nil ?_
     obtain ⟨U,G⟩:∃ z,z=(((C.set pa ((mix4 (C.getD pa 0) (C.getD pb 0) (C.getD pc 0) (C.getD pd 0) (m.getD ((permRow r).getD (2*i2) 0) 0) (m.getD ((permRow r).getD ((2*i2)+1) 0) 0)).a)).set pb ((mix4 (C.getD pa 0) (C.getD pb 0) (C.getD pc 0) (C.getD pd 0) (m.getD ((permRow r).getD (2*i2) 0) 0) (m.getD ((permRow r).getD ((2*i2)+1) 0) 0)).b)).set pc ((mix4 (C.getD pa 0) (C.getD pb 0) (C.getD pc 0) (C.getD pd 0) (m.getD ((permRow r).getD (2*i2) 0) 0) (m.getD ((permRow r).getD ((2*i2)+1) 0) 0)).c)).set pd ((mix4 (C.getD pa 0) (C.getD pb 0) (C.getD pc 0) (C.getD pd 0) (m.getD ((permRow r).getD (2*i2) 0) 0) (m.getD ((permRow r).getD ((2*i2)+1) 0) 0)).d):=⟨_,rfl⟩
     have V:U.length=16:=(congrArg List.length G).trans (show List.length ((((C.set pa ((mix4 (C.getD pa 0) (C.getD pb 0) (C.getD pc 0) (C.getD pd 0) (m.getD ((permRow r).getD (2*i2) 0) 0) (m.getD ((permRow r).getD ((2*i2)+1) 0) 0)).a)).set pb ((mix4 (C.getD pa 0) (C.getD pb 0) (C.getD pc 0) (C.getD pd 0) (m.getD ((permRow r).getD (2*i2) 0) 0) (m.getD ((permRow r).getD ((2*i2)+1) 0) 0)).b)).set pc ((mix4 (C.getD pa 0) (C.getD pb 0) (C.getD pc 0) (C.getD pd 0) (m.getD ((permRow r).getD (2*i2) 0) 0) (m.getD ((permRow r).getD ((2*i2)+1) 0) 0)).c)).set pd ((mix4 (C.getD pa 0) (C.getD pb 0) (C.getD pc 0) (C.getD pd 0) (m.getD ((permRow r).getD (2*i2) 0) 0) (m.getD ((permRow r).getD ((2*i2)+1) 0) 0)).d))=_ from List.length_set.trans (show List.length (((C.set pa ((mix4 (C.getD pa 0) (C.getD pb 0) (C.getD pc 0) (C.getD pd 0) (m.getD ((permRow r).getD (2*i2) 0) 0) (m.getD ((permRow r).getD ((2*i2)+1) 0) 0)).a)).set pb ((mix4 (C.getD pa 0) (C.getD pb 0) (C.getD pc 0) (C.getD pd 0) (m.getD ((permRow r).getD (2*i2) 0) 0) (m.getD ((permRow r).getD ((2*i2)+1) 0) 0)).b)).set pc ((mix4 (C.getD pa 0) (C.getD pb 0) (C.getD pc 0) (C.getD pd 0) (m.getD ((permRow r).getD (2*i2) 0) 0) (m.getD ((permRow r).getD ((2*i2)+1) 0) 0)).c))=_ from List.length_set.trans (show List.length ((C.set pa ((mix4 (C.getD pa 0) (C.getD pb 0) (C.getD pc 0) (C.getD pd 0) (m.getD ((permRow r).getD (2*i2) 0) 0) (m.getD ((permRow r).getD ((2*i2)+1) 0) 0)).a)).set pb ((mix4 (C.getD pa 0) (C.getD pb 0) (C.getD pc 0) (C.getD pd 0) (m.getD ((permRow r).getD (2*i2) 0) 0) (m.getD ((permRow r).getD ((2*i2)+1) 0) 0)).b))=_ from List.length_set.trans (show List.length (C.set pa ((mix4 (C.getD pa 0) (C.getD pb 0) (C.getD pc 0) (C.getD pd 0) (m.getD ((permRow r).getD (2*i2) 0) 0) (m.getD ((permRow r).getD ((2*i2)+1) 0) 0)).a))=_ from List.length_set.trans hvl2))))
     rw [← G] at J
     have C:=aa.ug D
     have V:=ab.ug D
     have Y:=ae.ug D
     refine ⟨⟨(i2+1),U,I.j,(by omega),(mixTo_r ah pm475 rfl G),eX,C,V,O,J,Y,M,(by omega)⟩,?_⟩
     rw [I.get (t:=16) rfl,am.get (t:=16) rfl];simp [intOf] <;> omega
   refine D.cf<|wp_exit<|exit_then<|exit_then<|exit_here<|Y _ _<|wp_region_lit<|D.xm rfl<|Xv (vi (r+1:Nat))<|Xa rfl fun _ D=>wpList_nil ?_
   refine ⟨⟨(r+1),C,D.j,(by omega),(roundTo_step (by omega) au (by rw [ah,show i2=8 by omega])),eX,Z,aa,ab,ac,ae,ag,(by omega)⟩,?_⟩
   rw [D.get (t:=15) rfl,aD.get (t:=15) rfl];simp [intOf] <;> omega
  refine D.cf<|wp_exit<|exit_then<|exit_then<|exit_here<|aA _ _<|wp_seq_k fun aA aB=>wr fun aA aC=>D.xv (vi 0) fun _ aA=>wn aC<|wp_block ?_
  have ax:v=roundTo (words b) (begin_ h n last) 10:=by rw [au,aw,hmw,show r=10 from by omega]
  refine wp_loop (fun a' W=>∃ (D:Nat) (hh2:List UInt32),Sl 182 [(0,(.agg (u32Vals h).toArray)),(1,(vl A 64 c)),(2,(.int .u64 n.toNat)),(3,(.bool last)),(4,(vp M)),(8,(vp O)),(9,(vp J)),(10,(vi k)),(22,(vd ((k:Int)<(64:Int)))),(11,(vp I)),(12,(vp U)),(13,(vi G)),(45,(vd ((G:Int)<(8:Int)))),(72,(.bool last)),(14,(vp V)),(15,(vi r)),(79,(vd ((r:Int)<(10:Int)))),(19,(vi D))] a'∧D≤8∧hh2=closeTo v h D∧Ext w W∧Blk W M 144 (u32Vals hh2)∧Blk W O 144 (u32Vals (List.replicate 8 0))∧Blk W J 152 (u32Vals m)∧Blk W I 152 (u32Vals v)∧Blk W U 144 (u32Vals iv)∧Blk W V 159 (intVals permI)∧az.heap.size≤W.heap.size) (fun a' _=>8 - (intOf (a'.eval (.tmp 19))).toNat) ⟨0,h,aA.j,(by omega),rfl,eX,ag,ai,aj,ak,al,am,(Nat.le_refl _)⟩ ?_
  rintro D D ⟨D,hh2,V,ag,av,au,ag,ai,aj,ak,al,am,aw⟩
  have az:=V
  have aw:=au.size
  have au:=ag.lt
  have au:=ai.lt
  have au:=aj.lt
  have au:=ak.lt
  have au:=al.lt
  have au:=am.lt
  have hhl:hh2.length=8:=by rw [av];exact closeTo_len hh
  refine wp_seq_k fun au au=>wr fun aw aw=>V.xm rfl<|Xv (vd ((D:Int)<(8:Int))) fun _ V=>wn aw ?_
  by_cases aw:(D:Int)<(8:Int)
  ·refine V.ct<|wp_skip<|au _ _<|wp_seq_k fun C Y=>wp_block<|sX (fun C W=>Ext C W∧Blk W M 144 (u32Vals hh2)∧Blk W I 152 (u32Vals v)) (fun i=>i==14) 15 fun C G J=>V.ym 0 rfl<|Ym 1 rfl<|Yw 2 (vq M (0+D)) rfl (fun F W=>rn_indexArr uu144 inf143 (F.get rfl) (F.get rfl) (zl _) (by omega:(D:Int)<((8:Nat):Int))) fun _ U=>have J:=(ag.ext G);have O:=(ak.ext G);have G:Ext C C∧Blk C M 144 (u32Vals hh2)∧Blk C I 152 (u32Vals v):=⟨(Ext.refl C),J,O⟩;U.ys 3 (.int .u32 ((hh2.getD D 0).toNat:Nat)) rfl G (fun F W hW=>rl F rfl (blk_word hW.2.1 (by omega) (by have:=(show List.length hh2=_ from hhl);omega)))<|Ym 4 rfl<|Yw 5 (vq I (0+D)) rfl (fun F W=>rn_indexArr uu152 inf143 (F.get rfl) (F.get rfl) (zl _) (by omega:(D:Int)<((16:Nat):Int)))<|Ys 6 (.int .u32 ((v.getD D 0).toNat:Nat)) rfl G (fun F W hW=>rl F rfl (blk_word hW.2.2 (by omega) (by have:=(show List.length v=_ from hvl);omega)))<|Yw 7 (.int .u32 (((hh2.getD D 0)^^^(v.getD D 0)).toNat:Nat)) rfl (fun F W=>rn_xor32 (a:=(hh2.getD D 0)) (b:=(v.getD D 0)) (F.get rfl) (F.get rfl))<|Ym 8 rfl<|Yw 9 (vi (8+D:Nat)) rfl (fun F W=>rn_addN (a:=8) (b:=D) rfl (F.get rfl) (by omega))<|Yw 10 (.pointer (some ⟨I,0+(8+D),none⟩)) rfl (fun F W=>rn_indexArr uu152 inf143 (F.get rfl) (F.get rfl) (by omega:(0:Int)≤(8+D:Nat)) (by omega:((8+D:Nat):Int)<((16:Nat):Int)))<|Ys 11 (.int .u32 ((v.getD (8+D) 0).toNat:Nat)) rfl G (fun F W hW=>rl F rfl (blk_word hW.2.2 (by omega) (by have:=(show List.length v=_ from hvl);omega)))<|Yw 12 (.int .u32 ((((hh2.getD D 0)^^^(v.getD D 0))^^^(v.getD (8+D) 0)).toNat:Nat)) rfl (fun F W=>rn_xor32 (a:=((hh2.getD D 0)^^^(v.getD D 0))) (b:=(v.getD (8+D) 0)) (F.get rfl) (F.get rfl))<|Yw 13 (vq M (0+D)) rfl (fun F W=>rn_indexArr uu144 inf143 (F.get rfl) (F.get rfl) (zl _) (by omega:(D:Int)<((8:Nat):Int))) fun _ G=>ao 14 rfl<|o_store1 (new:=(u32Vals (hh2.set D (((hh2.getD D 0)^^^(v.getD D 0))^^^(v.getD (8+D) 0))))) G rfl rfl rfl rfl (G.get rfl) (G.get rfl) J inf143 (by rw [u32Vals_len hhl];omega) rfl (u32Vals_set (by omega)) fun C J C=>?_;have I:=C.size
   refine ⟨fun h=>absurd h (by decide),?_⟩
   refine nK Y<|have I:=G.k [0,1,2,3,4,8,9,10,22,11,12,13,45,72,14,15,79,19,164];wp_region_lit<|I.xm rfl<|Xv (vi (D+1:Nat))<|Xa rfl fun _ I=>wpList_nil ?_
   obtain ⟨M,G⟩:∃ z,z=hh2.set D (((hh2.getD D 0)^^^(v.getD D 0))^^^(v.getD (8+D) 0)):=⟨_,rfl⟩
   have U:M.length=8:=(congrArg List.length G).trans (show List.length (hh2.set D (((hh2.getD D 0)^^^(v.getD D 0))^^^(v.getD (8+D) 0)))=_ from List.length_set.trans hhl)
   rw [← G] at J
   have U:=ai.ug C
   have V:=aj.ug C
   have Y:=O.gn C
   have O:=al.ug C
   have Z:=am.ug C
   refine ⟨⟨(D+1),M,I.j,(by omega),(closeTo_r av G),eX,J,U,V,Y,O,Z,(by omega)⟩,?_⟩
   rw [I.get (t:=19) rfl,az.get (t:=19) rfl];simp [intOf] <;> omega
  refine V.cf<|wp_exit<|exit_then<|exit_then<|exit_here<|aB _ _<|wr fun aj aj=>V.xw (.agg (u32Vals hh2).toArray) (fun F=>rb F rfl ag (hk:=u32Vals_len hhl)) fun _ V=>?_
  refine V.xs rfl ai (fun ag ag ai=>?_) (hk:=u32Vals_len hhl) (hl:=u32Vals_len (show List.length (List.replicate 8 0)=_ from List.length_replicate)) (h1:=u32Vals_one _);have ak:=ai.size
  refine wn aj<|wp_ret<|retC V rfl rfl ag uu144 rfl (sk inf144 (u32Vals_len hhl)) ?_
  have ar:D=8:=by omega
  subst ar
  exact ⟨by rw [absorb_eq ax av],eX⟩
 refine Z.cf<|wp_skip<|ay _ _<|wr fun D ag=>Z.xE (c:=rperm_any _) (k:=fun D D D _ D=>D.xz (intVals (List.replicate 160 0)) 159 fun V D _ Z D D D ai=>?_)
 refine Z.xs rfl D (fun av al D=>?_) (hk:=intVals_len permI_len) (hl:=intVals_len (show List.length (List.replicate 160 0)=_ from List.length_replicate)) (h1:=intVals_one _);have ai:=D.size
 refine wn ag<|wp_seq_k fun ag am=>wr fun ag ag=>Z.xv (vi 0) fun _ ai=>wn ag<|wp_block ?_
 have ak:C=h++iv:=vTo_done hh (by rw [ae,show G=8 by omega])
 have ag:=ah.ug D
 obtain ⟨Z,ae⟩:∃ z,z=(C.set 12 ((C.getD 12 0)^^^n.toUInt32)).set 13 (((C.set 12 ((C.getD 12 0)^^^n.toUInt32)).getD 13 0)^^^((n >>> UInt64.ofNat 32).toUInt32)):=⟨_,rfl⟩
 have au:Z.length=16:=(congrArg List.length ae).trans (show List.length ((C.set 12 ((C.getD 12 0)^^^n.toUInt32)).set 13 (((C.set 12 ((C.getD 12 0)^^^n.toUInt32)).getD 13 0)^^^((n >>> UInt64.ofNat 32).toUInt32)))=_ from List.length_set.trans (show List.length (C.set 12 ((C.getD 12 0)^^^n.toUInt32))=_ from List.length_set.trans hvl0))
 rw [← ae] at ag
 have aw:Z=begin_ h n last:=by rw [ae,ak,aq];exact begin_false
 have C:=Y.ug D
 have Y:=aa.ug D
 have aa:=ab.ug D
 have ab:=ac.ug D
 refine wp_loop (fun a' W=>∃ (r:Nat) (v:List UInt32),Sl 182 [(0,(.agg (u32Vals h).toArray)),(1,(vl A 64 c)),(2,(.int .u64 n.toNat)),(3,(.bool last)),(4,(vp M)),(8,(vp O)),(9,(vp J)),(10,(vi k)),(22,(vd ((k:Int)<(64:Int)))),(11,(vp I)),(12,(vp U)),(13,(vi G)),(45,(vd ((G:Int)<(8:Int)))),(72,(.bool last)),(14,(vp V)),(15,(vi r))] a'∧r≤10∧v=roundTo m Z r∧Ext w W∧Blk W M 144 (u32Vals h)∧Blk W O 144 (u32Vals (List.replicate 8 0))∧Blk W J 152 (u32Vals m)∧Blk W I 152 (u32Vals v)∧Blk W U 144 (u32Vals iv)∧Blk W V 159 (intVals permI)∧av.heap.size≤W.heap.size) (fun a' _=>10 - (intOf (a'.eval (.tmp 15))).toNat) ⟨0,Z,ai.j,(by omega),rfl,eX,C,Y,aa,ag,ab,al,(Nat.le_refl _)⟩ ?_
 rintro C ag ⟨r,v,C,D,ah,D,Y,Z,aa,ab,ac,ae,ai⟩
 have al:=C
 have ai:=D.size
 have D:=Y.lt
 have D:=Z.lt
 have D:=aa.lt
 have D:=ab.lt
 have D:=ac.lt
 have D:=ae.lt
 have hvl:v.length=16:=by rw [ah];exact roundTo_len au
 refine wp_seq_k fun D D=>wr fun ai ai=>C.xm rfl<|Xv (vd ((r:Int)<(10:Int))) fun _ C=>wn ai ?_
 by_cases ai:(r:Int)<(10:Int)
 ·refine C.ct<|wp_skip<|D _ _<|wp_seq_k fun D aj=>wp_block<|wr fun D ai=>C.xv (vi 0) fun _ D=>wn ai<|wp_block<|wp_loop (fun a' W=>∃ (i2:Nat) (C:List UInt32),Sl 182 [(0,(.agg (u32Vals h).toArray)),(1,(vl A 64 c)),(2,(.int .u64 n.toNat)),(3,(.bool last)),(4,(vp M)),(8,(vp O)),(9,(vp J)),(10,(vi k)),(22,(vd ((k:Int)<(64:Int)))),(11,(vp I)),(12,(vp U)),(13,(vi G)),(45,(vd ((G:Int)<(8:Int)))),(72,(.bool last)),(14,(vp V)),(15,(vi r)),(79,(vd ((r:Int)<(10:Int)))),(16,(vi i2))] a'∧i2≤8∧C=mixTo m (permRow r) v i2∧Ext w W∧Blk W M 144 (u32Vals h)∧Blk W O 144 (u32Vals (List.replicate 8 0))∧Blk W J 152 (u32Vals m)∧Blk W I 152 (u32Vals C)∧Blk W U 144 (u32Vals iv)∧Blk W V 159 (intVals permI)∧ag.heap.size≤W.heap.size) (fun a' _=>8 - (intOf (a'.eval (.tmp 16))).toNat) ⟨0,v,D.j,(by omega),rfl,eX,Y,Z,aa,ab,ac,ae,(Nat.le_refl _)⟩ ?_
  rintro C C ⟨i2,C,D,Y,ai,Y,Z,aa,ab,ac,ae,ag,ak⟩
  have am:=D
  have ak:=Y.size
  have Y:=Z.lt
  have Y:=aa.lt
  have Y:=ab.lt
  have Y:=ac.lt
  have Y:=ae.lt
  have Y:=ag.lt
  have hvl2:C.length=16:=by rw [ai];exact mixTo_len hvl
  refine wp_seq_k fun Y Y=>wr fun ak ak=>D.xm rfl<|Xv (vd ((i2:Int)<(8:Int))) fun _ D=>wn ak ?_
  by_cases ak:(i2:Int)<(8:Int)
  ·refine D.ct<|wp_skip<|Y _ _<|wp_seq_k fun Y al=>wp_block<|wr fun Y Y=>D.xm rfl<|Xw (vi (i2 % 4:Nat)) (fun F=>rn_remN (a:=i2) (b:=4) (F.get rfl) rfl (by omega))<|Xa rfl fun _ D=>wn Y<|wr fun Y ak=>D.xm rfl<|Xm rfl<|Xw (vi (4+(i2 % 4):Nat)) (fun F=>rn_addN (a:=4) (b:=i2 % 4) rfl (F.get rfl) (by omega))<|Xm rfl<|Xw (vi (8+(i2 % 4):Nat)) (fun F=>rn_addN (a:=8) (b:=i2 % 4) rfl (F.get rfl) (by omega))<|Xm rfl<|Xw (vi (12+(i2 % 4):Nat)) (fun F=>rn_addN (a:=12) (b:=i2 % 4) rfl (F.get rfl) (by omega))<|Xw (.agg (intVals ([((i2 % 4:Nat):Int),((4+(i2 % 4):Nat):Int),((8+(i2 % 4):Nat):Int),((12+(i2 % 4):Nat):Int)])).toArray) (fun F=>rn_build (parts4 (F.get rfl) (F.get rfl) (F.get rfl) (F.get rfl)) (by kernel_rfl)) fun _ D=>D.xz (intVals (List.replicate 4 0)) 161 fun Y D _ ah D D D aj=>?_
   refine ah.xs rfl D (fun aq aj D=>?_) (hk:=intVals_len (show List.length [((i2 % 4:Nat):Int),((4+(i2 % 4):Nat):Int),((8+(i2 % 4):Nat):Int),((12+(i2 % 4):Nat):Int)]=4 from rfl)) (hl:=intVals_len (show List.length (List.replicate 4 0)=_ from List.length_replicate)) (h1:=intVals_one _);have ar:=D.size
   refine wn ak ?_
   have ak:=ah.k [0,1,2,3,4,8,9,10,22,11,12,13,45,72,14,15,79,16,83,17,18]
   refine wp_meet (fun a' W=>∃ (pa pb pc pd:Nat),Sl 182 [(0,(.agg (u32Vals h).toArray)),(1,(vl A 64 c)),(2,(.int .u64 n.toNat)),(3,(.bool last)),(4,(vp M)),(8,(vp O)),(9,(vp J)),(10,(vi k)),(22,(vd ((k:Int)<(64:Int)))),(11,(vp I)),(12,(vp U)),(13,(vi G)),(45,(vd ((G:Int)<(8:Int)))),(72,(.bool last)),(14,(vp V)),(15,(vi r)),(79,(vd ((r:Int)<(10:Int)))),(16,(vi i2)),(83,(vd ((i2:Int)<(8:Int)))),(17,(vi (i2 % 4:Nat))),(18,(vp Y))] a'∧Ext w W∧Blk W M 144 (u32Vals h)∧Blk W O 144 (u32Vals (List.replicate 8 0))∧Blk W J 152 (u32Vals m)∧Blk W I 152 (u32Vals C)∧Blk W U 144 (u32Vals iv)∧Blk W V 159 (intVals permI)∧Blk W Y 161 (intVals [(pa:Int),(pb:Int),(pc:Int),(pd:Int)])∧((i2<4∧pa=i2 % 4∧pb=4+i2 % 4∧pc=8+i2 % 4∧pd=12+i2 % 4)∨(¬ i2<4∧pa=i2 % 4∧pb=4+(i2 % 4+1) % 4∧pc=8+(i2 % 4+2) % 4∧pd=12+(i2 % 4+3) % 4))∧aq.heap.size≤W.heap.size) ?_ ?_
   ·refine wr fun C G=>ak.xm rfl<|Xv (vd ((4:Int)≤(i2:Int))) fun _ C=>wn G ?_
    by_cases G:(4:Int)≤(i2:Int)
    ·refine C.ct<|wp_region_lit<|C.xm rfl<|Xm rfl<|Xv (vi ((i2 % 4)+1:Nat))<|Xw (vi (((i2 % 4)+1) % 4:Nat)) (fun F=>rn_remN (a:=(i2 % 4)+1) (b:=4) (F.get rfl) rfl (by omega))<|Xw (vi (4+(((i2 % 4)+1) % 4):Nat)) (fun F=>rn_addN (a:=4) (b:=((i2 % 4)+1) % 4) rfl (F.get rfl) (by omega))<|Xm rfl<|Xv (vi ((i2 % 4)+2:Nat))<|Xw (vi (((i2 % 4)+2) % 4:Nat)) (fun F=>rn_remN (a:=(i2 % 4)+2) (b:=4) (F.get rfl) rfl (by omega))<|Xw (vi (8+(((i2 % 4)+2) % 4):Nat)) (fun F=>rn_addN (a:=8) (b:=((i2 % 4)+2) % 4) rfl (F.get rfl) (by omega))<|Xm rfl<|Xv (vi ((i2 % 4)+3:Nat))<|Xw (vi (((i2 % 4)+3) % 4:Nat)) (fun F=>rn_remN (a:=(i2 % 4)+3) (b:=4) (F.get rfl) rfl (by omega))<|Xw (vi (12+(((i2 % 4)+3) % 4):Nat)) (fun F=>rn_addN (a:=12) (b:=((i2 % 4)+3) % 4) rfl (F.get rfl) (by omega))<|Xw (.agg (intVals ([((i2 % 4:Nat):Int),((4+(((i2 % 4)+1) % 4):Nat):Int),((8+(((i2 % 4)+2) % 4):Nat):Int),((12+(((i2 % 4)+3) % 4):Nat):Int)])).toArray) (fun F=>rn_build (parts4 (F.get rfl) (F.get rfl) (F.get rfl) (F.get rfl)) (by kernel_rfl)) fun _ D=>?_
     refine D.xs rfl aj (fun C G C=>?_) (hk:=intVals_len (show List.length [((i2 % 4:Nat):Int),((4+(((i2 % 4)+1) % 4):Nat):Int),((8+(((i2 % 4)+2) % 4):Nat):Int),((12+(((i2 % 4)+3) % 4):Nat):Int)]=4 from rfl)) (hl:=intVals_len (show List.length [((i2 % 4:Nat):Int),((4+(i2 % 4):Nat):Int),((8+(i2 % 4):Nat):Int),((12+(i2 % 4):Nat):Int)]=4 from rfl)) (h1:=intVals_one _);have I:=C.size
     exact wpList_nil<|have I:=Z.ug C;have J:=aa.ug C;have M:=ab.ug C;have O:=ac.ug C;have U:=ae.ug C;have V:=ag.ug C;⟨i2 % 4,4+(((i2 % 4)+1) % 4),8+(((i2 % 4)+2) % 4),12+(((i2 % 4)+3) % 4),D.j,eX,I,J,M,O,U,V,G,(by omega),(by omega)⟩
    exact C.cf<|wp_skip<|have G:=Z.ug D;have I:=aa.ug D;have J:=ab.ug D;have M:=ac.ug D;have O:=ae.ug D;have U:=ag.ug D;⟨i2 % 4,4+(i2 % 4),8+(i2 % 4),12+(i2 % 4),C.j,eX,G,I,J,M,O,U,aj,(by omega),(by omega)⟩
   ·rintro D D ⟨pa,pb,pc,pd,M,G,aa,ab,ac,O,ae,U,ag,pm937,G⟩
    have G:=aa.lt
    have G:=ab.lt
    have G:=ac.lt
    have G:=O.lt
    have G:=ae.lt
    have G:=U.lt
    have G:=ag.lt
    have G:=permRow_lt (r:=r) (by omega) (j:=2*i2) (by omega);have G:=permRow_lt (r:=r) (by omega) (j:=2*i2+1) (by omega)
    have G:∃ W,D.drew=W∧Ext D W:=⟨_,rfl,(Ext.refl _).drew⟩
    obtain ⟨D,Z,G⟩:=G
    have ah:=G.size
    refine anyg_start (fun W=>Ext D W∧Blk W Y 161 (intVals [(pa:Int),(pb:Int),(pc:Int),(pd:Int)])∧Blk W I 152 (u32Vals C)∧Blk W V 159 (intVals permI)∧Blk W J 152 (u32Vals m)) (fun i=>i==48||i==50||i==52||i==54) (fun W=>Blk W Y 161 (intVals [(pa:Int),(pb:Int),(pc:Int),(pd:Int)])∧Blk W V 159 (intVals permI)∧Blk W J 152 (u32Vals m)) 55 #[false,false,false,false,false,false,false,false,false,false,false,false,false,false,false,false,false,false,false,false,false,false,false,false,false,false,false,false,false,false,false,false,false,false,false,false,false,false,false,false,false,false,false,false,false,false,false,false,false,false,false,false,false,false,false] rfl rfl rfl ?_
    rw [Z];clear Z
    refine gp 0 (vq Y (0+0)) M rfl rfl (fun W=>(rn_indexArr uu161 inf3 (M.get rfl) rfl (by omega:(0:Int)≤0) (by omega:(0:Int)<((4:Nat):Int)))) fun _ Z=>?_
    have M:=ag.ext G
    have ag:=O.ext G
    have O:=U.ext G
    have U:=ac.ext G
    have G:Ext D D∧Blk D Y 161 (intVals [(pa:Int),(pb:Int),(pc:Int),(pd:Int)])∧Blk D I 152 (u32Vals C)∧Blk D V 159 (intVals permI)∧Blk D J 152 (u32Vals m):=⟨(Ext.refl D),M,ag,O,U⟩
    refine gs 1 (vi pa) Z rfl rfl G (fun W hW=>(rl Z rfl (blk_intVals hW.2.1 (by omega) (show 0<4 from by decide)))) fun _ Z=>?_
    refine gp 2 (vq Y (0+1)) Z rfl rfl (fun W=>(rn_indexArr uu161 inf3 (Z.get rfl) rfl (by omega:(0:Int)≤1) (by omega:(1:Int)<((4:Nat):Int)))) fun _ Z=>?_
    have ac:Blk D Y 161 (intVals [(pa:Int),(pb:Int),(pc:Int),(pd:Int)])∧Blk D V 159 (intVals permI)∧Blk D J 152 (u32Vals m):=⟨M,O,U⟩
    refine anyg_val2 (i:=3) (v:=(vi pb)) Z (by decide +kernel) (by decide +kernel) rfl rfl rfl rfl (fun _ _ _ _ h=>h) rfl ac (fun W hW=>(rl Z rfl (blk_intVals hW.1 (by omega) (show 1<4 from by decide)))) fun Z Z=>gp 4 (vq Y (0+2)) Z rfl rfl (fun W=>(rn_indexArr uu161 inf3 (Z.get rfl) rfl (by omega:(0:Int)≤2) (by omega:(2:Int)<((4:Nat):Int)))) fun _ Z=>?_
    have ac:Blk D Y 161 (intVals [(pa:Int),(pb:Int),(pc:Int),(pd:Int)])∧Blk D V 159 (intVals permI)∧Blk D J 152 (u32Vals m):=⟨M,O,U⟩
    refine anyg_val2 (i:=5) (v:=(vi pc)) Z (by decide +kernel) (by decide +kernel) rfl rfl rfl rfl (fun _ _ _ _ h=>h) rfl ac (fun W hW=>(rl Z rfl (blk_intVals hW.1 (by omega) (show 2<4 from by decide)))) fun Z Z=>gp 6 (vq Y (0+3)) Z rfl rfl (fun W=>(rn_indexArr uu161 inf3 (Z.get rfl) rfl (by omega:(0:Int)≤3) (by omega:(3:Int)<((4:Nat):Int)))) fun _ Z=>?_
    have ac:Blk D Y 161 (intVals [(pa:Int),(pb:Int),(pc:Int),(pd:Int)])∧Blk D V 159 (intVals permI)∧Blk D J 152 (u32Vals m):=⟨M,O,U⟩
    refine anyg_val2 (i:=7) (v:=(vi pd)) Z (by decide +kernel) (by decide +kernel) rfl rfl rfl rfl (fun _ _ _ _ h=>h) rfl ac (fun W hW=>(rl Z rfl (blk_intVals hW.1 (by omega) (show 3<4 from by decide)))) fun D D=>gp 8 (vq Y (0+0)) D rfl rfl (fun W=>(rn_indexArr uu161 inf3 (D.get rfl) rfl (by omega:(0:Int)≤0) (by omega:(0:Int)<((4:Nat):Int)))) fun _ D=>?_
    refine gs 9 (vi pa) D rfl rfl G (fun W hW=>(rl D rfl (blk_intVals hW.2.1 (by omega) (show 0<4 from by decide)))) fun _ D=>?_
    refine gp 10 (vq I (0+pa)) D rfl rfl (fun W=>(rn_indexArr uu152 inf143 (D.get rfl) (D.get rfl) (zl _) (by omega:(pa:Int)<((16:Nat):Int)))) fun _ D=>?_
    refine gs 11 (.int .u32 ((C.getD pa 0).toNat:Nat)) D rfl rfl G (fun W hW=>(rl D rfl (blk_word hW.2.2.1 (by omega) (by have:=(show List.length C=_ from hvl2);omega)))) fun _ D=>?_
    refine gp 12 (vq Y (0+1)) D rfl rfl (fun W=>(rn_indexArr uu161 inf3 (D.get rfl) rfl (by omega:(0:Int)≤1) (by omega:(1:Int)<((4:Nat):Int)))) fun _ D=>?_
    refine gs 13 (vi pb) D rfl rfl G (fun W hW=>(rl D rfl (blk_intVals hW.2.1 (by omega) (show 1<4 from by decide)))) fun _ D=>?_
    refine gp 14 (vq I (0+pb)) D rfl rfl (fun W=>(rn_indexArr uu152 inf143 (D.get rfl) (D.get rfl) (zl _) (by omega:(pb:Int)<((16:Nat):Int)))) fun _ D=>?_
    refine gs 15 (.int .u32 ((C.getD pb 0).toNat:Nat)) D rfl rfl G (fun W hW=>(rl D rfl (blk_word hW.2.2.1 (by omega) (by have:=(show List.length C=_ from hvl2);omega)))) fun _ D=>?_
    refine gp 16 (vq Y (0+2)) D rfl rfl (fun W=>(rn_indexArr uu161 inf3 (D.get rfl) rfl (by omega:(0:Int)≤2) (by omega:(2:Int)<((4:Nat):Int)))) fun _ D=>?_
    refine gs 17 (vi pc) D rfl rfl G (fun W hW=>(rl D rfl (blk_intVals hW.2.1 (by omega) (show 2<4 from by decide)))) fun _ D=>?_
    refine gp 18 (vq I (0+pc)) D rfl rfl (fun W=>(rn_indexArr uu152 inf143 (D.get rfl) (D.get rfl) (zl _) (by omega:(pc:Int)<((16:Nat):Int)))) fun _ D=>?_
    refine gs 19 (.int .u32 ((C.getD pc 0).toNat:Nat)) D rfl rfl G (fun W hW=>(rl D rfl (blk_word hW.2.2.1 (by omega) (by have:=(show List.length C=_ from hvl2);omega)))) fun _ D=>?_
    refine gp 20 (vq Y (0+3)) D rfl rfl (fun W=>(rn_indexArr uu161 inf3 (D.get rfl) rfl (by omega:(0:Int)≤3) (by omega:(3:Int)<((4:Nat):Int)))) fun _ D=>?_
    refine gs 21 (vi pd) D rfl rfl G (fun W hW=>(rl D rfl (blk_intVals hW.2.1 (by omega) (show 3<4 from by decide)))) fun _ D=>?_
    refine gp 22 (vq I (0+pd)) D rfl rfl (fun W=>(rn_indexArr uu152 inf143 (D.get rfl) (D.get rfl) (zl _) (by omega:(pd:Int)<((16:Nat):Int)))) fun _ D=>?_
    refine gs 23 (.int .u32 ((C.getD pd 0).toNat:Nat)) D rfl rfl G (fun W hW=>(rl D rfl (blk_word hW.2.2.1 (by omega) (by have:=(show List.length C=_ from hvl2);omega)))) fun _ D=>?_
    refine gp 24 (vi r) D rfl rfl (fun W=>(rn_move (D.get rfl))) fun _ D=>?_
    refine gp 25 (vi i2) D rfl rfl (fun W=>(rn_move (D.get rfl))) fun _ D=>?_
    refine gp 26 (vi (2*i2:Nat)) D rfl rfl (fun W=>(rn_mulN (a:=2) (b:=i2) rfl (D.get rfl) (by omega))) fun _ D=>?_
    refine gp 27 (vq V (0+r*16)) D rfl rfl (fun W=>(rn_indexArrE uu159 inf158 (D.get rfl) (D.get rfl) (zl _) (by omega:(r:Int)<((10:Nat):Int)) (by omega))) fun _ D=>?_
    refine gp 28 (.pointer (some ⟨V,0+r*16+(2*i2),none⟩)) D rfl rfl (fun W=>(rn_indexArr uu158 inf3 (D.get rfl) (D.get rfl) (by omega:(0:Int)≤(2*i2:Nat)) (by omega:((2*i2:Nat):Int)<((16:Nat):Int)))) fun _ D=>?_
    refine gs 29 (vi ((permRow r).getD (2*i2) 0:Nat)) D rfl rfl G (fun W hW=>(rl D rfl (blk_perm hW.2.2.2.1 (r:=r) (j:=(2*i2)) (by omega) (by omega) (by omega)))) fun _ D=>?_
    refine gp 30 (.pointer (some ⟨J,0+((permRow r).getD (2*i2) 0),none⟩)) D rfl rfl (fun W=>(rn_indexArr uu152 inf143 (D.get rfl) (D.get rfl) (by omega:(0:Int)≤((permRow r).getD (2*i2) 0:Nat)) (by omega:(((permRow r).getD (2*i2) 0:Nat):Int)<((16:Nat):Int)))) fun _ D=>?_
    refine gs 31 (.int .u32 ((m.getD ((permRow r).getD (2*i2) 0) 0).toNat:Nat)) D rfl rfl G (fun W hW=>(rl D rfl (blk_word hW.2.2.2.2 (by omega) (by have:=(show List.length m=_ from hm);omega)))) fun _ D=>?_
    refine gp 32 (vi r) D rfl rfl (fun W=>(rn_move (D.get rfl))) fun _ D=>?_
    refine gp 33 (vi i2) D rfl rfl (fun W=>(rn_move (D.get rfl))) fun _ D=>?_
    refine gp 34 (vi (2*i2:Nat)) D rfl rfl (fun W=>(rn_mulN (a:=2) (b:=i2) rfl (D.get rfl) (by omega))) fun _ D=>?_
    refine gp 35 (vi ((2*i2)+1:Nat)) D rfl rfl (fun W=>(rn_addN (a:=2*i2) (b:=1) (D.get rfl) rfl (by omega))) fun _ D=>?_
    refine gp 36 (vq V (0+r*16)) D rfl rfl (fun W=>(rn_indexArrE uu159 inf158 (D.get rfl) (D.get rfl) (zl _) (by omega:(r:Int)<((10:Nat):Int)) (by omega))) fun _ D=>?_
    refine gp 37 (.pointer (some ⟨V,0+r*16+((2*i2)+1),none⟩)) D rfl rfl (fun W=>(rn_indexArr uu158 inf3 (D.get rfl) (D.get rfl) (by omega:(0:Int)≤((2*i2)+1:Nat)) (by omega:(((2*i2)+1:Nat):Int)<((16:Nat):Int)))) fun _ D=>?_
    refine gs 38 (vi ((permRow r).getD ((2*i2)+1) 0:Nat)) D rfl rfl G (fun W hW=>(rl D rfl (blk_perm hW.2.2.2.1 (r:=r) (j:=((2*i2)+1)) (by omega) (by omega) (by omega)))) fun _ D=>?_
    refine gp 39 (.pointer (some ⟨J,0+((permRow r).getD ((2*i2)+1) 0),none⟩)) D rfl rfl (fun W=>(rn_indexArr uu152 inf143 (D.get rfl) (D.get rfl) (by omega:(0:Int)≤((permRow r).getD ((2*i2)+1) 0:Nat)) (by omega:(((permRow r).getD ((2*i2)+1) 0:Nat):Int)<((16:Nat):Int)))) fun _ D=>?_
    refine gs 40 (.int .u32 ((m.getD ((permRow r).getD ((2*i2)+1) 0) 0).toNat:Nat)) D rfl rfl G (fun W hW=>(rl D rfl (blk_word hW.2.2.2.2 (by omega) (by have:=(show List.length m=_ from hm);omega)))) fun _ D=>?_
    refine anyg_one (i:=41) (by decide +kernel) rfl<|o_callE D rfl rfl rfl rfl (rn_call (args6 (D.get rfl) (D.get rfl) (D.get rfl) (D.get rfl) (D.get rfl) (D.get rfl)) rfl (by kernel_rfl)) (rmix_any (C.getD pa 0) (C.getD pb 0) (C.getD pc 0) (C.getD pd 0) (m.getD ((permRow r).getD (2*i2) 0) 0) (m.getD ((permRow r).getD ((2*i2)+1) 0) 0) _) fun D D G _ G=>?_
    have J:=M.ext D
    have V:=ag.ext D
    have M:=O.ext D
    have O:=U.ext D
    refine ⟨⟨fun _ _=>⟨eX,J,V,M,O⟩,fun _=>⟨J,M,O⟩⟩,?_⟩
    refine gp 42 (.tuple #[(.int .u32 (((mix4 (C.getD pa 0) (C.getD pb 0) (C.getD pc 0) (C.getD pd 0) (m.getD ((permRow r).getD (2*i2) 0) 0) (m.getD ((permRow r).getD ((2*i2)+1) 0) 0)).a).toNat:Nat)),(.int .u32 (((mix4 (C.getD pa 0) (C.getD pb 0) (C.getD pc 0) (C.getD pd 0) (m.getD ((permRow r).getD (2*i2) 0) 0) (m.getD ((permRow r).getD ((2*i2)+1) 0) 0)).b).toNat:Nat)),(.int .u32 (((mix4 (C.getD pa 0) (C.getD pb 0) (C.getD pc 0) (C.getD pd 0) (m.getD ((permRow r).getD (2*i2) 0) 0) (m.getD ((permRow r).getD ((2*i2)+1) 0) 0)).c).toNat:Nat)),(.int .u32 (((mix4 (C.getD pa 0) (C.getD pb 0) (C.getD pc 0) (C.getD pd 0) (m.getD ((permRow r).getD (2*i2) 0) 0) (m.getD ((permRow r).getD ((2*i2)+1) 0) 0)).d).toNat:Nat))]) G rfl rfl (fun W=>(rn_move (G.get rfl))) fun _ D=>?_
    refine gp 43 (.int .u32 (((mix4 (C.getD pa 0) (C.getD pb 0) (C.getD pc 0) (C.getD pd 0) (m.getD ((permRow r).getD (2*i2) 0) 0) (m.getD ((permRow r).getD ((2*i2)+1) 0) 0)).a).toNat:Nat)) D rfl rfl (fun W=>(rn_extract (D.get rfl) rfl)) fun _ D=>?_
    refine gp 44 (.int .u32 (((mix4 (C.getD pa 0) (C.getD pb 0) (C.getD pc 0) (C.getD pd 0) (m.getD ((permRow r).getD (2*i2) 0) 0) (m.getD ((permRow r).getD ((2*i2)+1) 0) 0)).b).toNat:Nat)) D rfl rfl (fun W=>(rn_extract (D.get rfl) rfl)) fun _ D=>?_
    refine gp 45 (.int .u32 (((mix4 (C.getD pa 0) (C.getD pb 0) (C.getD pc 0) (C.getD pd 0) (m.getD ((permRow r).getD (2*i2) 0) 0) (m.getD ((permRow r).getD ((2*i2)+1) 0) 0)).c).toNat:Nat)) D rfl rfl (fun W=>(rn_extract (D.get rfl) rfl)) fun _ D=>?_
    refine gp 46 (.int .u32 (((mix4 (C.getD pa 0) (C.getD pb 0) (C.getD pc 0) (C.getD pd 0) (m.getD ((permRow r).getD (2*i2) 0) 0) (m.getD ((permRow r).getD ((2*i2)+1) 0) 0)).d).toNat:Nat)) D rfl rfl (fun W=>(rn_extract (D.get rfl) rfl)) fun _ D=>?_
    refine gp 47 (vq I (0+pa)) D rfl rfl (fun W=>(rn_indexArr uu152 inf143 (D.get rfl) (D.get rfl) (zl _) (by omega:(pa:Int)<((16:Nat):Int)))) fun _ D=>?_
    refine anyg_one (i:=48) (by decide +kernel) rfl<|o_store1 (new:=(u32Vals (C.set pa ((mix4 (C.getD pa 0) (C.getD pb 0) (C.getD pc 0) (C.getD pd 0) (m.getD ((permRow r).getD (2*i2) 0) 0) (m.getD ((permRow r).getD ((2*i2)+1) 0) 0)).a)))) D rfl rfl rfl rfl (D.get rfl) (D.get rfl) V inf143 (by rw [u32Vals_len hvl2];omega) rfl (u32Vals_set (by omega)) fun G V G=>?_;have U:=G.size
    have U:=J.gn G
    have J:=M.gn G
    have M:=O.gn G
    refine ⟨⟨fun h=>absurd h (by decide),fun _=>⟨U,J,M⟩⟩,?_⟩
    refine gp 49 (vq I (0+pb)) D rfl rfl (fun W=>(rn_indexArr uu152 inf143 (D.get rfl) (D.get rfl) (zl _) (by omega:(pb:Int)<((16:Nat):Int)))) fun _ D=>?_
    refine anyg_one (i:=50) (by decide +kernel) rfl<|o_store1 (new:=(u32Vals ((C.set pa ((mix4 (C.getD pa 0) (C.getD pb 0) (C.getD pc 0) (C.getD pd 0) (m.getD ((permRow r).getD (2*i2) 0) 0) (m.getD ((permRow r).getD ((2*i2)+1) 0) 0)).a)).set pb ((mix4 (C.getD pa 0) (C.getD pb 0) (C.getD pc 0) (C.getD pd 0) (m.getD ((permRow r).getD (2*i2) 0) 0) (m.getD ((permRow r).getD ((2*i2)+1) 0) 0)).b)))) D rfl rfl rfl rfl (D.get rfl) (D.get rfl) V inf143 (by rw [u32Vals_len (show List.length (C.set pa ((mix4 (C.getD pa 0) (C.getD pb 0) (C.getD pc 0) (C.getD pd 0) (m.getD ((permRow r).getD (2*i2) 0) 0) (m.getD ((permRow r).getD ((2*i2)+1) 0) 0)).a))=_ from List.length_set.trans hvl2)];omega) rfl (u32Vals_set (by omega)) fun G V G=>?_;have O:=G.size
    have O:=U.gn G
    have U:=J.gn G
    have J:=M.gn G
    refine ⟨⟨fun h=>absurd h (by decide),fun _=>⟨O,U,J⟩⟩,?_⟩
    refine gp 51 (vq I (0+pc)) D rfl rfl (fun W=>(rn_indexArr uu152 inf143 (D.get rfl) (D.get rfl) (zl _) (by omega:(pc:Int)<((16:Nat):Int)))) fun _ D=>?_
    refine anyg_one (i:=52) (by decide +kernel) rfl<|o_store1 (new:=(u32Vals (((C.set pa ((mix4 (C.getD pa 0) (C.getD pb 0) (C.getD pc 0) (C.getD pd 0) (m.getD ((permRow r).getD (2*i2) 0) 0) (m.getD ((permRow r).getD ((2*i2)+1) 0) 0)).a)).set pb ((mix4 (C.getD pa 0) (C.getD pb 0) (C.getD pc 0) (C.getD pd 0) (m.getD ((permRow r).getD (2*i2) 0) 0) (m.getD ((permRow r).getD ((2*i2)+1) 0) 0)).b)).set pc ((mix4 (C.getD pa 0) (C.getD pb 0) (C.getD pc 0) (C.getD pd 0) (m.getD ((permRow r).getD (2*i2) 0) 0) (m.getD ((permRow r).getD ((2*i2)+1) 0) 0)).c)))) D rfl rfl rfl rfl (D.get rfl) (D.get rfl) V inf143 (by rw [u32Vals_len (show List.length ((C.set pa ((mix4 (C.getD pa 0) (C.getD pb 0) (C.getD pc 0) (C.getD pd 0) (m.getD ((permRow r).getD (2*i2) 0) 0) (m.getD ((permRow r).getD ((2*i2)+1) 0) 0)).a)).set pb ((mix4 (C.getD pa 0) (C.getD pb 0) (C.getD pc 0) (C.getD pd 0) (m.getD ((permRow r).getD (2*i2) 0) 0) (m.getD ((permRow r).getD ((2*i2)+1) 0) 0)).b))=_ from List.length_set.trans (show List.length (C.set pa ((mix4 (C.getD pa 0) (C.getD pb 0) (C.getD pc 0) (C.getD pd 0) (m.getD ((permRow r).getD (2*i2) 0) 0) (m.getD ((permRow r).getD ((2*i2)+1) 0) 0)).a))=_ from List.length_set.trans hvl2))];omega) rfl (u32Vals_set (by omega)) fun G V G=>?_;have M:=G.size
    have M:=O.gn G
    have O:=U.gn G
    have U:=J.gn G
    refine ⟨⟨fun h=>absurd h (by decide),fun _=>⟨M,O,U⟩⟩,?_⟩
    refine gp 53 (vq I (0+pd)) D rfl rfl (fun W=>(rn_indexArr uu152 inf143 (D.get rfl) (D.get rfl) (zl _) (by omega:(pd:Int)<((16:Nat):Int)))) fun _ G=>?_
    refine anyg_one (i:=54) (by decide +kernel) rfl<|o_store1 (new:=(u32Vals ((((C.set pa ((mix4 (C.getD pa 0) (C.getD pb 0) (C.getD pc 0) (C.getD pd 0) (m.getD ((permRow r).getD (2*i2) 0) 0) (m.getD ((permRow r).getD ((2*i2)+1) 0) 0)).a)).set pb ((mix4 (C.getD pa 0) (C.getD pb 0) (C.getD pc 0) (C.getD pd 0) (m.getD ((permRow r).getD (2*i2) 0) 0) (m.getD ((permRow r).getD ((2*i2)+1) 0) 0)).b)).set pc ((mix4 (C.getD pa 0) (C.getD pb 0) (C.getD pc 0) (C.getD pd 0) (m.getD ((permRow r).getD (2*i2) 0) 0) (m.getD ((permRow r).getD ((2*i2)+1) 0) 0)).c)).set pd ((mix4 (C.getD pa 0) (C.getD pb 0) (C.getD pc 0) (C.getD pd 0) (m.getD ((permRow r).getD (2*i2) 0) 0) (m.getD ((permRow r).getD ((2*i2)+1) 0) 0)).d)))) G rfl rfl rfl rfl (G.get rfl) (G.get rfl) V inf143 (by rw [u32Vals_len (show List.length (((C.set pa ((mix4 (C.getD pa 0) (C.getD pb 0) (C.getD pc 0) (C.getD pd 0) (m.getD ((permRow r).getD (2*i2) 0) 0) (m.getD ((permRow r).getD ((2*i2)+1) 0) 0)).a)).set pb ((mix4 (C.getD pa 0) (C.getD pb 0) (C.getD pc 0) (C.getD pd 0) (m.getD ((permRow r).getD (2*i2) 0) 0) (m.getD ((permRow r).getD ((2*i2)+1) 0) 0)).b)).set pc ((mix4 (C.getD pa 0) (C.getD pb 0) (C.getD pc 0) (C.getD pd 0) (m.getD ((permRow r).getD (2*i2) 0) 0) (m.getD ((permRow r).getD ((2*i2)+1) 0) 0)).c))=_ from List.length_set.trans (show List.length ((C.set pa ((mix4 (C.getD pa 0) (C.getD pb 0) (C.getD pc 0) (C.getD pd 0) (m.getD ((permRow r).getD (2*i2) 0) 0) (m.getD ((permRow r).getD ((2*i2)+1) 0) 0)).a)).set pb ((mix4 (C.getD pa 0) (C.getD pb 0) (C.getD pc 0) (C.getD pd 0) (m.getD ((permRow r).getD (2*i2) 0) 0) (m.getD ((permRow r).getD ((2*i2)+1) 0) 0)).b))=_ from List.length_set.trans (show List.length (C.set pa ((mix4 (C.getD pa 0) (C.getD pb 0) (C.getD pc 0) (C.getD pd 0) (m.getD ((permRow r).getD (2*i2) 0) 0) (m.getD ((permRow r).getD ((2*i2)+1) 0) 0)).a))=_ from List.length_set.trans hvl2)))];omega) rfl (u32Vals_set (by omega)) fun D J D=>?_;have I:=D.size
    have I:=M.gn D
    have M:=O.gn D
    have O:=U.gn D
    refine ⟨⟨fun h=>absurd h (by decide),fun _=>⟨I,M,O⟩⟩,?_⟩
    refine anyg_nil (by decide +kernel)<|al _ _<|have I:=G.k [0,1,2,3,4,8,9,10,22,11,12,13,45,72,14,15,79,16,83,17,18];wp_region_lit<|I.xm rfl<|Xv (vi (i2+1:Nat))<|Xa rfl fun _ I=>wpList_nil ?_
    obtain ⟨U,G⟩:∃ z,z=(((C.set pa ((mix4 (C.getD pa 0) (C.getD pb 0) (C.getD pc 0) (C.getD pd 0) (m.getD ((permRow r).getD (2*i2) 0) 0) (m.getD ((permRow r).getD ((2*i2)+1) 0) 0)).a)).set pb ((mix4 (C.getD pa 0) (C.getD pb 0) (C.getD pc 0) (C.getD pd 0) (m.getD ((permRow r).getD (2*i2) 0) 0) (m.getD ((permRow r).getD ((2*i2)+1) 0) 0)).b)).set pc ((mix4 (C.getD pa 0) (C.getD pb 0) (C.getD pc 0) (C.getD pd 0) (m.getD ((permRow r).getD (2*i2) 0) 0) (m.getD ((permRow r).getD ((2*i2)+1) 0) 0)).c)).set pd ((mix4 (C.getD pa 0) (C.getD pb 0) (C.getD pc 0) (C.getD pd 0) (m.getD ((permRow r).getD (2*i2) 0) 0) (m.getD ((permRow r).getD ((2*i2)+1) 0) 0)).d):=⟨_,rfl⟩
    have V:U.length=16:=(congrArg List.length G).trans (show List.length ((((C.set pa ((mix4 (C.getD pa 0) (C.getD pb 0) (C.getD pc 0) (C.getD pd 0) (m.getD ((permRow r).getD (2*i2) 0) 0) (m.getD ((permRow r).getD ((2*i2)+1) 0) 0)).a)).set pb ((mix4 (C.getD pa 0) (C.getD pb 0) (C.getD pc 0) (C.getD pd 0) (m.getD ((permRow r).getD (2*i2) 0) 0) (m.getD ((permRow r).getD ((2*i2)+1) 0) 0)).b)).set pc ((mix4 (C.getD pa 0) (C.getD pb 0) (C.getD pc 0) (C.getD pd 0) (m.getD ((permRow r).getD (2*i2) 0) 0) (m.getD ((permRow r).getD ((2*i2)+1) 0) 0)).c)).set pd ((mix4 (C.getD pa 0) (C.getD pb 0) (C.getD pc 0) (C.getD pd 0) (m.getD ((permRow r).getD (2*i2) 0) 0) (m.getD ((permRow r).getD ((2*i2)+1) 0) 0)).d))=_ from List.length_set.trans (show List.length (((C.set pa ((mix4 (C.getD pa 0) (C.getD pb 0) (C.getD pc 0) (C.getD pd 0) (m.getD ((permRow r).getD (2*i2) 0) 0) (m.getD ((permRow r).getD ((2*i2)+1) 0) 0)).a)).set pb ((mix4 (C.getD pa 0) (C.getD pb 0) (C.getD pc 0) (C.getD pd 0) (m.getD ((permRow r).getD (2*i2) 0) 0) (m.getD ((permRow r).getD ((2*i2)+1) 0) 0)).b)).set pc ((mix4 (C.getD pa 0) (C.getD pb 0) (C.getD pc 0) (C.getD pd 0) (m.getD ((permRow r).getD (2*i2) 0) 0) (m.getD ((permRow r).getD ((2*i2)+1) 0) 0)).c))=_ from List.length_set.trans (show List.length ((C.set pa ((mix4 (C.getD pa 0) (C.getD pb 0) (C.getD pc 0) (C.getD pd 0) (m.getD ((permRow r).getD (2*i2) 0) 0) (m.getD ((permRow r).getD ((2*i2)+1) 0) 0)).a)).set pb ((mix4 (C.getD pa 0) (C.getD pb 0) (C.getD pc 0) (C.getD pd 0) (m.getD ((permRow r).getD (2*i2) 0) 0) (m.getD ((permRow r).getD ((2*i2)+1) 0) 0)).b))=_ from List.length_set.trans (show List.length (C.set pa ((mix4 (C.getD pa 0) (C.getD pb 0) (C.getD pc 0) (C.getD pd 0) (m.getD ((permRow r).getD (2*i2) 0) 0) (m.getD ((permRow r).getD ((2*i2)+1) 0) 0)).a))=_ from List.length_set.trans hvl2))))
    rw [← G] at J
    have C:=aa.ug D
    have V:=ab.ug D
    have Y:=ae.ug D
    refine ⟨⟨(i2+1),U,I.j,(by omega),(mixTo_r ai pm937 rfl G),eX,C,V,O,J,Y,M,(by omega)⟩,?_⟩
    rw [I.get (t:=16) rfl,am.get (t:=16) rfl];simp [intOf] <;> omega
  refine D.cf<|wp_exit<|exit_then<|exit_then<|exit_here<|aj _ _<|wp_region_lit<|D.xm rfl<|Xv (vi (r+1:Nat))<|Xa rfl fun _ D=>wpList_nil ?_
  refine ⟨⟨(r+1),C,D.j,(by omega),(roundTo_step (by omega) ah (by rw [ai,show i2=8 by omega])),eX,Z,aa,ab,ac,ae,ag,(by omega)⟩,?_⟩
  rw [D.get (t:=15) rfl,al.get (t:=15) rfl];simp [intOf] <;> omega
 refine C.cf<|wp_exit<|exit_then<|exit_then<|exit_here<|am _ _<|wp_seq_k fun D ai=>wr fun D D=>C.xv (vi 0) fun _ C=>wn D<|wp_block ?_
 have ax:v=roundTo (words b) (begin_ h n last) 10:=by rw [ah,aw,hmw,show r=10 from by omega]
 refine wp_loop (fun a' W=>∃ (D:Nat) (hh2:List UInt32),Sl 182 [(0,(.agg (u32Vals h).toArray)),(1,(vl A 64 c)),(2,(.int .u64 n.toNat)),(3,(.bool last)),(4,(vp M)),(8,(vp O)),(9,(vp J)),(10,(vi k)),(22,(vd ((k:Int)<(64:Int)))),(11,(vp I)),(12,(vp U)),(13,(vi G)),(45,(vd ((G:Int)<(8:Int)))),(72,(.bool last)),(14,(vp V)),(15,(vi r)),(79,(vd ((r:Int)<(10:Int)))),(19,(vi D))] a'∧D≤8∧hh2=closeTo v h D∧Ext w W∧Blk W M 144 (u32Vals hh2)∧Blk W O 144 (u32Vals (List.replicate 8 0))∧Blk W J 152 (u32Vals m)∧Blk W I 152 (u32Vals v)∧Blk W U 144 (u32Vals iv)∧Blk W V 159 (intVals permI)∧ag.heap.size≤W.heap.size) (fun a' _=>8 - (intOf (a'.eval (.tmp 19))).toNat) ⟨0,h,C.j,(by omega),rfl,eX,Y,Z,aa,ab,ac,ae,(Nat.le_refl _)⟩ ?_
 rintro C C ⟨D,hh2,C,G,aj,G,J,O,U,V,Y,Z,aa⟩
 have ag:=C
 have aa:=G.size
 have G:=J.lt
 have G:=O.lt
 have G:=U.lt
 have G:=V.lt
 have G:=Y.lt
 have G:=Z.lt
 have hhl:hh2.length=8:=by rw [aj];exact closeTo_len hh
 refine wp_seq_k fun G aa=>wr fun G ab=>C.xm rfl<|Xv (vd ((D:Int)<(8:Int))) fun _ G=>wn ab ?_
 by_cases C:(D:Int)<(8:Int)
 ·refine G.ct<|wp_skip<|aa _ _<|wp_seq_k fun C ae=>wp_block<|sX (fun C W=>Ext C W∧Blk W M 144 (u32Vals hh2)∧Blk W I 152 (u32Vals v)) (fun i=>i==14) 15 fun C ab aa=>G.ym 0 rfl<|Ym 1 rfl<|Yw 2 (vq M (0+D)) rfl (fun F W=>rn_indexArr uu144 inf143 (F.get rfl) (F.get rfl) (zl _) (by omega:(D:Int)<((8:Nat):Int))) fun _ ac=>have aa:=(J.ext ab);have J:=(V.ext ab);have G:Ext C C∧Blk C M 144 (u32Vals hh2)∧Blk C I 152 (u32Vals v):=⟨(Ext.refl C),aa,J⟩;ac.ys 3 (.int .u32 ((hh2.getD D 0).toNat:Nat)) rfl G (fun F W hW=>rl F rfl (blk_word hW.2.1 (by omega) (by have:=(show List.length hh2=_ from hhl);omega)))<|Ym 4 rfl<|Yw 5 (vq I (0+D)) rfl (fun F W=>rn_indexArr uu152 inf143 (F.get rfl) (F.get rfl) (zl _) (by omega:(D:Int)<((16:Nat):Int)))<|Ys 6 (.int .u32 ((v.getD D 0).toNat:Nat)) rfl G (fun F W hW=>rl F rfl (blk_word hW.2.2 (by omega) (by have:=(show List.length v=_ from hvl);omega)))<|Yw 7 (.int .u32 (((hh2.getD D 0)^^^(v.getD D 0)).toNat:Nat)) rfl (fun F W=>rn_xor32 (a:=(hh2.getD D 0)) (b:=(v.getD D 0)) (F.get rfl) (F.get rfl))<|Ym 8 rfl<|Yw 9 (vi (8+D:Nat)) rfl (fun F W=>rn_addN (a:=8) (b:=D) rfl (F.get rfl) (by omega))<|Yw 10 (.pointer (some ⟨I,0+(8+D),none⟩)) rfl (fun F W=>rn_indexArr uu152 inf143 (F.get rfl) (F.get rfl) (by omega:(0:Int)≤(8+D:Nat)) (by omega:((8+D:Nat):Int)<((16:Nat):Int)))<|Ys 11 (.int .u32 ((v.getD (8+D) 0).toNat:Nat)) rfl G (fun F W hW=>rl F rfl (blk_word hW.2.2 (by omega) (by have:=(show List.length v=_ from hvl);omega)))<|Yw 12 (.int .u32 ((((hh2.getD D 0)^^^(v.getD D 0))^^^(v.getD (8+D) 0)).toNat:Nat)) rfl (fun F W=>rn_xor32 (a:=((hh2.getD D 0)^^^(v.getD D 0))) (b:=(v.getD (8+D) 0)) (F.get rfl) (F.get rfl))<|Yw 13 (vq M (0+D)) rfl (fun F W=>rn_indexArr uu144 inf143 (F.get rfl) (F.get rfl) (zl _) (by omega:(D:Int)<((8:Nat):Int))) fun _ G=>ao 14 rfl<|o_store1 (new:=(u32Vals (hh2.set D (((hh2.getD D 0)^^^(v.getD D 0))^^^(v.getD (8+D) 0))))) G rfl rfl rfl rfl (G.get rfl) (G.get rfl) aa inf143 (by rw [u32Vals_len hhl];omega) rfl (u32Vals_set (by omega)) fun C M C=>?_;have I:=C.size
  refine ⟨fun h=>absurd h (by decide),?_⟩
  refine nK ae<|have I:=G.k [0,1,2,3,4,8,9,10,22,11,12,13,45,72,14,15,79,19,164];wp_region_lit<|I.xm rfl<|Xv (vi (D+1:Nat))<|Xa rfl fun _ I=>wpList_nil ?_
  obtain ⟨V,G⟩:∃ z,z=hh2.set D (((hh2.getD D 0)^^^(v.getD D 0))^^^(v.getD (8+D) 0)):=⟨_,rfl⟩
  have aa:V.length=8:=(congrArg List.length G).trans (show List.length (hh2.set D (((hh2.getD D 0)^^^(v.getD D 0))^^^(v.getD (8+D) 0)))=_ from List.length_set.trans hhl)
  rw [← G] at M
  have aa:=O.ug C
  have O:=U.ug C
  have U:=J.gn C
  have J:=Y.ug C
  have Y:=Z.ug C
  refine ⟨⟨(D+1),V,I.j,(by omega),(closeTo_r aj G),eX,M,aa,O,U,J,Y,(by omega)⟩,?_⟩
  rw [I.get (t:=19) rfl,ag.get (t:=19) rfl];simp [intOf] <;> omega
 refine G.cf<|wp_exit<|exit_then<|exit_then<|exit_here<|ai _ _<|wr fun C I=>G.xw (.agg (u32Vals hh2).toArray) (fun F=>rb F rfl J (hk:=u32Vals_len hhl)) fun _ C=>?_
 refine C.xs rfl O (fun G G J=>?_) (hk:=u32Vals_len hhl) (hl:=u32Vals_len (show List.length (List.replicate 8 0)=_ from List.length_replicate)) (h1:=u32Vals_one _);have M:=J.size
 refine wn I<|wp_ret<|retC C rfl rfl G uu144 rfl (sk inf144 (u32Vals_len hhl)) ?_
 have ar:D=8:=by omega
 subst ar
 exact ⟨by rw [absorb_eq ax aj],eX⟩
theorem rblock_at (h:List UInt32) (b:List UInt8) (n:UInt64) (last:Bool) {v:Value} (w:World) (hh:h.length=8) (hf:Fl S w 1 v 64 (byteVals b)):Calls Tryz.prog 122 #[.agg (u32Vals h).toArray,v,.int .u64 (n.toNat:Nat),.bool last] w (fun e w'=>e=.returned (.agg (u32Vals (absorb h b n last)).toArray)∧Ext w w'):=by
 obtain ⟨A,c,rfl,_⟩:=hf.form
 exact rblock_any h A c b n last w hh hf
theorem set_or0 (m:List UInt32) (k:Nat):m.set k (m.getD k 0 ||| 0)=m:=by
 rw [UInt32.or_zero]
 apply List.ext_getElem (by simp)
 intro i h1 h2
 rw [List.getElem_set]
 split
 ·rename_i h;subst h;rw [List.getD_eq_getElem?_getD,List.getElem?_eq_getElem h2,Option.getD_some]
 ·rfl
theorem wordsTo_pad (b:List UInt8) (z:Nat):∀ k,wordsTo (b++List.replicate z 0) k=wordsTo b k
 | 0=>rfl
 | k+1=>by
  rw [show wordsTo (b++List.replicate z 0) (k+1)=word (b++List.replicate z 0) (wordsTo (b++List.replicate z 0) k) k from foldl_range _ _ _,show wordsTo b (k+1)=word b (wordsTo b k) k from foldl_range _ _ _,wordsTo_pad b z k]
  unfold word
  congr 3
  rw [List.getD_eq_getElem?_getD,List.getD_eq_getElem?_getD,List.getElem?_append]
  split
  ·rfl
  ·rename_i h
   rw [List.getElem?_eq_none (by omega:b.length≤k),List.getElem?_replicate]
   split <;> rfl
theorem wordsTo_more (b:List UInt8) (n:Nat) (h:b.length≤n):∀ j,wordsTo b (n+j)=wordsTo b n
 | 0=>rfl
 | j+1=>by
  rw [← Nat.add_assoc,show wordsTo b (n+j+1)=word b (wordsTo b (n+j)) (n+j) from foldl_range _ _ _,wordsTo_more b n h j]
  unfold word
  rw [List.getD_eq_getElem?_getD,List.getElem?_eq_none (by omega:b.length≤n+j),Option.getD_none]
  have:(UInt8.toUInt32 0 <<< UInt32.ofNat (8*((n+j) % 4)))=0:=by
   rw [show UInt8.toUInt32 0=0 from rfl];exact UInt32.zero_shiftLeft
  rw [this]
  exact set_or0 _ _
theorem words_pad (b:List UInt8) (z:Nat):words (b++List.replicate z 0)=words b:=by
 show wordsTo (b++List.replicate z 0) (b++List.replicate z 0).length=wordsTo b b.length
 rw [wordsTo_pad,List.length_append,wordsTo_more b _ (Nat.le_refl _)]
theorem absorb_pad (h:List UInt32) (b:List UInt8) (z:Nat) (n:UInt64) (last:Bool):absorb h (b++List.replicate z 0) n last=absorb h b n last:=by
 unfold absorb;rw [words_pad]
theorem sum_step {f:List UInt8} (hf:f=b++List.replicate z 0) (hn:n+64<f.length) (hT:f.length≤64∨f.length≤(b.length+63) / 64*64) (h64:f.length % 64=0) (hn64:n % 64=0) (e:feed h n (b.drop n)=feed h0 0 b) :
  feed (absorb h ((f.drop n).take 64) (UInt64.ofNat (n+64)) false) (n+64) (b.drop (n+64))=feed h0 0 b:=by
 have hb:n+64<b.length:=by omega
 have h1:(f.drop n).take 64=(b.drop n).take 64:=by
  rw [hf,List.drop_append_of_le_length (by omega),List.take_append_of_le_length (by rw [List.length_drop];omega)]
 rw [h1,← e,show feed h n (b.drop n)=feed (absorb h ((b.drop n).take 64) (UInt64.ofNat (n+64)) false) (n+64) ((b.drop n).drop 64) from by rw [feed,if_neg (by rw [List.length_drop];omega)],List.drop_drop]
theorem sum_last {f:List UInt8} (hf:f=b++List.replicate z 0) (hn:n+64=f.length) (hT:f.length≤64∨f.length≤(b.length+63) / 64*64) (hn64:n % 64=0) (e:feed h n (b.drop n)=feed h0 0 b) :
  absorb h ((f.drop n).take 64) (UInt64.ofNat b.length) true=feed h0 0 b:=by
 have hl:f.length=b.length+z:=by rw [hf];simp
 have hb:n≤b.length:=by omega
 have h1:(f.drop n).take 64=b.drop n++List.replicate z 0:=by
  rw [hf,List.drop_append_of_le_length hb,List.take_of_length_le (by simp;omega)]
 rw [h1,absorb_pad,← e,feed,if_pos (by rw [List.length_drop];omega),List.length_drop,show n+(b.length - n)=b.length by omega]
def SumInv (b f:List UInt8) (n:Nat) (h:List UInt32):Prop:=(n<f.length∧feed h n (b.drop n)=feed first 0 b)∨(n=f.length∧h=feed first 0 b)
theorem SumInv.start {f:List UInt8} (h0:0<f.length):SumInv b f 0 first:=.inl ⟨h0,rfl⟩
theorem SumInv.next {f:List UInt8} {N:UInt64} {L:Bool} (hf:f=b++List.replicate z 0) (hn:n<f.length) (hT:f.length≤64∨f.length≤(b.length+63) / 64*64) (h64:f.length % 64=0) (hn64:n % 64=0) (e:SumInv b f n h)
  (hL:L=decide (n+64=f.length)) (hN:N=if n+64=f.length then UInt64.ofNat b.length else UInt64.ofNat (n+64)):SumInv b f (n+64) (absorb h ((f.drop n).take 64) N L):=by
 rcases e with ⟨_,e⟩ | ⟨h1,_⟩
 ·subst hL hN
  by_cases hl:n+64=f.length
  ·rw [if_pos hl,decide_eq_true hl]
   exact .inr ⟨hl,sum_last hf hl hT hn64 e⟩
  ·rw [if_neg hl,decide_eq_false hl]
   exact .inl ⟨by omega,sum_step hf (by omega) hT h64 hn64 e⟩
 ·omega
theorem SumInv.done {f:List UInt8} (e:SumInv b f n h) (hn:f.length≤n):h=feed first 0 b:=by
 rcases e with ⟨h1,_⟩ | ⟨_,h1⟩
 ·omega
 ·exact h1
theorem rsum_any (A:Option Addr) (c:Nat) (b:List UInt8) (w:World) (hf:Fl S w 1 (vl A b.length c) b.length (byteVals b)) (hb:b.length≤70368744177664) :
  Calls Tryz.prog 104 #[.slice A b.length c] w (fun e w'=>e=.returned (.agg (byteVals (bsum b)).toArray)∧Ext w w'):=by
 have hc:Fl (Clip S w) w 1 (vl A b.length c) b.length (byteVals b):=hf.clip
 have hcc:=(Fl.cel hc).2.1
 refine calls_enter Tryz.func104 rfl rfl rfl fun _ C=>wr fun D D=>C.xz (byteVals (List.replicate 32 0)) 29 fun G C _ C I I b4 I=>wn D<|wr fun D J=>C.xE (c:=rinitial_any _) (k:=fun C ai C _ C=>C.xz (u32Vals (List.replicate 8 0)) 144 fun D C _ C I I I aj=>?_)
 refine C.xs rfl I (fun I I U=>?_) (hk:=u32Vals_len iv_len) (hl:=u32Vals_len (show List.length (List.replicate 8 0)=_ from List.length_replicate)) (h1:=u32Vals_one _);have M:=U.size
 refine wn J<|wr fun J J=>C.xw (vq D (0+0)) (fun F=>rn_indexArr uu144 inf143 (F.get rfl) rfl (by omega:(0:Int)≤0) (by omega:(0:Int)<((8:Nat):Int)))<|Xw (.int .u32 ((iv.getD 0 0).toNat:Nat)) (fun F=>rl F rfl (blk_word I (by omega) (by have:=(show List.length iv=_ from iv_len);omega)))<|Xw (.int .u32 (((iv.getD 0 0)^^^(16842784:UInt32)).toNat:Nat)) (fun F=>rn_xor32 (a:=(iv.getD 0 0)) (b:=(16842784:UInt32)) (F.get rfl) rfl)<|Xw (vq D (0+0)) (fun F=>rn_indexArr uu144 inf143 (F.get rfl) rfl (by omega:(0:Int)≤0) (by omega:(0:Int)<((8:Nat):Int))) fun _ C=>wpl_op (i:=4) rfl<|o_store1 (new:=(u32Vals (iv.set 0 ((iv.getD 0 0)^^^(16842784:UInt32))))) C rfl rfl rfl rfl (C.get rfl) (C.get rfl) I inf143 (by rw [u32Vals_len iv_len];omega) rfl (u32Vals_set (by omega)) fun I V Z=>have I:=Z.size;wn J<|have I:=C.k [0,2,3];wr fun C ac=>I.xn (fun g=>(vl (some ⟨g,0,none⟩) 0 0)) [] 5 (fun F=>rn_buildSlice (parts0 ) (by kernel_rfl)) fun C I _ I J J O M=>I.xm rfl fun _ J=>have Y:=(hc.ux M);have I:=(own_blk0 (k:=1) O);wpl_op (i:=2) rfl<|o_appA (zs:=byteVals b) El22 J rfl rfl rfl rfl rfl (J.get rfl) (J.get rfl) I (Fl.cel Y).2.2 (by omega) (by omega) (by omega) (List.nil_append _) fun aa ae al J O ak J Y Y=>have Y:=J.size;O.xa rfl fun _ ab=>wn ac<|wp_seq_k fun O ag=>wp_block ?_
 have O:=grown_blk I J (V.ext M) (by decide)
 obtain ⟨Y,V⟩:∃ z,z=iv.set 0 ((iv.getD 0 0)^^^(16842784:UInt32)):=⟨_,rfl⟩
 have ah:Y.length=8:=(congrArg List.length V).trans (show List.length (iv.set 0 ((iv.getD 0 0)^^^(16842784:UInt32)))=_ from List.length_set.trans iv_len)
 rw [← V] at O
 have ac:=grown_blk I J (((((b4.ext ai).ext aj).gn U).gn Z).ext M) (by decide)
 refine wp_loop (fun a' W=>∃ (Af:Option Addr) (nf:Nat) (cf:Nat) (f:List UInt8) (z:Nat),Sl 74 [(0,(vl A b.length c)),(2,(vp G)),(3,(vp D)),(4,(vl Af nf cf))] a'∧f=b++List.replicate z 0∧(nf≤64∨nf≤(b.length+63) / 64*64)∧f.length=nf∧Ext w W∧Blk W G 29 (byteVals (List.replicate 32 0))∧Blk W D 144 (u32Vals Y)∧W.ownsRow C 5 1 (vl Af nf cf) nf (byteVals f)∧C≤W.heap.size∧al.heap.size≤W.heap.size) (fun a' _=>(sliceLen (a'.eval (.tmp 4))+63) / 64*64 - sliceLen (a'.eval (.tmp 4))+64*(1 - sliceLen (a'.eval (.tmp 4)))) ⟨aa,0+b.length,ae,b,0,ab.j,(by simp),(by omega),(by omega),(ext_row eX J I (by omega)),ac,O,ak,(by omega),(Nat.le_refl _)⟩ ?_
 rintro I ai ⟨Af,nf,cf,f,z,I,O,J,ae,Z,J,M,U,aa,aa⟩
 have ab:=I
 have aa:=Z.size
 have Z:=J.lt
 have Z:=M.lt
 have Z:=own_form0 U
 refine wp_seq_k fun Z Z=>wr fun aa aa=>I.xm rfl<|Xv (vi nf)<|Xv (vd ((nf:Int)=(0:Int)))<|Xm rfl fun _ I=>?_
 by_cases ac:(nf:Int)=(0:Int)
 ·refine I.xu<|Xu<|Xu<|Xu<|Xv (.bool true) fun _ D=>wn aa<|have C:=D.k [0,2,3,4,26];C.ct<|wp_skip<|Z _ _<|wp_block<|wp_region_lit<|C.xm rfl fun _ C=>C.xn (fun g=>(vl (some ⟨g,0,none⟩) 1 1)) [(.int .u8 0)] 5 (fun F=>rn_buildSlice (parts1 rfl) (by kernel_rfl)) fun V C _ D C C I G=>have Y:=(own_ext U G);have C:=Y;wpl_op (i:=2) rfl<|o_appA (zs:=byteVals (f++([(0:UInt8)]))) El22 D rfl rfl rfl rfl rfl (D.get rfl) (D.get rfl) C (Fl.cel (Fl.blk (S:=fun b=>b=V) (k:=1) (n:=1) (c:=1) (cs:=byteVals [(0:UInt8)]) I rfl (byteVals_one _) (by omega) rfl)).2.2 (by omega) (by omega) (by omega) (byteVals_app _ _) fun U Y D D I Z D V V=>have V:=D.size;I.xa rfl fun _ I=>wpList_nil ?_
  have V:=grown_blk C D (J.ext G) (by decide)
  have J:=grown_blk C D (M.ext G) (by decide)
  refine ⟨⟨U,nf+1,Y,f++([(0:UInt8)]),(z+1),I.j,(by rw [O,List.append_assoc,List.replicate_succ']),(by omega),(by rw [List.length_append];show f.length+1=nf+1;omega),(ext_row eX D C (by omega)),V,J,Z,(by omega),(by omega)⟩,?_⟩
  rw [I.get (t:=4) rfl,ab.get (t:=4) rfl];simp only [sliceLen];omega
 refine I.xg (vl Af nf cf)<|Xg (vi nf)<|Xgw (vi (nf % 64:Nat)) (fun F=>rn_remN (a:=nf) (b:=64) (F.get rfl) rfl (by omega))<|Xg (vd (((nf % 64:Nat):Int)≠(0:Int)))<|Xv (vd (((nf % 64:Nat):Int)≠(0:Int))) fun _ ac=>wn aa ?_
 have I:=ac.k [0,2,3,4,26]
 by_cases aa:((nf % 64:Nat):Int)≠(0:Int)
 ·refine I.ct<|wp_skip<|Z _ _<|wp_block<|wp_region_lit<|I.xm rfl fun _ C=>C.xn (fun g=>(vl (some ⟨g,0,none⟩) 1 1)) [(.int .u8 0)] 5 (fun F=>rn_buildSlice (parts1 rfl) (by kernel_rfl)) fun V C _ D C C I G=>have Y:=(own_ext U G);have C:=Y;wpl_op (i:=2) rfl<|o_appA (zs:=byteVals (f++([(0:UInt8)]))) El22 D rfl rfl rfl rfl rfl (D.get rfl) (D.get rfl) C (Fl.cel (Fl.blk (S:=fun b=>b=V) (k:=1) (n:=1) (c:=1) (cs:=byteVals [(0:UInt8)]) I rfl (byteVals_one _) (by omega) rfl)).2.2 (by omega) (by omega) (by omega) (byteVals_app _ _) fun U Y D D I Z D V V=>have V:=D.size;I.xa rfl fun _ I=>wpList_nil ?_
  have V:=grown_blk C D (J.ext G) (by decide)
  have J:=grown_blk C D (M.ext G) (by decide)
  refine ⟨⟨U,nf+1,Y,f++([(0:UInt8)]),(z+1),I.j,(by rw [O,List.append_assoc,List.replicate_succ']),(by omega),(by rw [List.length_append];show f.length+1=nf+1;omega),(ext_row eX D C (by omega)),V,J,Z,(by omega),(by omega)⟩,?_⟩
  rw [I.get (t:=4) rfl,ab.get (t:=4) rfl];simp only [sliceLen];omega
 refine I.cf<|wp_exit<|exit_then<|exit_then<|exit_here<|ag _ _<|wp_seq_k fun Z Z=>wr fun aa aa=>I.xv (vi 0) fun _ I=>wn aa<|wp_block<|have hfl:=ae;have h064:nf % 64=0∧0<nf:=(by omega);wp_loop (fun a' W=>∃ (n:Nat) (hh:List UInt32),Sl 74 [(0,(vl A b.length c)),(2,(vp G)),(3,(vp D)),(4,(vl Af nf cf)),(26,(vd (((nf % 64:Nat):Int)≠(0:Int)))),(5,(vi n))] a'∧n≤nf∧n % 64=0∧SumInv b f n hh∧hh.length=8∧Ext w W∧Blk W G 29 (byteVals (List.replicate 32 0))∧Blk W D 144 (u32Vals hh)∧W.ownsRow C 5 1 (vl Af nf cf) nf (byteVals f)∧C≤W.heap.size∧ai.heap.size≤W.heap.size) (fun a' _=>nf - (intOf (a'.eval (.tmp 5))).toNat) ⟨0,Y,I.j,(by omega),(by omega),(by rw [V];exact SumInv.start (by omega)),ah,eX,J,M,U,(by omega),(Nat.le_refl _)⟩ ?_
 rintro I I ⟨n,hh,I,J,J,U,Y,ab,J,M,V,aa,aa⟩
 have aa:=I
 have ac:=ab.size
 have ab:=J.lt
 have ab:=M.lt
 have ab:=own_form0 V
 have hhl:hh.length=8:=Y
 refine wp_seq_k fun Y Y=>wr fun ab ab=>I.xm rfl<|Xm rfl<|Xv (vi nf)<|Xv (vd ((n:Int)<(nf:Int))) fun _ I=>wn ab ?_
 by_cases ab:(n:Int)<(nf:Int)
 ·refine I.ct<|wp_skip<|Y _ _<|wp_seq_k fun G Z=>wp_block<|wr fun G Y=>I.xm rfl<|Xv (vi (n+64:Nat))<|Xm rfl<|Xv (vi nf)<|Xv (vd (((n+64:Nat):Int)=(nf:Int)))<|Xa rfl fun _ G=>wn Y<|have I:=G.k [0,2,3,4,26,5,33,6];wr fun G G=>I.xm rfl<|Xv (vi (n+64:Nat))<|Xw (.int .u64 ((UInt64.ofNat (n+64)).toNat:Nat)) (fun F=>rn_convW uu3 uu130 (F.get rfl) (cvi_64 (n+64) (by omega)))<|Xa rfl fun _ I=>wn G<|wp_seq_k fun G G=>wr fun Y Y=>I.xm rfl fun _ I=>wn Y ?_
  by_cases Y:((n+64:Nat):Int)=(nf:Int)
  ·refine I.ct<|wp_region_lit<|I.xm rfl<|Xv (vi b.length)<|Xw (.int .u64 ((UInt64.ofNat b.length).toNat:Nat)) (fun F=>rn_convW uu3 uu130 (F.get rfl) (cvi_64 b.length (by omega)))<|Xa rfl fun _ I=>wn G<|have ab:=I.k [0,2,3,4,26,5,33,6,7,44];sX (fun G W=>Ext G W∧Blk W D 144 (u32Vals hh)) (fun i=>i==9) 10 fun G Y I=>have I:=(M.ext Y);have M:Ext G G∧Blk G D 144 (u32Vals hh):=⟨(Ext.refl G),I⟩;ab.ys 0 (.agg (u32Vals hh).toArray) rfl M (fun F W hW=>rb F rfl hW.2 (hk:=u32Vals_len hhl))<|Ym 1 rfl<|Ym 2 rfl<|Ym 3 rfl<|Yv 4 (vi (n+64:Nat)) rfl fun _ G=>?_
   have ab:=own_ext V Y
   have D:=Fl.own (S:=fun b=>C≤b) ab (fun b hb=>hb) (byteVals_one _)
   obtain ⟨M,V,C,-⟩:=Fl.at D (by omega)
   refine G.yw 5 (vl (some ⟨M,V+n*1,none⟩) 64 (cf - n)) rfl (fun F W=>rn_sliceLH (l:=n) (h:=(n+64)) uu22 inf5 ((F.get rfl).trans (by rw [C])) (F.get rfl) (F.get rfl) (by omega) (by omega) (by omega) (by omega))<|Ym 6 rfl<|Ym 7 rfl fun _ G=>ao 8 rfl<|G.oE (c:=rblock_at hh ((f.drop n).take 64) (UInt64.ofNat b.length) (decide (((n+64:Nat):Int)=(nf:Int))) _ hhl (Fl.mid_eq (j:=n) (m':=64) D C (by omega) (by omega) (by simp only [byteVals_drop1,byteVals_take1]))) (k:=fun C V C _ D=>?_)
   have C:=I.ext V
   refine ⟨fun _ _=>⟨eX,C⟩,?_⟩
   refine ao 9 rfl (D.os rfl C (fun G M G=>an ?_) (hk:=u32Vals_len (absorb_len hhl)) (hl:=u32Vals_len hhl) (h1:=u32Vals_one _));have I:=G.size
   refine nK Z<|have I:=D.k [0,2,3,4,26,5,33,6,7,44];wp_region_lit<|I.xm rfl<|Xv (vi (n+64:Nat))<|Xa rfl fun _ I=>wpList_nil ?_
   obtain ⟨Y,D⟩:∃ z,z=absorb hh ((f.drop n).take 64) (UInt64.ofNat b.length) (decide (((n+64:Nat):Int)=(nf:Int))):=⟨_,rfl⟩
   have ac:Y.length=8:=(congrArg List.length D).trans (absorb_len hhl)
   rw [← D] at M
   have Z:=J.ug G
   have J:=own_grownT (own_ext ab V) C G (by decide)
   refine ⟨⟨(n+64),Y,I.j,(by omega),(by omega),(by rw [D];exact SumInv.next O (by omega) (by omega) (by omega) (by omega) U (by simp only [decide_eq_decide];omega) (by rw [if_pos (by omega)])),ac,eX,Z,M,J,(by omega),(by omega)⟩,?_⟩
   rw [I.get (t:=5) rfl,aa.get (t:=5) rfl];simp [intOf] <;> omega
  refine I.cf<|wp_skip<|G _ _<|sX (fun G W=>Ext G W∧Blk W D 144 (u32Vals hh)) (fun i=>i==9) 10 fun G ab Y=>have Y:=(M.ext ab);have M:Ext G G∧Blk G D 144 (u32Vals hh):=⟨(Ext.refl G),Y⟩;I.ys 0 (.agg (u32Vals hh).toArray) rfl M (fun F W hW=>rb F rfl hW.2 (hk:=u32Vals_len hhl))<|Ym 1 rfl<|Ym 2 rfl<|Ym 3 rfl<|Yv 4 (vi (n+64:Nat)) rfl fun _ G=>?_
  have ac:=own_ext V ab
  have D:=Fl.own (S:=fun b=>C≤b) ac (fun b hb=>hb) (byteVals_one _)
  obtain ⟨I,M,C,-⟩:=Fl.at D (by omega)
  refine G.yw 5 (vl (some ⟨I,M+n*1,none⟩) 64 (cf - n)) rfl (fun F W=>rn_sliceLH (l:=n) (h:=(n+64)) uu22 inf5 ((F.get rfl).trans (by rw [C])) (F.get rfl) (F.get rfl) (by omega) (by omega) (by omega) (by omega))<|Ym 6 rfl<|Ym 7 rfl fun _ G=>ao 8 rfl<|G.oE (c:=rblock_at hh ((f.drop n).take 64) (UInt64.ofNat (n+64)) (decide (((n+64:Nat):Int)=(nf:Int))) _ hhl (Fl.mid_eq (j:=n) (m':=64) D C (by omega) (by omega) (by simp only [byteVals_drop1,byteVals_take1]))) (k:=fun C V C _ D=>?_)
  have C:=Y.ext V
  refine ⟨fun _ _=>⟨eX,C⟩,?_⟩
  refine ao 9 rfl (D.os rfl C (fun G M G=>an ?_) (hk:=u32Vals_len (absorb_len hhl)) (hl:=u32Vals_len hhl) (h1:=u32Vals_one _));have I:=G.size
  refine nK Z<|have I:=D.k [0,2,3,4,26,5,33,6,7,44];wp_region_lit<|I.xm rfl<|Xv (vi (n+64:Nat))<|Xa rfl fun _ I=>wpList_nil ?_
  obtain ⟨Y,D⟩:∃ z,z=absorb hh ((f.drop n).take 64) (UInt64.ofNat (n+64)) (decide (((n+64:Nat):Int)=(nf:Int))):=⟨_,rfl⟩
  have ab:Y.length=8:=(congrArg List.length D).trans (absorb_len hhl)
  rw [← D] at M
  have Z:=J.ug G
  have J:=own_grownT (own_ext ac V) C G (by decide)
  refine ⟨⟨(n+64),Y,I.j,(by omega),(by omega),(by rw [D];exact SumInv.next O (by omega) (by omega) (by omega) (by omega) U (by simp only [decide_eq_decide];omega) (by rw [if_neg (by omega)])),ab,eX,Z,M,J,(by omega),(by omega)⟩,?_⟩
  rw [I.get (t:=5) rfl,aa.get (t:=5) rfl];simp [intOf] <;> omega
 refine I.cf<|wp_exit<|exit_then<|exit_then<|exit_here<|Z _ _<|wr fun C V=>I.xw (.agg (byteVals (List.replicate 32 0)).toArray) (fun F=>rn_build parts0 (by kernel_rfl)) fun _ C=>C.xz (byteVals (List.replicate 32 0)) 29 fun O C _ I C C C Y=>?_
 refine I.xs rfl C (fun ab Y C=>?_) (hk:=byteVals_len (show List.length (List.replicate 32 0)=_ from List.length_replicate));have Z:=C.size
 refine wn V<|have V:=I.k [0,2,3,4,26,5,33,8];wp_seq_k fun I Z=>wr fun I aa=>V.xv (vi 0) fun _ I=>wn aa<|wp_block<|have hdone:=SumInv.done U (by omega);have U:=J.ug C;have J:=M.ug C;wp_loop (fun a' W=>∃ (C:Nat) (dd:List UInt8),Sl 74 [(0,(vl A b.length c)),(2,(vp G)),(3,(vp D)),(4,(vl Af nf cf)),(26,(vd (((nf % 64:Nat):Int)≠(0:Int)))),(5,(vi n)),(33,(vd ((n:Int)<(nf:Int)))),(8,(vp O)),(9,(vi C))] a'∧C≤32∧dd=outTo hh C∧Ext w W∧Blk W G 29 (byteVals (List.replicate 32 0))∧Blk W D 144 (u32Vals hh)∧Blk W O 29 (byteVals dd)∧ab.heap.size≤W.heap.size) (fun a' _=>32 - (intOf (a'.eval (.tmp 9))).toNat) ⟨0,(List.replicate 32 0),I.j,(by omega),rfl,eX,U,J,Y,(Nat.le_refl _)⟩ ?_
 rintro C C ⟨C,dd,G,I,U,V,I,J,M,Y⟩
 have aa:=G
 have Y:=V.size
 have V:=I.lt
 have V:=J.lt
 have V:=M.lt
 have hdl:dd.length=32:=by rw [U];exact outTo_len (by omega)
 refine wp_seq_k fun V V=>wr fun Y Y=>G.xm rfl<|Xv (vd ((C:Int)<(32:Int))) fun _ G=>wn Y ?_
 by_cases Y:(C:Int)<(32:Int)
 ·refine G.ct<|wp_skip<|V _ _<|wp_seq_k fun V V=>wp_block<|wp_region_lit<|G.xm rfl<|Xm rfl<|Xw (vi (C / 4:Nat)) (fun F=>rn_quoN (a:=C) (b:=4) (F.get rfl) rfl (by omega) (by omega))<|Xw (.pointer (some ⟨D,0+(C / 4),none⟩)) (fun F=>rn_indexArr uu144 inf143 (F.get rfl) (F.get rfl) (by omega:(0:Int)≤(C / 4:Nat)) (by omega:((C / 4:Nat):Int)<((8:Nat):Int)))<|Xw (.int .u32 ((hh.getD (C / 4) 0).toNat:Nat)) (fun F=>rl F rfl (blk_word J (by omega) (by have:=(show List.length hh=_ from hhl);omega)))<|Xm rfl<|Xw (vi (C % 4:Nat)) (fun F=>rn_remN (a:=C) (b:=4) (F.get rfl) rfl (by omega))<|Xw (vi (8*(C % 4):Nat)) (fun F=>rn_mulN (a:=8) (b:=C % 4) rfl (F.get rfl) (by omega))<|Xw (.int .u32 (((hh.getD (C / 4) 0) >>> UInt32.ofNat (8*(C % 4))).toNat:Nat)) (fun F=>rn_shr32 (a:=(hh.getD (C / 4) 0)) (n:=(8*(C % 4))) (F.get rfl) (F.get rfl) (by omega))<|Xw (.int .u8 ((((hh.getD (C / 4) 0) >>> UInt32.ofNat (8*(C % 4))).toUInt8).toNat:Nat)) (fun F=>rn_convW uu143 uu5 (F.get rfl) (cv32_8 ((hh.getD (C / 4) 0) >>> UInt32.ofNat (8*(C % 4)))))<|Xw (vq O (0+C)) (fun F=>rn_indexArr uu29 inf5 (F.get rfl) (F.get rfl) (zl _) (by omega:(C:Int)<((32:Nat):Int))) fun _ D=>wpl_op (i:=11) rfl<|o_store1 (new:=(byteVals (dd.set C (((hh.getD (C / 4) 0) >>> UInt32.ofNat (8*(C % 4))).toUInt8)))) D rfl rfl rfl rfl (D.get rfl) (D.get rfl) M inf5 (by rw [byteVals_len hdl];omega) rfl (byteVals_set (by omega)) fun G O G=>have M:=G.size;wn V<|have M:=D.k [0,2,3,4,26,5,33,8,9,59];wp_region_lit<|M.xm rfl<|Xv (vi (C+1:Nat))<|Xa rfl fun _ M=>wpList_nil ?_
  obtain ⟨V,D⟩:∃ z,z=dd.set C (((hh.getD (C / 4) 0) >>> UInt32.ofNat (8*(C % 4))).toUInt8):=⟨_,rfl⟩
  have Y:V.length=32:=(congrArg List.length D).trans (show List.length (dd.set C (((hh.getD (C / 4) 0) >>> UInt32.ofNat (8*(C % 4))).toUInt8))=_ from List.length_set.trans hdl)
  rw [← D] at O
  have Y:=I.gn G
  have I:=J.gn G
  refine ⟨⟨(C+1),V,M.j,(by omega),(outTo_step (by omega) U D),eX,Y,I,O,(by omega)⟩,?_⟩
  rw [M.get (t:=9) rfl,aa.get (t:=9) rfl];simp [intOf] <;> omega
 refine G.cf<|wp_exit<|exit_then<|exit_then<|exit_here<|Z _ _<|wr fun D J=>G.xw (.agg (byteVals dd).toArray) (fun F=>rb F rfl M (hk:=byteVals_len hdl)) fun _ D=>?_
 refine D.xs rfl I (fun G G I=>?_) (hk:=byteVals_len hdl);have M:=I.size
 exact wn J<|wp_ret<|retC D rfl rfl G uu29 rfl (sk inf29 (byteVals_len hdl))<|have hd:dd=bsum b:=(by rw [U,show C=32 by omega,outTo_all,hdone];rfl);⟨by rw [← hd],eX⟩
theorem rsum_at (b:List UInt8) (w:World) (hf:Fl S w 1 v n (byteVals b)) (hb:n≤70368744177664):Calls Tryz.prog 104 #[v] w (fun e w'=>e=.returned (.agg (byteVals (bsum b)).toArray)∧Ext w w'):=by
 have hm:=hf.blen
 subst hm
 obtain ⟨A,c,rfl,_⟩:=hf.form
 exact rsum_any A c b w hf hb
theorem rtagged_any (tag:List UInt8) (A:Option Addr) (c:Nat) (b:List UInt8) (w:World) (hf:Fl S w 1 (vl A b.length c) b.length (byteVals b)) (ht:tag.length≤70368744177664) (hb:b.length≤35184372088832) :
  Calls Tryz.prog 71 #[strOf tag,.slice A b.length c] w (fun e w'=>e=.returned (.agg (byteVals (tagged tag b)).toArray)∧Ext w w'):=by
 have hc:Fl (Clip S w) w 1 (vl A b.length c) b.length (byteVals b):=hf.clip
 have hcc:=(Fl.cel hc).2.1
 refine calls_enter Tryz.func71 rfl rfl rfl fun _ C=>wr fun D D=>C.xz (byteVals (List.replicate 32 0)) 29 fun C C _ C G G b4 aa=>wn D<|wr fun D M=>C.xm rfl fun _ C=>wpl_op (i:=1) rfl<|o_strB (l:=tag) C rfl rfl rfl rfl rfl (C.get rfl) uu9 uu22 uu5 (by omega) fun G D C C C I I I I U=>C.xE (c:=rsum_at (v:=(vl (some ⟨G,0,none⟩) tag.length D)) (n:=tag.length) tag _ I (by omega)) (k:=fun C V C _ C=>C.xz (byteVals (List.replicate 32 0)) 29 fun G C _ C D D D Y=>?_)
 refine C.xs rfl D (fun D I J=>?_) (hk:=byteVals_len (bsum_len _));have D:=J.size
 refine wn M<|wr fun D ac=>C.xn (fun g=>(vl (some ⟨g,0,none⟩) 0 0)) [] 5 (fun F=>rn_buildSlice (parts0 ) (by kernel_rfl)) fun ab C _ C D D O M=>C.xw (vl (some ⟨G,0,none⟩) 32 32) (fun F=>rn_arrAll uu29 inf5 (F.get rfl)) fun _ D=>have Z:=(I.ext M);have C:=(own_blk0 (k:=1) O);wpl_op (i:=2) rfl<|o_appA (zs:=byteVals (bsum tag)) El22 D rfl rfl rfl rfl rfl (D.get rfl) (D.get rfl) C (Fl.cel (Fl.blk (S:=fun b=>b=G) (k:=1) (n:=32) (c:=32) Z (by rw [byteVals_len (bsum_len _),Nat.mul_one]) (byteVals_one _) (by omega) rfl)).2.2 (by omega) (by omega) (by omega) (List.nil_append _) fun D D D D G Z D I I=>have I:=D.size;G.xm rfl fun _ G=>have O:=(hc.pres (Pres.row (((((((Pres.refl w).ext aa).ext U).ext V).ext Y).gc J).ext M) D C (fun b hb h=>by simp only [Clip] at h;omega)));have I:=Z;wpl_op (i:=4) rfl<|o_appA (zs:=byteVals ((bsum tag)++b)) El22 G rfl rfl rfl rfl rfl (G.get rfl) (G.get rfl) I (Fl.cel O).2.2 (by omega) (by omega) (by omega) (byteVals_app _ _) fun O aa G G Z ae G ag ag=>have ag:=G.size;Z.xE (c:=rsum_at (v:=(vl O ((0+32)+b.length) aa)) (n:=(0+32)+b.length) ((bsum tag)++b) _ (Fl.own (S:=fun b=>ab≤b) ae (fun b hb=>hb) (byteVals_one _)) (by omega)) (k:=fun O Z O _ O=>?_)
 have aa:=(grown_blk I G (grown_blk C D (((((b4.ext U).ext V).ext Y).gn J).ext M) (by decide)) (by decide)).ext Z
 refine O.xs rfl aa (fun J U J=>?_) (hk:=byteVals_len (bsum_len _));have M:=J.size
 exact wn ac<|have M:=O.k [0,1,4,5];wp_ret<|retC M rfl rfl U uu29 rfl (sk inf29 (byteVals_len (bsum_len _)))<|⟨rfl,(((ext_row (ext_row eX D C (by omega)) G I (by omega)).trans Z).gn J)⟩
theorem rtagged_at (tag:List UInt8) {v:Value} {n:Nat} (b:List UInt8) (w:World) (hf:Fl S w 1 v n (byteVals b)) (ht:tag.length≤70368744177664) (hb:n≤35184372088832):Calls Tryz.prog 71 #[strOf tag,v] w (fun e w'=>e=.returned (.agg (byteVals (tagged tag b)).toArray)∧Ext w w'):=by
 have hm:=hf.blen
 subst hm
 obtain ⟨A,c,rfl,_⟩:=hf.form
 exact rtagged_any tag A c b w hf ht hb
theorem rhalf_any (n:Nat) (w:World) (h2:2≤n) (hm:n≤4611686018427387904) :
  Calls Tryz.prog 102 #[.int .i64 (n:Nat)] w (fun e w'=>e=.returned (vi (half n:Nat))∧Ext w w'):=by
 refine calls_enter Tryz.func102 rfl rfl rfl fun _ C=>wr fun D D=>C.xv (vi 0) fun _ C=>wn D<|wr fun D D=>C.xv (vi 1) fun _ C=>wn D<|wp_seq_k fun D I=>wp_block<|wp_loop (fun a' W=>∃ (k:Nat) (j:Nat),Sl 11 [(0,(vi n)),(2,(vi 0)),(3,(vi k))] a'∧k=2 ^ j∧k<n∧1≤k∧Ext w W∧w.heap.size≤W.heap.size) (fun a' _=>n - (intOf (a'.eval (.tmp 3))).toNat) ⟨1,0,C.j,rfl,(by omega),(by omega),(Ext.refl w),(Nat.le_refl _)⟩ ?_
 rintro C C ⟨k,j,C,M,D,D,D,G⟩
 have J:=C
 have G:=D.size
 refine wp_seq_k fun D D=>wr fun G G=>C.xm rfl<|Xw (vi (2*k:Nat)) (fun F=>rn_mulN (a:=2) (b:=k) rfl (F.get rfl) (by omega))<|Xm rfl<|Xv (vd (((2*k:Nat):Int)<(n:Int))) fun _ C=>wn G ?_
 by_cases G:((2*k:Nat):Int)<(n:Int)
 ·refine C.ct<|wp_skip<|D _ _<|wp_block<|wp_region_lit<|C.xm rfl<|Xw (vi (2*k:Nat)) (fun F=>rn_mulN (a:=2) (b:=k) rfl (F.get rfl) (by omega))<|Xa rfl fun _ C=>wpList_nil ?_
  refine ⟨⟨2*k,(j+1),C.j,(by rw [Nat.pow_succ];omega),(by omega),(by omega),eX,(by omega)⟩,?_⟩
  rw [C.get (t:=3) rfl,J.get (t:=3) rfl];simp [intOf] <;> omega
 exact C.cf<|wp_exit<|exit_then<|exit_then<|exit_here<|I _ _<|wr fun D D=>C.xm rfl<|Xa rfl fun _ C=>wn D<|have D:=C.k [0,2,3,7];wp_ret<|ret1 D rfl rfl<|⟨by rw [half_unique (n:=n) (k:=k) j M (by omega) (by omega)],eX⟩
theorem rnode_any (d d2:List UInt8) (w:World) (hd:d.length=32) (hd2:d2.length=32) :
  Calls Tryz.prog 103 #[.agg (byteVals d).toArray,.agg (byteVals d2).toArray] w (fun e w'=>e=.returned (.agg (byteVals (nodeD d d2)).toArray)∧Ext w w'):=by
 refine calls_enter Tryz.func103 rfl rfl rfl fun _ C=>wr fun D U=>C.xb rfl fun I C _ C D D O D=>C.xb rfl fun M C _ C D D J D=>C.xz (byteVals (List.replicate 32 0)) 29 fun G C _ D C C V C=>wn U<|wp_seq_k fun C ac=>sX (fun C W=>Ext C W∧Blk W I 29 (byteVals d)∧Blk W M 29 (byteVals d2)∧Blk W G 29 (byteVals (List.replicate 32 0))) (fun i=>i==6) 7 fun C C C=>D.yw 1 (vl (some ⟨I,0,none⟩) 32 32) rfl (fun F W=>rn_arrAll uu29 inf5 (F.get rfl))<|Yw 3 (vl (some ⟨M,0,none⟩) 32 32) rfl (fun F W=>rn_arrAll uu29 inf5 (F.get rfl)) fun _ C=>ao 0 rfl<|C.on (fun g=>(vl (some ⟨g,0,none⟩) 0 0)) [] 5 rfl (fun F=>rn_buildSlice (parts0 ) (by kernel_rfl)) fun ab C _ D C C Y C=>?_
 have G:=O.ux C
 have O:=J.ux C
 have U:=V.ux C
 refine ⟨fun _ _=>⟨eX,G,O,U⟩,?_⟩
 refine ao 2 rfl<|have C:=(own_blk0 (k:=1) Y);o_appA (zs:=byteVals d) El22 D rfl rfl rfl rfl rfl (D.get rfl) (D.get rfl) C (Fl.cel (Fl.blk (S:=fun b=>b=I) (k:=1) (n:=32) (c:=32) G (by rw [byteVals_len hd,Nat.mul_one]) (byteVals_one _) (by omega) rfl)).2.2 (by omega) (by omega) (by omega) (List.nil_append _) fun D D D D I Y D J J=>?_;have J:=D.size
 have V:=grown_blk C D G (by decide)
 have J:=grown_blk C D O (by decide)
 have O:=grown_blk C D U (by decide)
 refine ⟨fun _ _=>⟨(ext_row eX D C (by omega)),V,J,O⟩,?_⟩
 refine ao 4 rfl<|have G:=Y;o_appA (zs:=byteVals (d++d2)) El22 I rfl rfl rfl rfl rfl (I.get rfl) (I.get rfl) G (Fl.cel (Fl.blk (S:=fun b=>b=M) (k:=1) (n:=32) (c:=32) J (by rw [byteVals_len hd2,Nat.mul_one]) (byteVals_one _) (by omega) rfl)).2.2 (by omega) (by omega) (by omega) (byteVals_app _ _) fun M aa I I Z ae I U U=>?_;have U:=I.size
 have U:=grown_blk G I V (by decide)
 have V:=grown_blk G I J (by decide)
 have Y:=grown_blk G I O (by decide)
 refine ⟨fun _ _=>⟨(ext_row (ext_row eX D C (by omega)) I G (by omega)),U,V,Y⟩,?_⟩
 refine ao 5 rfl<|Z.oE (c:=rtagged_at ([110,111,100,101]) (v:=(vl M ((0+32)+32) aa)) (n:=(0+32)+32) (d++d2) _ (Fl.own (S:=fun b=>ab≤b) ae (fun b hb=>hb) (byteVals_one _)) (by decide) (by omega)) (k:=fun J J M _ M=>?_)
 have Z:=U.ext J
 have U:=V.ext J
 have O:=Y.ext J
 refine ⟨fun _ _=>⟨((ext_row (ext_row eX D C (by omega)) I G (by omega)).trans J),Z,U,O⟩,?_⟩
 refine ao 6 rfl (M.os rfl O (fun O V O=>an ?_) (hk:=byteVals_len (tagged_len _ _)));have U:=O.size
 exact nK ac<|have U:=M.k [0,1,2,3,4];wp_ret<|retC U rfl rfl V uu29 rfl (sk inf29 (byteVals_len (tagged_len _ _)))<|⟨rfl,(((ext_row (ext_row eX D C (by omega)) I G (by omega)).trans J).gn O)⟩
end Go.Proofs.YtihgmaoghbnnaaaGreatDoor
