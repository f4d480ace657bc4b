/- The law SealOpens walked. -/
import Derived.Test.YtmjgjopbeokajaaDoorProg
import Derived.Test.YtmjgjopbeokajaaDoorBunG
import Derived.Test.YtmjgjopbeokajaaDoorBunH
import Derived.KernelRfl
import Derived.Test.YtmjgjopbeokajaaDoorBunA
import Derived.Test.YtmjgjopbeokajaaDoorBunB
namespace Go.Proofs.YtmjgjopbeokajaaDoor
open Go.RowKit

variable {S S' : Nat → Prop}

theorem sign_val {sd : List UInt8} {many used idx : Int} {msg other : List UInt8} (hm : msg.length ≤ 65536) (ho : other.length ≤ 65536) : signE sd many used idx msg = signE sd many used idx other := by
  unfold signE; rw [if_neg (show ¬ 65536 < msg.length by omega), if_neg (show ¬ 65536 < other.length by omega)]

set_option maxRecDepth 100000 in
set_option maxHeartbeats 1000000 in
theorem openslaw_any (A : Option Addr) (c : Nat) (sd : List UInt8) (many used : Int) (idx : Int) (B : Option Addr) (bc : Nat) (msg : List UInt8) (C : Option Addr) (cc : Nat) (other : List UInt8) (w : World) (hf : Fl S w 1 (.slice A sd.length c) sd.length (byteVals sd)) (hm : Fl S w 1 (.slice B msg.length bc) msg.length (byteVals msg)) (ho : Fl S w 1 (.slice C other.length cc) other.length (byteVals other)) (hG : Glob w) :
    Calls Tryd.prog 8 #[.agg #[.slice A sd.length c, .int .i64 many, .int .i64 used], .int .i64 idx, .slice B msg.length bc, .slice C other.length cc] w (fun e w' => e = .returned (.bool true) ∧ Ext w w') := by
  have hc : Fl (Clip S w) w 1 (.slice A sd.length c) sd.length (byteVals sd) := hf.clip
  have hcc := (Fl.cel hc).2.1
  have hmk : Fl (Clip S w) w 1 (.slice B msg.length bc) msg.length (byteVals msg) := hm.clip
  have hmkc := (Fl.cel hmk).2.1
  have hok : Fl (Clip S w) w 1 (.slice C other.length cc) other.length (byteVals other) := ho.clip
  have hokc := (Fl.cel hok).2.1
  refine calls_enter (l := [(.agg #[(.slice A sd.length c), (.int .i64 many), (.int .i64 used)]), (.int .i64 idx), (.slice B msg.length bc), (.slice C other.length cc)]) Tryd.func8 rfl rfl rfl (fun aA hF => ?_)
  refine wp_seq_k (fun K1 hK1 => ?_)
  refine wp_region_lit ?_
  refine wpl_op (i := 0) rfl (o_new (fun g => (.pointer (some ⟨g, 0, none⟩))) [(.slice A sd.length c), (.int .i64 many), (.int .i64 used)] 24 hF rfl rfl rfl rfl (rn_box (hF.get rfl) (by kernel_rfl)) ?_)
  intro g2 w3 a8 F9 z6 z7 b4 hx5; clear hF
  refine qv 1 (.bool false) F9 rfl (rn_assign rfl) fun _ F11 => ?_; clear F9
  refine wpList_nil ?_
  refine hK1 _ _ ?_
  clear hK1
  refine wp_seq_k (fun K12 hK12 => ?_)
  refine wp_seq_k (fun K13 hK13 => ?_)
  refine wp_region_lit ?_
  refine wpl_op (i := 0) rfl (o_call F11 rfl rfl rfl rfl (rn_call (args0 ) rfl (by kernel_rfl)) (sane4 _ (hG.ext ((Ext.refl w).trans hx5))) ?_)
  rintro _ w14 ⟨rfl, hx15⟩
  refine ⟨_, rfl, ?_⟩; intro a16 F17; clear F11; have z18 := hx15.size
  refine qv 1 (.bool false) F17 rfl (rn_not' (F17.get rfl) rfl) fun _ F20 => ?_; clear F17
  refine wpList_nil ?_
  refine hK13 _ _ ?_
  clear hK13
  refine wp_cond_false (c_false F20 rfl rfl) ?_
  refine wp_skip ?_
  refine hK12 _ _ ?_
  clear hK12
  refine wp_seq_k (fun K21 hK21 => ?_)
  refine wp_seq_k (fun K22 hK22 => ?_)
  refine wp_region_lit ?_
  have b23 := (b4.ext hx15)
  refine qv 0 (.agg #[(.slice A sd.length c), (.int .i64 many), (.int .i64 used)]) F20 rfl (rn_loadBlk (F20.get rfl) b23 Tryd.underlying24 rfl inf24) fun _ F25 => ?_; clear F20
  refine qv 1 (.slice B msg.length bc) F25 rfl (rn_move (F25.get rfl)) fun _ F27 => ?_; clear F25
  refine wpl_op (i := 2) rfl (o_call F27 rfl rfl rfl rfl (rn_call (args2 (F27.get rfl) (F27.get rfl)) rfl (by kernel_rfl)) (few_any A B c msg.length bc sd many used _) ?_)
  rintro _ w28 ⟨rfl, hx29⟩
  refine ⟨_, rfl, ?_⟩; intro a30 F31; clear F27; have z32 := hx29.size
  refine qv 3 (.bool (!(decide (((many ≤ 2 ∧ ((sd.length : Nat) : Int) ≤ 100) ∧ ((msg.length : Nat) : Int) ≤ 300))))) F31 rfl (rn_not' (F31.get rfl) rfl) fun _ F34 => ?_; clear F31
  refine qv 4 (.bool (!(decide (((many ≤ 2 ∧ ((sd.length : Nat) : Int) ≤ 100) ∧ ((msg.length : Nat) : Int) ≤ 300))))) F34 rfl (rn_move (F34.get rfl)) fun _ F36 => ?_; clear F34
  by_cases hc37 : ((many ≤ 2 ∧ ((sd.length : Nat) : Int) ≤ 100) ∧ ((msg.length : Nat) : Int) ≤ 300)
  · skip
    have b38 := (b23.ext hx29)
    refine qg 5 (.agg #[(.slice A sd.length c), (.int .i64 many), (.int .i64 used)]) F36 (not_t (decide_eq_true hc37)) (rn_loadBlk (F36.get rfl) b38 Tryd.underlying24 rfl inf24) fun _ F40 => ?_; clear F36
    refine qg 6 (.slice C other.length cc) F40 (not_t (decide_eq_true hc37)) (rn_move (F40.get rfl)) fun _ F42 => ?_; clear F40
    refine wpl_op (i := 7) rfl (o_call F42 rfl (wanted_guard rfl rfl rfl F42 rfl (not_t (decide_eq_true hc37)) rfl) rfl rfl (rn_call (args2 (F42.get rfl) (F42.get rfl)) rfl (by kernel_rfl)) (few_any A C c other.length cc sd many used _) ?_)
    rintro _ w43 ⟨rfl, hx44⟩
    refine ⟨_, rfl, ?_⟩; intro a45 F46; clear F42; have z47 := hx44.size
    refine qg 8 (.bool (!(decide (((many ≤ 2 ∧ ((sd.length : Nat) : Int) ≤ 100) ∧ ((other.length : Nat) : Int) ≤ 300))))) F46 (not_t (decide_eq_true hc37)) (rn_not' (F46.get rfl) rfl) fun _ F49 => ?_; clear F46
    refine qv 9 (.bool (!(decide (((many ≤ 2 ∧ ((sd.length : Nat) : Int) ≤ 100) ∧ ((other.length : Nat) : Int) ≤ 300))))) F49 rfl (rn_pickF (c_false F49 rfl (not_t (decide_eq_true hc37))) (F49.get rfl)) fun _ F51 => ?_; clear F49
    refine wpList_nil ?_
    refine hK22 _ _ ?_
    clear hK22
    have F52 := ((((((((F51.nil.c F51 29 rfl).c F51 19 rfl).c F51 8 rfl).c F51 4 rfl).c F51 3 rfl).c F51 2 rfl).c F51 1 rfl).c F51 0 rfl)
    clear F51
    by_cases hc53 : ((many ≤ 2 ∧ ((sd.length : Nat) : Int) ≤ 100) ∧ ((other.length : Nat) : Int) ≤ 300)
    · skip
      refine wp_cond_false (c_false F52 rfl (not_t (decide_eq_true hc53))) ?_
      refine wp_skip ?_
      refine hK21 _ _ ?_
      clear hK21
      refine wp_seq_k (fun K54 hK54 => ?_)
      refine wp_region_lit ?_
      have b55 := (b38.ext hx44)
      refine qv 0 (.agg #[(.slice A sd.length c), (.int .i64 many), (.int .i64 used)]) F52 rfl (rn_loadBlk (F52.get rfl) b55 Tryd.underlying24 rfl inf24) fun _ F57 => ?_; clear F52
      have d58 := ((((hc.ext hx5).ext hx15).ext hx29).ext hx44)
      refine wpl_op (i := 1) rfl (o_call F57 rfl rfl rfl rfl (rn_call (args1 (F57.get rfl)) rfl (by kernel_rfl)) (pub_at (v := (.slice A sd.length c)) (m := sd.length) sd many used _ d58 (hG.ext (((((Ext.refl w).trans hx5).trans hx15).trans hx29).trans hx44))) ?_)
      rintro _ w59 ⟨rfl, hx60⟩
      refine ⟨_, rfl, ?_⟩; intro a61 F62; clear F57; have z63 := hx60.size
      refine qv 2 (.tuple #[(.agg (byteVals (pubF sd many used)).toArray), (.int .i64 (pubE sd many used))]) F62 rfl (rn_move (F62.get rfl)) fun _ F65 => ?_; clear F62
      refine qv 3 (.agg (byteVals (pubF sd many used)).toArray) F65 rfl (rn_extract (F65.get rfl) rfl) fun _ F67 => ?_; clear F65
      refine qv 4 (.int .i64 (pubE sd many used)) F67 rfl (rn_extract (F67.get rfl) rfl) fun _ F69 => ?_; clear F67
      refine wpl_op (i := 5) rfl (o_new (fun g => (.pointer (some ⟨g, 0, none⟩))) (byteVals (List.replicate 32 0)) 37 F69 rfl rfl rfl rfl (by kernel_rfl) ?_)
      intro g70 w71 a76 F77 z74 z75 b72 hx73; clear F69
      refine wpl_op (i := 6) rfl (o_store (cells := (byteVals (pubF sd many used))) F77 rfl rfl rfl rfl (F77.get rfl) (F77.get rfl) b72 (inf37.trans (congrArg some (byteVals_len (pubF_len _ _ _)).symm)) ((byteVals_len (show List.length (List.replicate 32 0) = _ from List.length_replicate)).trans (byteVals_len (pubF_len _ _ _)).symm) (byteVals_one _) ?_)
      intro w78 b79 hg80; have z81 := hg80.size
      refine qv 7 (.int .i64 (pubE sd many used)) F77 rfl (rn_assign (F77.get rfl)) fun _ F83 => ?_; clear F77
      refine wpList_nil ?_
      refine hK54 _ _ ?_
      clear hK54
      have F84 := ((((((((((F83.nil.c F83 10 rfl).c F83 9 rfl).c F83 29 rfl).c F83 19 rfl).c F83 8 rfl).c F83 4 rfl).c F83 3 rfl).c F83 2 rfl).c F83 1 rfl).c F83 0 rfl)
      clear F83
      refine wp_seq_k (fun K85 hK85 => ?_)
      refine wp_region_lit ?_
      have b86 := (((b55.ext hx60).ext hx73).grownN hg80 (by omega))
      refine qv 0 (.agg #[(.slice A sd.length c), (.int .i64 many), (.int .i64 used)]) F84 rfl (rn_loadBlk (F84.get rfl) b86 Tryd.underlying24 rfl inf24) fun _ F88 => ?_; clear F84
      refine qv 1 (.int .i64 idx) F88 rfl (rn_move (F88.get rfl)) fun _ F90 => ?_; clear F88
      refine qv 2 (.slice B msg.length bc) F90 rfl (rn_move (F90.get rfl)) fun _ F92 => ?_; clear F90
      have d93 := (hc.pres ((((((((Pres.refl w).ext hx5).ext hx15).ext hx29).ext hx44).ext hx60).ext hx73).grownN hg80 (fun h => by simp only [Clip] at h; omega)))
      have d94 := (hmk.pres ((((((((Pres.refl w).ext hx5).ext hx15).ext hx29).ext hx44).ext hx60).ext hx73).grownN hg80 (fun h => by simp only [Clip] at h; omega)))
      refine wpl_op (i := 3) rfl (o_call F92 rfl rfl rfl rfl (rn_call (args3 (F92.get rfl) (F92.get rfl) (F92.get rfl)) rfl (by kernel_rfl)) (sign_at (v := (.slice A sd.length c)) (m := sd.length) (u := (.slice B msg.length bc)) (n := msg.length) sd many used idx msg _ d93 d94 (hG.ext ((((((((Ext.refl w).trans hx5).trans hx15).trans hx29).trans hx44).trans hx60).trans hx73).grownN hg80 (by omega)))) ?_)
      obtain ⟨sg107, hsg108⟩ : ∃ z, z = signF sd many used idx msg := ⟨_, rfl⟩
      rw [← hsg108]
      rintro _ w109 ⟨A95, n96, c97, A98, n99, c100, A101, n102, c103, rfl, hf104, hf105, hf106, hx110⟩
      have h32111 : All32 sg107.op := by rw [hsg108]; exact signF_o _ _ _ _ _
      have z112 := (Fl.cel hf104).2.1; have z113 := Fl.dlen hf104 h32111
      have h32114 : All32 sg107.cl := by rw [hsg108]; exact signF_c _ _ _ _ _
      have z115 := (Fl.cel hf105).2.1; have z116 := Fl.dlen hf105 h32114
      have h32117 : All32 sg107.path := by rw [hsg108]; exact signF_p _ _ _ _ _
      have z118 := (Fl.cel hf106).2.1; have z119 := Fl.dlen hf106 h32117
      refine ⟨_, rfl, ?_⟩; intro a120 F121; clear F92; have z122 := hx110.size
      have hf123 : Fl (Clip (fun b => w78.heap.size ≤ b) w109) w109 32 (.slice A95 n96 c97) n96 (digVals sg107.op) := hf104.clip
      have hf124 : Fl (Clip (fun b => w78.heap.size ≤ b) w109) w109 32 (.slice A98 n99 c100) n99 (digVals sg107.cl) := hf105.clip
      have hf125 : Fl (Clip (fun b => w78.heap.size ≤ b) w109) w109 32 (.slice A101 n102 c103) n102 (digVals sg107.path) := hf106.clip
      refine qv 4 (.tuple #[(.agg #[(.int .i64 sg107.index), (.slice A95 n96 c97), (.slice A98 n99 c100), (.slice A101 n102 c103)]), (.int .i64 (signE sd many used idx msg))]) F121 rfl (rn_move (F121.get rfl)) fun _ F127 => ?_; clear F121
      refine qv 5 (.agg #[(.int .i64 sg107.index), (.slice A95 n96 c97), (.slice A98 n99 c100), (.slice A101 n102 c103)]) F127 rfl (rn_extract (F127.get rfl) rfl) fun _ F129 => ?_; clear F127
      refine qv 6 (.int .i64 (signE sd many used idx msg)) F129 rfl (rn_extract (F129.get rfl) rfl) fun _ F131 => ?_; clear F129
      refine wpl_op (i := 7) rfl (o_new (fun g => (.pointer (some ⟨g, 0, none⟩))) [(.int .i64 0), (.slice none 0 0), (.slice none 0 0), (.slice none 0 0)] 30 F131 rfl rfl rfl rfl (by kernel_rfl) ?_)
      intro g132 w133 a138 F139 z136 z137 b134 hx135; clear F131
      refine wpl_op (i := 8) rfl (o_store (cells := [(.int .i64 sg107.index), (.slice A95 n96 c97), (.slice A98 n99 c100), (.slice A101 n102 c103)]) F139 rfl rfl rfl rfl (F139.get rfl) (F139.get rfl) b134 inf30 rfl (by simp [Value.oneCell']) ?_)
      intro w140 b141 hg142; have z143 := hg142.size
      refine qv 9 (.int .i64 (signE sd many used idx msg)) F139 rfl (rn_assign (F139.get rfl)) fun _ F145 => ?_; clear F139
      refine wpList_nil ?_
      refine hK85 _ _ ?_
      clear hK85
      have F146 := ((((((((((((F145.nil.c F145 12 rfl).c F145 11 rfl).c F145 10 rfl).c F145 9 rfl).c F145 29 rfl).c F145 19 rfl).c F145 8 rfl).c F145 4 rfl).c F145 3 rfl).c F145 2 rfl).c F145 1 rfl).c F145 0 rfl)
      clear F145
      refine wp_seq_k (fun K147 hK147 => ?_)
      refine wp_region_lit ?_
      have b148 := (((b86.ext hx110).ext hx135).grownN hg142 (by omega))
      refine qv 0 (.agg #[(.slice A sd.length c), (.int .i64 many), (.int .i64 used)]) F146 rfl (rn_loadBlk (F146.get rfl) b148 Tryd.underlying24 rfl inf24) fun _ F150 => ?_; clear F146
      refine qv 1 (.int .i64 idx) F150 rfl (rn_move (F150.get rfl)) fun _ F152 => ?_; clear F150
      refine qv 2 (.slice C other.length cc) F152 rfl (rn_move (F152.get rfl)) fun _ F154 => ?_; clear F152
      have d155 := (hc.pres (((((((((((Pres.refl w).ext hx5).ext hx15).ext hx29).ext hx44).ext hx60).ext hx73).grownN hg80 (fun h => by simp only [Clip] at h; omega)).ext hx110).ext hx135).grownN hg142 (fun h => by simp only [Clip] at h; omega)))
      have d156 := (hok.pres (((((((((((Pres.refl w).ext hx5).ext hx15).ext hx29).ext hx44).ext hx60).ext hx73).grownN hg80 (fun h => by simp only [Clip] at h; omega)).ext hx110).ext hx135).grownN hg142 (fun h => by simp only [Clip] at h; omega)))
      refine wpl_op (i := 3) rfl (o_call F154 rfl rfl rfl rfl (rn_call (args3 (F154.get rfl) (F154.get rfl) (F154.get rfl)) rfl (by kernel_rfl)) (sign_at (v := (.slice A sd.length c)) (m := sd.length) (u := (.slice C other.length cc)) (n := other.length) sd many used idx other _ d155 d156 (hG.ext (((((((((((Ext.refl w).trans hx5).trans hx15).trans hx29).trans hx44).trans hx60).trans hx73).grownN hg80 (by omega)).trans hx110).trans hx135).grownN hg142 (by omega)))) ?_)
      obtain ⟨sg169, hsg170⟩ : ∃ z, z = signF sd many used idx other := ⟨_, rfl⟩
      rw [← hsg170]
      rintro _ w171 ⟨A157, n158, c159, A160, n161, c162, A163, n164, c165, rfl, hf166, hf167, hf168, hx172⟩
      have h32173 : All32 sg169.op := by rw [hsg170]; exact signF_o _ _ _ _ _
      have z174 := (Fl.cel hf166).2.1; have z175 := Fl.dlen hf166 h32173
      have h32176 : All32 sg169.cl := by rw [hsg170]; exact signF_c _ _ _ _ _
      have z177 := (Fl.cel hf167).2.1; have z178 := Fl.dlen hf167 h32176
      have h32179 : All32 sg169.path := by rw [hsg170]; exact signF_p _ _ _ _ _
      have z180 := (Fl.cel hf168).2.1; have z181 := Fl.dlen hf168 h32179
      refine ⟨_, rfl, ?_⟩; intro a182 F183; clear F154; have z184 := hx172.size
      have hf185 : Fl (Clip (fun b => w140.heap.size ≤ b) w171) w171 32 (.slice A157 n158 c159) n158 (digVals sg169.op) := hf166.clip
      have hf186 : Fl (Clip (fun b => w140.heap.size ≤ b) w171) w171 32 (.slice A160 n161 c162) n161 (digVals sg169.cl) := hf167.clip
      have hf187 : Fl (Clip (fun b => w140.heap.size ≤ b) w171) w171 32 (.slice A163 n164 c165) n164 (digVals sg169.path) := hf168.clip
      refine qv 4 (.tuple #[(.agg #[(.int .i64 sg169.index), (.slice A157 n158 c159), (.slice A160 n161 c162), (.slice A163 n164 c165)]), (.int .i64 (signE sd many used idx other))]) F183 rfl (rn_move (F183.get rfl)) fun _ F189 => ?_; clear F183
      refine qv 5 (.agg #[(.int .i64 sg169.index), (.slice A157 n158 c159), (.slice A160 n161 c162), (.slice A163 n164 c165)]) F189 rfl (rn_extract (F189.get rfl) rfl) fun _ F191 => ?_; clear F189
      refine qv 6 (.int .i64 (signE sd many used idx other)) F191 rfl (rn_extract (F191.get rfl) rfl) fun _ F193 => ?_; clear F191
      refine wpl_op (i := 7) rfl (o_new (fun g => (.pointer (some ⟨g, 0, none⟩))) [(.int .i64 0), (.slice none 0 0), (.slice none 0 0), (.slice none 0 0)] 30 F193 rfl rfl rfl rfl (by kernel_rfl) ?_)
      intro g194 w195 a200 F201 z198 z199 b196 hx197; clear F193
      refine wpl_op (i := 8) rfl (o_store (cells := [(.int .i64 sg169.index), (.slice A157 n158 c159), (.slice A160 n161 c162), (.slice A163 n164 c165)]) F201 rfl rfl rfl rfl (F201.get rfl) (F201.get rfl) b196 inf30 rfl (by simp [Value.oneCell']) ?_)
      intro w202 b203 hg204; have z205 := hg204.size
      refine qv 9 (.int .i64 (signE sd many used idx other)) F201 rfl (rn_assign (F201.get rfl)) fun _ F207 => ?_; clear F201
      refine wpList_nil ?_
      refine hK147 _ _ ?_
      clear hK147
      have F208 := ((((((((((((((F207.nil.c F207 14 rfl).c F207 13 rfl).c F207 12 rfl).c F207 11 rfl).c F207 10 rfl).c F207 9 rfl).c F207 29 rfl).c F207 19 rfl).c F207 8 rfl).c F207 4 rfl).c F207 3 rfl).c F207 2 rfl).c F207 1 rfl).c F207 0 rfl)
      clear F207
      refine wp_seq_k (fun K209 hK209 => ?_)
      refine wp_seq_k (fun K210 hK210 => ?_)
      refine wp_region_lit ?_
      refine qv 0 (.int .i64 (pubE sd many used)) F208 rfl (rn_move (F208.get rfl)) fun _ F212 => ?_; clear F208
      refine qv 1 (.bool (decide (((pubE sd many used) : Int) ≠ (0 : Int)))) F212 rfl (rn_neq (F212.get rfl) rfl) fun _ F214 => ?_; clear F212
      refine qv 2 (.bool (decide (((pubE sd many used) : Int) ≠ (0 : Int)))) F214 rfl (rn_move (F214.get rfl)) fun _ F216 => ?_; clear F214
      by_cases hc217 : ((pubE sd many used) : Int) ≠ (0 : Int)
      · skip
        refine qu 3 F216 (decide_eq_true hc217) fun _ F219 => ?_; clear F216
        refine qu 4 F219 (decide_eq_true hc217) fun _ F221 => ?_; clear F219
        refine qv 5 (.bool true) F221 rfl (rn_pickT (c_true F221 rfl (decide_eq_true hc217)) rfl) fun _ F223 => ?_; clear F221
        refine qv 6 (.bool true) F223 rfl (rn_move (F223.get rfl)) fun _ F225 => ?_; clear F223
        refine qu 7 F225 rfl fun _ F227 => ?_; clear F225
        refine qu 8 F227 rfl fun _ F229 => ?_; clear F227
        refine qv 9 (.bool true) F229 rfl (rn_pickT (c_true F229 rfl rfl) rfl) fun _ F231 => ?_; clear F229
        refine wpList_nil ?_
        refine hK210 _ _ ?_
        clear hK210
        have F232 := (((((((((((((((F231.nil.c F231 58 rfl).c F231 14 rfl).c F231 13 rfl).c F231 12 rfl).c F231 11 rfl).c F231 10 rfl).c F231 9 rfl).c F231 29 rfl).c F231 19 rfl).c F231 8 rfl).c F231 4 rfl).c F231 3 rfl).c F231 2 rfl).c F231 1 rfl).c F231 0 rfl)
        clear F231
        refine wp_cond_true (c_true F232 rfl rfl) ?_
        refine wp_seq_k (fun K233 hK233 => ?_)
        refine wp_region_lit ?_
        refine qv 0 (.int .i64 (signE sd many used idx msg)) F232 rfl (rn_move (F232.get rfl)) fun _ F235 => ?_; clear F232
        refine qv 1 (.int .i64 (signE sd many used idx other)) F235 rfl (rn_move (F235.get rfl)) fun _ F237 => ?_; clear F235
        refine qv 2 (.bool (decide (((signE sd many used idx msg) : Int) = ((signE sd many used idx other) : Int)))) F237 rfl (rn_eql (F237.get rfl) (F237.get rfl)) fun _ F239 => ?_; clear F237
        refine qv 3 (.bool (decide (((signE sd many used idx msg) : Int) = ((signE sd many used idx other) : Int)))) F239 rfl (rn_assign (F239.get rfl)) fun _ F241 => ?_; clear F239
        refine wpList_nil ?_
        refine hK233 _ _ ?_
        clear hK233
        refine wp_ret ?_
        refine ret_then ?_
        refine ret1 F241 rfl rfl ?_
        exact ⟨congrArg (fun b => Ending.returned (.bool b)) (((decide_eq_true (sign_val (by omega) (by omega))) : decide (((signE sd many used idx msg) : Int) = ((signE sd many used idx other) : Int)) = true) : decide (((signE sd many used idx msg) : Int) = ((signE sd many used idx other) : Int)) = true), ((((((((((((((Ext.refl w).trans hx5).trans hx15).trans hx29).trans hx44).trans hx60).trans hx73).grownN hg80 (by omega)).trans hx110).trans hx135).grownN hg142 (by omega)).trans hx172).trans hx197).grownN hg204 (by omega))⟩
      · skip
        refine qg 3 (.int .i64 (signE sd many used idx msg)) F216 (decide_eq_false hc217) (rn_move (F216.get rfl)) fun _ F243 => ?_; clear F216
        refine qg 4 (.bool (decide (((signE sd many used idx msg) : Int) ≠ (0 : Int)))) F243 (decide_eq_false hc217) (rn_neq (F243.get rfl) rfl) fun _ F245 => ?_; clear F243
        refine qv 5 (.bool (decide (((signE sd many used idx msg) : Int) ≠ (0 : Int)))) F245 rfl (rn_pickF (c_false F245 rfl (decide_eq_false hc217)) (F245.get rfl)) fun _ F247 => ?_; clear F245
        refine qv 6 (.bool (decide (((signE sd many used idx msg) : Int) ≠ (0 : Int)))) F247 rfl (rn_move (F247.get rfl)) fun _ F249 => ?_; clear F247
        by_cases hc250 : ((signE sd many used idx msg) : Int) ≠ (0 : Int)
        · skip
          refine qu 7 F249 (decide_eq_true hc250) fun _ F252 => ?_; clear F249
          refine qu 8 F252 (decide_eq_true hc250) fun _ F254 => ?_; clear F252
          refine qv 9 (.bool true) F254 rfl (rn_pickT (c_true F254 rfl (decide_eq_true hc250)) rfl) fun _ F256 => ?_; clear F254
          refine wpList_nil ?_
          refine hK210 _ _ ?_
          clear hK210
          have F257 := (((((((((((((((F256.nil.c F256 58 rfl).c F256 14 rfl).c F256 13 rfl).c F256 12 rfl).c F256 11 rfl).c F256 10 rfl).c F256 9 rfl).c F256 29 rfl).c F256 19 rfl).c F256 8 rfl).c F256 4 rfl).c F256 3 rfl).c F256 2 rfl).c F256 1 rfl).c F256 0 rfl)
          clear F256
          refine wp_cond_true (c_true F257 rfl rfl) ?_
          refine wp_seq_k (fun K258 hK258 => ?_)
          refine wp_region_lit ?_
          refine qv 0 (.int .i64 (signE sd many used idx msg)) F257 rfl (rn_move (F257.get rfl)) fun _ F260 => ?_; clear F257
          refine qv 1 (.int .i64 (signE sd many used idx other)) F260 rfl (rn_move (F260.get rfl)) fun _ F262 => ?_; clear F260
          refine qv 2 (.bool (decide (((signE sd many used idx msg) : Int) = ((signE sd many used idx other) : Int)))) F262 rfl (rn_eql (F262.get rfl) (F262.get rfl)) fun _ F264 => ?_; clear F262
          refine qv 3 (.bool (decide (((signE sd many used idx msg) : Int) = ((signE sd many used idx other) : Int)))) F264 rfl (rn_assign (F264.get rfl)) fun _ F266 => ?_; clear F264
          refine wpList_nil ?_
          refine hK258 _ _ ?_
          clear hK258
          refine wp_ret ?_
          refine ret_then ?_
          refine ret1 F266 rfl rfl ?_
          exact ⟨congrArg (fun b => Ending.returned (.bool b)) (((decide_eq_true (sign_val (by omega) (by omega))) : decide (((signE sd many used idx msg) : Int) = ((signE sd many used idx other) : Int)) = true) : decide (((signE sd many used idx msg) : Int) = ((signE sd many used idx other) : Int)) = true), ((((((((((((((Ext.refl w).trans hx5).trans hx15).trans hx29).trans hx44).trans hx60).trans hx73).grownN hg80 (by omega)).trans hx110).trans hx135).grownN hg142 (by omega)).trans hx172).trans hx197).grownN hg204 (by omega))⟩
        · skip
          refine qg 7 (.int .i64 (signE sd many used idx other)) F249 (decide_eq_false hc250) (rn_move (F249.get rfl)) fun _ F268 => ?_; clear F249
          refine qg 8 (.bool (decide (((signE sd many used idx other) : Int) ≠ (0 : Int)))) F268 (decide_eq_false hc250) (rn_neq (F268.get rfl) rfl) fun _ F270 => ?_; clear F268
          refine qv 9 (.bool (decide (((signE sd many used idx other) : Int) ≠ (0 : Int)))) F270 rfl (rn_pickF (c_false F270 rfl (decide_eq_false hc250)) (F270.get rfl)) fun _ F272 => ?_; clear F270
          refine wpList_nil ?_
          refine hK210 _ _ ?_
          clear hK210
          have F273 := (((((((((((((((F272.nil.c F272 58 rfl).c F272 14 rfl).c F272 13 rfl).c F272 12 rfl).c F272 11 rfl).c F272 10 rfl).c F272 9 rfl).c F272 29 rfl).c F272 19 rfl).c F272 8 rfl).c F272 4 rfl).c F272 3 rfl).c F272 2 rfl).c F272 1 rfl).c F272 0 rfl)
          clear F272
          by_cases hc274 : ((signE sd many used idx other) : Int) ≠ (0 : Int)
          · skip
            refine wp_cond_true (c_true F273 rfl (decide_eq_true hc274)) ?_
            refine wp_seq_k (fun K275 hK275 => ?_)
            refine wp_region_lit ?_
            refine qv 0 (.int .i64 (signE sd many used idx msg)) F273 rfl (rn_move (F273.get rfl)) fun _ F277 => ?_; clear F273
            refine qv 1 (.int .i64 (signE sd many used idx other)) F277 rfl (rn_move (F277.get rfl)) fun _ F279 => ?_; clear F277
            refine qv 2 (.bool (decide (((signE sd many used idx msg) : Int) = ((signE sd many used idx other) : Int)))) F279 rfl (rn_eql (F279.get rfl) (F279.get rfl)) fun _ F281 => ?_; clear F279
            refine qv 3 (.bool (decide (((signE sd many used idx msg) : Int) = ((signE sd many used idx other) : Int)))) F281 rfl (rn_assign (F281.get rfl)) fun _ F283 => ?_; clear F281
            refine wpList_nil ?_
            refine hK275 _ _ ?_
            clear hK275
            refine wp_ret ?_
            refine ret_then ?_
            refine ret1 F283 rfl rfl ?_
            exact ⟨congrArg (fun b => Ending.returned (.bool b)) (((decide_eq_true (sign_val (by omega) (by omega))) : decide (((signE sd many used idx msg) : Int) = ((signE sd many used idx other) : Int)) = true) : decide (((signE sd many used idx msg) : Int) = ((signE sd many used idx other) : Int)) = true), ((((((((((((((Ext.refl w).trans hx5).trans hx15).trans hx29).trans hx44).trans hx60).trans hx73).grownN hg80 (by omega)).trans hx110).trans hx135).grownN hg142 (by omega)).trans hx172).trans hx197).grownN hg204 (by omega))⟩
          · skip
            refine wp_cond_false (c_false F273 rfl (decide_eq_false hc274)) ?_
            refine wp_skip ?_
            refine hK209 _ _ ?_
            clear hK209
            refine wp_seq_k (fun K284 hK284 => ?_)
            have hz1 : signE sd many used idx msg = 0 := (show signE sd many used idx msg = 0 from (by have hq := of_decide_eq_false (decide_eq_false hc250); omega))
            have hl1 := sign_len hz1
            rw [← hsg108] at hl1
            have hp1 := sign_path hz1
            rw [← hsg108] at hp1
            have hz2 : signE sd many used idx other = 0 := (show signE sd many used idx other = 0 from (by have hq := of_decide_eq_false (decide_eq_false hc274); omega))
            have hl2 := sign_len hz2
            rw [← hsg170] at hl2
            have hp2 := sign_path hz2
            rw [← hsg170] at hp2
            have hx286 : ∃ W, w202.drew = W ∧ Ext w202 W := ⟨_, rfl, (Ext.refl _).drew⟩
            obtain ⟨w285, e287, hx286⟩ := hx286
            have z288 := hx286.size
            refine any_start (fun W => Ext w285 W ∧ Blk W g70 37 (byteVals (pubF sd many used)) ∧ Blk W g132 30 [(.int .i64 sg107.index), (.slice A95 n96 c97), (.slice A98 n99 c100), (.slice A101 n102 c103)] ∧ Blk W g194 30 [(.int .i64 sg169.index), (.slice A157 n158 c159), (.slice A160 n161 c162), (.slice A163 n164 c165)]) (fun i => false) 12 #[false, false, false, false, false, false, false, false, false, false, false, false] rfl rfl rfl ?_
            rw [e287]; clear e287
            have b290 := (((((((b79.ext hx110).ext hx135).grownN hg142 (by omega)).ext hx172).ext hx197).grownN hg204 (by omega)).ext hx286)
            have b291 := ((((b141.ext hx172).ext hx197).grownN hg204 (by omega)).ext hx286)
            have b292 := (b203.ext hx286)
            have hS289 : Ext w285 w285 ∧ Blk w285 g70 37 (byteVals (pubF sd many used)) ∧ Blk w285 g132 30 [(.int .i64 sg107.index), (.slice A95 n96 c97), (.slice A98 n99 c100), (.slice A101 n102 c103)] ∧ Blk w285 g194 30 [(.int .i64 sg169.index), (.slice A157 n158 c159), (.slice A160 n161 c162), (.slice A163 n164 c165)] := ⟨(Ext.refl w285), b290, b291, b292⟩
            refine qs 0 (.agg (byteVals (pubF sd many used)).toArray) F273 rfl rfl hS289 (fun W hW => (rn_loadBlk (F273.get rfl) hW.2.1 Tryd.underlying37 rfl (inf37.trans (congrArg some (byteVals_len (pubF_len _ _ _)).symm)))) fun _ F294 => ?_; clear F273
            refine qp 1 (.pointer (some ⟨g132, 0, none⟩)) F294 rfl rfl (fun W => (rn_field Tryd.underlying30 rfl (by kernel_rfl) (F294.get rfl) rfl)) fun _ F296 => ?_; clear F294
            refine qs 2 (.int .i64 sg107.index) F296 rfl rfl hS289 (fun W hW => (rn_load (isAgg_no Tryd.underlying3 rfl) (F296.get rfl) (hW.2.2.1.rule.1 0))) fun _ F298 => ?_; clear F296
            refine qp 3 (.slice B msg.length bc) F298 rfl rfl (fun W => (rn_move (F298.get rfl))) fun _ F300 => ?_; clear F298
            refine qs 5 (.agg (byteVals (pubF sd many used)).toArray) F300 rfl rfl hS289 (fun W hW => (rn_loadBlk (F300.get rfl) hW.2.1 Tryd.underlying37 rfl (inf37.trans (congrArg some (byteVals_len (pubF_len _ _ _)).symm)))) fun _ F302 => ?_; clear F300
            refine qp 6 (.pointer (some ⟨g194, 0, none⟩)) F302 rfl rfl (fun W => (rn_field Tryd.underlying30 rfl (by kernel_rfl) (F302.get rfl) rfl)) fun _ F304 => ?_; clear F302
            refine qs 7 (.int .i64 sg169.index) F304 rfl rfl hS289 (fun W hW => (rn_load (isAgg_no Tryd.underlying3 rfl) (F304.get rfl) (hW.2.2.2.rule.1 0))) fun _ F306 => ?_; clear F304
            refine qp 8 (.slice C other.length cc) F306 rfl rfl (fun W => (rn_move (F306.get rfl))) fun _ F308 => ?_; clear F306
            refine any_one (i := 4) (by decide +kernel) rfl ?_
            have d309 := (hmk.pres (((((((((((((((Pres.refl w).ext hx5).ext hx15).ext hx29).ext hx44).ext hx60).ext hx73).grownN hg80 (fun h => by simp only [Clip] at h; omega)).ext hx110).ext hx135).grownN hg142 (fun h => by simp only [Clip] at h; omega)).ext hx172).ext hx197).grownN hg204 (fun h => by simp only [Clip] at h; omega)).ext hx286))
            refine o_call F308 rfl rfl rfl rfl (rn_call (args3 (F308.get rfl) (F308.get rfl) (F308.get rfl)) rfl (by kernel_rfl)) (bits_at (v := (.slice B msg.length bc)) (m := msg.length) (pubF sd many used) sg107.index msg _ (pubF_len _ _ _) d309 (hG.ext (((((((((((((((Ext.refl w).trans hx5).trans hx15).trans hx29).trans hx44).trans hx60).trans hx73).grownN hg80 (by omega)).trans hx110).trans hx135).grownN hg142 (by omega)).trans hx172).trans hx197).grownN hg204 (by omega)).trans hx286)) (by omega)) ?_
            rintro _ w316 ⟨A310, n311, c312, rfl, hf313, hx317⟩
            have z314 := (Fl.cel hf313).2.1; have z315 := Fl.blen2 hf313
            refine ⟨_, rfl, ?_⟩; intro a318 F319; clear F308; have z320 := hx317.size
            have hf321 : Fl (Clip (fun b => w285.heap.size ≤ b) w316) w316 1 (.slice A310 n311 c312) n311 (boolVals (bitsR (pubF sd many used) sg107.index msg)) := hf313.clip
            have b322 := (b290.ext hx317)
            have b323 := (b291.ext hx317)
            have b324 := (b292.ext hx317)
            refine ⟨fun _ _ => ⟨((Ext.refl w285).trans hx317), b322, b323, b324⟩, ?_⟩
            refine any_one (i := 9) (by decide +kernel) rfl ?_
            have d325 := (hok.pres ((((((((((((((((Pres.refl w).ext hx5).ext hx15).ext hx29).ext hx44).ext hx60).ext hx73).grownN hg80 (fun h => by simp only [Clip] at h; omega)).ext hx110).ext hx135).grownN hg142 (fun h => by simp only [Clip] at h; omega)).ext hx172).ext hx197).grownN hg204 (fun h => by simp only [Clip] at h; omega)).ext hx286).ext hx317))
            refine o_call F319 rfl rfl rfl rfl (rn_call (args3 (F319.get rfl) (F319.get rfl) (F319.get rfl)) rfl (by kernel_rfl)) (bits_at (v := (.slice C other.length cc)) (m := other.length) (pubF sd many used) sg169.index other _ (pubF_len _ _ _) d325 (hG.ext ((((((((((((((((Ext.refl w).trans hx5).trans hx15).trans hx29).trans hx44).trans hx60).trans hx73).grownN hg80 (by omega)).trans hx110).trans hx135).grownN hg142 (by omega)).trans hx172).trans hx197).grownN hg204 (by omega)).trans hx286).trans hx317)) (by omega)) ?_
            rintro _ w332 ⟨A326, n327, c328, rfl, hf329, hx333⟩
            have z330 := (Fl.cel hf329).2.1; have z331 := Fl.blen2 hf329
            refine ⟨_, rfl, ?_⟩; intro a334 F335; clear F319; have z336 := hx333.size
            have hf337 : Fl (Clip (fun b => w316.heap.size ≤ b) w332) w332 1 (.slice A326 n327 c328) n327 (boolVals (bitsR (pubF sd many used) sg169.index other)) := hf329.clip
            have b338 := (b322.ext hx333)
            have b339 := (b323.ext hx333)
            have b340 := (b324.ext hx333)
            refine ⟨fun _ _ => ⟨(((Ext.refl w285).trans hx317).trans hx333), b338, b339, b340⟩, ?_⟩
            refine qp 10 (.slice A310 n311 c312) F335 rfl rfl (fun W => (rn_assign (F335.get rfl))) fun _ F342 => ?_; clear F335
            refine qp 11 (.slice A326 n327 c328) F342 rfl rfl (fun W => (rn_assign (F342.get rfl))) fun _ F344 => ?_; clear F342
            refine any_nil (by decide +kernel) ?_
            refine hK284 _ _ ?_
            clear hK284
            have F345 := (((((((((((((((((F344.nil.c F344 16 rfl).c F344 15 rfl).c F344 58 rfl).c F344 14 rfl).c F344 13 rfl).c F344 12 rfl).c F344 11 rfl).c F344 10 rfl).c F344 9 rfl).c F344 29 rfl).c F344 19 rfl).c F344 8 rfl).c F344 4 rfl).c F344 3 rfl).c F344 2 rfl).c F344 1 rfl).c F344 0 rfl)
            clear F344
            refine wp_seq_k (fun K346 hK346 => ?_)
            refine wp_seq_k (fun K347 hK347 => ?_)
            have hb1 := bits_len (other := msg) hz1
            rw [← hsg108] at hb1
            have hb2 := bits_len (other := other) hz2
            rw [← hsg170] at hb2
            refine wp_region_lit ?_
            refine qv 0 (.pointer (some ⟨g132, 0, none⟩)) F345 rfl (rn_field Tryd.underlying30 rfl (by kernel_rfl) (F345.get rfl) rfl) fun _ F349 => ?_; clear F345
            refine qv 1 (.int .i64 sg107.index) F349 rfl (rn_load (isAgg_no Tryd.underlying3 rfl) (F349.get rfl) (b339.rule.1 0)) fun _ F351 => ?_; clear F349
            refine qv 2 (.pointer (some ⟨g194, 0, none⟩)) F351 rfl (rn_field Tryd.underlying30 rfl (by kernel_rfl) (F351.get rfl) rfl) fun _ F353 => ?_; clear F351
            refine qv 3 (.int .i64 sg169.index) F353 rfl (rn_load (isAgg_no Tryd.underlying3 rfl) (F353.get rfl) (b340.rule.1 0)) fun _ F355 => ?_; clear F353
            refine qv 4 (.bool (decide ((sg107.index : Int) ≠ (sg169.index : Int)))) F355 rfl (rn_neq (F355.get rfl) (F355.get rfl)) fun _ F357 => ?_; clear F355
            refine qv 5 (.bool (decide ((sg107.index : Int) ≠ (sg169.index : Int)))) F357 rfl (rn_move (F357.get rfl)) fun _ F359 => ?_; clear F357
            refine qg 6 (.slice A310 n311 c312) F359 ((decide_eq_false (by omega)) : decide ((sg107.index : Int) ≠ (sg169.index : Int)) = false) (rn_move (F359.get rfl)) fun _ F362 => ?_; clear F359
            refine qg 7 (.int .i64 (n311 : Nat)) F362 ((decide_eq_false (by omega)) : decide ((sg107.index : Int) ≠ (sg169.index : Int)) = false) (rn_len_slice Tryd.underlying44 (F362.get rfl)) fun _ F364 => ?_; clear F362
            refine qg 8 (.bool (decide (((n311 : Nat) : Int) ≠ (64 : Int)))) F364 ((decide_eq_false (by omega)) : decide ((sg107.index : Int) ≠ (sg169.index : Int)) = false) (rn_neq (F364.get rfl) rfl) fun _ F366 => ?_; clear F364
            refine qv 9 (.bool (decide (((n311 : Nat) : Int) ≠ (64 : Int)))) F366 rfl (rn_pickF (c_false F366 rfl ((decide_eq_false (by omega)) : decide ((sg107.index : Int) ≠ (sg169.index : Int)) = false)) (F366.get rfl)) fun _ F368 => ?_; clear F366
            refine qv 10 (.bool (decide (((n311 : Nat) : Int) ≠ (64 : Int)))) F368 rfl (rn_move (F368.get rfl)) fun _ F370 => ?_; clear F368
            refine qg 11 (.slice A326 n327 c328) F370 ((decide_eq_false (by omega)) : decide (((n311 : Nat) : Int) ≠ (64 : Int)) = false) (rn_move (F370.get rfl)) fun _ F373 => ?_; clear F370
            refine qg 12 (.int .i64 (n327 : Nat)) F373 ((decide_eq_false (by omega)) : decide (((n311 : Nat) : Int) ≠ (64 : Int)) = false) (rn_len_slice Tryd.underlying44 (F373.get rfl)) fun _ F375 => ?_; clear F373
            refine qg 13 (.bool (decide (((n327 : Nat) : Int) ≠ (64 : Int)))) F375 ((decide_eq_false (by omega)) : decide (((n311 : Nat) : Int) ≠ (64 : Int)) = false) (rn_neq (F375.get rfl) rfl) fun _ F377 => ?_; clear F375
            refine qv 14 (.bool (decide (((n327 : Nat) : Int) ≠ (64 : Int)))) F377 rfl (rn_pickF (c_false F377 rfl ((decide_eq_false (by omega)) : decide (((n311 : Nat) : Int) ≠ (64 : Int)) = false)) (F377.get rfl)) fun _ F379 => ?_; clear F377
            refine qv 15 (.bool (decide (((n327 : Nat) : Int) ≠ (64 : Int)))) F379 rfl (rn_move (F379.get rfl)) fun _ F381 => ?_; clear F379
            refine qg 16 (.pointer (some ⟨g132, 1, none⟩)) F381 ((decide_eq_false (by omega)) : decide (((n327 : Nat) : Int) ≠ (64 : Int)) = false) (rn_field Tryd.underlying30 rfl (by kernel_rfl) (F381.get rfl) rfl) fun _ F384 => ?_; clear F381
            refine qg 17 (.slice A95 n96 c97) F384 ((decide_eq_false (by omega)) : decide (((n327 : Nat) : Int) ≠ (64 : Int)) = false) (rn_load (isAgg_no Tryd.underlying28 rfl) (F384.get rfl) (b339.rule.1 1)) fun _ F386 => ?_; clear F384
            refine qg 18 (.int .i64 (n96 : Nat)) F386 ((decide_eq_false (by omega)) : decide (((n327 : Nat) : Int) ≠ (64 : Int)) = false) (rn_len_slice Tryd.underlying28 (F386.get rfl)) fun _ F388 => ?_; clear F386
            refine qg 19 (.bool (decide (((n96 : Nat) : Int) ≠ (64 : Int)))) F388 ((decide_eq_false (by omega)) : decide (((n327 : Nat) : Int) ≠ (64 : Int)) = false) (rn_neq (F388.get rfl) rfl) fun _ F390 => ?_; clear F388
            refine qv 20 (.bool (decide (((n96 : Nat) : Int) ≠ (64 : Int)))) F390 rfl (rn_pickF (c_false F390 rfl ((decide_eq_false (by omega)) : decide (((n327 : Nat) : Int) ≠ (64 : Int)) = false)) (F390.get rfl)) fun _ F392 => ?_; clear F390
            refine qv 21 (.bool (decide (((n96 : Nat) : Int) ≠ (64 : Int)))) F392 rfl (rn_move (F392.get rfl)) fun _ F394 => ?_; clear F392
            refine qg 22 (.pointer (some ⟨g194, 1, none⟩)) F394 ((decide_eq_false (by omega)) : decide (((n96 : Nat) : Int) ≠ (64 : Int)) = false) (rn_field Tryd.underlying30 rfl (by kernel_rfl) (F394.get rfl) rfl) fun _ F397 => ?_; clear F394
            refine qg 23 (.slice A157 n158 c159) F397 ((decide_eq_false (by omega)) : decide (((n96 : Nat) : Int) ≠ (64 : Int)) = false) (rn_load (isAgg_no Tryd.underlying28 rfl) (F397.get rfl) (b340.rule.1 1)) fun _ F399 => ?_; clear F397
            refine qg 24 (.int .i64 (n158 : Nat)) F399 ((decide_eq_false (by omega)) : decide (((n96 : Nat) : Int) ≠ (64 : Int)) = false) (rn_len_slice Tryd.underlying28 (F399.get rfl)) fun _ F401 => ?_; clear F399
            refine qg 25 (.bool (decide (((n158 : Nat) : Int) ≠ (64 : Int)))) F401 ((decide_eq_false (by omega)) : decide (((n96 : Nat) : Int) ≠ (64 : Int)) = false) (rn_neq (F401.get rfl) rfl) fun _ F403 => ?_; clear F401
            refine qv 26 (.bool (decide (((n158 : Nat) : Int) ≠ (64 : Int)))) F403 rfl (rn_pickF (c_false F403 rfl ((decide_eq_false (by omega)) : decide (((n96 : Nat) : Int) ≠ (64 : Int)) = false)) (F403.get rfl)) fun _ F405 => ?_; clear F403
            refine qv 27 (.bool (decide (((n158 : Nat) : Int) ≠ (64 : Int)))) F405 rfl (rn_move (F405.get rfl)) fun _ F407 => ?_; clear F405
            refine qg 28 (.pointer (some ⟨g132, 2, none⟩)) F407 ((decide_eq_false (by omega)) : decide (((n158 : Nat) : Int) ≠ (64 : Int)) = false) (rn_field Tryd.underlying30 rfl (by kernel_rfl) (F407.get rfl) rfl) fun _ F410 => ?_; clear F407
            refine qg 29 (.slice A98 n99 c100) F410 ((decide_eq_false (by omega)) : decide (((n158 : Nat) : Int) ≠ (64 : Int)) = false) (rn_load (isAgg_no Tryd.underlying28 rfl) (F410.get rfl) (b339.rule.1 2)) fun _ F412 => ?_; clear F410
            refine qg 30 (.int .i64 (n99 : Nat)) F412 ((decide_eq_false (by omega)) : decide (((n158 : Nat) : Int) ≠ (64 : Int)) = false) (rn_len_slice Tryd.underlying28 (F412.get rfl)) fun _ F414 => ?_; clear F412
            refine qg 31 (.bool (decide (((n99 : Nat) : Int) ≠ (64 : Int)))) F414 ((decide_eq_false (by omega)) : decide (((n158 : Nat) : Int) ≠ (64 : Int)) = false) (rn_neq (F414.get rfl) rfl) fun _ F416 => ?_; clear F414
            refine qv 32 (.bool (decide (((n99 : Nat) : Int) ≠ (64 : Int)))) F416 rfl (rn_pickF (c_false F416 rfl ((decide_eq_false (by omega)) : decide (((n158 : Nat) : Int) ≠ (64 : Int)) = false)) (F416.get rfl)) fun _ F418 => ?_; clear F416
            refine qv 33 (.bool (decide (((n99 : Nat) : Int) ≠ (64 : Int)))) F418 rfl (rn_move (F418.get rfl)) fun _ F420 => ?_; clear F418
            refine qg 34 (.pointer (some ⟨g194, 2, none⟩)) F420 ((decide_eq_false (by omega)) : decide (((n99 : Nat) : Int) ≠ (64 : Int)) = false) (rn_field Tryd.underlying30 rfl (by kernel_rfl) (F420.get rfl) rfl) fun _ F423 => ?_; clear F420
            refine qg 35 (.slice A160 n161 c162) F423 ((decide_eq_false (by omega)) : decide (((n99 : Nat) : Int) ≠ (64 : Int)) = false) (rn_load (isAgg_no Tryd.underlying28 rfl) (F423.get rfl) (b340.rule.1 2)) fun _ F425 => ?_; clear F423
            refine qg 36 (.int .i64 (n161 : Nat)) F425 ((decide_eq_false (by omega)) : decide (((n99 : Nat) : Int) ≠ (64 : Int)) = false) (rn_len_slice Tryd.underlying28 (F425.get rfl)) fun _ F427 => ?_; clear F425
            refine qg 37 (.bool (decide (((n161 : Nat) : Int) ≠ (64 : Int)))) F427 ((decide_eq_false (by omega)) : decide (((n99 : Nat) : Int) ≠ (64 : Int)) = false) (rn_neq (F427.get rfl) rfl) fun _ F429 => ?_; clear F427
            refine qv 38 (.bool (decide (((n161 : Nat) : Int) ≠ (64 : Int)))) F429 rfl (rn_pickF (c_false F429 rfl ((decide_eq_false (by omega)) : decide (((n99 : Nat) : Int) ≠ (64 : Int)) = false)) (F429.get rfl)) fun _ F431 => ?_; clear F429
            refine qv 39 (.bool (decide (((n161 : Nat) : Int) ≠ (64 : Int)))) F431 rfl (rn_move (F431.get rfl)) fun _ F433 => ?_; clear F431
            refine qg 40 (.pointer (some ⟨g132, 3, none⟩)) F433 ((decide_eq_false (by omega)) : decide (((n161 : Nat) : Int) ≠ (64 : Int)) = false) (rn_field Tryd.underlying30 rfl (by kernel_rfl) (F433.get rfl) rfl) fun _ F436 => ?_; clear F433
            refine qg 41 (.slice A101 n102 c103) F436 ((decide_eq_false (by omega)) : decide (((n161 : Nat) : Int) ≠ (64 : Int)) = false) (rn_load (isAgg_no Tryd.underlying28 rfl) (F436.get rfl) (b339.rule.1 3)) fun _ F438 => ?_; clear F436
            refine qg 42 (.pointer (some ⟨g194, 3, none⟩)) F438 ((decide_eq_false (by omega)) : decide (((n161 : Nat) : Int) ≠ (64 : Int)) = false) (rn_field Tryd.underlying30 rfl (by kernel_rfl) (F438.get rfl) rfl) fun _ F440 => ?_; clear F438
            refine qg 43 (.slice A163 n164 c165) F440 ((decide_eq_false (by omega)) : decide (((n161 : Nat) : Int) ≠ (64 : Int)) = false) (rn_load (isAgg_no Tryd.underlying28 rfl) (F440.get rfl) (b340.rule.1 3)) fun _ F442 => ?_; clear F440
            have d443 := (hf125.pres (((((((((Pres.refl w109).ext hx135).grownN hg142 (fun h => by simp only [Clip] at h; omega)).ext hx172).ext hx197).grownN hg204 (fun h => by simp only [Clip] at h; omega)).ext hx286).ext hx317).ext hx333))
            have d444 := (hf187.pres ((((((Pres.refl w171).ext hx197).grownN hg204 (fun h => by simp only [Clip] at h; omega)).ext hx286).ext hx317).ext hx333))
            refine wpl_op (i := 44) rfl (o_call F442 rfl (wanted_guard rfl rfl rfl F442 rfl ((decide_eq_false (by omega)) : decide (((n161 : Nat) : Int) ≠ (64 : Int)) = false) rfl) rfl rfl (rn_call (args2 (F442.get rfl) (F442.get rfl)) rfl (by kernel_rfl)) (samed_at sg107.path sg169.path _ h32117 h32179 d443 d444) ?_)
            rintro _ w445 ⟨rfl, hx446⟩
            refine ⟨_, rfl, ?_⟩; intro a447 F448; clear F442; have z449 := hx446.size
            refine qg 45 (.bool (!(decide (sg107.path = sg169.path)))) F448 ((decide_eq_false (by omega)) : decide (((n161 : Nat) : Int) ≠ (64 : Int)) = false) (rn_not' (F448.get rfl) rfl) fun _ F451 => ?_; clear F448
            refine qv 46 (.bool (!(decide (sg107.path = sg169.path)))) F451 rfl (rn_pickF (c_false F451 rfl ((decide_eq_false (by omega)) : decide (((n161 : Nat) : Int) ≠ (64 : Int)) = false)) (F451.get rfl)) fun _ F453 => ?_; clear F451
            refine wpList_nil ?_
            refine hK347 _ _ ?_
            clear hK347
            have F454 := ((((((((((((((((((F453.nil.c F453 118 rfl).c F453 16 rfl).c F453 15 rfl).c F453 58 rfl).c F453 14 rfl).c F453 13 rfl).c F453 12 rfl).c F453 11 rfl).c F453 10 rfl).c F453 9 rfl).c F453 29 rfl).c F453 19 rfl).c F453 8 rfl).c F453 4 rfl).c F453 3 rfl).c F453 2 rfl).c F453 1 rfl).c F453 0 rfl)
            clear F453
            refine wp_cond_false (c_false F454 rfl (not_t ((decide_eq_true (by rw [hsg108, hsg170]; exact opens_path hz1 hz2)) : decide (sg107.path = sg169.path) = true))) ?_
            refine wp_skip ?_
            refine hK346 _ _ ?_
            clear hK346
            refine wp_seq_k (fun K456 hK456 => ?_)
            refine wp_seq_k (fun K457 hK457 => ?_)
            refine wp_region_lit ?_
            refine qv 0 (.int .i64 0) F454 rfl (rn_assign rfl) fun _ F459 => ?_; clear F454
            refine wpList_nil ?_
            refine hK457 _ _ ?_
            clear hK457
            refine wp_block ?_
            have d460 := (hf123.pres ((((((((((Pres.refl w109).ext hx135).grownN hg142 (fun h => by simp only [Clip] at h; omega)).ext hx172).ext hx197).grownN hg204 (fun h => by simp only [Clip] at h; omega)).ext hx286).ext hx317).ext hx333).ext hx446))
            have d461 := (hf124.pres ((((((((((Pres.refl w109).ext hx135).grownN hg142 (fun h => by simp only [Clip] at h; omega)).ext hx172).ext hx197).grownN hg204 (fun h => by simp only [Clip] at h; omega)).ext hx286).ext hx317).ext hx333).ext hx446))
            have d462 := (hf125.pres ((((((((((Pres.refl w109).ext hx135).grownN hg142 (fun h => by simp only [Clip] at h; omega)).ext hx172).ext hx197).grownN hg204 (fun h => by simp only [Clip] at h; omega)).ext hx286).ext hx317).ext hx333).ext hx446))
            have d463 := (hf185.pres (((((((Pres.refl w171).ext hx197).grownN hg204 (fun h => by simp only [Clip] at h; omega)).ext hx286).ext hx317).ext hx333).ext hx446))
            have d464 := (hf186.pres (((((((Pres.refl w171).ext hx197).grownN hg204 (fun h => by simp only [Clip] at h; omega)).ext hx286).ext hx317).ext hx333).ext hx446))
            have d465 := (hf187.pres (((((((Pres.refl w171).ext hx197).grownN hg204 (fun h => by simp only [Clip] at h; omega)).ext hx286).ext hx317).ext hx333).ext hx446))
            have d466 := ((hf321.ext hx333).ext hx446)
            have d467 := (hf337.ext hx446)
            have b468 := (((((((b148.ext hx172).ext hx197).grownN hg204 (by omega)).ext hx286).ext hx317).ext hx333).ext hx446)
            have b469 := (b338.ext hx446)
            have b470 := (b339.ext hx446)
            have b471 := (b340.ext hx446)
            refine wp_loop (fun a' W => ∃ (k : Nat), Sl 195 [(0, (.agg #[(.slice A sd.length c), (.int .i64 many), (.int .i64 used)])), (1, (.int .i64 idx)), (2, (.slice B msg.length bc)), (3, (.slice C other.length cc)), (4, (.pointer (some ⟨g2, 0, none⟩))), (8, (.bool false)), (19, (.bool false)), (29, (.bool (!(decide (((many ≤ 2 ∧ ((sd.length : Nat) : Int) ≤ 100) ∧ ((other.length : Nat) : Int) ≤ 300)))))), (9, (.pointer (some ⟨g70, 0, none⟩))), (10, (.int .i64 (pubE sd many used))), (11, (.pointer (some ⟨g132, 0, none⟩))), (12, (.int .i64 (signE sd many used idx msg))), (13, (.pointer (some ⟨g194, 0, none⟩))), (14, (.int .i64 (signE sd many used idx other))), (58, (.bool (decide (((signE sd many used idx other) : Int) ≠ (0 : Int))))), (15, (.slice A310 n311 c312)), (16, (.slice A326 n327 c328)), (118, (.bool (!(decide (sg107.path = sg169.path))))), (17, (.int .i64 (k : Nat)))] a' ∧ k ≤ 64 ∧ Ext w W ∧ Blk W g2 24 [(.slice A sd.length c), (.int .i64 many), (.int .i64 used)] ∧ Blk W g70 37 (byteVals (pubF sd many used)) ∧ Blk W g132 30 [(.int .i64 sg107.index), (.slice A95 n96 c97), (.slice A98 n99 c100), (.slice A101 n102 c103)] ∧ Blk W g194 30 [(.int .i64 sg169.index), (.slice A157 n158 c159), (.slice A160 n161 c162), (.slice A163 n164 c165)] ∧ Fl (Clip (fun b => w78.heap.size ≤ b) w109) W 32 (.slice A95 n96 c97) n96 (digVals sg107.op) ∧ Fl (Clip (fun b => w78.heap.size ≤ b) w109) W 32 (.slice A98 n99 c100) n99 (digVals sg107.cl) ∧ Fl (Clip (fun b => w78.heap.size ≤ b) w109) W 32 (.slice A101 n102 c103) n102 (digVals sg107.path) ∧ Fl (Clip (fun b => w140.heap.size ≤ b) w171) W 32 (.slice A157 n158 c159) n158 (digVals sg169.op) ∧ Fl (Clip (fun b => w140.heap.size ≤ b) w171) W 32 (.slice A160 n161 c162) n161 (digVals sg169.cl) ∧ Fl (Clip (fun b => w140.heap.size ≤ b) w171) W 32 (.slice A163 n164 c165) n164 (digVals sg169.path) ∧ Fl (Clip (fun b => w285.heap.size ≤ b) w316) W 1 (.slice A310 n311 c312) n311 (boolVals (bitsR (pubF sd many used) sg107.index msg)) ∧ Fl (Clip (fun b => w316.heap.size ≤ b) w332) W 1 (.slice A326 n327 c328) n327 (boolVals (bitsR (pubF sd many used) sg169.index other)) ∧ w445.heap.size ≤ W.heap.size) (fun a' _ => 64 - (intOf (a'.eval (.tmp 17))).toNat) ⟨0, (((((((((((((((((((F459.nil.cons (q_get F459 (t := 17) rfl (by first | rfl | (congr 1; omega) | (congr 1; done)))).cons (q_get F459 (t := 118) rfl rfl)).cons (q_get F459 (t := 16) rfl rfl)).cons (q_get F459 (t := 15) rfl rfl)).cons (q_get F459 (t := 58) rfl rfl)).cons (q_get F459 (t := 14) rfl rfl)).cons (q_get F459 (t := 13) rfl rfl)).cons (q_get F459 (t := 12) rfl rfl)).cons (q_get F459 (t := 11) rfl rfl)).cons (q_get F459 (t := 10) rfl rfl)).cons (q_get F459 (t := 9) rfl rfl)).cons (q_get F459 (t := 29) rfl rfl)).cons (q_get F459 (t := 19) rfl rfl)).cons (q_get F459 (t := 8) rfl rfl)).cons (q_get F459 (t := 4) rfl rfl)).cons (q_get F459 (t := 3) rfl rfl)).cons (q_get F459 (t := 2) rfl rfl)).cons (q_get F459 (t := 1) rfl rfl)).cons (q_get F459 (t := 0) rfl rfl)), (by omega), ((((((((((((((((((Ext.refl w).trans hx5).trans hx15).trans hx29).trans hx44).trans hx60).trans hx73).grownN hg80 (by omega)).trans hx110).trans hx135).grownN hg142 (by omega)).trans hx172).trans hx197).grownN hg204 (by omega)).trans hx286).trans hx317).trans hx333).trans hx446), b468, b469, b470, b471, d460, d461, d462, d463, d464, d465, d466, d467, (Nat.le_refl _)⟩ ?_
            clear F459
            rintro a472 w473 ⟨k, F474, hp476, hx475, b477, b478, b479, b480, hf481, hf482, hf483, hf484, hf485, hf486, hf487, hf488, hf489⟩
            have hL490 := F474
            have z491 := hx475.size
            have z492 := b477.lt
            have z493 := b478.lt
            have z494 := b479.lt
            have z495 := b480.lt
            refine wp_seq_k (fun K496 hK496 => ?_)
            refine wp_seq_k (fun K497 hK497 => ?_)
            refine wp_region_lit ?_
            refine qv 0 (.int .i64 (k : Nat)) F474 rfl (rn_move (F474.get rfl)) fun _ F499 => ?_; clear F474
            refine qv 1 (.bool (decide (((k : Nat) : Int) < (64 : Int)))) F499 rfl (rn_lss (F499.get rfl) rfl) fun _ F501 => ?_; clear F499
            refine wpList_nil ?_
            refine hK497 _ _ ?_
            clear hK497
            by_cases hc502 : ((k : Nat) : Int) < (64 : Int)
            · skip
              refine wp_cond_true (c_true F501 rfl (decide_eq_true hc502)) ?_
              refine wp_skip ?_
              refine hK496 _ _ ?_
              clear hK496
              refine wp_seq_k (fun K503 hK503 => ?_)
              refine wp_block ?_
              refine wp_seq_k (fun K504 hK504 => ?_)
              refine wp_seq_k (fun K505 hK505 => ?_)
              have hx507 : ∃ W, w473.drew = W ∧ Ext w473 W := ⟨_, rfl, (Ext.refl _).drew⟩
              obtain ⟨w506, e508, hx507⟩ := hx507
              have z509 := hx507.size
              refine any_start (fun W => Ext w506 W ∧ Blk W g132 30 [(.int .i64 sg107.index), (.slice A95 n96 c97), (.slice A98 n99 c100), (.slice A101 n102 c103)] ∧ Blk W g194 30 [(.int .i64 sg169.index), (.slice A157 n158 c159), (.slice A160 n161 c162), (.slice A163 n164 c165)]) (fun i => false) 35 #[false, false, false, false, false, false, false, false, false, false, false, false, false, false, false, false, false, false, false, false, false, false, false, false, false, false, false, false, false, false, false, false, false, false, false] rfl rfl rfl ?_
              rw [e508]; clear e508
              refine qp 0 (.slice A310 n311 c312) F501 rfl rfl (fun W => (rn_move (F501.get rfl))) fun _ F511 => ?_; clear F501
              refine qp 1 (.int .i64 (k : Nat)) F511 rfl rfl (fun W => (rn_move (F511.get rfl))) fun _ F513 => ?_; clear F511
              have d517 := (hf487.ext hx507)
              obtain ⟨b514, o515, hA516, -⟩ := Fl.at d517 (by omega)
              refine qp 2 (.pointer (some ⟨b514, o515 + k, none⟩)) F513 rfl rfl (fun W => (rn_index1 Tryd.underlying44 inf4 ((F513.get rfl).trans (by rw [hA516])) (F513.get rfl) (by omega : (0 : Int) ≤ (k : Nat)) (by omega : ((k : Nat) : Int) < ((n311 : Nat) : Int)))) fun _ F519 => ?_; clear F513
              have b521 := (b479.ext hx507)
              have b522 := (b480.ext hx507)
              have hS520 : Ext w506 w506 ∧ Blk w506 g132 30 [(.int .i64 sg107.index), (.slice A95 n96 c97), (.slice A98 n99 c100), (.slice A101 n102 c103)] ∧ Blk w506 g194 30 [(.int .i64 sg169.index), (.slice A157 n158 c159), (.slice A160 n161 c162), (.slice A163 n164 c165)] := ⟨(Ext.refl w506), b521, b522⟩
              refine qs 3 (.bool ((bitsR (pubF sd many used) sg107.index msg).getD k false)) F519 rfl rfl hS520 (fun W hW => (rn_load (isAgg_no Tryd.underlying4 rfl) (F519.get rfl) (Fl.cellAt (d517.ext hW.1) hA516 (boolVals_at (i := k) (by omega))))) fun _ F524 => ?_; clear F519
              refine qp 4 (.slice A326 n327 c328) F524 rfl rfl (fun W => (rn_move (F524.get rfl))) fun _ F526 => ?_; clear F524
              refine qp 5 (.int .i64 (k : Nat)) F526 rfl rfl (fun W => (rn_move (F526.get rfl))) fun _ F528 => ?_; clear F526
              have d532 := (hf488.ext hx507)
              obtain ⟨b529, o530, hA531, -⟩ := Fl.at d532 (by omega)
              refine qp 6 (.pointer (some ⟨b529, o530 + k, none⟩)) F528 rfl rfl (fun W => (rn_index1 Tryd.underlying44 inf4 ((F528.get rfl).trans (by rw [hA531])) (F528.get rfl) (by omega : (0 : Int) ≤ (k : Nat)) (by omega : ((k : Nat) : Int) < ((n327 : Nat) : Int)))) fun _ F534 => ?_; clear F528
              refine qs 7 (.bool ((bitsR (pubF sd many used) sg169.index other).getD k false)) F534 rfl rfl hS520 (fun W hW => (rn_load (isAgg_no Tryd.underlying4 rfl) (F534.get rfl) (Fl.cellAt (d532.ext hW.1) hA531 (boolVals_at (i := k) (by omega))))) fun _ F536 => ?_; clear F534
              rcases Bool.eq_false_or_eq_true ((bitsR (pubF sd many used) sg107.index msg).getD k false) with hc537 | hc537
              · skip
                rcases Bool.eq_false_or_eq_true ((bitsR (pubF sd many used) sg169.index other).getD k false) with hc538 | hc538
                · skip
                  refine qp 8 (.bool true) F536 rfl rfl (fun W => (rn_eqB Tryd.underlying4 (F536.get rfl) (F536.get rfl) (show _ = true from hc537) (show _ = true from hc538) rfl)) fun _ F540 => ?_; clear F536
                  refine qp 9 (.bool true) F540 rfl rfl (fun W => (rn_move (F540.get rfl))) fun _ F542 => ?_; clear F540
                  refine qp 10 (.pointer (some ⟨g132, 1, none⟩)) F542 rfl (wanted_guard rfl rfl rfl F542 rfl rfl rfl) (fun W => (rn_field Tryd.underlying30 rfl (by kernel_rfl) (F542.get rfl) rfl)) fun _ F544 => ?_; clear F542
                  refine qs 11 (.slice A95 n96 c97) F544 rfl (wanted_guard rfl rfl rfl F544 rfl rfl rfl) hS520 (fun W hW => (rn_load (isAgg_no Tryd.underlying28 rfl) (F544.get rfl) (hW.2.1.rule.1 1))) fun _ F546 => ?_; clear F544
                  refine qp 12 (.int .i64 (k : Nat)) F546 rfl (wanted_guard rfl rfl rfl F546 rfl rfl rfl) (fun W => (rn_move (F546.get rfl))) fun _ F548 => ?_; clear F546
                  have d552 := (hf481.ext hx507)
                  obtain ⟨b549, o550, hA551, -⟩ := Fl.at d552 (by omega)
                  refine qp 13 (.pointer (some ⟨b549, o550 + k * 32, none⟩)) F548 rfl (wanted_guard rfl rfl rfl F548 rfl rfl rfl) (fun W => (rn_indexE Tryd.underlying28 inf37 ((F548.get rfl).trans (by rw [hA551])) (F548.get rfl) (by omega : (0 : Int) ≤ (k : Nat)) (by omega : ((k : Nat) : Int) < ((n96 : Nat) : Int)) (by omega))) fun _ F554 => ?_; clear F548
                  refine qs 14 (.agg (byteVals (sg107.op.getD k [])).toArray) F554 rfl (wanted_guard rfl rfl rfl F554 rfl rfl rfl) hS520 (fun W hW => (rn_loadN (cs := byteVals (sg107.op.getD k [])) (F554.get rfl) Tryd.underlying37 rfl (inf37.trans (congrArg some (byteVals_len (dig_len h32111 k (by omega))).symm)) (Fl.digAt (d552.ext hW.1) hA551 h32111 (by omega)))) fun _ F556 => ?_; clear F554
                  refine qp 15 (.pointer (some ⟨g194, 1, none⟩)) F556 rfl (wanted_guard rfl rfl rfl F556 rfl rfl rfl) (fun W => (rn_field Tryd.underlying30 rfl (by kernel_rfl) (F556.get rfl) rfl)) fun _ F558 => ?_; clear F556
                  refine qs 16 (.slice A157 n158 c159) F558 rfl (wanted_guard rfl rfl rfl F558 rfl rfl rfl) hS520 (fun W hW => (rn_load (isAgg_no Tryd.underlying28 rfl) (F558.get rfl) (hW.2.2.rule.1 1))) fun _ F560 => ?_; clear F558
                  refine qp 17 (.int .i64 (k : Nat)) F560 rfl (wanted_guard rfl rfl rfl F560 rfl rfl rfl) (fun W => (rn_move (F560.get rfl))) fun _ F562 => ?_; clear F560
                  have d566 := (hf484.ext hx507)
                  obtain ⟨b563, o564, hA565, -⟩ := Fl.at d566 (by omega)
                  refine qp 18 (.pointer (some ⟨b563, o564 + k * 32, none⟩)) F562 rfl (wanted_guard rfl rfl rfl F562 rfl rfl rfl) (fun W => (rn_indexE Tryd.underlying28 inf37 ((F562.get rfl).trans (by rw [hA565])) (F562.get rfl) (by omega : (0 : Int) ≤ (k : Nat)) (by omega : ((k : Nat) : Int) < ((n158 : Nat) : Int)) (by omega))) fun _ F568 => ?_; clear F562
                  refine qs 19 (.agg (byteVals (sg169.op.getD k [])).toArray) F568 rfl (wanted_guard rfl rfl rfl F568 rfl rfl rfl) hS520 (fun W hW => (rn_loadN (cs := byteVals (sg169.op.getD k [])) (F568.get rfl) Tryd.underlying37 rfl (inf37.trans (congrArg some (byteVals_len (dig_len h32173 k (by omega))).symm)) (Fl.digAt (d566.ext hW.1) hA565 h32173 (by omega)))) fun _ F570 => ?_; clear F568
                  refine qp 20 (.bool (!decide (sg107.op.getD k [] = sg169.op.getD k []))) F570 rfl (wanted_guard rfl rfl rfl F570 rfl rfl rfl) (fun W => (rn_neA Tryd.underlying37 Tryd.underlying5 inf5 (by kernel_rfl) (F570.get rfl) (F570.get rfl) (dig_len h32111 k (by omega)) (dig_len h32173 k (by omega)))) fun _ F572 => ?_; clear F570
                  refine qp 21 (.bool (!decide (sg107.op.getD k [] = sg169.op.getD k []))) F572 rfl (wanted_guard rfl rfl rfl F572 rfl rfl rfl) (fun W => (rn_move (F572.get rfl))) fun _ F574 => ?_; clear F572
                  refine qp 22 (.pointer (some ⟨g132, 2, none⟩)) F574 rfl (wanted_guard rfl rfl rfl F574 rfl (not_t ((decide_eq_true (by have hq := opens_eq hz1 hz2 (k := k) (by omega) (by rw [← hsg108, ← hsg170]; exact hc537.trans hc538.symm); rw [← hsg108, ← hsg170] at hq; exact hq.1)) : decide (sg107.op.getD k [] = sg169.op.getD k []) = true)) rfl) (fun W => (rn_field Tryd.underlying30 rfl (by kernel_rfl) (F574.get rfl) rfl)) fun _ F577 => ?_; clear F574
                  refine qs 23 (.slice A98 n99 c100) F577 rfl (wanted_guard rfl rfl rfl F577 rfl (not_t ((decide_eq_true (by have hq := opens_eq hz1 hz2 (k := k) (by omega) (by rw [← hsg108, ← hsg170]; exact hc537.trans hc538.symm); rw [← hsg108, ← hsg170] at hq; exact hq.1)) : decide (sg107.op.getD k [] = sg169.op.getD k []) = true)) rfl) hS520 (fun W hW => (rn_load (isAgg_no Tryd.underlying28 rfl) (F577.get rfl) (hW.2.1.rule.1 2))) fun _ F579 => ?_; clear F577
                  refine qp 24 (.int .i64 (k : Nat)) F579 rfl (wanted_guard rfl rfl rfl F579 rfl (not_t ((decide_eq_true (by have hq := opens_eq hz1 hz2 (k := k) (by omega) (by rw [← hsg108, ← hsg170]; exact hc537.trans hc538.symm); rw [← hsg108, ← hsg170] at hq; exact hq.1)) : decide (sg107.op.getD k [] = sg169.op.getD k []) = true)) rfl) (fun W => (rn_move (F579.get rfl))) fun _ F581 => ?_; clear F579
                  have d585 := (hf482.ext hx507)
                  obtain ⟨b582, o583, hA584, -⟩ := Fl.at d585 (by omega)
                  refine qp 25 (.pointer (some ⟨b582, o583 + k * 32, none⟩)) F581 rfl (wanted_guard rfl rfl rfl F581 rfl (not_t ((decide_eq_true (by have hq := opens_eq hz1 hz2 (k := k) (by omega) (by rw [← hsg108, ← hsg170]; exact hc537.trans hc538.symm); rw [← hsg108, ← hsg170] at hq; exact hq.1)) : decide (sg107.op.getD k [] = sg169.op.getD k []) = true)) rfl) (fun W => (rn_indexE Tryd.underlying28 inf37 ((F581.get rfl).trans (by rw [hA584])) (F581.get rfl) (by omega : (0 : Int) ≤ (k : Nat)) (by omega : ((k : Nat) : Int) < ((n99 : Nat) : Int)) (by omega))) fun _ F587 => ?_; clear F581
                  refine qs 26 (.agg (byteVals (sg107.cl.getD k [])).toArray) F587 rfl (wanted_guard rfl rfl rfl F587 rfl (not_t ((decide_eq_true (by have hq := opens_eq hz1 hz2 (k := k) (by omega) (by rw [← hsg108, ← hsg170]; exact hc537.trans hc538.symm); rw [← hsg108, ← hsg170] at hq; exact hq.1)) : decide (sg107.op.getD k [] = sg169.op.getD k []) = true)) rfl) hS520 (fun W hW => (rn_loadN (cs := byteVals (sg107.cl.getD k [])) (F587.get rfl) Tryd.underlying37 rfl (inf37.trans (congrArg some (byteVals_len (dig_len h32114 k (by omega))).symm)) (Fl.digAt (d585.ext hW.1) hA584 h32114 (by omega)))) fun _ F589 => ?_; clear F587
                  refine qp 27 (.pointer (some ⟨g194, 2, none⟩)) F589 rfl (wanted_guard rfl rfl rfl F589 rfl (not_t ((decide_eq_true (by have hq := opens_eq hz1 hz2 (k := k) (by omega) (by rw [← hsg108, ← hsg170]; exact hc537.trans hc538.symm); rw [← hsg108, ← hsg170] at hq; exact hq.1)) : decide (sg107.op.getD k [] = sg169.op.getD k []) = true)) rfl) (fun W => (rn_field Tryd.underlying30 rfl (by kernel_rfl) (F589.get rfl) rfl)) fun _ F591 => ?_; clear F589
                  refine qs 28 (.slice A160 n161 c162) F591 rfl (wanted_guard rfl rfl rfl F591 rfl (not_t ((decide_eq_true (by have hq := opens_eq hz1 hz2 (k := k) (by omega) (by rw [← hsg108, ← hsg170]; exact hc537.trans hc538.symm); rw [← hsg108, ← hsg170] at hq; exact hq.1)) : decide (sg107.op.getD k [] = sg169.op.getD k []) = true)) rfl) hS520 (fun W hW => (rn_load (isAgg_no Tryd.underlying28 rfl) (F591.get rfl) (hW.2.2.rule.1 2))) fun _ F593 => ?_; clear F591
                  refine qp 29 (.int .i64 (k : Nat)) F593 rfl (wanted_guard rfl rfl rfl F593 rfl (not_t ((decide_eq_true (by have hq := opens_eq hz1 hz2 (k := k) (by omega) (by rw [← hsg108, ← hsg170]; exact hc537.trans hc538.symm); rw [← hsg108, ← hsg170] at hq; exact hq.1)) : decide (sg107.op.getD k [] = sg169.op.getD k []) = true)) rfl) (fun W => (rn_move (F593.get rfl))) fun _ F595 => ?_; clear F593
                  have d599 := (hf485.ext hx507)
                  obtain ⟨b596, o597, hA598, -⟩ := Fl.at d599 (by omega)
                  refine qp 30 (.pointer (some ⟨b596, o597 + k * 32, none⟩)) F595 rfl (wanted_guard rfl rfl rfl F595 rfl (not_t ((decide_eq_true (by have hq := opens_eq hz1 hz2 (k := k) (by omega) (by rw [← hsg108, ← hsg170]; exact hc537.trans hc538.symm); rw [← hsg108, ← hsg170] at hq; exact hq.1)) : decide (sg107.op.getD k [] = sg169.op.getD k []) = true)) rfl) (fun W => (rn_indexE Tryd.underlying28 inf37 ((F595.get rfl).trans (by rw [hA598])) (F595.get rfl) (by omega : (0 : Int) ≤ (k : Nat)) (by omega : ((k : Nat) : Int) < ((n161 : Nat) : Int)) (by omega))) fun _ F601 => ?_; clear F595
                  refine qs 31 (.agg (byteVals (sg169.cl.getD k [])).toArray) F601 rfl (wanted_guard rfl rfl rfl F601 rfl (not_t ((decide_eq_true (by have hq := opens_eq hz1 hz2 (k := k) (by omega) (by rw [← hsg108, ← hsg170]; exact hc537.trans hc538.symm); rw [← hsg108, ← hsg170] at hq; exact hq.1)) : decide (sg107.op.getD k [] = sg169.op.getD k []) = true)) rfl) hS520 (fun W hW => (rn_loadN (cs := byteVals (sg169.cl.getD k [])) (F601.get rfl) Tryd.underlying37 rfl (inf37.trans (congrArg some (byteVals_len (dig_len h32176 k (by omega))).symm)) (Fl.digAt (d599.ext hW.1) hA598 h32176 (by omega)))) fun _ F603 => ?_; clear F601
                  refine qp 32 (.bool (!decide (sg107.cl.getD k [] = sg169.cl.getD k []))) F603 rfl (wanted_guard rfl rfl rfl F603 rfl (not_t ((decide_eq_true (by have hq := opens_eq hz1 hz2 (k := k) (by omega) (by rw [← hsg108, ← hsg170]; exact hc537.trans hc538.symm); rw [← hsg108, ← hsg170] at hq; exact hq.1)) : decide (sg107.op.getD k [] = sg169.op.getD k []) = true)) rfl) (fun W => (rn_neA Tryd.underlying37 Tryd.underlying5 inf5 (by kernel_rfl) (F603.get rfl) (F603.get rfl) (dig_len h32114 k (by omega)) (dig_len h32176 k (by omega)))) fun _ F605 => ?_; clear F603
                  refine qp 33 (.bool (!decide (sg107.cl.getD k [] = sg169.cl.getD k []))) F605 rfl (wanted_guard rfl rfl rfl F605 rfl rfl rfl) (fun W => (rn_pickF (c_false F605 rfl (not_t ((decide_eq_true (by have hq := opens_eq hz1 hz2 (k := k) (by omega) (by rw [← hsg108, ← hsg170]; exact hc537.trans hc538.symm); rw [← hsg108, ← hsg170] at hq; exact hq.1)) : decide (sg107.op.getD k [] = sg169.op.getD k []) = true))) (F605.get rfl))) fun _ F607 => ?_; clear F605
                  refine qp 34 (.bool (!decide (sg107.cl.getD k [] = sg169.cl.getD k []))) F607 rfl rfl (fun W => (rn_pickT (c_true F607 rfl rfl) (F607.get rfl))) fun _ F609 => ?_; clear F607
                  refine any_nil (by decide +kernel) ?_
                  refine hK505 _ _ ?_
                  clear hK505
                  have F610 := (((((((((((((((((((((F609.nil.c F609 157 rfl).c F609 120 rfl).c F609 17 rfl).c F609 118 rfl).c F609 16 rfl).c F609 15 rfl).c F609 58 rfl).c F609 14 rfl).c F609 13 rfl).c F609 12 rfl).c F609 11 rfl).c F609 10 rfl).c F609 9 rfl).c F609 29 rfl).c F609 19 rfl).c F609 8 rfl).c F609 4 rfl).c F609 3 rfl).c F609 2 rfl).c F609 1 rfl).c F609 0 rfl)
                  clear F609
                  refine wp_cond_false (c_false F610 rfl (not_t ((decide_eq_true (by have hq := opens_eq hz1 hz2 (k := k) (by omega) (by rw [← hsg108, ← hsg170]; exact hc537.trans hc538.symm); rw [← hsg108, ← hsg170] at hq; exact hq.2)) : decide (sg107.cl.getD k [] = sg169.cl.getD k []) = true))) ?_
                  refine wp_skip ?_
                  refine hK504 _ _ ?_
                  clear hK504
                  refine wp_seq_k (fun K612 hK612 => ?_)
                  have hx614 : ∃ W, w506.drew = W ∧ Ext w506 W := ⟨_, rfl, (Ext.refl _).drew⟩
                  obtain ⟨w613, e615, hx614⟩ := hx614
                  have z616 := hx614.size
                  refine any_start (fun W => Ext w613 W ∧ Blk W g132 30 [(.int .i64 sg107.index), (.slice A95 n96 c97), (.slice A98 n99 c100), (.slice A101 n102 c103)] ∧ Blk W g194 30 [(.int .i64 sg169.index), (.slice A157 n158 c159), (.slice A160 n161 c162), (.slice A163 n164 c165)]) (fun i => false) 37 #[false, false, false, false, false, false, false, false, false, false, false, false, false, false, false, false, false, false, false, false, false, false, false, false, false, false, false, false, false, false, false, false, false, false, false, false, false] rfl rfl rfl ?_
                  rw [e615]; clear e615
                  refine qp 0 (.slice A310 n311 c312) F610 rfl rfl (fun W => (rn_move (F610.get rfl))) fun _ F618 => ?_; clear F610
                  refine qp 1 (.int .i64 (k : Nat)) F618 rfl rfl (fun W => (rn_move (F618.get rfl))) fun _ F620 => ?_; clear F618
                  refine qp 2 (.pointer (some ⟨b514, o515 + k, none⟩)) F620 rfl rfl (fun W => (rn_index1 Tryd.underlying44 inf4 ((F620.get rfl).trans (by rw [hA516])) (F620.get rfl) (by omega : (0 : Int) ≤ (k : Nat)) (by omega : ((k : Nat) : Int) < ((n311 : Nat) : Int)))) fun _ F622 => ?_; clear F620
                  have b624 := (b521.ext hx614)
                  have b625 := (b522.ext hx614)
                  have hS623 : Ext w613 w613 ∧ Blk w613 g132 30 [(.int .i64 sg107.index), (.slice A95 n96 c97), (.slice A98 n99 c100), (.slice A101 n102 c103)] ∧ Blk w613 g194 30 [(.int .i64 sg169.index), (.slice A157 n158 c159), (.slice A160 n161 c162), (.slice A163 n164 c165)] := ⟨(Ext.refl w613), b624, b625⟩
                  have d626 := ((hf487.ext hx507).ext hx614)
                  refine qs 3 (.bool ((bitsR (pubF sd many used) sg107.index msg).getD k false)) F622 rfl rfl hS623 (fun W hW => (rn_load (isAgg_no Tryd.underlying4 rfl) (F622.get rfl) (Fl.cellAt (d626.ext hW.1) hA516 (boolVals_at (i := k) (by omega))))) fun _ F628 => ?_; clear F622
                  refine qp 4 (.slice A326 n327 c328) F628 rfl rfl (fun W => (rn_move (F628.get rfl))) fun _ F630 => ?_; clear F628
                  refine qp 5 (.int .i64 (k : Nat)) F630 rfl rfl (fun W => (rn_move (F630.get rfl))) fun _ F632 => ?_; clear F630
                  refine qp 6 (.pointer (some ⟨b529, o530 + k, none⟩)) F632 rfl rfl (fun W => (rn_index1 Tryd.underlying44 inf4 ((F632.get rfl).trans (by rw [hA531])) (F632.get rfl) (by omega : (0 : Int) ≤ (k : Nat)) (by omega : ((k : Nat) : Int) < ((n327 : Nat) : Int)))) fun _ F634 => ?_; clear F632
                  have d635 := ((hf488.ext hx507).ext hx614)
                  refine qs 7 (.bool ((bitsR (pubF sd many used) sg169.index other).getD k false)) F634 rfl rfl hS623 (fun W hW => (rn_load (isAgg_no Tryd.underlying4 rfl) (F634.get rfl) (Fl.cellAt (d635.ext hW.1) hA531 (boolVals_at (i := k) (by omega))))) fun _ F637 => ?_; clear F634
                  refine qp 8 (.bool false) F637 rfl rfl (fun W => (rn_neB Tryd.underlying4 (F637.get rfl) (F637.get rfl) (show _ = true from hc537) (show _ = true from hc538) rfl)) fun _ F639 => ?_; clear F637
                  refine qp 9 (.bool false) F639 rfl rfl (fun W => (rn_move (F639.get rfl))) fun _ F641 => ?_; clear F639
                  refine qk 10 F641 rfl rfl fun _ F643 => ?_; clear F641
                  refine qk 11 F643 rfl rfl fun _ F645 => ?_; clear F643
                  refine qk 12 F645 rfl rfl fun _ F647 => ?_; clear F645
                  refine qk 13 F647 rfl rfl fun _ F649 => ?_; clear F647
                  refine qk 14 F649 rfl rfl fun _ F651 => ?_; clear F649
                  refine qk 16 F651 rfl rfl fun _ F653 => ?_; clear F651
                  refine qk 17 F653 rfl rfl fun _ F655 => ?_; clear F653
                  refine qk 18 F655 rfl rfl fun _ F657 => ?_; clear F655
                  refine qk 19 F657 rfl rfl fun _ F659 => ?_; clear F657
                  refine qk 20 F659 rfl rfl fun _ F661 => ?_; clear F659
                  refine any_one (i := 15) (by decide +kernel) rfl ?_
                  refine o_skip F661 rfl (unwanted_guard rfl rfl rfl F661 rfl rfl rfl) rfl rfl ?_
                  intro a662 F663; clear F661
                  refine ⟨fun _ _ => ⟨(Ext.refl w613), b624, b625⟩, ?_⟩
                  refine qk 21 F663 rfl rfl fun _ F665 => ?_; clear F663
                  refine qk 22 F665 rfl rfl fun _ F667 => ?_; clear F665
                  refine qn 23 F667 rfl (unwanted_undef rfl rfl rfl F667 rfl) fun _ F669 => ?_; clear F667
                  refine qn 24 F669 rfl (unwanted_undef rfl rfl rfl F669 rfl) fun _ F671 => ?_; clear F669
                  refine qn 25 F671 rfl (unwanted_undef rfl rfl rfl F671 rfl) fun _ F673 => ?_; clear F671
                  refine qn 26 F673 rfl (unwanted_undef rfl rfl rfl F673 rfl) fun _ F675 => ?_; clear F673
                  refine qn 27 F675 rfl (unwanted_undef rfl rfl rfl F675 rfl) fun _ F677 => ?_; clear F675
                  refine qn 29 F677 rfl (unwanted_undef rfl rfl rfl F677 rfl) fun _ F679 => ?_; clear F677
                  refine qn 30 F679 rfl (unwanted_undef rfl rfl rfl F679 rfl) fun _ F681 => ?_; clear F679
                  refine qn 31 F681 rfl (unwanted_undef rfl rfl rfl F681 rfl) fun _ F683 => ?_; clear F681
                  refine qn 32 F683 rfl (unwanted_undef rfl rfl rfl F683 rfl) fun _ F685 => ?_; clear F683
                  refine qn 33 F685 rfl (unwanted_undef rfl rfl rfl F685 rfl) fun _ F687 => ?_; clear F685
                  refine any_one (i := 28) (by decide +kernel) rfl ?_
                  refine o_skip F687 rfl (unwanted_undef rfl rfl rfl F687 rfl) rfl rfl ?_
                  intro a688 F689; clear F687
                  refine ⟨fun _ _ => ⟨(Ext.refl w613), b624, b625⟩, ?_⟩
                  refine qn 34 F689 rfl (unwanted_undef rfl rfl rfl F689 rfl) fun _ F691 => ?_; clear F689
                  refine qk 35 F691 rfl rfl fun _ F693 => ?_; clear F691
                  refine qp 36 (.bool false) F693 rfl rfl (fun W => (rn_pickF (c_false F693 rfl rfl) rfl)) fun _ F695 => ?_; clear F693
                  refine any_nil (by decide +kernel) ?_
                  refine hK612 _ _ ?_
                  clear hK612
                  have F696 := ((((((((((((((((((((((F695.nil.c F695 194 rfl).c F695 157 rfl).c F695 120 rfl).c F695 17 rfl).c F695 118 rfl).c F695 16 rfl).c F695 15 rfl).c F695 58 rfl).c F695 14 rfl).c F695 13 rfl).c F695 12 rfl).c F695 11 rfl).c F695 10 rfl).c F695 9 rfl).c F695 29 rfl).c F695 19 rfl).c F695 8 rfl).c F695 4 rfl).c F695 3 rfl).c F695 2 rfl).c F695 1 rfl).c F695 0 rfl)
                  clear F695
                  refine wp_cond_false (c_false F696 rfl rfl) ?_
                  refine wp_skip ?_
                  refine hK503 _ _ ?_
                  clear hK503
                  refine wp_region_lit ?_
                  refine qv 0 (.int .i64 (k : Nat)) F696 rfl (rn_move (F696.get rfl)) fun _ F698 => ?_; clear F696
                  refine qv 1 (.int .i64 (k + 1 : Nat)) F698 rfl (rn_addN (a := k) (b := 1) (F698.get rfl) rfl (by omega)) fun _ F700 => ?_; clear F698
                  refine qv 2 (.int .i64 (k + 1 : Nat)) F700 rfl (rn_assign (F700.get rfl)) fun _ F702 => ?_; clear F700
                  refine wpList_nil ?_
                  have d703 := ((hf481.ext hx507).ext hx614)
                  have d704 := ((hf482.ext hx507).ext hx614)
                  have d705 := ((hf483.ext hx507).ext hx614)
                  have d706 := ((hf484.ext hx507).ext hx614)
                  have d707 := ((hf485.ext hx507).ext hx614)
                  have d708 := ((hf486.ext hx507).ext hx614)
                  have b709 := ((b477.ext hx507).ext hx614)
                  have b710 := ((b478.ext hx507).ext hx614)
                  refine ⟨⟨(k + 1), (((((((((((((((((((F702.nil.cons (q_get F702 (t := 17) rfl (by first | rfl | (congr 1; omega) | (congr 1; done)))).cons (q_get F702 (t := 118) rfl rfl)).cons (q_get F702 (t := 16) rfl rfl)).cons (q_get F702 (t := 15) rfl rfl)).cons (q_get F702 (t := 58) rfl rfl)).cons (q_get F702 (t := 14) rfl rfl)).cons (q_get F702 (t := 13) rfl rfl)).cons (q_get F702 (t := 12) rfl rfl)).cons (q_get F702 (t := 11) rfl rfl)).cons (q_get F702 (t := 10) rfl rfl)).cons (q_get F702 (t := 9) rfl rfl)).cons (q_get F702 (t := 29) rfl rfl)).cons (q_get F702 (t := 19) rfl rfl)).cons (q_get F702 (t := 8) rfl rfl)).cons (q_get F702 (t := 4) rfl rfl)).cons (q_get F702 (t := 3) rfl rfl)).cons (q_get F702 (t := 2) rfl rfl)).cons (q_get F702 (t := 1) rfl rfl)).cons (q_get F702 (t := 0) rfl rfl)), (by omega), ((((Ext.refl w).trans hx475).trans hx507).trans hx614), b709, b710, b624, b625, d703, d704, d705, d706, d707, d708, d626, d635, (by omega)⟩, ?_⟩
                  rw [F702.get (t := 17) rfl, hL490.get (t := 17) rfl]; simp [intOf] <;> omega
                · skip
                  refine qp 8 (.bool false) F536 rfl rfl (fun W => (rn_eqB Tryd.underlying4 (F536.get rfl) (F536.get rfl) (show _ = true from hc537) (show _ = false from hc538) rfl)) fun _ F712 => ?_; clear F536
                  refine qp 9 (.bool false) F712 rfl rfl (fun W => (rn_move (F712.get rfl))) fun _ F714 => ?_; clear F712
                  refine qk 10 F714 rfl rfl fun _ F716 => ?_; clear F714
                  refine qk 11 F716 rfl rfl fun _ F718 => ?_; clear F716
                  refine qk 12 F718 rfl rfl fun _ F720 => ?_; clear F718
                  refine qk 13 F720 rfl rfl fun _ F722 => ?_; clear F720
                  refine qk 14 F722 rfl rfl fun _ F724 => ?_; clear F722
                  refine qk 15 F724 rfl rfl fun _ F726 => ?_; clear F724
                  refine qk 16 F726 rfl rfl fun _ F728 => ?_; clear F726
                  refine qk 17 F728 rfl rfl fun _ F730 => ?_; clear F728
                  refine qk 18 F730 rfl rfl fun _ F732 => ?_; clear F730
                  refine qk 19 F732 rfl rfl fun _ F734 => ?_; clear F732
                  refine qk 20 F734 rfl rfl fun _ F736 => ?_; clear F734
                  refine qk 21 F736 rfl rfl fun _ F738 => ?_; clear F736
                  refine qn 22 F738 rfl (unwanted_undef rfl rfl rfl F738 rfl) fun _ F740 => ?_; clear F738
                  refine qn 23 F740 rfl (unwanted_undef rfl rfl rfl F740 rfl) fun _ F742 => ?_; clear F740
                  refine qn 24 F742 rfl (unwanted_undef rfl rfl rfl F742 rfl) fun _ F744 => ?_; clear F742
                  refine qn 25 F744 rfl (unwanted_undef rfl rfl rfl F744 rfl) fun _ F746 => ?_; clear F744
                  refine qn 26 F746 rfl (unwanted_undef rfl rfl rfl F746 rfl) fun _ F748 => ?_; clear F746
                  refine qn 27 F748 rfl (unwanted_undef rfl rfl rfl F748 rfl) fun _ F750 => ?_; clear F748
                  refine qn 28 F750 rfl (unwanted_undef rfl rfl rfl F750 rfl) fun _ F752 => ?_; clear F750
                  refine qn 29 F752 rfl (unwanted_undef rfl rfl rfl F752 rfl) fun _ F754 => ?_; clear F752
                  refine qn 30 F754 rfl (unwanted_undef rfl rfl rfl F754 rfl) fun _ F756 => ?_; clear F754
                  refine qn 31 F756 rfl (unwanted_undef rfl rfl rfl F756 rfl) fun _ F758 => ?_; clear F756
                  refine qn 32 F758 rfl (unwanted_undef rfl rfl rfl F758 rfl) fun _ F760 => ?_; clear F758
                  refine qk 33 F760 rfl rfl fun _ F762 => ?_; clear F760
                  refine qp 34 (.bool false) F762 rfl rfl (fun W => (rn_pickF (c_false F762 rfl rfl) rfl)) fun _ F764 => ?_; clear F762
                  refine any_nil (by decide +kernel) ?_
                  refine hK505 _ _ ?_
                  clear hK505
                  have F765 := (((((((((((((((((((((F764.nil.c F764 157 rfl).c F764 120 rfl).c F764 17 rfl).c F764 118 rfl).c F764 16 rfl).c F764 15 rfl).c F764 58 rfl).c F764 14 rfl).c F764 13 rfl).c F764 12 rfl).c F764 11 rfl).c F764 10 rfl).c F764 9 rfl).c F764 29 rfl).c F764 19 rfl).c F764 8 rfl).c F764 4 rfl).c F764 3 rfl).c F764 2 rfl).c F764 1 rfl).c F764 0 rfl)
                  clear F764
                  refine wp_cond_false (c_false F765 rfl rfl) ?_
                  refine wp_skip ?_
                  refine hK504 _ _ ?_
                  clear hK504
                  refine wp_seq_k (fun K766 hK766 => ?_)
                  have hx768 : ∃ W, w506.drew = W ∧ Ext w506 W := ⟨_, rfl, (Ext.refl _).drew⟩
                  obtain ⟨w767, e769, hx768⟩ := hx768
                  have z770 := hx768.size
                  refine any_start (fun W => Ext w767 W ∧ Blk W g132 30 [(.int .i64 sg107.index), (.slice A95 n96 c97), (.slice A98 n99 c100), (.slice A101 n102 c103)] ∧ Blk W g194 30 [(.int .i64 sg169.index), (.slice A157 n158 c159), (.slice A160 n161 c162), (.slice A163 n164 c165)]) (fun i => false) 37 #[false, false, false, false, false, false, false, false, false, false, false, false, false, false, false, false, false, false, false, false, false, false, false, false, false, false, false, false, false, false, false, false, false, false, false, false, false] rfl rfl rfl ?_
                  rw [e769]; clear e769
                  refine qp 0 (.slice A310 n311 c312) F765 rfl rfl (fun W => (rn_move (F765.get rfl))) fun _ F772 => ?_; clear F765
                  refine qp 1 (.int .i64 (k : Nat)) F772 rfl rfl (fun W => (rn_move (F772.get rfl))) fun _ F774 => ?_; clear F772
                  refine qp 2 (.pointer (some ⟨b514, o515 + k, none⟩)) F774 rfl rfl (fun W => (rn_index1 Tryd.underlying44 inf4 ((F774.get rfl).trans (by rw [hA516])) (F774.get rfl) (by omega : (0 : Int) ≤ (k : Nat)) (by omega : ((k : Nat) : Int) < ((n311 : Nat) : Int)))) fun _ F776 => ?_; clear F774
                  have b778 := (b521.ext hx768)
                  have b779 := (b522.ext hx768)
                  have hS777 : Ext w767 w767 ∧ Blk w767 g132 30 [(.int .i64 sg107.index), (.slice A95 n96 c97), (.slice A98 n99 c100), (.slice A101 n102 c103)] ∧ Blk w767 g194 30 [(.int .i64 sg169.index), (.slice A157 n158 c159), (.slice A160 n161 c162), (.slice A163 n164 c165)] := ⟨(Ext.refl w767), b778, b779⟩
                  have d780 := ((hf487.ext hx507).ext hx768)
                  refine qs 3 (.bool ((bitsR (pubF sd many used) sg107.index msg).getD k false)) F776 rfl rfl hS777 (fun W hW => (rn_load (isAgg_no Tryd.underlying4 rfl) (F776.get rfl) (Fl.cellAt (d780.ext hW.1) hA516 (boolVals_at (i := k) (by omega))))) fun _ F782 => ?_; clear F776
                  refine qp 4 (.slice A326 n327 c328) F782 rfl rfl (fun W => (rn_move (F782.get rfl))) fun _ F784 => ?_; clear F782
                  refine qp 5 (.int .i64 (k : Nat)) F784 rfl rfl (fun W => (rn_move (F784.get rfl))) fun _ F786 => ?_; clear F784
                  refine qp 6 (.pointer (some ⟨b529, o530 + k, none⟩)) F786 rfl rfl (fun W => (rn_index1 Tryd.underlying44 inf4 ((F786.get rfl).trans (by rw [hA531])) (F786.get rfl) (by omega : (0 : Int) ≤ (k : Nat)) (by omega : ((k : Nat) : Int) < ((n327 : Nat) : Int)))) fun _ F788 => ?_; clear F786
                  have d789 := ((hf488.ext hx507).ext hx768)
                  refine qs 7 (.bool ((bitsR (pubF sd many used) sg169.index other).getD k false)) F788 rfl rfl hS777 (fun W hW => (rn_load (isAgg_no Tryd.underlying4 rfl) (F788.get rfl) (Fl.cellAt (d789.ext hW.1) hA531 (boolVals_at (i := k) (by omega))))) fun _ F791 => ?_; clear F788
                  refine qp 8 (.bool true) F791 rfl rfl (fun W => (rn_neB Tryd.underlying4 (F791.get rfl) (F791.get rfl) (show _ = true from hc537) (show _ = false from hc538) rfl)) fun _ F793 => ?_; clear F791
                  refine qp 9 (.bool true) F793 rfl rfl (fun W => (rn_move (F793.get rfl))) fun _ F795 => ?_; clear F793
                  refine qp 10 (.pointer (some ⟨g132, 1, none⟩)) F795 rfl (wanted_guard rfl rfl rfl F795 rfl rfl rfl) (fun W => (rn_field Tryd.underlying30 rfl (by kernel_rfl) (F795.get rfl) rfl)) fun _ F797 => ?_; clear F795
                  refine qs 11 (.slice A95 n96 c97) F797 rfl (wanted_guard rfl rfl rfl F797 rfl rfl rfl) hS777 (fun W hW => (rn_load (isAgg_no Tryd.underlying28 rfl) (F797.get rfl) (hW.2.1.rule.1 1))) fun _ F799 => ?_; clear F797
                  refine qp 12 (.int .i64 (k : Nat)) F799 rfl (wanted_guard rfl rfl rfl F799 rfl rfl rfl) (fun W => (rn_move (F799.get rfl))) fun _ F801 => ?_; clear F799
                  have d805 := ((hf481.ext hx507).ext hx768)
                  obtain ⟨b802, o803, hA804, -⟩ := Fl.at d805 (by omega)
                  refine qp 13 (.pointer (some ⟨b802, o803 + k * 32, none⟩)) F801 rfl (wanted_guard rfl rfl rfl F801 rfl rfl rfl) (fun W => (rn_indexE Tryd.underlying28 inf37 ((F801.get rfl).trans (by rw [hA804])) (F801.get rfl) (by omega : (0 : Int) ≤ (k : Nat)) (by omega : ((k : Nat) : Int) < ((n96 : Nat) : Int)) (by omega))) fun _ F807 => ?_; clear F801
                  refine qp 14 (.slice (some ⟨b802, o803 + k * 32, none⟩) 32 32) F807 rfl (wanted_guard rfl rfl rfl F807 rfl rfl rfl) (fun W => (rn_arrAll Tryd.underlying37 inf5 (F807.get rfl))) fun _ F809 => ?_; clear F807
                  refine qp 16 (.pointer (some ⟨g194, 2, none⟩)) F809 rfl (wanted_guard rfl rfl rfl F809 rfl rfl rfl) (fun W => (rn_field Tryd.underlying30 rfl (by kernel_rfl) (F809.get rfl) rfl)) fun _ F811 => ?_; clear F809
                  refine qs 17 (.slice A160 n161 c162) F811 rfl (wanted_guard rfl rfl rfl F811 rfl rfl rfl) hS777 (fun W hW => (rn_load (isAgg_no Tryd.underlying28 rfl) (F811.get rfl) (hW.2.2.rule.1 2))) fun _ F813 => ?_; clear F811
                  refine qp 18 (.int .i64 (k : Nat)) F813 rfl (wanted_guard rfl rfl rfl F813 rfl rfl rfl) (fun W => (rn_move (F813.get rfl))) fun _ F815 => ?_; clear F813
                  have d819 := ((hf485.ext hx507).ext hx768)
                  obtain ⟨b816, o817, hA818, -⟩ := Fl.at d819 (by omega)
                  refine qp 19 (.pointer (some ⟨b816, o817 + k * 32, none⟩)) F815 rfl (wanted_guard rfl rfl rfl F815 rfl rfl rfl) (fun W => (rn_indexE Tryd.underlying28 inf37 ((F815.get rfl).trans (by rw [hA818])) (F815.get rfl) (by omega : (0 : Int) ≤ (k : Nat)) (by omega : ((k : Nat) : Int) < ((n161 : Nat) : Int)) (by omega))) fun _ F821 => ?_; clear F815
                  refine qs 20 (.agg (byteVals (sg169.cl.getD k [])).toArray) F821 rfl (wanted_guard rfl rfl rfl F821 rfl rfl rfl) hS777 (fun W hW => (rn_loadN (cs := byteVals (sg169.cl.getD k [])) (F821.get rfl) Tryd.underlying37 rfl (inf37.trans (congrArg some (byteVals_len (dig_len h32176 k (by omega))).symm)) (Fl.digAt (d819.ext hW.1) hA818 h32176 (by omega)))) fun _ F823 => ?_; clear F821
                  refine any_one (i := 15) (by decide +kernel) rfl ?_
                  refine o_call F823 rfl (wanted_guard rfl rfl rfl F823 rfl rfl rfl) rfl rfl (rn_call (args2 rfl (F823.get rfl)) rfl (by kernel_rfl)) (tagged_at ([111, 112, 101, 110]) (v := (.slice (some ⟨b802, o803 + k * 32, none⟩) 32 32)) (n := 32) (sg107.op.getD k []) _ (Fl.digPart (i := k) d805 hA804 h32111 (by omega) (by omega)) (hG.ext ((((Ext.refl w).trans hx475).trans hx507).trans hx768)) (by simp <;> omega) (by omega)) ?_
                  rintro _ w824 ⟨rfl, hx825⟩
                  refine ⟨_, rfl, ?_⟩; intro a826 F827; clear F823; have z828 := hx825.size
                  have b829 := (b778.ext hx825)
                  have b830 := (b779.ext hx825)
                  refine ⟨fun _ _ => ⟨((Ext.refl w767).trans hx825), b829, b830⟩, ?_⟩
                  refine qp 21 (.bool (!decide (tagged ([111, 112, 101, 110]) (sg107.op.getD k []) = sg169.cl.getD k []))) F827 rfl (wanted_guard rfl rfl rfl F827 rfl rfl rfl) (fun W => (rn_neA Tryd.underlying37 Tryd.underlying5 inf5 (by kernel_rfl) (F827.get rfl) (F827.get rfl) (tagged_len _ _) (dig_len h32176 k (by omega)))) fun _ F832 => ?_; clear F827
                  refine qp 22 (.bool (!decide (tagged ([111, 112, 101, 110]) (sg107.op.getD k []) = sg169.cl.getD k []))) F832 rfl (wanted_guard rfl rfl rfl F832 rfl rfl rfl) (fun W => (rn_move (F832.get rfl))) fun _ F834 => ?_; clear F832
                  refine qp 23 (.pointer (some ⟨g194, 1, none⟩)) F834 rfl (wanted_guard rfl rfl rfl F834 rfl (not_t ((decide_eq_true (by have hq := opens_ne hz1 hz2 (k := k) (by omega) (by rw [← hsg108, ← hsg170, hc537, hc538]; decide); rw [← hsg108, ← hsg170] at hq; exact hq.1)) : decide (tagged ([111, 112, 101, 110]) (sg107.op.getD k []) = sg169.cl.getD k []) = true)) rfl) (fun W => (rn_field Tryd.underlying30 rfl (by kernel_rfl) (F834.get rfl) rfl)) fun _ F837 => ?_; clear F834
                  have hS838 : Ext w767 w824 ∧ Blk w824 g132 30 [(.int .i64 sg107.index), (.slice A95 n96 c97), (.slice A98 n99 c100), (.slice A101 n102 c103)] ∧ Blk w824 g194 30 [(.int .i64 sg169.index), (.slice A157 n158 c159), (.slice A160 n161 c162), (.slice A163 n164 c165)] := ⟨((Ext.refl w767).trans hx825), b829, b830⟩
                  refine qs 24 (.slice A157 n158 c159) F837 rfl (wanted_guard rfl rfl rfl F837 rfl (not_t ((decide_eq_true (by have hq := opens_ne hz1 hz2 (k := k) (by omega) (by rw [← hsg108, ← hsg170, hc537, hc538]; decide); rw [← hsg108, ← hsg170] at hq; exact hq.1)) : decide (tagged ([111, 112, 101, 110]) (sg107.op.getD k []) = sg169.cl.getD k []) = true)) rfl) hS838 (fun W hW => (rn_load (isAgg_no Tryd.underlying28 rfl) (F837.get rfl) (hW.2.2.rule.1 1))) fun _ F840 => ?_; clear F837
                  refine qp 25 (.int .i64 (k : Nat)) F840 rfl (wanted_guard rfl rfl rfl F840 rfl (not_t ((decide_eq_true (by have hq := opens_ne hz1 hz2 (k := k) (by omega) (by rw [← hsg108, ← hsg170, hc537, hc538]; decide); rw [← hsg108, ← hsg170] at hq; exact hq.1)) : decide (tagged ([111, 112, 101, 110]) (sg107.op.getD k []) = sg169.cl.getD k []) = true)) rfl) (fun W => (rn_move (F840.get rfl))) fun _ F842 => ?_; clear F840
                  have d846 := (((hf484.ext hx507).ext hx768).ext hx825)
                  obtain ⟨b843, o844, hA845, -⟩ := Fl.at d846 (by omega)
                  refine qp 26 (.pointer (some ⟨b843, o844 + k * 32, none⟩)) F842 rfl (wanted_guard rfl rfl rfl F842 rfl (not_t ((decide_eq_true (by have hq := opens_ne hz1 hz2 (k := k) (by omega) (by rw [← hsg108, ← hsg170, hc537, hc538]; decide); rw [← hsg108, ← hsg170] at hq; exact hq.1)) : decide (tagged ([111, 112, 101, 110]) (sg107.op.getD k []) = sg169.cl.getD k []) = true)) rfl) (fun W => (rn_indexE Tryd.underlying28 inf37 ((F842.get rfl).trans (by rw [hA845])) (F842.get rfl) (by omega : (0 : Int) ≤ (k : Nat)) (by omega : ((k : Nat) : Int) < ((n158 : Nat) : Int)) (by omega))) fun _ F848 => ?_; clear F842
                  refine qp 27 (.slice (some ⟨b843, o844 + k * 32, none⟩) 32 32) F848 rfl (wanted_guard rfl rfl rfl F848 rfl (not_t ((decide_eq_true (by have hq := opens_ne hz1 hz2 (k := k) (by omega) (by rw [← hsg108, ← hsg170, hc537, hc538]; decide); rw [← hsg108, ← hsg170] at hq; exact hq.1)) : decide (tagged ([111, 112, 101, 110]) (sg107.op.getD k []) = sg169.cl.getD k []) = true)) rfl) (fun W => (rn_arrAll Tryd.underlying37 inf5 (F848.get rfl))) fun _ F850 => ?_; clear F848
                  refine qp 29 (.pointer (some ⟨g132, 2, none⟩)) F850 rfl (wanted_guard rfl rfl rfl F850 rfl (not_t ((decide_eq_true (by have hq := opens_ne hz1 hz2 (k := k) (by omega) (by rw [← hsg108, ← hsg170, hc537, hc538]; decide); rw [← hsg108, ← hsg170] at hq; exact hq.1)) : decide (tagged ([111, 112, 101, 110]) (sg107.op.getD k []) = sg169.cl.getD k []) = true)) rfl) (fun W => (rn_field Tryd.underlying30 rfl (by kernel_rfl) (F850.get rfl) rfl)) fun _ F852 => ?_; clear F850
                  refine qs 30 (.slice A98 n99 c100) F852 rfl (wanted_guard rfl rfl rfl F852 rfl (not_t ((decide_eq_true (by have hq := opens_ne hz1 hz2 (k := k) (by omega) (by rw [← hsg108, ← hsg170, hc537, hc538]; decide); rw [← hsg108, ← hsg170] at hq; exact hq.1)) : decide (tagged ([111, 112, 101, 110]) (sg107.op.getD k []) = sg169.cl.getD k []) = true)) rfl) hS838 (fun W hW => (rn_load (isAgg_no Tryd.underlying28 rfl) (F852.get rfl) (hW.2.1.rule.1 2))) fun _ F854 => ?_; clear F852
                  refine qp 31 (.int .i64 (k : Nat)) F854 rfl (wanted_guard rfl rfl rfl F854 rfl (not_t ((decide_eq_true (by have hq := opens_ne hz1 hz2 (k := k) (by omega) (by rw [← hsg108, ← hsg170, hc537, hc538]; decide); rw [← hsg108, ← hsg170] at hq; exact hq.1)) : decide (tagged ([111, 112, 101, 110]) (sg107.op.getD k []) = sg169.cl.getD k []) = true)) rfl) (fun W => (rn_move (F854.get rfl))) fun _ F856 => ?_; clear F854
                  have d860 := (((hf482.ext hx507).ext hx768).ext hx825)
                  obtain ⟨b857, o858, hA859, -⟩ := Fl.at d860 (by omega)
                  refine qp 32 (.pointer (some ⟨b857, o858 + k * 32, none⟩)) F856 rfl (wanted_guard rfl rfl rfl F856 rfl (not_t ((decide_eq_true (by have hq := opens_ne hz1 hz2 (k := k) (by omega) (by rw [← hsg108, ← hsg170, hc537, hc538]; decide); rw [← hsg108, ← hsg170] at hq; exact hq.1)) : decide (tagged ([111, 112, 101, 110]) (sg107.op.getD k []) = sg169.cl.getD k []) = true)) rfl) (fun W => (rn_indexE Tryd.underlying28 inf37 ((F856.get rfl).trans (by rw [hA859])) (F856.get rfl) (by omega : (0 : Int) ≤ (k : Nat)) (by omega : ((k : Nat) : Int) < ((n99 : Nat) : Int)) (by omega))) fun _ F862 => ?_; clear F856
                  have d863 := ((hf482.ext hx507).ext hx768)
                  refine qs 33 (.agg (byteVals (sg107.cl.getD k [])).toArray) F862 rfl (wanted_guard rfl rfl rfl F862 rfl (not_t ((decide_eq_true (by have hq := opens_ne hz1 hz2 (k := k) (by omega) (by rw [← hsg108, ← hsg170, hc537, hc538]; decide); rw [← hsg108, ← hsg170] at hq; exact hq.1)) : decide (tagged ([111, 112, 101, 110]) (sg107.op.getD k []) = sg169.cl.getD k []) = true)) rfl) hS838 (fun W hW => (rn_loadN (cs := byteVals (sg107.cl.getD k [])) (F862.get rfl) Tryd.underlying37 rfl (inf37.trans (congrArg some (byteVals_len (dig_len h32114 k (by omega))).symm)) (Fl.digAt (d863.ext hW.1) hA859 h32114 (by omega)))) fun _ F865 => ?_; clear F862
                  refine any_one (i := 28) (by decide +kernel) rfl ?_
                  refine o_call F865 rfl (wanted_guard rfl rfl rfl F865 rfl (not_t ((decide_eq_true (by have hq := opens_ne hz1 hz2 (k := k) (by omega) (by rw [← hsg108, ← hsg170, hc537, hc538]; decide); rw [← hsg108, ← hsg170] at hq; exact hq.1)) : decide (tagged ([111, 112, 101, 110]) (sg107.op.getD k []) = sg169.cl.getD k []) = true)) rfl) rfl rfl (rn_call (args2 rfl (F865.get rfl)) rfl (by kernel_rfl)) (tagged_at ([111, 112, 101, 110]) (v := (.slice (some ⟨b843, o844 + k * 32, none⟩) 32 32)) (n := 32) (sg169.op.getD k []) _ (Fl.digPart (i := k) d846 hA845 h32173 (by omega) (by omega)) (hG.ext (((((Ext.refl w).trans hx475).trans hx507).trans hx768).trans hx825)) (by simp <;> omega) (by omega)) ?_
                  rintro _ w866 ⟨rfl, hx867⟩
                  refine ⟨_, rfl, ?_⟩; intro a868 F869; clear F865; have z870 := hx867.size
                  have b871 := (b829.ext hx867)
                  have b872 := (b830.ext hx867)
                  refine ⟨fun _ _ => ⟨(((Ext.refl w767).trans hx825).trans hx867), b871, b872⟩, ?_⟩
                  refine qp 34 (.bool (!decide (tagged ([111, 112, 101, 110]) (sg169.op.getD k []) = sg107.cl.getD k []))) F869 rfl (wanted_guard rfl rfl rfl F869 rfl (not_t ((decide_eq_true (by have hq := opens_ne hz1 hz2 (k := k) (by omega) (by rw [← hsg108, ← hsg170, hc537, hc538]; decide); rw [← hsg108, ← hsg170] at hq; exact hq.1)) : decide (tagged ([111, 112, 101, 110]) (sg107.op.getD k []) = sg169.cl.getD k []) = true)) rfl) (fun W => (rn_neA Tryd.underlying37 Tryd.underlying5 inf5 (by kernel_rfl) (F869.get rfl) (F869.get rfl) (tagged_len _ _) (dig_len h32114 k (by omega)))) fun _ F874 => ?_; clear F869
                  refine qp 35 (.bool (!decide (tagged ([111, 112, 101, 110]) (sg169.op.getD k []) = sg107.cl.getD k []))) F874 rfl (wanted_guard rfl rfl rfl F874 rfl rfl rfl) (fun W => (rn_pickF (c_false F874 rfl (not_t ((decide_eq_true (by have hq := opens_ne hz1 hz2 (k := k) (by omega) (by rw [← hsg108, ← hsg170, hc537, hc538]; decide); rw [← hsg108, ← hsg170] at hq; exact hq.1)) : decide (tagged ([111, 112, 101, 110]) (sg107.op.getD k []) = sg169.cl.getD k []) = true))) (F874.get rfl))) fun _ F876 => ?_; clear F874
                  refine qp 36 (.bool (!decide (tagged ([111, 112, 101, 110]) (sg169.op.getD k []) = sg107.cl.getD k []))) F876 rfl rfl (fun W => (rn_pickT (c_true F876 rfl rfl) (F876.get rfl))) fun _ F878 => ?_; clear F876
                  refine any_nil (by decide +kernel) ?_
                  refine hK766 _ _ ?_
                  clear hK766
                  have F879 := ((((((((((((((((((((((F878.nil.c F878 194 rfl).c F878 157 rfl).c F878 120 rfl).c F878 17 rfl).c F878 118 rfl).c F878 16 rfl).c F878 15 rfl).c F878 58 rfl).c F878 14 rfl).c F878 13 rfl).c F878 12 rfl).c F878 11 rfl).c F878 10 rfl).c F878 9 rfl).c F878 29 rfl).c F878 19 rfl).c F878 8 rfl).c F878 4 rfl).c F878 3 rfl).c F878 2 rfl).c F878 1 rfl).c F878 0 rfl)
                  clear F878
                  refine wp_cond_false (c_false F879 rfl (not_t ((decide_eq_true (by have hq := opens_ne hz1 hz2 (k := k) (by omega) (by rw [← hsg108, ← hsg170, hc537, hc538]; decide); rw [← hsg108, ← hsg170] at hq; exact hq.2)) : decide (tagged ([111, 112, 101, 110]) (sg169.op.getD k []) = sg107.cl.getD k []) = true))) ?_
                  refine wp_skip ?_
                  refine hK503 _ _ ?_
                  clear hK503
                  refine wp_region_lit ?_
                  refine qv 0 (.int .i64 (k : Nat)) F879 rfl (rn_move (F879.get rfl)) fun _ F882 => ?_; clear F879
                  refine qv 1 (.int .i64 (k + 1 : Nat)) F882 rfl (rn_addN (a := k) (b := 1) (F882.get rfl) rfl (by omega)) fun _ F884 => ?_; clear F882
                  refine qv 2 (.int .i64 (k + 1 : Nat)) F884 rfl (rn_assign (F884.get rfl)) fun _ F886 => ?_; clear F884
                  refine wpList_nil ?_
                  have d887 := ((((hf481.ext hx507).ext hx768).ext hx825).ext hx867)
                  have d888 := ((((hf482.ext hx507).ext hx768).ext hx825).ext hx867)
                  have d889 := ((((hf483.ext hx507).ext hx768).ext hx825).ext hx867)
                  have d890 := ((((hf484.ext hx507).ext hx768).ext hx825).ext hx867)
                  have d891 := ((((hf485.ext hx507).ext hx768).ext hx825).ext hx867)
                  have d892 := ((((hf486.ext hx507).ext hx768).ext hx825).ext hx867)
                  have d893 := ((((hf487.ext hx507).ext hx768).ext hx825).ext hx867)
                  have d894 := ((((hf488.ext hx507).ext hx768).ext hx825).ext hx867)
                  have b895 := ((((b477.ext hx507).ext hx768).ext hx825).ext hx867)
                  have b896 := ((((b478.ext hx507).ext hx768).ext hx825).ext hx867)
                  refine ⟨⟨(k + 1), (((((((((((((((((((F886.nil.cons (q_get F886 (t := 17) rfl (by first | rfl | (congr 1; omega) | (congr 1; done)))).cons (q_get F886 (t := 118) rfl rfl)).cons (q_get F886 (t := 16) rfl rfl)).cons (q_get F886 (t := 15) rfl rfl)).cons (q_get F886 (t := 58) rfl rfl)).cons (q_get F886 (t := 14) rfl rfl)).cons (q_get F886 (t := 13) rfl rfl)).cons (q_get F886 (t := 12) rfl rfl)).cons (q_get F886 (t := 11) rfl rfl)).cons (q_get F886 (t := 10) rfl rfl)).cons (q_get F886 (t := 9) rfl rfl)).cons (q_get F886 (t := 29) rfl rfl)).cons (q_get F886 (t := 19) rfl rfl)).cons (q_get F886 (t := 8) rfl rfl)).cons (q_get F886 (t := 4) rfl rfl)).cons (q_get F886 (t := 3) rfl rfl)).cons (q_get F886 (t := 2) rfl rfl)).cons (q_get F886 (t := 1) rfl rfl)).cons (q_get F886 (t := 0) rfl rfl)), (by omega), ((((((Ext.refl w).trans hx475).trans hx507).trans hx768).trans hx825).trans hx867), b895, b896, b871, b872, d887, d888, d889, d890, d891, d892, d893, d894, (by omega)⟩, ?_⟩
                  rw [F886.get (t := 17) rfl, hL490.get (t := 17) rfl]; simp [intOf] <;> omega
              · skip
                rcases Bool.eq_false_or_eq_true ((bitsR (pubF sd many used) sg169.index other).getD k false) with hc897 | hc897
                · skip
                  refine qp 8 (.bool false) F536 rfl rfl (fun W => (rn_eqB Tryd.underlying4 (F536.get rfl) (F536.get rfl) (show _ = false from hc537) (show _ = true from hc897) rfl)) fun _ F899 => ?_; clear F536
                  refine qp 9 (.bool false) F899 rfl rfl (fun W => (rn_move (F899.get rfl))) fun _ F901 => ?_; clear F899
                  refine qk 10 F901 rfl rfl fun _ F903 => ?_; clear F901
                  refine qk 11 F903 rfl rfl fun _ F905 => ?_; clear F903
                  refine qk 12 F905 rfl rfl fun _ F907 => ?_; clear F905
                  refine qk 13 F907 rfl rfl fun _ F909 => ?_; clear F907
                  refine qk 14 F909 rfl rfl fun _ F911 => ?_; clear F909
                  refine qk 15 F911 rfl rfl fun _ F913 => ?_; clear F911
                  refine qk 16 F913 rfl rfl fun _ F915 => ?_; clear F913
                  refine qk 17 F915 rfl rfl fun _ F917 => ?_; clear F915
                  refine qk 18 F917 rfl rfl fun _ F919 => ?_; clear F917
                  refine qk 19 F919 rfl rfl fun _ F921 => ?_; clear F919
                  refine qk 20 F921 rfl rfl fun _ F923 => ?_; clear F921
                  refine qk 21 F923 rfl rfl fun _ F925 => ?_; clear F923
                  refine qn 22 F925 rfl (unwanted_undef rfl rfl rfl F925 rfl) fun _ F927 => ?_; clear F925
                  refine qn 23 F927 rfl (unwanted_undef rfl rfl rfl F927 rfl) fun _ F929 => ?_; clear F927
                  refine qn 24 F929 rfl (unwanted_undef rfl rfl rfl F929 rfl) fun _ F931 => ?_; clear F929
                  refine qn 25 F931 rfl (unwanted_undef rfl rfl rfl F931 rfl) fun _ F933 => ?_; clear F931
                  refine qn 26 F933 rfl (unwanted_undef rfl rfl rfl F933 rfl) fun _ F935 => ?_; clear F933
                  refine qn 27 F935 rfl (unwanted_undef rfl rfl rfl F935 rfl) fun _ F937 => ?_; clear F935
                  refine qn 28 F937 rfl (unwanted_undef rfl rfl rfl F937 rfl) fun _ F939 => ?_; clear F937
                  refine qn 29 F939 rfl (unwanted_undef rfl rfl rfl F939 rfl) fun _ F941 => ?_; clear F939
                  refine qn 30 F941 rfl (unwanted_undef rfl rfl rfl F941 rfl) fun _ F943 => ?_; clear F941
                  refine qn 31 F943 rfl (unwanted_undef rfl rfl rfl F943 rfl) fun _ F945 => ?_; clear F943
                  refine qn 32 F945 rfl (unwanted_undef rfl rfl rfl F945 rfl) fun _ F947 => ?_; clear F945
                  refine qk 33 F947 rfl rfl fun _ F949 => ?_; clear F947
                  refine qp 34 (.bool false) F949 rfl rfl (fun W => (rn_pickF (c_false F949 rfl rfl) rfl)) fun _ F951 => ?_; clear F949
                  refine any_nil (by decide +kernel) ?_
                  refine hK505 _ _ ?_
                  clear hK505
                  have F952 := (((((((((((((((((((((F951.nil.c F951 157 rfl).c F951 120 rfl).c F951 17 rfl).c F951 118 rfl).c F951 16 rfl).c F951 15 rfl).c F951 58 rfl).c F951 14 rfl).c F951 13 rfl).c F951 12 rfl).c F951 11 rfl).c F951 10 rfl).c F951 9 rfl).c F951 29 rfl).c F951 19 rfl).c F951 8 rfl).c F951 4 rfl).c F951 3 rfl).c F951 2 rfl).c F951 1 rfl).c F951 0 rfl)
                  clear F951
                  refine wp_cond_false (c_false F952 rfl rfl) ?_
                  refine wp_skip ?_
                  refine hK504 _ _ ?_
                  clear hK504
                  refine wp_seq_k (fun K953 hK953 => ?_)
                  have hx955 : ∃ W, w506.drew = W ∧ Ext w506 W := ⟨_, rfl, (Ext.refl _).drew⟩
                  obtain ⟨w954, e956, hx955⟩ := hx955
                  have z957 := hx955.size
                  refine any_start (fun W => Ext w954 W ∧ Blk W g132 30 [(.int .i64 sg107.index), (.slice A95 n96 c97), (.slice A98 n99 c100), (.slice A101 n102 c103)] ∧ Blk W g194 30 [(.int .i64 sg169.index), (.slice A157 n158 c159), (.slice A160 n161 c162), (.slice A163 n164 c165)]) (fun i => false) 37 #[false, false, false, false, false, false, false, false, false, false, false, false, false, false, false, false, false, false, false, false, false, false, false, false, false, false, false, false, false, false, false, false, false, false, false, false, false] rfl rfl rfl ?_
                  rw [e956]; clear e956
                  refine qp 0 (.slice A310 n311 c312) F952 rfl rfl (fun W => (rn_move (F952.get rfl))) fun _ F959 => ?_; clear F952
                  refine qp 1 (.int .i64 (k : Nat)) F959 rfl rfl (fun W => (rn_move (F959.get rfl))) fun _ F961 => ?_; clear F959
                  refine qp 2 (.pointer (some ⟨b514, o515 + k, none⟩)) F961 rfl rfl (fun W => (rn_index1 Tryd.underlying44 inf4 ((F961.get rfl).trans (by rw [hA516])) (F961.get rfl) (by omega : (0 : Int) ≤ (k : Nat)) (by omega : ((k : Nat) : Int) < ((n311 : Nat) : Int)))) fun _ F963 => ?_; clear F961
                  have b965 := (b521.ext hx955)
                  have b966 := (b522.ext hx955)
                  have hS964 : Ext w954 w954 ∧ Blk w954 g132 30 [(.int .i64 sg107.index), (.slice A95 n96 c97), (.slice A98 n99 c100), (.slice A101 n102 c103)] ∧ Blk w954 g194 30 [(.int .i64 sg169.index), (.slice A157 n158 c159), (.slice A160 n161 c162), (.slice A163 n164 c165)] := ⟨(Ext.refl w954), b965, b966⟩
                  have d967 := ((hf487.ext hx507).ext hx955)
                  refine qs 3 (.bool ((bitsR (pubF sd many used) sg107.index msg).getD k false)) F963 rfl rfl hS964 (fun W hW => (rn_load (isAgg_no Tryd.underlying4 rfl) (F963.get rfl) (Fl.cellAt (d967.ext hW.1) hA516 (boolVals_at (i := k) (by omega))))) fun _ F969 => ?_; clear F963
                  refine qp 4 (.slice A326 n327 c328) F969 rfl rfl (fun W => (rn_move (F969.get rfl))) fun _ F971 => ?_; clear F969
                  refine qp 5 (.int .i64 (k : Nat)) F971 rfl rfl (fun W => (rn_move (F971.get rfl))) fun _ F973 => ?_; clear F971
                  refine qp 6 (.pointer (some ⟨b529, o530 + k, none⟩)) F973 rfl rfl (fun W => (rn_index1 Tryd.underlying44 inf4 ((F973.get rfl).trans (by rw [hA531])) (F973.get rfl) (by omega : (0 : Int) ≤ (k : Nat)) (by omega : ((k : Nat) : Int) < ((n327 : Nat) : Int)))) fun _ F975 => ?_; clear F973
                  have d976 := ((hf488.ext hx507).ext hx955)
                  refine qs 7 (.bool ((bitsR (pubF sd many used) sg169.index other).getD k false)) F975 rfl rfl hS964 (fun W hW => (rn_load (isAgg_no Tryd.underlying4 rfl) (F975.get rfl) (Fl.cellAt (d976.ext hW.1) hA531 (boolVals_at (i := k) (by omega))))) fun _ F978 => ?_; clear F975
                  refine qp 8 (.bool true) F978 rfl rfl (fun W => (rn_neB Tryd.underlying4 (F978.get rfl) (F978.get rfl) (show _ = false from hc537) (show _ = true from hc897) rfl)) fun _ F980 => ?_; clear F978
                  refine qp 9 (.bool true) F980 rfl rfl (fun W => (rn_move (F980.get rfl))) fun _ F982 => ?_; clear F980
                  refine qp 10 (.pointer (some ⟨g132, 1, none⟩)) F982 rfl (wanted_guard rfl rfl rfl F982 rfl rfl rfl) (fun W => (rn_field Tryd.underlying30 rfl (by kernel_rfl) (F982.get rfl) rfl)) fun _ F984 => ?_; clear F982
                  refine qs 11 (.slice A95 n96 c97) F984 rfl (wanted_guard rfl rfl rfl F984 rfl rfl rfl) hS964 (fun W hW => (rn_load (isAgg_no Tryd.underlying28 rfl) (F984.get rfl) (hW.2.1.rule.1 1))) fun _ F986 => ?_; clear F984
                  refine qp 12 (.int .i64 (k : Nat)) F986 rfl (wanted_guard rfl rfl rfl F986 rfl rfl rfl) (fun W => (rn_move (F986.get rfl))) fun _ F988 => ?_; clear F986
                  have d992 := ((hf481.ext hx507).ext hx955)
                  obtain ⟨b989, o990, hA991, -⟩ := Fl.at d992 (by omega)
                  refine qp 13 (.pointer (some ⟨b989, o990 + k * 32, none⟩)) F988 rfl (wanted_guard rfl rfl rfl F988 rfl rfl rfl) (fun W => (rn_indexE Tryd.underlying28 inf37 ((F988.get rfl).trans (by rw [hA991])) (F988.get rfl) (by omega : (0 : Int) ≤ (k : Nat)) (by omega : ((k : Nat) : Int) < ((n96 : Nat) : Int)) (by omega))) fun _ F994 => ?_; clear F988
                  refine qp 14 (.slice (some ⟨b989, o990 + k * 32, none⟩) 32 32) F994 rfl (wanted_guard rfl rfl rfl F994 rfl rfl rfl) (fun W => (rn_arrAll Tryd.underlying37 inf5 (F994.get rfl))) fun _ F996 => ?_; clear F994
                  refine qp 16 (.pointer (some ⟨g194, 2, none⟩)) F996 rfl (wanted_guard rfl rfl rfl F996 rfl rfl rfl) (fun W => (rn_field Tryd.underlying30 rfl (by kernel_rfl) (F996.get rfl) rfl)) fun _ F998 => ?_; clear F996
                  refine qs 17 (.slice A160 n161 c162) F998 rfl (wanted_guard rfl rfl rfl F998 rfl rfl rfl) hS964 (fun W hW => (rn_load (isAgg_no Tryd.underlying28 rfl) (F998.get rfl) (hW.2.2.rule.1 2))) fun _ F1000 => ?_; clear F998
                  refine qp 18 (.int .i64 (k : Nat)) F1000 rfl (wanted_guard rfl rfl rfl F1000 rfl rfl rfl) (fun W => (rn_move (F1000.get rfl))) fun _ F1002 => ?_; clear F1000
                  have d1006 := ((hf485.ext hx507).ext hx955)
                  obtain ⟨b1003, o1004, hA1005, -⟩ := Fl.at d1006 (by omega)
                  refine qp 19 (.pointer (some ⟨b1003, o1004 + k * 32, none⟩)) F1002 rfl (wanted_guard rfl rfl rfl F1002 rfl rfl rfl) (fun W => (rn_indexE Tryd.underlying28 inf37 ((F1002.get rfl).trans (by rw [hA1005])) (F1002.get rfl) (by omega : (0 : Int) ≤ (k : Nat)) (by omega : ((k : Nat) : Int) < ((n161 : Nat) : Int)) (by omega))) fun _ F1008 => ?_; clear F1002
                  refine qs 20 (.agg (byteVals (sg169.cl.getD k [])).toArray) F1008 rfl (wanted_guard rfl rfl rfl F1008 rfl rfl rfl) hS964 (fun W hW => (rn_loadN (cs := byteVals (sg169.cl.getD k [])) (F1008.get rfl) Tryd.underlying37 rfl (inf37.trans (congrArg some (byteVals_len (dig_len h32176 k (by omega))).symm)) (Fl.digAt (d1006.ext hW.1) hA1005 h32176 (by omega)))) fun _ F1010 => ?_; clear F1008
                  refine any_one (i := 15) (by decide +kernel) rfl ?_
                  refine o_call F1010 rfl (wanted_guard rfl rfl rfl F1010 rfl rfl rfl) rfl rfl (rn_call (args2 rfl (F1010.get rfl)) rfl (by kernel_rfl)) (tagged_at ([111, 112, 101, 110]) (v := (.slice (some ⟨b989, o990 + k * 32, none⟩) 32 32)) (n := 32) (sg107.op.getD k []) _ (Fl.digPart (i := k) d992 hA991 h32111 (by omega) (by omega)) (hG.ext ((((Ext.refl w).trans hx475).trans hx507).trans hx955)) (by simp <;> omega) (by omega)) ?_
                  rintro _ w1011 ⟨rfl, hx1012⟩
                  refine ⟨_, rfl, ?_⟩; intro a1013 F1014; clear F1010; have z1015 := hx1012.size
                  have b1016 := (b965.ext hx1012)
                  have b1017 := (b966.ext hx1012)
                  refine ⟨fun _ _ => ⟨((Ext.refl w954).trans hx1012), b1016, b1017⟩, ?_⟩
                  refine qp 21 (.bool (!decide (tagged ([111, 112, 101, 110]) (sg107.op.getD k []) = sg169.cl.getD k []))) F1014 rfl (wanted_guard rfl rfl rfl F1014 rfl rfl rfl) (fun W => (rn_neA Tryd.underlying37 Tryd.underlying5 inf5 (by kernel_rfl) (F1014.get rfl) (F1014.get rfl) (tagged_len _ _) (dig_len h32176 k (by omega)))) fun _ F1019 => ?_; clear F1014
                  refine qp 22 (.bool (!decide (tagged ([111, 112, 101, 110]) (sg107.op.getD k []) = sg169.cl.getD k []))) F1019 rfl (wanted_guard rfl rfl rfl F1019 rfl rfl rfl) (fun W => (rn_move (F1019.get rfl))) fun _ F1021 => ?_; clear F1019
                  refine qp 23 (.pointer (some ⟨g194, 1, none⟩)) F1021 rfl (wanted_guard rfl rfl rfl F1021 rfl (not_t ((decide_eq_true (by have hq := opens_ne hz1 hz2 (k := k) (by omega) (by rw [← hsg108, ← hsg170, hc537, hc897]; decide); rw [← hsg108, ← hsg170] at hq; exact hq.1)) : decide (tagged ([111, 112, 101, 110]) (sg107.op.getD k []) = sg169.cl.getD k []) = true)) rfl) (fun W => (rn_field Tryd.underlying30 rfl (by kernel_rfl) (F1021.get rfl) rfl)) fun _ F1024 => ?_; clear F1021
                  have hS1025 : Ext w954 w1011 ∧ Blk w1011 g132 30 [(.int .i64 sg107.index), (.slice A95 n96 c97), (.slice A98 n99 c100), (.slice A101 n102 c103)] ∧ Blk w1011 g194 30 [(.int .i64 sg169.index), (.slice A157 n158 c159), (.slice A160 n161 c162), (.slice A163 n164 c165)] := ⟨((Ext.refl w954).trans hx1012), b1016, b1017⟩
                  refine qs 24 (.slice A157 n158 c159) F1024 rfl (wanted_guard rfl rfl rfl F1024 rfl (not_t ((decide_eq_true (by have hq := opens_ne hz1 hz2 (k := k) (by omega) (by rw [← hsg108, ← hsg170, hc537, hc897]; decide); rw [← hsg108, ← hsg170] at hq; exact hq.1)) : decide (tagged ([111, 112, 101, 110]) (sg107.op.getD k []) = sg169.cl.getD k []) = true)) rfl) hS1025 (fun W hW => (rn_load (isAgg_no Tryd.underlying28 rfl) (F1024.get rfl) (hW.2.2.rule.1 1))) fun _ F1027 => ?_; clear F1024
                  refine qp 25 (.int .i64 (k : Nat)) F1027 rfl (wanted_guard rfl rfl rfl F1027 rfl (not_t ((decide_eq_true (by have hq := opens_ne hz1 hz2 (k := k) (by omega) (by rw [← hsg108, ← hsg170, hc537, hc897]; decide); rw [← hsg108, ← hsg170] at hq; exact hq.1)) : decide (tagged ([111, 112, 101, 110]) (sg107.op.getD k []) = sg169.cl.getD k []) = true)) rfl) (fun W => (rn_move (F1027.get rfl))) fun _ F1029 => ?_; clear F1027
                  have d1033 := (((hf484.ext hx507).ext hx955).ext hx1012)
                  obtain ⟨b1030, o1031, hA1032, -⟩ := Fl.at d1033 (by omega)
                  refine qp 26 (.pointer (some ⟨b1030, o1031 + k * 32, none⟩)) F1029 rfl (wanted_guard rfl rfl rfl F1029 rfl (not_t ((decide_eq_true (by have hq := opens_ne hz1 hz2 (k := k) (by omega) (by rw [← hsg108, ← hsg170, hc537, hc897]; decide); rw [← hsg108, ← hsg170] at hq; exact hq.1)) : decide (tagged ([111, 112, 101, 110]) (sg107.op.getD k []) = sg169.cl.getD k []) = true)) rfl) (fun W => (rn_indexE Tryd.underlying28 inf37 ((F1029.get rfl).trans (by rw [hA1032])) (F1029.get rfl) (by omega : (0 : Int) ≤ (k : Nat)) (by omega : ((k : Nat) : Int) < ((n158 : Nat) : Int)) (by omega))) fun _ F1035 => ?_; clear F1029
                  refine qp 27 (.slice (some ⟨b1030, o1031 + k * 32, none⟩) 32 32) F1035 rfl (wanted_guard rfl rfl rfl F1035 rfl (not_t ((decide_eq_true (by have hq := opens_ne hz1 hz2 (k := k) (by omega) (by rw [← hsg108, ← hsg170, hc537, hc897]; decide); rw [← hsg108, ← hsg170] at hq; exact hq.1)) : decide (tagged ([111, 112, 101, 110]) (sg107.op.getD k []) = sg169.cl.getD k []) = true)) rfl) (fun W => (rn_arrAll Tryd.underlying37 inf5 (F1035.get rfl))) fun _ F1037 => ?_; clear F1035
                  refine qp 29 (.pointer (some ⟨g132, 2, none⟩)) F1037 rfl (wanted_guard rfl rfl rfl F1037 rfl (not_t ((decide_eq_true (by have hq := opens_ne hz1 hz2 (k := k) (by omega) (by rw [← hsg108, ← hsg170, hc537, hc897]; decide); rw [← hsg108, ← hsg170] at hq; exact hq.1)) : decide (tagged ([111, 112, 101, 110]) (sg107.op.getD k []) = sg169.cl.getD k []) = true)) rfl) (fun W => (rn_field Tryd.underlying30 rfl (by kernel_rfl) (F1037.get rfl) rfl)) fun _ F1039 => ?_; clear F1037
                  refine qs 30 (.slice A98 n99 c100) F1039 rfl (wanted_guard rfl rfl rfl F1039 rfl (not_t ((decide_eq_true (by have hq := opens_ne hz1 hz2 (k := k) (by omega) (by rw [← hsg108, ← hsg170, hc537, hc897]; decide); rw [← hsg108, ← hsg170] at hq; exact hq.1)) : decide (tagged ([111, 112, 101, 110]) (sg107.op.getD k []) = sg169.cl.getD k []) = true)) rfl) hS1025 (fun W hW => (rn_load (isAgg_no Tryd.underlying28 rfl) (F1039.get rfl) (hW.2.1.rule.1 2))) fun _ F1041 => ?_; clear F1039
                  refine qp 31 (.int .i64 (k : Nat)) F1041 rfl (wanted_guard rfl rfl rfl F1041 rfl (not_t ((decide_eq_true (by have hq := opens_ne hz1 hz2 (k := k) (by omega) (by rw [← hsg108, ← hsg170, hc537, hc897]; decide); rw [← hsg108, ← hsg170] at hq; exact hq.1)) : decide (tagged ([111, 112, 101, 110]) (sg107.op.getD k []) = sg169.cl.getD k []) = true)) rfl) (fun W => (rn_move (F1041.get rfl))) fun _ F1043 => ?_; clear F1041
                  have d1047 := (((hf482.ext hx507).ext hx955).ext hx1012)
                  obtain ⟨b1044, o1045, hA1046, -⟩ := Fl.at d1047 (by omega)
                  refine qp 32 (.pointer (some ⟨b1044, o1045 + k * 32, none⟩)) F1043 rfl (wanted_guard rfl rfl rfl F1043 rfl (not_t ((decide_eq_true (by have hq := opens_ne hz1 hz2 (k := k) (by omega) (by rw [← hsg108, ← hsg170, hc537, hc897]; decide); rw [← hsg108, ← hsg170] at hq; exact hq.1)) : decide (tagged ([111, 112, 101, 110]) (sg107.op.getD k []) = sg169.cl.getD k []) = true)) rfl) (fun W => (rn_indexE Tryd.underlying28 inf37 ((F1043.get rfl).trans (by rw [hA1046])) (F1043.get rfl) (by omega : (0 : Int) ≤ (k : Nat)) (by omega : ((k : Nat) : Int) < ((n99 : Nat) : Int)) (by omega))) fun _ F1049 => ?_; clear F1043
                  have d1050 := ((hf482.ext hx507).ext hx955)
                  refine qs 33 (.agg (byteVals (sg107.cl.getD k [])).toArray) F1049 rfl (wanted_guard rfl rfl rfl F1049 rfl (not_t ((decide_eq_true (by have hq := opens_ne hz1 hz2 (k := k) (by omega) (by rw [← hsg108, ← hsg170, hc537, hc897]; decide); rw [← hsg108, ← hsg170] at hq; exact hq.1)) : decide (tagged ([111, 112, 101, 110]) (sg107.op.getD k []) = sg169.cl.getD k []) = true)) rfl) hS1025 (fun W hW => (rn_loadN (cs := byteVals (sg107.cl.getD k [])) (F1049.get rfl) Tryd.underlying37 rfl (inf37.trans (congrArg some (byteVals_len (dig_len h32114 k (by omega))).symm)) (Fl.digAt (d1050.ext hW.1) hA1046 h32114 (by omega)))) fun _ F1052 => ?_; clear F1049
                  refine any_one (i := 28) (by decide +kernel) rfl ?_
                  refine o_call F1052 rfl (wanted_guard rfl rfl rfl F1052 rfl (not_t ((decide_eq_true (by have hq := opens_ne hz1 hz2 (k := k) (by omega) (by rw [← hsg108, ← hsg170, hc537, hc897]; decide); rw [← hsg108, ← hsg170] at hq; exact hq.1)) : decide (tagged ([111, 112, 101, 110]) (sg107.op.getD k []) = sg169.cl.getD k []) = true)) rfl) rfl rfl (rn_call (args2 rfl (F1052.get rfl)) rfl (by kernel_rfl)) (tagged_at ([111, 112, 101, 110]) (v := (.slice (some ⟨b1030, o1031 + k * 32, none⟩) 32 32)) (n := 32) (sg169.op.getD k []) _ (Fl.digPart (i := k) d1033 hA1032 h32173 (by omega) (by omega)) (hG.ext (((((Ext.refl w).trans hx475).trans hx507).trans hx955).trans hx1012)) (by simp <;> omega) (by omega)) ?_
                  rintro _ w1053 ⟨rfl, hx1054⟩
                  refine ⟨_, rfl, ?_⟩; intro a1055 F1056; clear F1052; have z1057 := hx1054.size
                  have b1058 := (b1016.ext hx1054)
                  have b1059 := (b1017.ext hx1054)
                  refine ⟨fun _ _ => ⟨(((Ext.refl w954).trans hx1012).trans hx1054), b1058, b1059⟩, ?_⟩
                  refine qp 34 (.bool (!decide (tagged ([111, 112, 101, 110]) (sg169.op.getD k []) = sg107.cl.getD k []))) F1056 rfl (wanted_guard rfl rfl rfl F1056 rfl (not_t ((decide_eq_true (by have hq := opens_ne hz1 hz2 (k := k) (by omega) (by rw [← hsg108, ← hsg170, hc537, hc897]; decide); rw [← hsg108, ← hsg170] at hq; exact hq.1)) : decide (tagged ([111, 112, 101, 110]) (sg107.op.getD k []) = sg169.cl.getD k []) = true)) rfl) (fun W => (rn_neA Tryd.underlying37 Tryd.underlying5 inf5 (by kernel_rfl) (F1056.get rfl) (F1056.get rfl) (tagged_len _ _) (dig_len h32114 k (by omega)))) fun _ F1061 => ?_; clear F1056
                  refine qp 35 (.bool (!decide (tagged ([111, 112, 101, 110]) (sg169.op.getD k []) = sg107.cl.getD k []))) F1061 rfl (wanted_guard rfl rfl rfl F1061 rfl rfl rfl) (fun W => (rn_pickF (c_false F1061 rfl (not_t ((decide_eq_true (by have hq := opens_ne hz1 hz2 (k := k) (by omega) (by rw [← hsg108, ← hsg170, hc537, hc897]; decide); rw [← hsg108, ← hsg170] at hq; exact hq.1)) : decide (tagged ([111, 112, 101, 110]) (sg107.op.getD k []) = sg169.cl.getD k []) = true))) (F1061.get rfl))) fun _ F1063 => ?_; clear F1061
                  refine qp 36 (.bool (!decide (tagged ([111, 112, 101, 110]) (sg169.op.getD k []) = sg107.cl.getD k []))) F1063 rfl rfl (fun W => (rn_pickT (c_true F1063 rfl rfl) (F1063.get rfl))) fun _ F1065 => ?_; clear F1063
                  refine any_nil (by decide +kernel) ?_
                  refine hK953 _ _ ?_
                  clear hK953
                  have F1066 := ((((((((((((((((((((((F1065.nil.c F1065 194 rfl).c F1065 157 rfl).c F1065 120 rfl).c F1065 17 rfl).c F1065 118 rfl).c F1065 16 rfl).c F1065 15 rfl).c F1065 58 rfl).c F1065 14 rfl).c F1065 13 rfl).c F1065 12 rfl).c F1065 11 rfl).c F1065 10 rfl).c F1065 9 rfl).c F1065 29 rfl).c F1065 19 rfl).c F1065 8 rfl).c F1065 4 rfl).c F1065 3 rfl).c F1065 2 rfl).c F1065 1 rfl).c F1065 0 rfl)
                  clear F1065
                  refine wp_cond_false (c_false F1066 rfl (not_t ((decide_eq_true (by have hq := opens_ne hz1 hz2 (k := k) (by omega) (by rw [← hsg108, ← hsg170, hc537, hc897]; decide); rw [← hsg108, ← hsg170] at hq; exact hq.2)) : decide (tagged ([111, 112, 101, 110]) (sg169.op.getD k []) = sg107.cl.getD k []) = true))) ?_
                  refine wp_skip ?_
                  refine hK503 _ _ ?_
                  clear hK503
                  refine wp_region_lit ?_
                  refine qv 0 (.int .i64 (k : Nat)) F1066 rfl (rn_move (F1066.get rfl)) fun _ F1069 => ?_; clear F1066
                  refine qv 1 (.int .i64 (k + 1 : Nat)) F1069 rfl (rn_addN (a := k) (b := 1) (F1069.get rfl) rfl (by omega)) fun _ F1071 => ?_; clear F1069
                  refine qv 2 (.int .i64 (k + 1 : Nat)) F1071 rfl (rn_assign (F1071.get rfl)) fun _ F1073 => ?_; clear F1071
                  refine wpList_nil ?_
                  have d1074 := ((((hf481.ext hx507).ext hx955).ext hx1012).ext hx1054)
                  have d1075 := ((((hf482.ext hx507).ext hx955).ext hx1012).ext hx1054)
                  have d1076 := ((((hf483.ext hx507).ext hx955).ext hx1012).ext hx1054)
                  have d1077 := ((((hf484.ext hx507).ext hx955).ext hx1012).ext hx1054)
                  have d1078 := ((((hf485.ext hx507).ext hx955).ext hx1012).ext hx1054)
                  have d1079 := ((((hf486.ext hx507).ext hx955).ext hx1012).ext hx1054)
                  have d1080 := ((((hf487.ext hx507).ext hx955).ext hx1012).ext hx1054)
                  have d1081 := ((((hf488.ext hx507).ext hx955).ext hx1012).ext hx1054)
                  have b1082 := ((((b477.ext hx507).ext hx955).ext hx1012).ext hx1054)
                  have b1083 := ((((b478.ext hx507).ext hx955).ext hx1012).ext hx1054)
                  refine ⟨⟨(k + 1), (((((((((((((((((((F1073.nil.cons (q_get F1073 (t := 17) rfl (by first | rfl | (congr 1; omega) | (congr 1; done)))).cons (q_get F1073 (t := 118) rfl rfl)).cons (q_get F1073 (t := 16) rfl rfl)).cons (q_get F1073 (t := 15) rfl rfl)).cons (q_get F1073 (t := 58) rfl rfl)).cons (q_get F1073 (t := 14) rfl rfl)).cons (q_get F1073 (t := 13) rfl rfl)).cons (q_get F1073 (t := 12) rfl rfl)).cons (q_get F1073 (t := 11) rfl rfl)).cons (q_get F1073 (t := 10) rfl rfl)).cons (q_get F1073 (t := 9) rfl rfl)).cons (q_get F1073 (t := 29) rfl rfl)).cons (q_get F1073 (t := 19) rfl rfl)).cons (q_get F1073 (t := 8) rfl rfl)).cons (q_get F1073 (t := 4) rfl rfl)).cons (q_get F1073 (t := 3) rfl rfl)).cons (q_get F1073 (t := 2) rfl rfl)).cons (q_get F1073 (t := 1) rfl rfl)).cons (q_get F1073 (t := 0) rfl rfl)), (by omega), ((((((Ext.refl w).trans hx475).trans hx507).trans hx955).trans hx1012).trans hx1054), b1082, b1083, b1058, b1059, d1074, d1075, d1076, d1077, d1078, d1079, d1080, d1081, (by omega)⟩, ?_⟩
                  rw [F1073.get (t := 17) rfl, hL490.get (t := 17) rfl]; simp [intOf] <;> omega
                · skip
                  refine qp 8 (.bool true) F536 rfl rfl (fun W => (rn_eqB Tryd.underlying4 (F536.get rfl) (F536.get rfl) (show _ = false from hc537) (show _ = false from hc897) rfl)) fun _ F1085 => ?_; clear F536
                  refine qp 9 (.bool true) F1085 rfl rfl (fun W => (rn_move (F1085.get rfl))) fun _ F1087 => ?_; clear F1085
                  refine qp 10 (.pointer (some ⟨g132, 1, none⟩)) F1087 rfl (wanted_guard rfl rfl rfl F1087 rfl rfl rfl) (fun W => (rn_field Tryd.underlying30 rfl (by kernel_rfl) (F1087.get rfl) rfl)) fun _ F1089 => ?_; clear F1087
                  refine qs 11 (.slice A95 n96 c97) F1089 rfl (wanted_guard rfl rfl rfl F1089 rfl rfl rfl) hS520 (fun W hW => (rn_load (isAgg_no Tryd.underlying28 rfl) (F1089.get rfl) (hW.2.1.rule.1 1))) fun _ F1091 => ?_; clear F1089
                  refine qp 12 (.int .i64 (k : Nat)) F1091 rfl (wanted_guard rfl rfl rfl F1091 rfl rfl rfl) (fun W => (rn_move (F1091.get rfl))) fun _ F1093 => ?_; clear F1091
                  have d1097 := (hf481.ext hx507)
                  obtain ⟨b1094, o1095, hA1096, -⟩ := Fl.at d1097 (by omega)
                  refine qp 13 (.pointer (some ⟨b1094, o1095 + k * 32, none⟩)) F1093 rfl (wanted_guard rfl rfl rfl F1093 rfl rfl rfl) (fun W => (rn_indexE Tryd.underlying28 inf37 ((F1093.get rfl).trans (by rw [hA1096])) (F1093.get rfl) (by omega : (0 : Int) ≤ (k : Nat)) (by omega : ((k : Nat) : Int) < ((n96 : Nat) : Int)) (by omega))) fun _ F1099 => ?_; clear F1093
                  refine qs 14 (.agg (byteVals (sg107.op.getD k [])).toArray) F1099 rfl (wanted_guard rfl rfl rfl F1099 rfl rfl rfl) hS520 (fun W hW => (rn_loadN (cs := byteVals (sg107.op.getD k [])) (F1099.get rfl) Tryd.underlying37 rfl (inf37.trans (congrArg some (byteVals_len (dig_len h32111 k (by omega))).symm)) (Fl.digAt (d1097.ext hW.1) hA1096 h32111 (by omega)))) fun _ F1101 => ?_; clear F1099
                  refine qp 15 (.pointer (some ⟨g194, 1, none⟩)) F1101 rfl (wanted_guard rfl rfl rfl F1101 rfl rfl rfl) (fun W => (rn_field Tryd.underlying30 rfl (by kernel_rfl) (F1101.get rfl) rfl)) fun _ F1103 => ?_; clear F1101
                  refine qs 16 (.slice A157 n158 c159) F1103 rfl (wanted_guard rfl rfl rfl F1103 rfl rfl rfl) hS520 (fun W hW => (rn_load (isAgg_no Tryd.underlying28 rfl) (F1103.get rfl) (hW.2.2.rule.1 1))) fun _ F1105 => ?_; clear F1103
                  refine qp 17 (.int .i64 (k : Nat)) F1105 rfl (wanted_guard rfl rfl rfl F1105 rfl rfl rfl) (fun W => (rn_move (F1105.get rfl))) fun _ F1107 => ?_; clear F1105
                  have d1111 := (hf484.ext hx507)
                  obtain ⟨b1108, o1109, hA1110, -⟩ := Fl.at d1111 (by omega)
                  refine qp 18 (.pointer (some ⟨b1108, o1109 + k * 32, none⟩)) F1107 rfl (wanted_guard rfl rfl rfl F1107 rfl rfl rfl) (fun W => (rn_indexE Tryd.underlying28 inf37 ((F1107.get rfl).trans (by rw [hA1110])) (F1107.get rfl) (by omega : (0 : Int) ≤ (k : Nat)) (by omega : ((k : Nat) : Int) < ((n158 : Nat) : Int)) (by omega))) fun _ F1113 => ?_; clear F1107
                  refine qs 19 (.agg (byteVals (sg169.op.getD k [])).toArray) F1113 rfl (wanted_guard rfl rfl rfl F1113 rfl rfl rfl) hS520 (fun W hW => (rn_loadN (cs := byteVals (sg169.op.getD k [])) (F1113.get rfl) Tryd.underlying37 rfl (inf37.trans (congrArg some (byteVals_len (dig_len h32173 k (by omega))).symm)) (Fl.digAt (d1111.ext hW.1) hA1110 h32173 (by omega)))) fun _ F1115 => ?_; clear F1113
                  refine qp 20 (.bool (!decide (sg107.op.getD k [] = sg169.op.getD k []))) F1115 rfl (wanted_guard rfl rfl rfl F1115 rfl rfl rfl) (fun W => (rn_neA Tryd.underlying37 Tryd.underlying5 inf5 (by kernel_rfl) (F1115.get rfl) (F1115.get rfl) (dig_len h32111 k (by omega)) (dig_len h32173 k (by omega)))) fun _ F1117 => ?_; clear F1115
                  refine qp 21 (.bool (!decide (sg107.op.getD k [] = sg169.op.getD k []))) F1117 rfl (wanted_guard rfl rfl rfl F1117 rfl rfl rfl) (fun W => (rn_move (F1117.get rfl))) fun _ F1119 => ?_; clear F1117
                  refine qp 22 (.pointer (some ⟨g132, 2, none⟩)) F1119 rfl (wanted_guard rfl rfl rfl F1119 rfl (not_t ((decide_eq_true (by have hq := opens_eq hz1 hz2 (k := k) (by omega) (by rw [← hsg108, ← hsg170]; exact hc537.trans hc897.symm); rw [← hsg108, ← hsg170] at hq; exact hq.1)) : decide (sg107.op.getD k [] = sg169.op.getD k []) = true)) rfl) (fun W => (rn_field Tryd.underlying30 rfl (by kernel_rfl) (F1119.get rfl) rfl)) fun _ F1122 => ?_; clear F1119
                  refine qs 23 (.slice A98 n99 c100) F1122 rfl (wanted_guard rfl rfl rfl F1122 rfl (not_t ((decide_eq_true (by have hq := opens_eq hz1 hz2 (k := k) (by omega) (by rw [← hsg108, ← hsg170]; exact hc537.trans hc897.symm); rw [← hsg108, ← hsg170] at hq; exact hq.1)) : decide (sg107.op.getD k [] = sg169.op.getD k []) = true)) rfl) hS520 (fun W hW => (rn_load (isAgg_no Tryd.underlying28 rfl) (F1122.get rfl) (hW.2.1.rule.1 2))) fun _ F1124 => ?_; clear F1122
                  refine qp 24 (.int .i64 (k : Nat)) F1124 rfl (wanted_guard rfl rfl rfl F1124 rfl (not_t ((decide_eq_true (by have hq := opens_eq hz1 hz2 (k := k) (by omega) (by rw [← hsg108, ← hsg170]; exact hc537.trans hc897.symm); rw [← hsg108, ← hsg170] at hq; exact hq.1)) : decide (sg107.op.getD k [] = sg169.op.getD k []) = true)) rfl) (fun W => (rn_move (F1124.get rfl))) fun _ F1126 => ?_; clear F1124
                  have d1130 := (hf482.ext hx507)
                  obtain ⟨b1127, o1128, hA1129, -⟩ := Fl.at d1130 (by omega)
                  refine qp 25 (.pointer (some ⟨b1127, o1128 + k * 32, none⟩)) F1126 rfl (wanted_guard rfl rfl rfl F1126 rfl (not_t ((decide_eq_true (by have hq := opens_eq hz1 hz2 (k := k) (by omega) (by rw [← hsg108, ← hsg170]; exact hc537.trans hc897.symm); rw [← hsg108, ← hsg170] at hq; exact hq.1)) : decide (sg107.op.getD k [] = sg169.op.getD k []) = true)) rfl) (fun W => (rn_indexE Tryd.underlying28 inf37 ((F1126.get rfl).trans (by rw [hA1129])) (F1126.get rfl) (by omega : (0 : Int) ≤ (k : Nat)) (by omega : ((k : Nat) : Int) < ((n99 : Nat) : Int)) (by omega))) fun _ F1132 => ?_; clear F1126
                  refine qs 26 (.agg (byteVals (sg107.cl.getD k [])).toArray) F1132 rfl (wanted_guard rfl rfl rfl F1132 rfl (not_t ((decide_eq_true (by have hq := opens_eq hz1 hz2 (k := k) (by omega) (by rw [← hsg108, ← hsg170]; exact hc537.trans hc897.symm); rw [← hsg108, ← hsg170] at hq; exact hq.1)) : decide (sg107.op.getD k [] = sg169.op.getD k []) = true)) rfl) hS520 (fun W hW => (rn_loadN (cs := byteVals (sg107.cl.getD k [])) (F1132.get rfl) Tryd.underlying37 rfl (inf37.trans (congrArg some (byteVals_len (dig_len h32114 k (by omega))).symm)) (Fl.digAt (d1130.ext hW.1) hA1129 h32114 (by omega)))) fun _ F1134 => ?_; clear F1132
                  refine qp 27 (.pointer (some ⟨g194, 2, none⟩)) F1134 rfl (wanted_guard rfl rfl rfl F1134 rfl (not_t ((decide_eq_true (by have hq := opens_eq hz1 hz2 (k := k) (by omega) (by rw [← hsg108, ← hsg170]; exact hc537.trans hc897.symm); rw [← hsg108, ← hsg170] at hq; exact hq.1)) : decide (sg107.op.getD k [] = sg169.op.getD k []) = true)) rfl) (fun W => (rn_field Tryd.underlying30 rfl (by kernel_rfl) (F1134.get rfl) rfl)) fun _ F1136 => ?_; clear F1134
                  refine qs 28 (.slice A160 n161 c162) F1136 rfl (wanted_guard rfl rfl rfl F1136 rfl (not_t ((decide_eq_true (by have hq := opens_eq hz1 hz2 (k := k) (by omega) (by rw [← hsg108, ← hsg170]; exact hc537.trans hc897.symm); rw [← hsg108, ← hsg170] at hq; exact hq.1)) : decide (sg107.op.getD k [] = sg169.op.getD k []) = true)) rfl) hS520 (fun W hW => (rn_load (isAgg_no Tryd.underlying28 rfl) (F1136.get rfl) (hW.2.2.rule.1 2))) fun _ F1138 => ?_; clear F1136
                  refine qp 29 (.int .i64 (k : Nat)) F1138 rfl (wanted_guard rfl rfl rfl F1138 rfl (not_t ((decide_eq_true (by have hq := opens_eq hz1 hz2 (k := k) (by omega) (by rw [← hsg108, ← hsg170]; exact hc537.trans hc897.symm); rw [← hsg108, ← hsg170] at hq; exact hq.1)) : decide (sg107.op.getD k [] = sg169.op.getD k []) = true)) rfl) (fun W => (rn_move (F1138.get rfl))) fun _ F1140 => ?_; clear F1138
                  have d1144 := (hf485.ext hx507)
                  obtain ⟨b1141, o1142, hA1143, -⟩ := Fl.at d1144 (by omega)
                  refine qp 30 (.pointer (some ⟨b1141, o1142 + k * 32, none⟩)) F1140 rfl (wanted_guard rfl rfl rfl F1140 rfl (not_t ((decide_eq_true (by have hq := opens_eq hz1 hz2 (k := k) (by omega) (by rw [← hsg108, ← hsg170]; exact hc537.trans hc897.symm); rw [← hsg108, ← hsg170] at hq; exact hq.1)) : decide (sg107.op.getD k [] = sg169.op.getD k []) = true)) rfl) (fun W => (rn_indexE Tryd.underlying28 inf37 ((F1140.get rfl).trans (by rw [hA1143])) (F1140.get rfl) (by omega : (0 : Int) ≤ (k : Nat)) (by omega : ((k : Nat) : Int) < ((n161 : Nat) : Int)) (by omega))) fun _ F1146 => ?_; clear F1140
                  refine qs 31 (.agg (byteVals (sg169.cl.getD k [])).toArray) F1146 rfl (wanted_guard rfl rfl rfl F1146 rfl (not_t ((decide_eq_true (by have hq := opens_eq hz1 hz2 (k := k) (by omega) (by rw [← hsg108, ← hsg170]; exact hc537.trans hc897.symm); rw [← hsg108, ← hsg170] at hq; exact hq.1)) : decide (sg107.op.getD k [] = sg169.op.getD k []) = true)) rfl) hS520 (fun W hW => (rn_loadN (cs := byteVals (sg169.cl.getD k [])) (F1146.get rfl) Tryd.underlying37 rfl (inf37.trans (congrArg some (byteVals_len (dig_len h32176 k (by omega))).symm)) (Fl.digAt (d1144.ext hW.1) hA1143 h32176 (by omega)))) fun _ F1148 => ?_; clear F1146
                  refine qp 32 (.bool (!decide (sg107.cl.getD k [] = sg169.cl.getD k []))) F1148 rfl (wanted_guard rfl rfl rfl F1148 rfl (not_t ((decide_eq_true (by have hq := opens_eq hz1 hz2 (k := k) (by omega) (by rw [← hsg108, ← hsg170]; exact hc537.trans hc897.symm); rw [← hsg108, ← hsg170] at hq; exact hq.1)) : decide (sg107.op.getD k [] = sg169.op.getD k []) = true)) rfl) (fun W => (rn_neA Tryd.underlying37 Tryd.underlying5 inf5 (by kernel_rfl) (F1148.get rfl) (F1148.get rfl) (dig_len h32114 k (by omega)) (dig_len h32176 k (by omega)))) fun _ F1150 => ?_; clear F1148
                  refine qp 33 (.bool (!decide (sg107.cl.getD k [] = sg169.cl.getD k []))) F1150 rfl (wanted_guard rfl rfl rfl F1150 rfl rfl rfl) (fun W => (rn_pickF (c_false F1150 rfl (not_t ((decide_eq_true (by have hq := opens_eq hz1 hz2 (k := k) (by omega) (by rw [← hsg108, ← hsg170]; exact hc537.trans hc897.symm); rw [← hsg108, ← hsg170] at hq; exact hq.1)) : decide (sg107.op.getD k [] = sg169.op.getD k []) = true))) (F1150.get rfl))) fun _ F1152 => ?_; clear F1150
                  refine qp 34 (.bool (!decide (sg107.cl.getD k [] = sg169.cl.getD k []))) F1152 rfl rfl (fun W => (rn_pickT (c_true F1152 rfl rfl) (F1152.get rfl))) fun _ F1154 => ?_; clear F1152
                  refine any_nil (by decide +kernel) ?_
                  refine hK505 _ _ ?_
                  clear hK505
                  have F1155 := (((((((((((((((((((((F1154.nil.c F1154 157 rfl).c F1154 120 rfl).c F1154 17 rfl).c F1154 118 rfl).c F1154 16 rfl).c F1154 15 rfl).c F1154 58 rfl).c F1154 14 rfl).c F1154 13 rfl).c F1154 12 rfl).c F1154 11 rfl).c F1154 10 rfl).c F1154 9 rfl).c F1154 29 rfl).c F1154 19 rfl).c F1154 8 rfl).c F1154 4 rfl).c F1154 3 rfl).c F1154 2 rfl).c F1154 1 rfl).c F1154 0 rfl)
                  clear F1154
                  refine wp_cond_false (c_false F1155 rfl (not_t ((decide_eq_true (by have hq := opens_eq hz1 hz2 (k := k) (by omega) (by rw [← hsg108, ← hsg170]; exact hc537.trans hc897.symm); rw [← hsg108, ← hsg170] at hq; exact hq.2)) : decide (sg107.cl.getD k [] = sg169.cl.getD k []) = true))) ?_
                  refine wp_skip ?_
                  refine hK504 _ _ ?_
                  clear hK504
                  refine wp_seq_k (fun K1157 hK1157 => ?_)
                  have hx1159 : ∃ W, w506.drew = W ∧ Ext w506 W := ⟨_, rfl, (Ext.refl _).drew⟩
                  obtain ⟨w1158, e1160, hx1159⟩ := hx1159
                  have z1161 := hx1159.size
                  refine any_start (fun W => Ext w1158 W ∧ Blk W g132 30 [(.int .i64 sg107.index), (.slice A95 n96 c97), (.slice A98 n99 c100), (.slice A101 n102 c103)] ∧ Blk W g194 30 [(.int .i64 sg169.index), (.slice A157 n158 c159), (.slice A160 n161 c162), (.slice A163 n164 c165)]) (fun i => false) 37 #[false, false, false, false, false, false, false, false, false, false, false, false, false, false, false, false, false, false, false, false, false, false, false, false, false, false, false, false, false, false, false, false, false, false, false, false, false] rfl rfl rfl ?_
                  rw [e1160]; clear e1160
                  refine qp 0 (.slice A310 n311 c312) F1155 rfl rfl (fun W => (rn_move (F1155.get rfl))) fun _ F1163 => ?_; clear F1155
                  refine qp 1 (.int .i64 (k : Nat)) F1163 rfl rfl (fun W => (rn_move (F1163.get rfl))) fun _ F1165 => ?_; clear F1163
                  refine qp 2 (.pointer (some ⟨b514, o515 + k, none⟩)) F1165 rfl rfl (fun W => (rn_index1 Tryd.underlying44 inf4 ((F1165.get rfl).trans (by rw [hA516])) (F1165.get rfl) (by omega : (0 : Int) ≤ (k : Nat)) (by omega : ((k : Nat) : Int) < ((n311 : Nat) : Int)))) fun _ F1167 => ?_; clear F1165
                  have b1169 := (b521.ext hx1159)
                  have b1170 := (b522.ext hx1159)
                  have hS1168 : Ext w1158 w1158 ∧ Blk w1158 g132 30 [(.int .i64 sg107.index), (.slice A95 n96 c97), (.slice A98 n99 c100), (.slice A101 n102 c103)] ∧ Blk w1158 g194 30 [(.int .i64 sg169.index), (.slice A157 n158 c159), (.slice A160 n161 c162), (.slice A163 n164 c165)] := ⟨(Ext.refl w1158), b1169, b1170⟩
                  have d1171 := ((hf487.ext hx507).ext hx1159)
                  refine qs 3 (.bool ((bitsR (pubF sd many used) sg107.index msg).getD k false)) F1167 rfl rfl hS1168 (fun W hW => (rn_load (isAgg_no Tryd.underlying4 rfl) (F1167.get rfl) (Fl.cellAt (d1171.ext hW.1) hA516 (boolVals_at (i := k) (by omega))))) fun _ F1173 => ?_; clear F1167
                  refine qp 4 (.slice A326 n327 c328) F1173 rfl rfl (fun W => (rn_move (F1173.get rfl))) fun _ F1175 => ?_; clear F1173
                  refine qp 5 (.int .i64 (k : Nat)) F1175 rfl rfl (fun W => (rn_move (F1175.get rfl))) fun _ F1177 => ?_; clear F1175
                  refine qp 6 (.pointer (some ⟨b529, o530 + k, none⟩)) F1177 rfl rfl (fun W => (rn_index1 Tryd.underlying44 inf4 ((F1177.get rfl).trans (by rw [hA531])) (F1177.get rfl) (by omega : (0 : Int) ≤ (k : Nat)) (by omega : ((k : Nat) : Int) < ((n327 : Nat) : Int)))) fun _ F1179 => ?_; clear F1177
                  have d1180 := ((hf488.ext hx507).ext hx1159)
                  refine qs 7 (.bool ((bitsR (pubF sd many used) sg169.index other).getD k false)) F1179 rfl rfl hS1168 (fun W hW => (rn_load (isAgg_no Tryd.underlying4 rfl) (F1179.get rfl) (Fl.cellAt (d1180.ext hW.1) hA531 (boolVals_at (i := k) (by omega))))) fun _ F1182 => ?_; clear F1179
                  refine qp 8 (.bool false) F1182 rfl rfl (fun W => (rn_neB Tryd.underlying4 (F1182.get rfl) (F1182.get rfl) (show _ = false from hc537) (show _ = false from hc897) rfl)) fun _ F1184 => ?_; clear F1182
                  refine qp 9 (.bool false) F1184 rfl rfl (fun W => (rn_move (F1184.get rfl))) fun _ F1186 => ?_; clear F1184
                  refine qk 10 F1186 rfl rfl fun _ F1188 => ?_; clear F1186
                  refine qk 11 F1188 rfl rfl fun _ F1190 => ?_; clear F1188
                  refine qk 12 F1190 rfl rfl fun _ F1192 => ?_; clear F1190
                  refine qk 13 F1192 rfl rfl fun _ F1194 => ?_; clear F1192
                  refine qk 14 F1194 rfl rfl fun _ F1196 => ?_; clear F1194
                  refine qk 16 F1196 rfl rfl fun _ F1198 => ?_; clear F1196
                  refine qk 17 F1198 rfl rfl fun _ F1200 => ?_; clear F1198
                  refine qk 18 F1200 rfl rfl fun _ F1202 => ?_; clear F1200
                  refine qk 19 F1202 rfl rfl fun _ F1204 => ?_; clear F1202
                  refine qk 20 F1204 rfl rfl fun _ F1206 => ?_; clear F1204
                  refine any_one (i := 15) (by decide +kernel) rfl ?_
                  refine o_skip F1206 rfl (unwanted_guard rfl rfl rfl F1206 rfl rfl rfl) rfl rfl ?_
                  intro a1207 F1208; clear F1206
                  refine ⟨fun _ _ => ⟨(Ext.refl w1158), b1169, b1170⟩, ?_⟩
                  refine qk 21 F1208 rfl rfl fun _ F1210 => ?_; clear F1208
                  refine qk 22 F1210 rfl rfl fun _ F1212 => ?_; clear F1210
                  refine qn 23 F1212 rfl (unwanted_undef rfl rfl rfl F1212 rfl) fun _ F1214 => ?_; clear F1212
                  refine qn 24 F1214 rfl (unwanted_undef rfl rfl rfl F1214 rfl) fun _ F1216 => ?_; clear F1214
                  refine qn 25 F1216 rfl (unwanted_undef rfl rfl rfl F1216 rfl) fun _ F1218 => ?_; clear F1216
                  refine qn 26 F1218 rfl (unwanted_undef rfl rfl rfl F1218 rfl) fun _ F1220 => ?_; clear F1218
                  refine qn 27 F1220 rfl (unwanted_undef rfl rfl rfl F1220 rfl) fun _ F1222 => ?_; clear F1220
                  refine qn 29 F1222 rfl (unwanted_undef rfl rfl rfl F1222 rfl) fun _ F1224 => ?_; clear F1222
                  refine qn 30 F1224 rfl (unwanted_undef rfl rfl rfl F1224 rfl) fun _ F1226 => ?_; clear F1224
                  refine qn 31 F1226 rfl (unwanted_undef rfl rfl rfl F1226 rfl) fun _ F1228 => ?_; clear F1226
                  refine qn 32 F1228 rfl (unwanted_undef rfl rfl rfl F1228 rfl) fun _ F1230 => ?_; clear F1228
                  refine qn 33 F1230 rfl (unwanted_undef rfl rfl rfl F1230 rfl) fun _ F1232 => ?_; clear F1230
                  refine any_one (i := 28) (by decide +kernel) rfl ?_
                  refine o_skip F1232 rfl (unwanted_undef rfl rfl rfl F1232 rfl) rfl rfl ?_
                  intro a1233 F1234; clear F1232
                  refine ⟨fun _ _ => ⟨(Ext.refl w1158), b1169, b1170⟩, ?_⟩
                  refine qn 34 F1234 rfl (unwanted_undef rfl rfl rfl F1234 rfl) fun _ F1236 => ?_; clear F1234
                  refine qk 35 F1236 rfl rfl fun _ F1238 => ?_; clear F1236
                  refine qp 36 (.bool false) F1238 rfl rfl (fun W => (rn_pickF (c_false F1238 rfl rfl) rfl)) fun _ F1240 => ?_; clear F1238
                  refine any_nil (by decide +kernel) ?_
                  refine hK1157 _ _ ?_
                  clear hK1157
                  have F1241 := ((((((((((((((((((((((F1240.nil.c F1240 194 rfl).c F1240 157 rfl).c F1240 120 rfl).c F1240 17 rfl).c F1240 118 rfl).c F1240 16 rfl).c F1240 15 rfl).c F1240 58 rfl).c F1240 14 rfl).c F1240 13 rfl).c F1240 12 rfl).c F1240 11 rfl).c F1240 10 rfl).c F1240 9 rfl).c F1240 29 rfl).c F1240 19 rfl).c F1240 8 rfl).c F1240 4 rfl).c F1240 3 rfl).c F1240 2 rfl).c F1240 1 rfl).c F1240 0 rfl)
                  clear F1240
                  refine wp_cond_false (c_false F1241 rfl rfl) ?_
                  refine wp_skip ?_
                  refine hK503 _ _ ?_
                  clear hK503
                  refine wp_region_lit ?_
                  refine qv 0 (.int .i64 (k : Nat)) F1241 rfl (rn_move (F1241.get rfl)) fun _ F1243 => ?_; clear F1241
                  refine qv 1 (.int .i64 (k + 1 : Nat)) F1243 rfl (rn_addN (a := k) (b := 1) (F1243.get rfl) rfl (by omega)) fun _ F1245 => ?_; clear F1243
                  refine qv 2 (.int .i64 (k + 1 : Nat)) F1245 rfl (rn_assign (F1245.get rfl)) fun _ F1247 => ?_; clear F1245
                  refine wpList_nil ?_
                  have d1248 := ((hf481.ext hx507).ext hx1159)
                  have d1249 := ((hf482.ext hx507).ext hx1159)
                  have d1250 := ((hf483.ext hx507).ext hx1159)
                  have d1251 := ((hf484.ext hx507).ext hx1159)
                  have d1252 := ((hf485.ext hx507).ext hx1159)
                  have d1253 := ((hf486.ext hx507).ext hx1159)
                  have b1254 := ((b477.ext hx507).ext hx1159)
                  have b1255 := ((b478.ext hx507).ext hx1159)
                  refine ⟨⟨(k + 1), (((((((((((((((((((F1247.nil.cons (q_get F1247 (t := 17) rfl (by first | rfl | (congr 1; omega) | (congr 1; done)))).cons (q_get F1247 (t := 118) rfl rfl)).cons (q_get F1247 (t := 16) rfl rfl)).cons (q_get F1247 (t := 15) rfl rfl)).cons (q_get F1247 (t := 58) rfl rfl)).cons (q_get F1247 (t := 14) rfl rfl)).cons (q_get F1247 (t := 13) rfl rfl)).cons (q_get F1247 (t := 12) rfl rfl)).cons (q_get F1247 (t := 11) rfl rfl)).cons (q_get F1247 (t := 10) rfl rfl)).cons (q_get F1247 (t := 9) rfl rfl)).cons (q_get F1247 (t := 29) rfl rfl)).cons (q_get F1247 (t := 19) rfl rfl)).cons (q_get F1247 (t := 8) rfl rfl)).cons (q_get F1247 (t := 4) rfl rfl)).cons (q_get F1247 (t := 3) rfl rfl)).cons (q_get F1247 (t := 2) rfl rfl)).cons (q_get F1247 (t := 1) rfl rfl)).cons (q_get F1247 (t := 0) rfl rfl)), (by omega), ((((Ext.refl w).trans hx475).trans hx507).trans hx1159), b1254, b1255, b1169, b1170, d1248, d1249, d1250, d1251, d1252, d1253, d1171, d1180, (by omega)⟩, ?_⟩
                  rw [F1247.get (t := 17) rfl, hL490.get (t := 17) rfl]; simp [intOf] <;> omega
            · skip
              refine wp_cond_false (c_false F501 rfl (decide_eq_false hc502)) ?_
              refine wp_exit ?_
              refine exit_then ?_
              refine exit_then ?_
              refine exit_here ?_
              refine hK456 _ _ ?_
              clear hK456
              refine wp_seq_k (fun K1256 hK1256 => ?_)
              refine wp_region_lit ?_
              refine qv 0 (.bool true) F501 rfl (rn_assign rfl) fun _ F1258 => ?_; clear F501
              refine wpList_nil ?_
              refine hK1256 _ _ ?_
              clear hK1256
              refine wp_ret ?_
              refine ret1 F1258 rfl rfl ?_
              exact ⟨congrArg (fun b => Ending.returned (.bool b)) (rfl : true = true), ((Ext.refl w).trans hx475)⟩
    · skip
      refine wp_cond_true (c_true F52 rfl (not_f (decide_eq_false hc53))) ?_
      refine wp_seq_k (fun K1259 hK1259 => ?_)
      refine wp_region_lit ?_
      refine qv 0 (.bool true) F52 rfl (rn_assign rfl) fun _ F1261 => ?_; clear F52
      refine wpList_nil ?_
      refine hK1259 _ _ ?_
      clear hK1259
      refine wp_ret ?_
      refine ret_then ?_
      refine ret1 F1261 rfl rfl ?_
      exact ⟨congrArg (fun b => Ending.returned (.bool b)) (rfl : true = true), (((((Ext.refl w).trans hx5).trans hx15).trans hx29).trans hx44)⟩
  · skip
    refine qu 5 F36 (not_f (decide_eq_false hc37)) fun _ F1263 => ?_; clear F36
    refine qu 6 F1263 (not_f (decide_eq_false hc37)) fun _ F1265 => ?_; clear F1263
    refine qu 7 F1265 (not_f (decide_eq_false hc37)) fun _ F1267 => ?_; clear F1265
    refine qu 8 F1267 (not_f (decide_eq_false hc37)) fun _ F1269 => ?_; clear F1267
    refine qv 9 (.bool true) F1269 rfl (rn_pickT (c_true F1269 rfl (not_f (decide_eq_false hc37))) rfl) fun _ F1271 => ?_; clear F1269
    refine wpList_nil ?_
    refine hK22 _ _ ?_
    clear hK22
    have F1272 := ((((((((F1271.nil.c F1271 29 rfl).c F1271 19 rfl).c F1271 8 rfl).c F1271 4 rfl).c F1271 3 rfl).c F1271 2 rfl).c F1271 1 rfl).c F1271 0 rfl)
    clear F1271
    refine wp_cond_true (c_true F1272 rfl rfl) ?_
    refine wp_seq_k (fun K1273 hK1273 => ?_)
    refine wp_region_lit ?_
    refine qv 0 (.bool true) F1272 rfl (rn_assign rfl) fun _ F1275 => ?_; clear F1272
    refine wpList_nil ?_
    refine hK1273 _ _ ?_
    clear hK1273
    refine wp_ret ?_
    refine ret_then ?_
    refine ret1 F1275 rfl rfl ?_
    exact ⟨congrArg (fun b => Ending.returned (.bool b)) (rfl : true = true), ((((Ext.refl w).trans hx5).trans hx15).trans hx29)⟩

end Go.Proofs.YtmjgjopbeokajaaDoor
