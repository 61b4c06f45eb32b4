/-
  strconv.Itoa: for every int its numeral (the kit's shelf, laid in plain words by a program of ours).
-/
import Derived.Shelf.Strconv.Itoa3
import Derived.Shelf.Small.Strs
import Derived.Shelf.Strconv.AtoiAll
import Derived.Test.YtiiagdnmbpdlaaaDoorTypes
import Derived.Test.YtiiagdnmbpdlaaaDoorEvalOk
namespace Go.Proofs.YtiiagdnmbpdlaaaDoor
open Go.RowKit Go.Shelf
def laysItoa_ren : Go.Shelf.Ren := ⟨fun | 171 => 35 | 243 => 57 | 246 => 77 | 283 => 93 | 284 => 94 | 285 => 95 | 286 => 96 | 129 => 109 | 317 => 108 | 318 => 110 | 319 => 111 | 320 => 112 | 337 => 122 | 338 => 123 | n => n, fun | 3 => 3 | 9 => 9 | 2 => 2 | 4 => 4 | 171 => 144 | 0 => 0 | 53 => 127 | 37 => 55 | 5 => 5 | 173 => 147 | 212 => 159 | 51 => 160 | 20 => 20 | 213 => 161 | 46 => 106 | 232 => 194 | 233 => 195 | n => n, fun | 17 => 0 | 18 => 4 | 19 => 5 | n => n⟩
theorem laysItoa : Go.Proofs.LaysM.n171 Tryd.prog laysItoa_ren := {
  mixed := by kernel_rfl
  f129 := Tryd.func109.trans (congrArg some (by kernel_rfl))
  f171 := Tryd.func35.trans (congrArg some (by kernel_rfl))
  f243 := Tryd.func57.trans (congrArg some (by kernel_rfl))
  f246 := Tryd.func77.trans (congrArg some (by kernel_rfl))
  f283 := Tryd.func93.trans (congrArg some (by kernel_rfl))
  f284 := Tryd.func94.trans (congrArg some (by kernel_rfl))
  f285 := Tryd.func95.trans (congrArg some (by kernel_rfl))
  f286 := Tryd.func96.trans (congrArg some (by kernel_rfl))
  f317 := Tryd.func108.trans (congrArg some (by kernel_rfl))
  f318 := Tryd.func110.trans (congrArg some (by kernel_rfl))
  f319 := Tryd.func111.trans (congrArg some (by kernel_rfl))
  f320 := Tryd.func112.trans (congrArg some (by kernel_rfl))
  f337 := Tryd.func122.trans (congrArg some (by kernel_rfl))
  f338 := Tryd.func123.trans (congrArg some (by kernel_rfl))
  t0 := Tryd.underlying0
  a0 := Tryd.isAgg0
  z0 := Tryd.sizeOf0
  v0 := Tryd.zeroValue0
  t2 := Tryd.underlying2
  a2 := Tryd.isAgg2
  z2 := Tryd.sizeOf2
  v2 := Tryd.zeroValue2
  t3 := Tryd.underlying3
  a3 := Tryd.isAgg3
  z3 := Tryd.sizeOf3
  v3 := Tryd.zeroValue3
  t4 := Tryd.underlying4
  a4 := Tryd.isAgg4
  z4 := Tryd.sizeOf4
  v4 := Tryd.zeroValue4
  t5 := Tryd.underlying5
  a5 := Tryd.isAgg5
  z5 := Tryd.sizeOf5
  v5 := Tryd.zeroValue5
  t9 := Tryd.underlying9
  a9 := Tryd.isAgg9
  z9 := Tryd.sizeOf9
  v9 := Tryd.zeroValue9
  t20 := Tryd.underlying20
  a20 := Tryd.isAgg20
  z20 := Tryd.sizeOf20
  v20 := Tryd.zeroValue20
  t37 := Tryd.underlying55
  a37 := Tryd.isAgg55
  z37 := Tryd.sizeOf55
  v37 := Tryd.zeroValue55
  t46 := Tryd.underlying106
  a46 := Tryd.isAgg106
  z46 := Tryd.sizeOf106
  v46 := Tryd.zeroValue106
  t51 := Tryd.underlying160
  a51 := Tryd.isAgg160
  z51 := Tryd.sizeOf160
  v51 := Tryd.zeroValue160
  t53 := Tryd.underlying127
  a53 := Tryd.isAgg127
  z53 := Tryd.sizeOf127
  v53 := Tryd.zeroValue127
  t171 := Tryd.underlying144
  a171 := Tryd.isAgg144
  z171 := Tryd.sizeOf144
  v171 := Tryd.zeroValue144
  t173 := Tryd.underlying147
  a173 := Tryd.isAgg147
  z173 := Tryd.sizeOf147
  v173 := Tryd.zeroValue147
  t212 := Tryd.underlying159
  a212 := Tryd.isAgg159
  z212 := Tryd.sizeOf159
  v212 := Tryd.zeroValue159
  t213 := Tryd.underlying161
  a213 := Tryd.isAgg161
  z213 := Tryd.sizeOf161
  t232 := Tryd.underlying194
  a232 := Tryd.isAgg194
  z232 := Tryd.sizeOf194
  v232 := Tryd.zeroValue194
  t233 := Tryd.underlying195
  a233 := Tryd.isAgg195
  z233 := Tryd.sizeOf195
  v233 := Tryd.zeroValue195
  g17 := by kernel_rfl
  g18 := by kernel_rfl
  g19 := by kernel_rfl
  i0 := by kernel_rfl
  i2 := by kernel_rfl
  i3 := by kernel_rfl
  i4 := by kernel_rfl
  i5 := by kernel_rfl
  i9 := by kernel_rfl
  i20 := by kernel_rfl
  i37 := by kernel_rfl
  i46 := by kernel_rfl
  i51 := by kernel_rfl
  i53 := by kernel_rfl
  i171 := by kernel_rfl
  i173 := by kernel_rfl
  i212 := by kernel_rfl
  i232 := by kernel_rfl
  i233 := by kernel_rfl
  m17 := by kernel_rfl
  m18 := by kernel_rfl
  m19 := by kernel_rfl
}

def laysIdx_ren : Go.Shelf.Ren := ⟨fun | 137 => 65 | 217 => 84 | 266 => 101 | n => n, fun | 9 => 9 | 5 => 5 | 3 => 3 | n => n, fun | n => n⟩
theorem laysIdx : Go.Proofs.Lays.n137 Tryd.prog laysIdx_ren := {
  mixed := by kernel_rfl
  f137 := Tryd.func65.trans (congrArg some (by kernel_rfl))
  f217 := Tryd.func84.trans (congrArg some (by kernel_rfl))
  f266 := Tryd.func101.trans (congrArg some (by kernel_rfl))
  t3 := Tryd.underlying3
  a3 := Tryd.isAgg3
  z3 := Tryd.sizeOf3
  v3 := Tryd.zeroValue3
  t5 := Tryd.underlying5
  a5 := Tryd.isAgg5
  z5 := Tryd.sizeOf5
  v5 := Tryd.zeroValue5
  t9 := Tryd.underlying9
  a9 := Tryd.isAgg9
  z9 := Tryd.sizeOf9
  v9 := Tryd.zeroValue9
}

def laysAtoi_ren : Go.Shelf.Ren := ⟨fun | 172 => 81 | 244 => 98 | 245 => 99 | 247 => 113 | 279 => 114 | 280 => 115 | 281 => 116 | 282 => 117 | 287 => 124 | 316 => 125 | 171 => 35 | 205 => 126 | 321 => 134 | 322 => 135 | 243 => 57 | 246 => 77 | 283 => 93 | 284 => 94 | 285 => 95 | 286 => 96 | 129 => 109 | 317 => 108 | 318 => 110 | 319 => 111 | 320 => 112 | 337 => 122 | 338 => 123 | n => n, fun | 9 => 9 | 3 => 3 | 75 => 102 | 76 => 104 | 4 => 4 | 5 => 5 | 167 => 163 | 37 => 55 | 0 => 0 | 85 => 164 | 2 => 2 | 168 => 166 | 53 => 127 | 175 => 181 | 46 => 106 | 210 => 184 | 127 => 129 | 145 => 199 | 143 => 197 | 21 => 21 | 171 => 144 | 173 => 147 | 212 => 159 | 51 => 160 | 20 => 20 | 213 => 161 | 232 => 194 | 233 => 195 | 80 => 107 | n => n, fun | 15 => 2 | 16 => 3 | 17 => 0 | 18 => 4 | 19 => 5 | n => n⟩
theorem laysAtoi : Go.Proofs.LaysC.n172 Tryd.prog laysAtoi_ren := {
  mixed := by kernel_rfl
  f129 := Tryd.func109.trans (congrArg some (by kernel_rfl))
  f171 := Tryd.func35.trans (congrArg some (by kernel_rfl))
  f172 := Tryd.func81.trans (congrArg some (by kernel_rfl))
  f205 := Tryd.func126.trans (congrArg some (by kernel_rfl))
  f243 := Tryd.func57.trans (congrArg some (by kernel_rfl))
  f244 := Tryd.func98.trans (congrArg some (by kernel_rfl))
  f245 := Tryd.func99.trans (congrArg some (by kernel_rfl))
  f246 := Tryd.func77.trans (congrArg some (by kernel_rfl))
  f247 := Tryd.func113.trans (congrArg some (by kernel_rfl))
  f279 := Tryd.func114.trans (congrArg some (by kernel_rfl))
  f280 := Tryd.func115.trans (congrArg some (by kernel_rfl))
  f281 := Tryd.func116.trans (congrArg some (by kernel_rfl))
  f282 := Tryd.func117.trans (congrArg some (by kernel_rfl))
  f283 := Tryd.func93.trans (congrArg some (by kernel_rfl))
  f284 := Tryd.func94.trans (congrArg some (by kernel_rfl))
  f285 := Tryd.func95.trans (congrArg some (by kernel_rfl))
  f286 := Tryd.func96.trans (congrArg some (by kernel_rfl))
  f287 := Tryd.func124.trans (congrArg some (by kernel_rfl))
  f316 := Tryd.func125.trans (congrArg some (by kernel_rfl))
  f317 := Tryd.func108.trans (congrArg some (by kernel_rfl))
  f318 := Tryd.func110.trans (congrArg some (by kernel_rfl))
  f319 := Tryd.func111.trans (congrArg some (by kernel_rfl))
  f320 := Tryd.func112.trans (congrArg some (by kernel_rfl))
  f321 := Tryd.func134.trans (congrArg some (by kernel_rfl))
  f322 := Tryd.func135.trans (congrArg some (by kernel_rfl))
  f337 := Tryd.func122.trans (congrArg some (by kernel_rfl))
  f338 := Tryd.func123.trans (congrArg some (by kernel_rfl))
  t0 := Tryd.underlying0
  a0 := Tryd.isAgg0
  z0 := Tryd.sizeOf0
  v0 := Tryd.zeroValue0
  t2 := Tryd.underlying2
  a2 := Tryd.isAgg2
  z2 := Tryd.sizeOf2
  v2 := Tryd.zeroValue2
  t3 := Tryd.underlying3
  a3 := Tryd.isAgg3
  z3 := Tryd.sizeOf3
  v3 := Tryd.zeroValue3
  t4 := Tryd.underlying4
  a4 := Tryd.isAgg4
  z4 := Tryd.sizeOf4
  v4 := Tryd.zeroValue4
  t5 := Tryd.underlying5
  a5 := Tryd.isAgg5
  z5 := Tryd.sizeOf5
  v5 := Tryd.zeroValue5
  t9 := Tryd.underlying9
  a9 := Tryd.isAgg9
  z9 := Tryd.sizeOf9
  v9 := Tryd.zeroValue9
  t20 := Tryd.underlying20
  a20 := Tryd.isAgg20
  z20 := Tryd.sizeOf20
  v20 := Tryd.zeroValue20
  t21 := Tryd.underlying21
  a21 := Tryd.isAgg21
  z21 := Tryd.sizeOf21
  v21 := Tryd.zeroValue21
  t37 := Tryd.underlying55
  a37 := Tryd.isAgg55
  z37 := Tryd.sizeOf55
  v37 := Tryd.zeroValue55
  t46 := Tryd.underlying106
  a46 := Tryd.isAgg106
  z46 := Tryd.sizeOf106
  v46 := Tryd.zeroValue106
  t51 := Tryd.underlying160
  a51 := Tryd.isAgg160
  z51 := Tryd.sizeOf160
  v51 := Tryd.zeroValue160
  t53 := Tryd.underlying127
  a53 := Tryd.isAgg127
  z53 := Tryd.sizeOf127
  v53 := Tryd.zeroValue127
  t75 := Tryd.underlying102
  a75 := Tryd.isAgg102
  z75 := Tryd.sizeOf102
  v75 := Tryd.zeroValue102
  t76 := Tryd.underlying104
  a76 := Tryd.isAgg104
  z76 := Tryd.sizeOf104
  v76 := Tryd.zeroValue104
  t85 := Tryd.underlying164
  a85 := Tryd.isAgg164
  z85 := Tryd.sizeOf164
  v85 := Tryd.zeroValue164
  t127 := Tryd.underlying129
  a127 := Tryd.isAgg129
  z127 := Tryd.sizeOf129
  v127 := Tryd.zeroValue129
  t143 := Tryd.underlying197
  a143 := Tryd.isAgg197
  z143 := Tryd.sizeOf197
  v143 := Tryd.zeroValue197
  t145 := Tryd.underlying199
  a145 := Tryd.isAgg199
  z145 := Tryd.sizeOf199
  v145 := Tryd.zeroValue199
  t167 := Tryd.underlying163
  a167 := Tryd.isAgg163
  z167 := Tryd.sizeOf163
  v167 := Tryd.zeroValue163
  t168 := Tryd.underlying166
  a168 := Tryd.isAgg166
  z168 := Tryd.sizeOf166
  v168 := Tryd.zeroValue166
  t171 := Tryd.underlying144
  a171 := Tryd.isAgg144
  z171 := Tryd.sizeOf144
  v171 := Tryd.zeroValue144
  t173 := Tryd.underlying147
  a173 := Tryd.isAgg147
  z173 := Tryd.sizeOf147
  v173 := Tryd.zeroValue147
  t175 := Tryd.underlying181
  a175 := Tryd.isAgg181
  z175 := Tryd.sizeOf181
  v175 := Tryd.zeroValue181
  t210 := Tryd.underlying184
  a210 := Tryd.isAgg184
  z210 := Tryd.sizeOf184
  v210 := Tryd.zeroValue184
  t212 := Tryd.underlying159
  a212 := Tryd.isAgg159
  z212 := Tryd.sizeOf159
  v212 := Tryd.zeroValue159
  t213 := Tryd.underlying161
  a213 := Tryd.isAgg161
  z213 := Tryd.sizeOf161
  t232 := Tryd.underlying194
  a232 := Tryd.isAgg194
  z232 := Tryd.sizeOf194
  v232 := Tryd.zeroValue194
  t233 := Tryd.underlying195
  a233 := Tryd.isAgg195
  z233 := Tryd.sizeOf195
  v233 := Tryd.zeroValue195
  g15 := by kernel_rfl
  g16 := by kernel_rfl
  g17 := by kernel_rfl
  g18 := by kernel_rfl
  g19 := by kernel_rfl
  t80 := Tryd.underlying107
  a80 := Tryd.isAgg107
  z80 := Tryd.sizeOf107
  v80 := Tryd.zeroValue107
  i0 := by kernel_rfl
  i2 := by kernel_rfl
  i3 := by kernel_rfl
  i4 := by kernel_rfl
  i5 := by kernel_rfl
  i9 := by kernel_rfl
  i20 := by kernel_rfl
  i21 := by kernel_rfl
  i37 := by kernel_rfl
  i46 := by kernel_rfl
  i51 := by kernel_rfl
  i53 := by kernel_rfl
  i75 := by kernel_rfl
  i76 := by kernel_rfl
  i80 := by kernel_rfl
  i85 := by kernel_rfl
  i127 := by kernel_rfl
  i143 := by kernel_rfl
  i145 := by kernel_rfl
  i167 := by kernel_rfl
  i168 := by kernel_rfl
  i171 := by kernel_rfl
  i173 := by kernel_rfl
  i175 := by kernel_rfl
  i210 := by kernel_rfl
  i212 := by kernel_rfl
  i232 := by kernel_rfl
  i233 := by kernel_rfl
  m15 := by kernel_rfl
  m16 := by kernel_rfl
  m17 := by kernel_rfl
  m18 := by kernel_rfl
  m19 := by kernel_rfl
  c0 := by kernel_rfl
  c2 := by kernel_rfl
  c3 := by kernel_rfl
  c4 := by kernel_rfl
  c5 := by kernel_rfl
  c9 := by kernel_rfl
  c20 := by kernel_rfl
  c21 := by kernel_rfl
  c37 := by kernel_rfl
  c46 := by kernel_rfl
  c51 := by kernel_rfl
  c53 := by kernel_rfl
  c75 := by kernel_rfl
  c76 := by kernel_rfl
  c80 := by kernel_rfl
  c85 := by kernel_rfl
  c127 := by kernel_rfl
  c143 := by kernel_rfl
  c145 := by kernel_rfl
  c167 := by kernel_rfl
  c168 := by kernel_rfl
  c171 := by kernel_rfl
  c173 := by kernel_rfl
  c175 := by kernel_rfl
  c210 := by kernel_rfl
  c212 := by kernel_rfl
  c213 := by kernel_rfl
  c232 := by kernel_rfl
  c233 := by kernel_rfl
}

def decF : Nat → Nat → List UInt8
  | 0, _ => []
  | f + 1, u => bif Nat.blt u 10 then [UInt8.ofNat (48 + u)] else decF f (u / 10) ++ [UInt8.ofNat (48 + u % 10)]
theorem decF_eq : ∀ (f u : Nat), u < 10 ^ f → 0 < f → decF f u = Lib.decDigits u
  | f + 1, u, h, _ => by
    rw [decF, Lib.decDigits]
    by_cases hu : u < 10
    · rw [show Nat.blt u 10 = true from by simpa [Nat.blt, Nat.lt_iff_add_one_le] using hu, dif_pos hu]; rfl
    · rw [show Nat.blt u 10 = false from by cases hb : Nat.blt u 10 with | false => rfl | true => exact absurd (by simpa [Nat.blt, Nat.lt_iff_add_one_le] using hb) hu, dif_neg hu, cond_false]
      have hf : 0 < f := by
        rcases Nat.eq_zero_or_pos f with h0 | h0
        · subst h0; exact absurd (by simpa using h) hu
        · exact h0
      rw [decF_eq f (u / 10) (by rw [Nat.pow_succ] at h; omega) hf]
def itoaF (n : Int) : List UInt8 := match n with
  | .ofNat u => decF 20 u
  | .negSucc u => 45 :: decF 20 (u + 1)
theorem itoaF_eq (n : Int) (h : -9223372036854775808 ≤ n ∧ n ≤ 9223372036854775807) : itoaF n = Lib.itoa n := by
  unfold itoaF Lib.itoa
  cases n with
  | ofNat u =>
    have : u < 10 ^ 20 := by have := h.2; simp only [Int.ofNat_eq_natCast] at this; omega
    rw [if_neg (by simp)]
    exact decF_eq 20 u this (by decide)
  | negSucc u =>
    have : u + 1 < 10 ^ 20 := by have := h.1; simp only [Int.negSucc_eq] at this; omega
    rw [if_pos (Int.negSucc_lt_zero u)]
    exact congrArg _ (decF_eq 20 (u + 1) this (by decide))
theorem itoa_h (n : Int) (h : -9223372036854775808 ≤ n ∧ n ≤ 9223372036854775807) : Holds Tryd.prog 35 [.v (.int .i64 n)] (.p (.v (.string ⟨⟨itoaF n⟩⟩))) [] :=
  .of_callsG Tryd.func35 (by kernel_rfl) rfl (fun w vs hg hl hr => by
    have hv : ∃ u, vs = [u] := by
      match vs, hl with
      | [u], _ => exact ⟨u, rfl⟩
    obtain ⟨u, rfl⟩ := hv
    have h1 := valP_ok (hr 0 _ u rfl rfl) rfl
    subst h1
    have htab : Lib.TabIs Tryd.prog w "internal/strconv.uint64pow10" .u64 Lib.pow10Tab := by
      obtain ⟨ty, m, hb⟩ := hg 0 _ rfl
      unfold Lib.TabIs World.var?
      rw [show Tryd.prog.globalNamed "internal/strconv.uint64pow10" = some 0 from by kernel_rfl]
      simp only [Option.bind_some, hb]
      rfl
    refine (Any.strconv_Itoa laysItoa n h.1 h.2 w htab).mono fun e w' ⟨h1, k, os, h2⟩ => ⟨?_, ?_⟩
    · rw [h1, ← itoaF_eq n h]; rfl
    · subst h2
      refine ⟨rfl, rfl, rfl, by simp [Sort.grow], fun b hb => ?_⟩
      show (_ ++ os)[b]? = _
      rw [Array.getElem?_append_left (by exact hb)]; rfl) rfl fun w => .p (.v rfl)

theorem indexByte_h (s : ByteArray) (c : Int) : Holds Tryd.prog 65 [.v (.string s), .v (.int .u8 c)] (.p (.v (.int .i64 (Lib.indexByte s.data.toList c.toNat.toUInt8)))) [] :=
  .of_callsG Tryd.func65 (by kernel_rfl) rfl (fun w vs hg hl hr => by
    have hv : ∃ u v, vs = [u, v] := by
      match vs, hl with
      | [u, v], _ => exact ⟨u, v, rfl⟩
    obtain ⟨u, v, rfl⟩ := hv
    have h1 := valP_ok (hr 0 _ u rfl rfl) rfl
    have h2 := valP_ok (hr 1 _ v rfl rfl) rfl
    subst h1 h2
    exact (Any.strings_IndexByte laysIdx s c w).mono fun e w' ⟨h1, h2⟩ => ⟨h1, h2 ▸ Below.refl _ _⟩) rfl fun w => .p (.v rfl)

theorem atoi_h (s : ByteArray) (hs : s.size ≤ 9223372036854775806) (v : Int) (h : Lib.atoiAll s.data.toList = .ok v) : Holds Tryd.prog 81 [.v (.string s)] (.tup [.p (.v (.int .i64 v)), .p (.v .nilIface)]) [] :=
  .of_callsG Tryd.func81 (by kernel_rfl) rfl (fun w vs hg hl hr => by
    have hv : ∃ u, vs = [u] := by
      match vs, hl with
      | [u], _ => exact ⟨u, rfl⟩
    obtain ⟨u, rfl⟩ := hv
    have h1 := valP_ok (hr 0 _ u rfl rfl) rfl
    subst h1
    refine (Any.strconv_Atoi_ok laysAtoi s hs v h w).mono fun e w' ⟨h1, h2⟩ => ⟨h1, ?_⟩
    rcases h2 with rfl | ⟨t, rfl⟩
    · exact Below.refl _ _
    · exact Lib.bytesWorld_below _ _ _) rfl fun w => .tup (us := [.int .i64 v, .nilIface]) rfl fun i s u hs hu => by
      match i, hs, hu with
      | 0, hs, hu => cases hs; cases hu; exact .p (.v rfl)
      | 1, hs, hu => cases hs; cases hu; exact .p (.v rfl)

/-- the contracts that the evaluator takes as they are -/
def ctab (f : FuncId) (ps : List PV) : Option SV := bif Nat.beq f 35 then (match ps with
  | [.v (.int .i64 n)] => bif ible (-9223372036854775808) n && ible n 9223372036854775807 then some (.p (.v (.string ⟨⟨itoaF n⟩⟩))) else none
  | _ => none)
  else bif Nat.beq f 65 then (match ps with
  | [.v (.string s), .v (.int .u8 c)] => some (.p (.v (.int .i64 (Lib.indexByte s.data.toList c.toNat.toUInt8))))
  | _ => none)
  else bif Nat.beq f 81 then (match ps with
  | [.v (.string s)] => bif Nat.ble s.size 9223372036854775806 then (match Lib.atoiAll s.data.toList with
    | .ok v => some (.tup [.p (.v (.int .i64 v)), .p (.v .nilIface)])
    | _ => none) else none
  | _ => none)
  else none
theorem ctab_ok (F : List (FuncId × FnI)) : TabOk Tryd.prog ⟨TTab, F, ctab⟩ := fun f ps r h0 => by
  have h : ctab f ps = some r := h0
  clear h0
  unfold ctab at h
  cases hf : Nat.beq f 35 with
  | false =>
    rw [hf, cond_false] at h
    cases hf : Nat.beq f 65 with
    | true =>
      rw [hf, cond_true] at h
      have e := Nat.eq_of_beq_eq_true hf
      subst e
      split at h
      · cases h; exact indexByte_h _ _
      · cases h
    | false =>
      rw [hf, cond_false] at h
      cases hf : Nat.beq f 81 with
      | true =>
        rw [hf, cond_true] at h
        have e := Nat.eq_of_beq_eq_true hf
        subst e
        split at h
        · rename_i s
          cases hb : Nat.ble s.size 9223372036854775806 with
          | false => rw [hb] at h; cases h
          | true =>
            rw [hb, cond_true] at h
            split at h
            · rename_i v hv
              cases h
              exact atoi_h s (Nat.le_of_ble_eq_true hb) v hv
            · cases h
        · cases h
      | false =>
        rw [hf, cond_false] at h
        cases h
  | true =>
    rw [hf, cond_true] at h
    have e := Nat.eq_of_beq_eq_true hf
    subst e
    split at h
    · rename_i n
      cases hb : (ible (-9223372036854775808) n && ible n 9223372036854775807) with
      | false => rw [hb] at h; cases h
      | true =>
        rw [hb, cond_true] at h
        cases h
        simp only [Bool.and_eq_true] at hb
        exact itoa_h n ⟨ible_ok hb.1, ible_ok hb.2⟩
    · cases h
end Go.Proofs.YtiiagdnmbpdlaaaDoor
