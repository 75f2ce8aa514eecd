import Derived.Test.YtkhhlmonhapmaaaGreatDoorW6
import Derived.Shelf.Strings.Builder1
import Derived.Shelf.Small.Strs
import Derived.Shelf.Pu.ParseUintPublic10
import Derived.Shelf.Slices.Turned
import Derived.Shelf.Slices.Equal
import Derived.Test.YtkhhlmonhapmaaaGreatDoorW32
/- Contracts of the library, laid at this dump by the kit's tools (lay-shelf.mjs, lay-plain.mjs). Their numbers are of this seat alone. -/
set_option linter.unusedSimpArgs false
set_option linter.unusedVariables false
namespace Go.Proofs.YtkhhlmonhapmaaaGreatDoor
open Go.Shelf
def lays169_ren : Go.Shelf.Ren := ⟨fun | 169 => 68 | n => n, fun | 70 => 106 | 9 => 9 | 0 => 0 | 72 => 108 | 37 => 59 | 127 => 152 | 3 => 3 | 5 => 5 | n => n, fun | n => n⟩
theorem lays169 : Go.Proofs.Lays.n169 Tryz.prog lays169_ren := {
  mixed := by kernel_rfl
  f169 := Tryz.func68.trans (congrArg some (by kernel_rfl))
  t0 := Tryz.underlying0
  a0 := Tryz.isAgg0
  z0 := Tryz.sizeOf0
  v0 := Tryz.zeroValue0
  t3 := Tryz.underlying3
  a3 := Tryz.isAgg3
  z3 := Tryz.sizeOf3
  v3 := Tryz.zeroValue3
  t9 := Tryz.underlying9
  a9 := Tryz.isAgg9
  z9 := Tryz.sizeOf9
  v9 := Tryz.zeroValue9
  t37 := Tryz.underlying59
  a37 := Tryz.isAgg59
  z37 := Tryz.sizeOf59
  v37 := Tryz.zeroValue59
  t70 := Tryz.underlying106
  a70 := Tryz.isAgg106
  z70 := Tryz.sizeOf106
  v70 := Tryz.zeroValue106
  t72 := Tryz.underlying108
  a72 := Tryz.isAgg108
  z72 := Tryz.sizeOf108
  v72 := Tryz.zeroValue108
  t127 := Tryz.underlying152
  a127 := Tryz.isAgg152
  z127 := Tryz.sizeOf152
  v127 := Tryz.zeroValue152 }
theorem Builder_Extra_169 : Builder.Extra Tryz.prog lays169_ren := {
  sizeBuilder := by kernel_rfl
  liesBuilder := by kernel_rfl
  t5 := Tryz.underlying5
  a5 := Tryz.isAgg5
  z5 := Tryz.sizeOf5
  v5 := Tryz.zeroValue5
  infoByte := by kernel_rfl
  cellsByte := by kernel_rfl
  sizeByte := by kernel_rfl
  neB5 := by decide }
open Go.RowKit in
theorem Builder_String (B b : Nat) (l : List UInt8) (w : World) (h : Lib.IsBuilder 108 5 B b (Lib.byteCells l) w) (h0 : l ≠ []) :
    Calls Tryz.prog 68 #[.pointer (some ⟨b, 0, none⟩)] w fun e w' => e = .returned (.string ⟨l.toArray⟩) ∧ Below B w w' := Any.Builder_String lays169 Builder_Extra_169 B b l w h h0
open Go.RowKit in
theorem Builder_String_empty (B b : Nat) (w : World) (h : Lib.IsBuilder 108 5 B b [] w) (hBw : B ≤ w.heap.size) :
    Calls Tryz.prog 68 #[.pointer (some ⟨b, 0, none⟩)] w fun e w' => e = .returned (.string ⟨#[]⟩) ∧ Below B w w' := Any.Builder_String_empty lays169 Builder_Extra_169 B b w h hBw
open Go.RowKit in
theorem Builder_String_any (B b : Nat) (l : List UInt8) (w : World) (h : Lib.IsBuilder 108 5 B b (Lib.byteCells l) w) (hBw : B ≤ w.heap.size) :
    Calls Tryz.prog 68 #[.pointer (some ⟨b, 0, none⟩)] w fun e w' => e = .returned (.string ⟨l.toArray⟩) ∧ Below B w w' := Any.Builder_String_any lays169 Builder_Extra_169 B b l w h hBw
def lays137_ren : Go.Shelf.Ren := ⟨fun | 137 => 115 | 217 => 134 | 266 => 146 | n => n, fun | 9 => 9 | 5 => 5 | 3 => 3 | n => n, fun | n => n⟩
theorem lays137 : Go.Proofs.Lays.n137 Tryz.prog lays137_ren := {
  mixed := by kernel_rfl
  f137 := Tryz.func115.trans (congrArg some (by kernel_rfl))
  f217 := Tryz.func134.trans (congrArg some (by kernel_rfl))
  f266 := Tryz.func146.trans (congrArg some (by kernel_rfl))
  t3 := Tryz.underlying3
  a3 := Tryz.isAgg3
  z3 := Tryz.sizeOf3
  v3 := Tryz.zeroValue3
  t5 := Tryz.underlying5
  a5 := Tryz.isAgg5
  z5 := Tryz.sizeOf5
  v5 := Tryz.zeroValue5
  t9 := Tryz.underlying9
  a9 := Tryz.isAgg9
  z9 := Tryz.sizeOf9
  v9 := Tryz.zeroValue9 }
open Go.RowKit in
theorem strings_IndexByte (s : ByteArray) (c : Int) (w : World) :
    Calls Tryz.prog 115 #[.string s, .int .u8 c] w fun e w' => e = .returned (.int .i64 (Lib.indexByte s.data.toList c.toNat.toUInt8)) ∧ w' = w := Any.strings_IndexByte lays137 s c w
def laysPu14_ren : Go.Shelf.Ren := ⟨fun | 14 => 127 | 16 => 137 | 17 => 138 | 19 => 148 | 20 => 149 | 21 => 150 | 22 => 151 | 23 => 152 | 24 => 153 | 25 => 164 | 27 => 166 | 26 => 165 | 28 => 175 | 29 => 179 | 30 => 160 | 31 => 161 | 32 => 162 | 33 => 163 | 35 => 171 | 34 => 170 | 36 => 172 | 37 => 173 | 38 => 174 | 39 => 177 | 40 => 178 | n => n, fun | 9 => 9 | 3 => 3 | 22 => 48 | 24 => 82 | 25 => 173 | 4 => 4 | 34 => 191 | 5 => 5 | 36 => 180 | 37 => 59 | 0 => 0 | 39 => 193 | 21 => 21 | 44 => 204 | 47 => 152 | 50 => 218 | 48 => 216 | 2 => 2 | 52 => 198 | 55 => 201 | 59 => 211 | 60 => 212 | 20 => 20 | 61 => 213 | 65 => 223 | 66 => 224 | 67 => 110 | n => n, fun | 0 => 2 | 1 => 3 | 2 => 6 | 3 => 7 | 4 => 8 | n => n⟩
theorem laysPu14 : Go.Proofs.LaysPu.n14 Tryz.prog laysPu14_ren := {
  mixed := by kernel_rfl
  f14 := Tryz.func127.trans (congrArg some (by kernel_rfl))
  f16 := Tryz.func137.trans (congrArg some (by kernel_rfl))
  f17 := Tryz.func138.trans (congrArg some (by kernel_rfl))
  f19 := Tryz.func148.trans (congrArg some (by kernel_rfl))
  f20 := Tryz.func149.trans (congrArg some (by kernel_rfl))
  f21 := Tryz.func150.trans (congrArg some (by kernel_rfl))
  f22 := Tryz.func151.trans (congrArg some (by kernel_rfl))
  f23 := Tryz.func152.trans (congrArg some (by kernel_rfl))
  f24 := Tryz.func153.trans (congrArg some (by kernel_rfl))
  f25 := Tryz.func164.trans (congrArg some (by kernel_rfl))
  f26 := Tryz.func165.trans (congrArg some (by kernel_rfl))
  f27 := Tryz.func166.trans (congrArg some (by kernel_rfl))
  f28 := Tryz.func175.trans (congrArg some (by kernel_rfl))
  f29 := Tryz.func179.trans (congrArg some (by kernel_rfl))
  f30 := Tryz.func160.trans (congrArg some (by kernel_rfl))
  f31 := Tryz.func161.trans (congrArg some (by kernel_rfl))
  f32 := Tryz.func162.trans (congrArg some (by kernel_rfl))
  f33 := Tryz.func163.trans (congrArg some (by kernel_rfl))
  f34 := Tryz.func170.trans (congrArg some (by kernel_rfl))
  f35 := Tryz.func171.trans (congrArg some (by kernel_rfl))
  f36 := Tryz.func172.trans (congrArg some (by kernel_rfl))
  f37 := Tryz.func173.trans (congrArg some (by kernel_rfl))
  f38 := Tryz.func174.trans (congrArg some (by kernel_rfl))
  f39 := Tryz.func177.trans (congrArg some (by kernel_rfl))
  f40 := Tryz.func178.trans (congrArg some (by kernel_rfl))
  t0 := Tryz.underlying0
  a0 := Tryz.isAgg0
  z0 := Tryz.sizeOf0
  v0 := Tryz.zeroValue0
  i0 := by kernel_rfl
  t2 := Tryz.underlying2
  a2 := Tryz.isAgg2
  z2 := Tryz.sizeOf2
  v2 := Tryz.zeroValue2
  i2 := by kernel_rfl
  t3 := Tryz.underlying3
  a3 := Tryz.isAgg3
  z3 := Tryz.sizeOf3
  v3 := Tryz.zeroValue3
  i3 := by kernel_rfl
  t4 := Tryz.underlying4
  a4 := Tryz.isAgg4
  z4 := Tryz.sizeOf4
  v4 := Tryz.zeroValue4
  i4 := by kernel_rfl
  t5 := Tryz.underlying5
  a5 := Tryz.isAgg5
  z5 := Tryz.sizeOf5
  v5 := Tryz.zeroValue5
  i5 := by kernel_rfl
  t9 := Tryz.underlying9
  a9 := Tryz.isAgg9
  z9 := Tryz.sizeOf9
  v9 := Tryz.zeroValue9
  i9 := by kernel_rfl
  t20 := Tryz.underlying20
  a20 := Tryz.isAgg20
  z20 := Tryz.sizeOf20
  v20 := Tryz.zeroValue20
  i20 := by kernel_rfl
  t21 := Tryz.underlying21
  a21 := Tryz.isAgg21
  z21 := Tryz.sizeOf21
  v21 := Tryz.zeroValue21
  i21 := by kernel_rfl
  t22 := Tryz.underlying48
  a22 := Tryz.isAgg48
  z22 := Tryz.sizeOf48
  v22 := Tryz.zeroValue48
  i22 := by kernel_rfl
  t24 := Tryz.underlying82
  a24 := Tryz.isAgg82
  z24 := Tryz.sizeOf82
  v24 := Tryz.zeroValue82
  i24 := by kernel_rfl
  t25 := Tryz.underlying173
  a25 := Tryz.isAgg173
  z25 := Tryz.sizeOf173
  v25 := Tryz.zeroValue173
  i25 := by kernel_rfl
  t34 := Tryz.underlying191
  a34 := Tryz.isAgg191
  z34 := Tryz.sizeOf191
  v34 := Tryz.zeroValue191
  i34 := by kernel_rfl
  c34 := by kernel_rfl
  t36 := Tryz.underlying180
  a36 := Tryz.isAgg180
  z36 := Tryz.sizeOf180
  v36 := Tryz.zeroValue180
  i36 := by kernel_rfl
  t37 := Tryz.underlying59
  a37 := Tryz.isAgg59
  z37 := Tryz.sizeOf59
  v37 := Tryz.zeroValue59
  i37 := by kernel_rfl
  t39 := Tryz.underlying193
  a39 := Tryz.isAgg193
  z39 := Tryz.sizeOf193
  v39 := Tryz.zeroValue193
  i39 := by kernel_rfl
  t44 := Tryz.underlying204
  a44 := Tryz.isAgg204
  z44 := Tryz.sizeOf204
  v44 := Tryz.zeroValue204
  i44 := by kernel_rfl
  t47 := Tryz.underlying152
  a47 := Tryz.isAgg152
  z47 := Tryz.sizeOf152
  v47 := Tryz.zeroValue152
  i47 := by kernel_rfl
  t48 := Tryz.underlying216
  a48 := Tryz.isAgg216
  z48 := Tryz.sizeOf216
  v48 := Tryz.zeroValue216
  i48 := by kernel_rfl
  t50 := Tryz.underlying218
  a50 := Tryz.isAgg218
  z50 := Tryz.sizeOf218
  v50 := Tryz.zeroValue218
  i50 := by kernel_rfl
  t52 := Tryz.underlying198
  a52 := Tryz.isAgg198
  z52 := Tryz.sizeOf198
  v52 := Tryz.zeroValue198
  i52 := by kernel_rfl
  t55 := Tryz.underlying201
  a55 := Tryz.isAgg201
  z55 := Tryz.sizeOf201
  v55 := Tryz.zeroValue201
  i55 := by kernel_rfl
  t59 := Tryz.underlying211
  a59 := Tryz.isAgg211
  z59 := Tryz.sizeOf211
  v59 := Tryz.zeroValue211
  i59 := by kernel_rfl
  t60 := Tryz.underlying212
  a60 := Tryz.isAgg212
  z60 := Tryz.sizeOf212
  v60 := Tryz.zeroValue212
  i60 := by kernel_rfl
  t61 := Tryz.underlying213
  a61 := Tryz.isAgg213
  z61 := Tryz.sizeOf213
  t65 := Tryz.underlying223
  a65 := Tryz.isAgg223
  z65 := Tryz.sizeOf223
  v65 := Tryz.zeroValue223
  i65 := by kernel_rfl
  t66 := Tryz.underlying224
  a66 := Tryz.isAgg224
  z66 := Tryz.sizeOf224
  v66 := Tryz.zeroValue224
  i66 := by kernel_rfl
  t67 := Tryz.underlying110
  a67 := Tryz.isAgg110
  z67 := Tryz.sizeOf110
  v67 := Tryz.zeroValue110
  i67 := by kernel_rfl
  g0 := by kernel_rfl
  m0 := by kernel_rfl
  g1 := by kernel_rfl
  m1 := by kernel_rfl
  g2 := by kernel_rfl
  m2 := by kernel_rfl
  g3 := by kernel_rfl
  m3 := by kernel_rfl
  g4 := by kernel_rfl
  m4 := by kernel_rfl }
open Go.RowKit in
theorem strconv_ParseUint_10_at64_ok (s : ByteArray) (hmax : s.size ≤ 9223372036854775806) (u : Nat) (h : Lib.parseUintB 64 s.data.toList = .ok u) (w : World) :
    Calls Tryz.prog 127 #[.string s, .int .i64 10, .int .i64 64] w fun e w' => e = .returned (.tuple #[.int .u64 u, .nilIface]) ∧ (w' = w ∨ w' = Lib.bytesWorld w 5 s) := Any.strconv_ParseUint_10_at64_ok laysPu14 s hmax u h w
def lays110_ren : Go.Shelf.Ren := ⟨fun | 110 => 55 | 109 => 81 | n => n, fun | 31 => 28 | 9 => 9 | 4 => 4 | 3 => 3 | 0 => 0 | n => n, fun | n => n⟩
theorem lays110 : Go.Proofs.Lays.n110 Tryz.prog lays110_ren := {
  mixed := by kernel_rfl
  f109 := Tryz.func81.trans (congrArg some (by kernel_rfl))
  f110 := Tryz.func55.trans (congrArg some (by kernel_rfl))
  t0 := Tryz.underlying0
  a0 := Tryz.isAgg0
  z0 := Tryz.sizeOf0
  v0 := Tryz.zeroValue0
  t3 := Tryz.underlying3
  a3 := Tryz.isAgg3
  z3 := Tryz.sizeOf3
  v3 := Tryz.zeroValue3
  t4 := Tryz.underlying4
  a4 := Tryz.isAgg4
  z4 := Tryz.sizeOf4
  v4 := Tryz.zeroValue4
  t9 := Tryz.underlying9
  a9 := Tryz.isAgg9
  z9 := Tryz.sizeOf9
  v9 := Tryz.zeroValue9
  t31 := Tryz.underlying28
  a31 := Tryz.isAgg28
  z31 := Tryz.sizeOf28
  v31 := Tryz.zeroValue28 }
open Go.Lib in
theorem slices_Contains_string (b off n c : Nat) (zs : List ByteArray) (x : ByteArray) (w : World) (hz : n ≤ zs.length) (hbig : n ≤ 9223372036854775807) (hc : ∀ j, j < zs.length → w.cell? ⟨b, off + j, none⟩ = some (.string (zs.getD j ByteArray.empty))) :
    Calls Tryz.prog 55 #[.slice (some ⟨b, off, none⟩) n c, .string x] w fun e w' => e = .returned (.bool (Lib.containsS (zs.take n) x)) ∧ w' = w := Any.slices_Contains_string lays110 b off n c zs x w hz hbig hc
open Go.Lib in
theorem slices_Contains_string_empty (a : Option Addr) (c : Nat) (x : ByteArray) (w : World) :
    Calls Tryz.prog 55 #[.slice a 0 c, .string x] w fun e w' => e = .returned (.bool false) ∧ w' = w := Any.slices_Contains_string_empty lays110 a c x w
def lays193_ren : Go.Shelf.Ren := ⟨fun | 193 => 70 | n => n, fun | 31 => 28 | 9 => 9 | 4 => 4 | 3 => 3 | 0 => 0 | n => n, fun | n => n⟩
theorem lays193 : Go.Proofs.Lays.n193 Tryz.prog lays193_ren := {
  mixed := by kernel_rfl
  f193 := Tryz.func70.trans (congrArg some (by kernel_rfl))
  t0 := Tryz.underlying0
  a0 := Tryz.isAgg0
  z0 := Tryz.sizeOf0
  v0 := Tryz.zeroValue0
  t3 := Tryz.underlying3
  a3 := Tryz.isAgg3
  z3 := Tryz.sizeOf3
  v3 := Tryz.zeroValue3
  t4 := Tryz.underlying4
  a4 := Tryz.isAgg4
  z4 := Tryz.sizeOf4
  v4 := Tryz.zeroValue4
  t9 := Tryz.underlying9
  a9 := Tryz.isAgg9
  z9 := Tryz.sizeOf9
  v9 := Tryz.zeroValue9
  t31 := Tryz.underlying28
  a31 := Tryz.isAgg28
  z31 := Tryz.sizeOf28
  v31 := Tryz.zeroValue28 }
open Go.RowKit Go.Lib in
theorem slices_Equal_string (b1 o1 n c b2 o2 m d : Nat) (xs ys : List ByteArray) (w : World) (hx : n ≤ xs.length) (hy : m ≤ ys.length) (hbig : n ≤ 9223372036854775807) (hbig2 : m ≤ 9223372036854775807) (hc1 : ∀ j, j < xs.length → w.cell? ⟨b1, o1 + j, none⟩ = some (.string (xs.getD j ByteArray.empty))) (hc2 : ∀ j, j < ys.length → w.cell? ⟨b2, o2 + j, none⟩ = some (.string (ys.getD j ByteArray.empty))) :
    Calls Tryz.prog 70 #[.slice (some ⟨b1, o1, none⟩) n c, .slice (some ⟨b2, o2, none⟩) m d] w fun e w' => e = .returned (.bool (decide (xs.take n = ys.take m))) ∧ ∃ q, w' = w.drewN q := Any.slices_Equal_string lays193 b1 o1 n c b2 o2 m d xs ys w hx hy hbig hbig2 hc1 hc2
open Go.RowKit Go.Lib in
theorem slices_Equal_string_empty (a1 a2 : Option Addr) (c m d : Nat) (w : World) (hbig2 : m ≤ 9223372036854775807) :
    Calls Tryz.prog 70 #[.slice a1 0 c, .slice a2 m d] w fun e w' => e = .returned (.bool (decide (m = 0))) ∧ w' = w := Any.slices_Equal_string_empty lays193 a1 a2 c m d w hbig2
end Go.Proofs.YtkhhlmonhapmaaaGreatDoor
namespace Go.Proofs.YtkhhlmonhapmaaaGreatDoor
open Go.RowKit
structure TkOk (ts : List Tok) : Prop where
  len : ts.length ≤ 1000000
  vt : VT ts
  num : ∀ t ∈ ts, t.kind = 2 → 1 ≤ t.text.length ∧ t.text.length ≤ 18 ∧ Digits t.text
  short : Short ts
def numN (acc : Nat) (l : List UInt8) : Nat := l.foldl (fun n c => n * 10 + (c.toNat - 48)) acc
theorem parse_dig (l : List UInt8) (hd : Digits l) : ∀ acc, (acc + 1) * 10 ^ l.length ≤ 1000000000000000000 → Lib.parseUintM (2 ^ 64 - 1) acc l = .ok (numN acc l) := by
  induction l with
  | nil => intro acc _; rfl
  | cons c r ih =>
    intro acc h
    have hc := hd c (List.mem_cons_self ..)
    have h10 : 1 ≤ 10 ^ r.length := Nat.pow_pos (by decide)
    rw [List.length_cons, Nat.pow_succ] at h
    have h2 : (acc + 1) * 10 ≤ 1000000000000000000 := by
      calc (acc + 1) * 10 = (acc + 1) * (1 * 10) := by omega
        _ ≤ (acc + 1) * (10 ^ r.length * 10) := Nat.mul_le_mul_left _ (Nat.mul_le_mul_right _ h10)
        _ ≤ _ := h
    have h3 : (acc * 10 + (c.toNat - 48) + 1) * 10 ^ r.length ≤ 1000000000000000000 := by
      calc (acc * 10 + (c.toNat - 48) + 1) * 10 ^ r.length ≤ ((acc + 1) * 10) * 10 ^ r.length := Nat.mul_le_mul_right _ (by omega)
        _ = (acc + 1) * (10 ^ r.length * 10) := by rw [Nat.mul_assoc, Nat.mul_comm 10]
        _ ≤ _ := h
    rw [Lib.parseUintM, if_pos hc, if_neg (by omega), if_neg (by omega), ih (fun x hx => hd x (List.mem_cons_of_mem _ hx)) _ h3]
    rfl
theorem numN_numv (l : List UInt8) (hd : Digits l) : ∀ acc : Nat, ((numN acc l : Nat) : Int) = l.foldl (fun n c => 10 * n + ((c.toNat : Int) - 48)) (acc : Int) := by
  induction l with
  | nil => intro acc; rfl
  | cons c r ih =>
    intro acc
    have hc := hd c (List.mem_cons_self ..)
    have := ih (fun x hx => hd x (List.mem_cons_of_mem _ hx)) (acc * 10 + (c.toNat - 48))
    simp only [numN, List.foldl_cons] at this ⊢
    rw [this]
    congr 1
    omega
theorem parse_num (l : List UInt8) (hd : Digits l) (h1 : 1 ≤ l.length) (h18 : l.length ≤ 18) : Lib.parseUintB 64 l = .ok (numN 0 l) := by
  unfold Lib.parseUintB
  rw [if_neg (by intro h; rw [h] at h1; simp at h1)]
  refine parse_dig l hd 0 ?_
  have := Nat.pow_le_pow_right (n := 10) (by decide) h18
  simpa using this
theorem parseUint_s (s : List UInt8) (hd : Digits s) (h1 : 1 ≤ s.length) (h18 : s.length ≤ 18) : Spec Tryz.prog 127 [] [.x (.string (bs s)), .x (.int .i64 10), .x (.int .i64 64)] (fun r H' => r = .x (.tuple #[.int .u64 (numv s), .nilIface]) ∧ H' = []) := by
  have e : numv s = ((numN 0 s : Nat) : Int) := (numN_numv s hd 0).symm
  rw [e]
  refine Spec_calls (args := [.string (bs s), .int .i64 10, .int .i64 64]) (fun w => (strconv_ParseUint_10_at64_ok (bs s) (by simp [bs, ByteArray.size]; omega) _ (by simpa [bs] using parse_num s hd h1 h18) w).mono ?_) []
  rintro e w' ⟨rfl, rfl | rfl⟩
  · exact ⟨rfl, Below.refl _ _⟩
  · exact ⟨rfl, by rw [bytesWorld_ext]; exact Ext.ext _ _ _⟩
set_option maxRecDepth 100000 in
set_option maxHeartbeats 8000000 in
theorem value_s (t : Tok) (hd : Digits t.text) (h1 : 1 ≤ t.text.length) (h18 : t.text.length ≤ 18) : Spec Tryz.prog 89 [] [t.av] (fun r H' => r = .x (.int .u64 (numv t.text)) ∧ H' = []) := by
  have hP := parseUint_s t.text hd h1 h18
  unfold Tok.av
  have hd' := Lib.hid hd
  clear hd
  refine Spec_of Tryz.func89 rfl ?_
  simp only [Tryz.ntmps89, List.length_cons, List.length_nil, List.replicate_succ, List.replicate_zero, List.cons_append, List.nil_append, Nat.reduceAdd, Nat.reduceSub]
  (repeat' (first | with_reducible (first | refine awp_seq ?_ | refine awp_region ?_ | refine awp_ret ?_ | refine awp_skip ?_ | refine awpL_nil ?_ | refine thenA_normal ?_) | (refine awp_cond _ rfl (fun h => ?_) (fun h => ?_) <;> first | (exact absurd h (by decide)) | ((try (simp only [] at h)); skip)) | ((apply awpL_evl2 rfl); (case h => ((first | (apply Evl_k 0 rfl; (first | exact Evl_mv _ rfl | exact Evl_as _ rfl)) | (apply Evl_k 5 rfl; (exact Evl_field_x _ _ _ _ _ _ rfl rfl HFld.out)) | (apply Evl_k 6 rfl; (exact Evl_load _ _ _ _ _ _ _ _ rfl rfl FBox.out HAgg.out (by first | exact Nat.le_of_ble_eq_true rfl | fail) (by first | exact Nat.le_of_ble_eq_true rfl | fail))) | (apply Evl_k 11 rfl; (exact Evl_call 127 Tryz.f127 _ _ rfl rfl Tryz.func127 (by decide) rfl (VwL.refl _ _) (hP))) | (apply Evl_x; (case hs => (intro _ _ h; cases h)); (case hx => rfl); (case hrun => (intro w; simp [wtb, AV.val, go_sem]; skip; rfl)))))); (case hT => ((try simp only [wtn]); rfl))) | (refine awpL_cons rfl ?_; (((refine Stp_k 15 rfl ?_; ((refine Stp_box _ _ rfl (by first | rfl | fail) (fun b => ?_))))); apply awpL_cong; (case hT => ((try simp only [wtn]); rfl)); (case hH => ((try simp only [wtn]); rfl)))) | fail))
  refine endA_ret _ _ (Res1 rfl (RV.tmp _) (Weak.mk' [_] [] (List.Perm.refl _) (VwHs.refl _ _) (by first | exact VwL.refl _ _ | fail))) ?_
  exact ⟨rfl, rfl⟩
theorem gNum_p (ts : List Tok) (k : Nat) (hk : k < ts.length) (hS : ts[k].text.length ≤ 8192) : gNum ts k = (pTake ts k 2).map fun t => numv t.text := by
  unfold gNum
  rw [gTake_as]
  cases h : pTake ts k 2 with
  | error f => rfl
  | ok t =>
    have e : t = ts[k] := by
      unfold pTake at h
      rw [tkA_get hk] at h
      split at h
      · cases h; rfl
      · cases h
    simp only [bind, Except.bind]
    rw [if_neg (by rw [e]; omega)]
set_option maxRecDepth 100000 in
set_option maxHeartbeats 8000000 in
theorem number_p (pb : Nat) (ts : List Tok) (k : Nat) (hk : k < ts.length) (hT : TkOk ts) : SpecP Tryz.prog 88 [.box pb (tc ts k)] [.x (.pointer (some ⟨pb, 0, none⟩))] (fun r H' => ∃ n, r = .x (.int .u64 n) ∧ H' = [.box pb (tc ts (k + 1))] ∧ gNum ts k = .ok n ∧ ts[k].kind = 2) (fun v _ => ∃ f, gNum ts k = .error f ∧ v = fv f) := by
  have hTk := take_p pb ts k 2 hk hT.len
  rw [gNum_p ts k hk (hT.short ts[k] (List.getElem_mem hk))]
  have hV : ts[k].kind = 2 → Spec Tryz.prog 89 [] [ts[k].av] (fun r H' => r = .x (.int .u64 (numv ts[k].text)) ∧ H' = []) := fun h => by
    obtain ⟨h1, h2, h3⟩ := hT.num ts[k] (List.getElem_mem hk) h
    exact value_s _ h3 h1 h2
  unfold Tok.av at hTk hV
  have hV' := Lib.hid hV
  clear hV
  refine SpecP_of Tryz.func88 rfl ?_
  simp only [Tryz.ntmps88, List.length_cons, List.length_nil, List.replicate_succ, List.replicate_zero, List.cons_append, List.nil_append, Nat.reduceAdd, Nat.reduceSub]
  (repeat' (first | with_reducible (first | refine awp_seq ?_ | refine awp_region ?_ | refine awp_ret ?_ | refine awpL_nil ?_ | refine thenA_normal ?_ | refine thenA_panic ?_) | ((apply awpL_evl2 rfl); (case h => ((first | (apply Evl_k 0 rfl; (first | exact Evl_mv _ rfl | exact Evl_as _ rfl)) | (apply Evl_k 11 rfl; (exact Evl_call 89 Tryz.f89 _ _ rfl rfl Tryz.func89 (by decide) rfl (VwL.refl _ _) (hV'.out hk1)))))); (case hT => ((try simp (disch := omega) only [wtn, tc, List.append_eq, List.foldl_cons, List.foldl_nil, List.map_cons, List.map_nil, Nat.reduceAdd, Nat.reduceMul, Nat.reduceSub, ↓reduceIte, Nat.reduceEqDiff]); rfl))) | (refine awpL_consP rfl ?_; refine StpP_call 49 Tryz.f49 [_] _ _ _ _ rfl rfl Tryz.func49 (by decide) rfl (List.Perm.refl _) (VwL.refl _ _) (hTk) ?_ ?_; (case' refine_1 => (rintro _ _ ⟨rfl, rfl, hp, hk1⟩; (apply awpL_cong; (case hT => ((try simp (disch := omega) only [wtn, tc, List.append_eq, List.foldl_cons, List.foldl_nil, List.map_cons, List.map_nil, Nat.reduceAdd, Nat.reduceMul, Nat.reduceSub, ↓reduceIte, Nat.reduceEqDiff]); rfl)); (case hH => ((try simp (disch := omega) only [wtn, tc, List.append_eq, List.foldl_cons, List.foldl_nil, List.map_cons, List.map_nil, Nat.reduceAdd, Nat.reduceMul, Nat.reduceSub, ↓reduceIte, Nat.reduceEqDiff]); rfl))))); (case' refine_2 => (rintro _ _ ⟨f, hp, rfl⟩))) | fail))
  · (repeat (with_reducible first | refine thenA_panic ?_ | fail)); refine endP_panic _ _ (Weak.mk' [] _ (List.Perm.refl _) (VwHs.refl _ _) VwL.nil) ?_
    exact ⟨f, by rw [hp]; rfl, rfl⟩
  · exact endP_ret _ _ (Res1 rfl (RV.tmp _) (Weak.mk' [] [.box pb (tc ts (k + 1))] (List.Perm.refl _) (VwHs.refl _ _) (VwL.refl _ _))) ⟨_, rfl, rfl, by rw [hp]; rfl, hk1⟩
end Go.Proofs.YtkhhlmonhapmaaaGreatDoor
