import Derived.Test.YtdcjhndcklofoaaW14
import Derived.Shelf.Sort.Plain
import Derived.Test.YtdcjhndcklofoaaW17
import Derived.Sort.OwnSortedInts
/- slices.Sort of ints: the shelf's contract, laid at the dump of round r6 by the kit's tools (lay-shelf.mjs, lay-plain.mjs). Its numbers are of that seat alone. -/
namespace Go.Proofs.Ytdcjhndcklofoaa
open Go.Shelf
def lays189_ren : Go.Shelf.Ren := ⟨fun | 189 => 35 | 125 => 41 | 257 => 40 | 128 => 51 | 129 => 52 | 294 => 42 | 295 => 43 | 296 => 44 | 297 => 45 | 298 => 46 | 299 => 47 | 216 => 48 | 300 => 49 | 301 => 50 | 328 => 53 | 329 => 54 | 330 => 55 | 331 => 56 | 332 => 57 | 215 => 58 | 343 => 59 | n => n, fun | 28 => 22 | 3 => 3 | 46 => 72 | 0 => 0 | 51 => 83 | 53 => 35 | 4 => 4 | 183 => 75 | 182 => 74 | 131 => 80 | 5 => 5 | 9 => 9 | 218 => 85 | 222 => 89 | 228 => 91 | 229 => 92 | n => n, fun | n => n⟩
theorem lays189 : Go.Proofs.Lays.n189 Try.prog lays189_ren := {
  mixed := by kernel_rfl
  f125 := Try.func41.trans (congrArg some (by kernel_rfl))
  f128 := Try.func51.trans (congrArg some (by kernel_rfl))
  f129 := Try.func52.trans (congrArg some (by kernel_rfl))
  f189 := Try.func35.trans (congrArg some (by kernel_rfl))
  f215 := Try.func58.trans (congrArg some (by kernel_rfl))
  f216 := Try.func48.trans (congrArg some (by kernel_rfl))
  f257 := Try.func40.trans (congrArg some (by kernel_rfl))
  f294 := Try.func42.trans (congrArg some (by kernel_rfl))
  f295 := Try.func43.trans (congrArg some (by kernel_rfl))
  f296 := Try.func44.trans (congrArg some (by kernel_rfl))
  f297 := Try.func45.trans (congrArg some (by kernel_rfl))
  f298 := Try.func46.trans (congrArg some (by kernel_rfl))
  f299 := Try.func47.trans (congrArg some (by kernel_rfl))
  f300 := Try.func49.trans (congrArg some (by kernel_rfl))
  f301 := Try.func50.trans (congrArg some (by kernel_rfl))
  f328 := Try.func53.trans (congrArg some (by kernel_rfl))
  f329 := Try.func54.trans (congrArg some (by kernel_rfl))
  f330 := Try.func55.trans (congrArg some (by kernel_rfl))
  f331 := Try.func56.trans (congrArg some (by kernel_rfl))
  f332 := Try.func57.trans (congrArg some (by kernel_rfl))
  f343 := Try.func59.trans (congrArg some (by kernel_rfl))
  t0 := Try.underlying0
  a0 := Try.isAgg0
  z0 := Try.sizeOf0
  v0 := Try.zeroValue0
  t3 := Try.underlying3
  a3 := Try.isAgg3
  z3 := Try.sizeOf3
  v3 := Try.zeroValue3
  t4 := Try.underlying4
  a4 := Try.isAgg4
  z4 := Try.sizeOf4
  v4 := Try.zeroValue4
  t5 := Try.underlying5
  a5 := Try.isAgg5
  z5 := Try.sizeOf5
  v5 := Try.zeroValue5
  t9 := Try.underlying9
  a9 := Try.isAgg9
  z9 := Try.sizeOf9
  v9 := Try.zeroValue9
  t28 := Try.underlying22
  a28 := Try.isAgg22
  z28 := Try.sizeOf22
  v28 := Try.zeroValue22
  t46 := Try.underlying72
  a46 := Try.isAgg72
  z46 := Try.sizeOf72
  v46 := Try.zeroValue72
  t51 := Try.underlying83
  a51 := Try.isAgg83
  z51 := Try.sizeOf83
  v51 := Try.zeroValue83
  t53 := Try.underlying35
  a53 := Try.isAgg35
  z53 := Try.sizeOf35
  v53 := Try.zeroValue35
  t131 := Try.underlying80
  a131 := Try.isAgg80
  z131 := Try.sizeOf80
  v131 := Try.zeroValue80
  t182 := Try.underlying74
  a182 := Try.isAgg74
  z182 := Try.sizeOf74
  v182 := Try.zeroValue74
  t183 := Try.underlying75
  a183 := Try.isAgg75
  z183 := Try.sizeOf75
  v183 := Try.zeroValue75
  t218 := Try.underlying85
  a218 := Try.isAgg85
  z218 := Try.sizeOf85
  v218 := Try.zeroValue85
  t222 := Try.underlying89
  a222 := Try.isAgg89
  z222 := Try.sizeOf89
  v222 := Try.zeroValue89
  t228 := Try.underlying91
  a228 := Try.isAgg91
  z228 := Try.sizeOf91
  v228 := Try.zeroValue91
  t229 := Try.underlying92
  a229 := Try.isAgg92
  z229 := Try.sizeOf92
  v229 := Try.zeroValue92 }
open Go.Sort Go.RowKit in
theorem slices_Sort_int (blk off cap : Nat) (zs : List Int) (w : World) (hH : Holds (Value.int .i64) w blk off zs.toArray) (hblk : blk < w.heap.size) (hsz : zs.length < 4611686018427387904) :
    Calls Try.prog 35 #[.slice (some ⟨blk, off, none⟩) zs.length cap] w fun e w' =>
      e = .returned (.tuple #[]) ∧ ∃ n os, w' = grow (putRow (Value.int .i64) (Sort.ahead w n) blk off (zs.mergeSort fun x y => decide (x ≤ y)).toArray) os := Go.Proofs.Any.slices_Sort_int lays189 blk off cap zs w hH hblk hsz
end Go.Proofs.Ytdcjhndcklofoaa
/- slices.Sort of ints, whatever the length: from the shelf's contract. -/
namespace Go.Proofs.Ytdcjhndcklofoaa
open Go.RowKit Go.Sort
set_option linter.unusedSimpArgs false
set_option linter.unusedVariables false
theorem DenL.eq {F : Nat → Prop} {w : World} : ∀ {l vs : List Value}, DenL F w (l.map AV.x) vs → vs = l
  | [], vs, h => by rw [List.map_nil, DenL] at h; exact h
  | x :: l, vs, h => by
    rw [List.map_cons, DenL] at h
    obtain ⟨u, us, rfl, h1, h2⟩ := h
    rw [Den] at h1
    rw [h1, DenL.eq h2]
theorem ia_map (l : List Int) : ia l = (l.map (Value.int .i64)).map AV.x := by simp [ia]
theorem sort_any (b cap : Nat) (l : List Int) (hl : l.length < 4611686018427387904) : Spec Try.prog 35 [irow b l.length cap l] [.x (.slice (some ⟨b, 0, none⟩) l.length cap)] (fun r H' => SortedOf b l.length cap l H') := by
  intro V w vs h1 h2 h3
  rw [DenL] at h3
  obtain ⟨u, us, rfl, hu, hus⟩ := h3
  rw [Den] at hu
  rw [DenL] at hus
  subst hu hus
  obtain ⟨vals, hd, hown, hone⟩ := h2.ok _ (List.mem_singleton.2 rfl)
  rw [ia_map] at hd
  obtain rfl := DenL.eq hd
  have hlt := h2.lt _ (List.mem_singleton.2 rfl) b rfl
  obtain ⟨hlen, hn | ⟨g, capx, cur, e1, hbg, hg, hnc, hcm, hcs, htake⟩⟩ := hown
  · cases hn.1
  simp only [Value.slice.injEq, Option.some.injEq, Addr.mk.injEq] at e1
  obtain ⟨⟨rfl, -, -⟩, -, rfl⟩ := e1
  have hH : Holds (Value.int .i64) w b 0 l.toArray := holds_of_blockI hg (by simpa using htake)
  refine (slices_Sort_int b 0 cap l w hH hlt.1 hl).mono fun e w' ⟨he, n, os, hw⟩ => ?_
  subst hw
  have hml : (l.mergeSort fun x y => decide (x ≤ y)).length = l.length := (List.mergeSort_perm _ _).length_eq
  have hgr := grownBy_sortedI (w := w) (g := b) (n := n) (os := os) (l.mergeSort fun x y => decide (x ≤ y)).toArray
  have hz : w.heap.size ≤ (grow (putRow (Value.int .i64) (Sort.ahead w n) b 0 (l.mergeSort fun x y => decide (x ≤ y)).toArray) os).heap.size := hgr.size
  refine ⟨.x (.tuple #[]), [irow b l.length cap (l.mergeSort fun x y => decide (x ≤ y))], _, ⟨_, rfl, List.mergeSort_perm _ _, ?_⟩, he, by rw [Den], ⟨?_, List.pairwise_singleton _ _, ?_⟩, ⟨hgr.os, hgr.tape, hgr.output, hz, ?_⟩, ?_⟩
  · have := List.pairwise_mergeSort (le := fun x y : Int => decide (x ≤ y)) (fun a b c h1 h2 => by simp at *; omega) (fun a b => by simp; omega) l
    exact this.imp fun h => by simpa using h
  · intro h hh
    rw [List.mem_singleton] at hh
    subst hh
    refine ⟨(l.mergeSort fun x y => decide (x ≤ y)).map (Value.int .i64), by rw [ia_map]; exact DenL.exact, ?_, fun u hu => by obtain ⟨x, -, rfl⟩ := List.mem_map.1 hu; rfl⟩
    exact ownsRow_sortedI hml (Nat.zero_le _) hg hnc hcm (by simpa using hcs)
  · intro h hh k hk
    rw [List.mem_singleton] at hh
    subst hh
    simp only [Hp.blk, Option.map_some, Option.some.injEq] at hk
    subst hk
    exact ⟨Nat.lt_of_lt_of_le hlt.1 hz, hlt.2⟩
  · intro k hk hn
    refine hgr.block k hk fun e => hn ?_
    simp only [Option.some.injEq] at e
    exact ⟨_, List.mem_singleton.2 rfl, by rw [e]; rfl⟩
  · intro h hh k hk
    rw [List.mem_singleton] at hh
    subst hh
    exact .inl ⟨_, List.mem_singleton.2 rfl, hk⟩
end Go.Proofs.Ytdcjhndcklofoaa
