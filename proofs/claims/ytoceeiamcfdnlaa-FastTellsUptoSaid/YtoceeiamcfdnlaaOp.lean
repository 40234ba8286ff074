/- How arguments that read as data read as plain data. Printed by law.py. -/
import Derived.Test.YtoceeiamcfdnlaaOk
import Derived.Test.YtoceeiamcfdnlaaProg
namespace Go.Proofs.Ytoceeiamcfdnlaa
open Go.ChangeShapes Go.WideShapes Go.ChangeAt Go.RowKit Go.Deep
set_option linter.unusedVariables false
set_option maxRecDepth 100000 in
theorem open_28 : Opens Try.prog 28 3 eSt okSt bkSt := ⟨fun {H eH w sp held fuel cs x} h => by
  obtain ⟨xs, n, _, hx, hlen, hxl, hf⟩ := DataW.trod_struct Try.underlying28 h
  have h2 : cs.length = 3 := hlen.trans (by kernel_rfl)
  have h3 : xs.length = 3 := hxl
  have ce3 : Try.prog.cellsOf 3 = 1 := by kernel_rfl
  have ce9 : Try.prog.cellsOf 9 = 1 := by kernel_rfl
  match cs, h2, xs, h3 with
  | [c0, c1, c2], _, [y0, y1, y2], _ =>
    have f0 : DataW.trod eH Try.prog w 0 sp held n 3 [c0] = some y0 := by simpa [ce3] using hf 0 _ rfl
    obtain ⟨a0, r0, l0, o0, k0, b0⟩ := (Opens.int Try.underlying3).out f0
    have f1 : DataW.trod eH Try.prog w 0 sp held n 9 [c1] = some y1 := by simpa [ce9] using hf 1 _ rfl
    obtain ⟨a1, r1, l1, o1, k1, b1⟩ := (Opens.str Try.underlying9).out f1
    have f2 : DataW.trod eH Try.prog w 0 sp held n 3 [c2] = some y2 := by simpa [ce3] using hf 2 _ rfl
    obtain ⟨a2, r2, l2, o2, k2, b2⟩ := (Opens.int Try.underlying3).out f2
    refine ⟨⟨a0, a1, a2⟩, (r0.append (r1.append r2)), rfl, fun u hu => ?_, ⟨k0, k1, k2⟩, ?_⟩
    · have hu : u ∈ [c0] ++ [c1] ++ [c2] := hu
      simp only [List.mem_append] at hu
      rcases hu with (hu | hu) | hu
      · exact o0 u hu
      · exact o1 u hu
      · exact o2 u hu
    · subst hx
      simp only [List.map_cons, List.map_nil, Rows.uptoBulk, Rows.uptoBulkAll, bkSt]
      omega⟩
set_option maxRecDepth 100000 in
theorem open_86 : Opens Try.prog 86 2 eLn okLn bkLn := ⟨fun {H eH w sp held fuel cs x} h => by
  obtain ⟨xs, n, _, hx, hlen, hxl, hf⟩ := DataW.trod_struct Try.underlying86 h
  have h2 : cs.length = 2 := hlen.trans (by kernel_rfl)
  have h3 : xs.length = 2 := hxl
  have ce3 : Try.prog.cellsOf 3 = 1 := by kernel_rfl
  match cs, h2, xs, h3 with
  | [c0, c1], _, [y0, y1], _ =>
    have f0 : DataW.trod eH Try.prog w 0 sp held n 3 [c0] = some y0 := by simpa [ce3] using hf 0 _ rfl
    obtain ⟨a0, r0, l0, o0, k0, b0⟩ := (Opens.int Try.underlying3).out f0
    have f1 : DataW.trod eH Try.prog w 0 sp held n 3 [c1] = some y1 := by simpa [ce3] using hf 1 _ rfl
    obtain ⟨a1, r1, l1, o1, k1, b1⟩ := (Opens.int Try.underlying3).out f1
    refine ⟨⟨a0, a1⟩, (r0.append r1), rfl, fun u hu => ?_, ⟨k0, k1⟩, ?_⟩
    · have hu : u ∈ [c0] ++ [c1] := hu
      simp only [List.mem_append] at hu
      rcases hu with hu | hu
      · exact o0 u hu
      · exact o1 u hu
    · subst hx
      simp only [List.map_cons, List.map_nil, Rows.uptoBulk, Rows.uptoBulkAll, bkLn]
      omega⟩
theorem open_47 : Opens Try.prog 47 1 (fun l : (List Ln) => [AV.sl 2 (l.map eLn)]) (okL okLn) (bkL bkLn) := Opens.slice Try.underlying47 (by kernel_rfl) (by decide) open_86
set_option maxRecDepth 100000 in
theorem open_49 : Opens Try.prog 49 6 eCe okCe bkCe := ⟨fun {H eH w sp held fuel cs x} h => by
  obtain ⟨xs, n, _, hx, hlen, hxl, hf⟩ := DataW.trod_struct Try.underlying49 h
  have h2 : cs.length = 6 := hlen.trans (by kernel_rfl)
  have h3 : xs.length = 4 := hxl
  have ce3 : Try.prog.cellsOf 3 = 1 := by kernel_rfl
  have ce4 : Try.prog.cellsOf 4 = 1 := by kernel_rfl
  have ce28 : Try.prog.cellsOf 28 = 3 := by kernel_rfl
  have ce47 : Try.prog.cellsOf 47 = 1 := by kernel_rfl
  match cs, h2, xs, h3 with
  | [c0, c1, c2, c3, c4, c5], _, [y0, y1, y2, y3], _ =>
    have f0 : DataW.trod eH Try.prog w 0 sp held n 28 [c0, c1, c2] = some y0 := by simpa [ce28] using hf 0 _ rfl
    obtain ⟨a0, r0, l0, o0, k0, b0⟩ := open_28.out f0
    have f1 : DataW.trod eH Try.prog w 0 sp held n 3 [c3] = some y1 := by simpa [ce3] using hf 1 _ rfl
    obtain ⟨a1, r1, l1, o1, k1, b1⟩ := (Opens.int Try.underlying3).out f1
    have f2 : DataW.trod eH Try.prog w 0 sp held n 4 [c4] = some y2 := by simpa [ce4] using hf 2 _ rfl
    obtain ⟨a2, r2, l2, o2, k2, b2⟩ := (Opens.bool Try.underlying4).out f2
    have f3 : DataW.trod eH Try.prog w 0 sp held n 47 [c5] = some y3 := by simpa [ce47] using hf 3 _ rfl
    obtain ⟨a3, r3, l3, o3, k3, b3⟩ := open_47.out f3
    refine ⟨⟨a0, a1, a2, a3⟩, (r0.append (r1.append (r2.append r3))), rfl, fun u hu => ?_, ⟨k0, k1, k2, k3⟩, ?_⟩
    · have hu : u ∈ [c0, c1, c2] ++ [c3] ++ [c4] ++ [c5] := hu
      simp only [List.mem_append] at hu
      rcases hu with ((hu | hu) | hu) | hu
      · exact o0 u hu
      · exact o1 u hu
      · exact o2 u hu
      · exact o3 u hu
    · subst hx
      simp only [List.map_cons, List.map_nil, Rows.uptoBulk, Rows.uptoBulkAll, bkCe]
      omega⟩
theorem open_22 : Opens Try.prog 22 1 (fun l : (List Ce) => [AV.sl 6 (l.map eCe)]) (okL okCe) (bkL bkCe) := Opens.slice Try.underlying22 (by kernel_rfl) (by decide) open_49
set_option maxRecDepth 100000 in
theorem open_62 : Opens Try.prog 62 5 eIns okIns bkIns := ⟨fun {H eH w sp held fuel cs x} h => by
  obtain ⟨xs, n, _, hx, hlen, hxl, hf⟩ := DataW.trod_struct Try.underlying62 h
  have h2 : cs.length = 5 := hlen.trans (by kernel_rfl)
  have h3 : xs.length = 5 := hxl
  have ce3 : Try.prog.cellsOf 3 = 1 := by kernel_rfl
  have ce9 : Try.prog.cellsOf 9 = 1 := by kernel_rfl
  match cs, h2, xs, h3 with
  | [c0, c1, c2, c3, c4], _, [y0, y1, y2, y3, y4], _ =>
    have f0 : DataW.trod eH Try.prog w 0 sp held n 3 [c0] = some y0 := by simpa [ce3] using hf 0 _ rfl
    obtain ⟨a0, r0, l0, o0, k0, b0⟩ := (Opens.int Try.underlying3).out f0
    have f1 : DataW.trod eH Try.prog w 0 sp held n 3 [c1] = some y1 := by simpa [ce3] using hf 1 _ rfl
    obtain ⟨a1, r1, l1, o1, k1, b1⟩ := (Opens.int Try.underlying3).out f1
    have f2 : DataW.trod eH Try.prog w 0 sp held n 3 [c2] = some y2 := by simpa [ce3] using hf 2 _ rfl
    obtain ⟨a2, r2, l2, o2, k2, b2⟩ := (Opens.int Try.underlying3).out f2
    have f3 : DataW.trod eH Try.prog w 0 sp held n 3 [c3] = some y3 := by simpa [ce3] using hf 3 _ rfl
    obtain ⟨a3, r3, l3, o3, k3, b3⟩ := (Opens.int Try.underlying3).out f3
    have f4 : DataW.trod eH Try.prog w 0 sp held n 9 [c4] = some y4 := by simpa [ce9] using hf 4 _ rfl
    obtain ⟨a4, r4, l4, o4, k4, b4⟩ := (Opens.str Try.underlying9).out f4
    refine ⟨⟨a0, a1, a2, a3, a4⟩, (r0.append (r1.append (r2.append (r3.append r4)))), rfl, fun u hu => ?_, ⟨k0, k1, k2, k3, k4⟩, ?_⟩
    · have hu : u ∈ [c0] ++ [c1] ++ [c2] ++ [c3] ++ [c4] := hu
      simp only [List.mem_append] at hu
      rcases hu with (((hu | hu) | hu) | hu) | hu
      · exact o0 u hu
      · exact o1 u hu
      · exact o2 u hu
      · exact o3 u hu
      · exact o4 u hu
    · subst hx
      simp only [List.map_cons, List.map_nil, Rows.uptoBulk, Rows.uptoBulkAll, bkIns]
      omega⟩
theorem open_51 : Opens Try.prog 51 1 (fun l : (List Ins) => [AV.sl 5 (l.map eIns)]) (okL okIns) (bkL bkIns) := Opens.slice Try.underlying51 (by kernel_rfl) (by decide) open_62
set_option maxRecDepth 100000 in
theorem open_64 : Opens Try.prog 64 5 eMe okMe bkMe := ⟨fun {H eH w sp held fuel cs x} h => by
  obtain ⟨xs, n, _, hx, hlen, hxl, hf⟩ := DataW.trod_struct Try.underlying64 h
  have h2 : cs.length = 5 := hlen.trans (by kernel_rfl)
  have h3 : xs.length = 5 := hxl
  have ce3 : Try.prog.cellsOf 3 = 1 := by kernel_rfl
  have ce9 : Try.prog.cellsOf 9 = 1 := by kernel_rfl
  have ce51 : Try.prog.cellsOf 51 = 1 := by kernel_rfl
  match cs, h2, xs, h3 with
  | [c0, c1, c2, c3, c4], _, [y0, y1, y2, y3, y4], _ =>
    have f0 : DataW.trod eH Try.prog w 0 sp held n 9 [c0] = some y0 := by simpa [ce9] using hf 0 _ rfl
    obtain ⟨a0, r0, l0, o0, k0, b0⟩ := (Opens.str Try.underlying9).out f0
    have f1 : DataW.trod eH Try.prog w 0 sp held n 3 [c1] = some y1 := by simpa [ce3] using hf 1 _ rfl
    obtain ⟨a1, r1, l1, o1, k1, b1⟩ := (Opens.int Try.underlying3).out f1
    have f2 : DataW.trod eH Try.prog w 0 sp held n 3 [c2] = some y2 := by simpa [ce3] using hf 2 _ rfl
    obtain ⟨a2, r2, l2, o2, k2, b2⟩ := (Opens.int Try.underlying3).out f2
    have f3 : DataW.trod eH Try.prog w 0 sp held n 3 [c3] = some y3 := by simpa [ce3] using hf 3 _ rfl
    obtain ⟨a3, r3, l3, o3, k3, b3⟩ := (Opens.int Try.underlying3).out f3
    have f4 : DataW.trod eH Try.prog w 0 sp held n 51 [c4] = some y4 := by simpa [ce51] using hf 4 _ rfl
    obtain ⟨a4, r4, l4, o4, k4, b4⟩ := open_51.out f4
    refine ⟨⟨a0, a1, a2, a3, a4⟩, (r0.append (r1.append (r2.append (r3.append r4)))), rfl, fun u hu => ?_, ⟨k0, k1, k2, k3, k4⟩, ?_⟩
    · have hu : u ∈ [c0] ++ [c1] ++ [c2] ++ [c3] ++ [c4] := hu
      simp only [List.mem_append] at hu
      rcases hu with (((hu | hu) | hu) | hu) | hu
      · exact o0 u hu
      · exact o1 u hu
      · exact o2 u hu
      · exact o3 u hu
      · exact o4 u hu
    · subst hx
      simp only [List.map_cons, List.map_nil, Rows.uptoBulk, Rows.uptoBulkAll, bkMe]
      omega⟩
theorem open_58 : Opens Try.prog 58 1 (fun l : (List Me) => [AV.sl 5 (l.map eMe)]) (okL okMe) (bkL bkMe) := Opens.slice Try.underlying58 (by kernel_rfl) (by decide) open_64
set_option maxRecDepth 100000 in
theorem open_60 : Opens Try.prog 60 4 eCl okCl bkCl := ⟨fun {H eH w sp held fuel cs x} h => by
  obtain ⟨xs, n, _, hx, hlen, hxl, hf⟩ := DataW.trod_struct Try.underlying60 h
  have h2 : cs.length = 4 := hlen.trans (by kernel_rfl)
  have h3 : xs.length = 4 := hxl
  have ce3 : Try.prog.cellsOf 3 = 1 := by kernel_rfl
  have ce9 : Try.prog.cellsOf 9 = 1 := by kernel_rfl
  have ce58 : Try.prog.cellsOf 58 = 1 := by kernel_rfl
  match cs, h2, xs, h3 with
  | [c0, c1, c2, c3], _, [y0, y1, y2, y3], _ =>
    have f0 : DataW.trod eH Try.prog w 0 sp held n 9 [c0] = some y0 := by simpa [ce9] using hf 0 _ rfl
    obtain ⟨a0, r0, l0, o0, k0, b0⟩ := (Opens.str Try.underlying9).out f0
    have f1 : DataW.trod eH Try.prog w 0 sp held n 3 [c1] = some y1 := by simpa [ce3] using hf 1 _ rfl
    obtain ⟨a1, r1, l1, o1, k1, b1⟩ := (Opens.int Try.underlying3).out f1
    have f2 : DataW.trod eH Try.prog w 0 sp held n 3 [c2] = some y2 := by simpa [ce3] using hf 2 _ rfl
    obtain ⟨a2, r2, l2, o2, k2, b2⟩ := (Opens.int Try.underlying3).out f2
    have f3 : DataW.trod eH Try.prog w 0 sp held n 58 [c3] = some y3 := by simpa [ce58] using hf 3 _ rfl
    obtain ⟨a3, r3, l3, o3, k3, b3⟩ := open_58.out f3
    refine ⟨⟨a0, a1, a2, a3⟩, (r0.append (r1.append (r2.append r3))), rfl, fun u hu => ?_, ⟨k0, k1, k2, k3⟩, ?_⟩
    · have hu : u ∈ [c0] ++ [c1] ++ [c2] ++ [c3] := hu
      simp only [List.mem_append] at hu
      rcases hu with ((hu | hu) | hu) | hu
      · exact o0 u hu
      · exact o1 u hu
      · exact o2 u hu
      · exact o3 u hu
    · subst hx
      simp only [List.map_cons, List.map_nil, Rows.uptoBulk, Rows.uptoBulkAll, bkCl]
      omega⟩
theorem open_23 : Opens Try.prog 23 1 (fun l : (List Cl) => [AV.sl 4 (l.map eCl)]) (okL okCl) (bkL bkCl) := Opens.slice Try.underlying23 (by kernel_rfl) (by decide) open_60
set_option maxRecDepth 100000 in
theorem open_101 : Opens Try.prog 101 2 eV okV bkV := ⟨fun {H eH w sp held fuel cs x} h => by
  obtain ⟨xs, n, _, hx, hlen, hxl, hf⟩ := DataW.trod_struct Try.underlying101 h
  have h2 : cs.length = 2 := hlen.trans (by kernel_rfl)
  have h3 : xs.length = 2 := hxl
  have ce3 : Try.prog.cellsOf 3 = 1 := by kernel_rfl
  match cs, h2, xs, h3 with
  | [c0, c1], _, [y0, y1], _ =>
    have f0 : DataW.trod eH Try.prog w 0 sp held n 3 [c0] = some y0 := by simpa [ce3] using hf 0 _ rfl
    obtain ⟨a0, r0, l0, o0, k0, b0⟩ := (Opens.int Try.underlying3).out f0
    have f1 : DataW.trod eH Try.prog w 0 sp held n 3 [c1] = some y1 := by simpa [ce3] using hf 1 _ rfl
    obtain ⟨a1, r1, l1, o1, k1, b1⟩ := (Opens.int Try.underlying3).out f1
    refine ⟨⟨a0, a1⟩, (r0.append r1), rfl, fun u hu => ?_, ⟨k0, k1⟩, ?_⟩
    · have hu : u ∈ [c0] ++ [c1] := hu
      simp only [List.mem_append] at hu
      rcases hu with hu | hu
      · exact o0 u hu
      · exact o1 u hu
    · subst hx
      simp only [List.map_cons, List.map_nil, Rows.uptoBulk, Rows.uptoBulkAll, bkV]
      omega⟩
theorem open_97 : Opens Try.prog 97 1 (fun l : (List V) => [AV.sl 2 (l.map eV)]) (okL okV) (bkL bkV) := Opens.slice Try.underlying97 (by kernel_rfl) (by decide) open_101
set_option maxRecDepth 100000 in
theorem open_99 : Opens Try.prog 99 2 eOb okOb bkOb := ⟨fun {H eH w sp held fuel cs x} h => by
  obtain ⟨xs, n, _, hx, hlen, hxl, hf⟩ := DataW.trod_struct Try.underlying99 h
  have h2 : cs.length = 2 := hlen.trans (by kernel_rfl)
  have h3 : xs.length = 2 := hxl
  have ce3 : Try.prog.cellsOf 3 = 1 := by kernel_rfl
  have ce97 : Try.prog.cellsOf 97 = 1 := by kernel_rfl
  match cs, h2, xs, h3 with
  | [c0, c1], _, [y0, y1], _ =>
    have f0 : DataW.trod eH Try.prog w 0 sp held n 3 [c0] = some y0 := by simpa [ce3] using hf 0 _ rfl
    obtain ⟨a0, r0, l0, o0, k0, b0⟩ := (Opens.int Try.underlying3).out f0
    have f1 : DataW.trod eH Try.prog w 0 sp held n 97 [c1] = some y1 := by simpa [ce97] using hf 1 _ rfl
    obtain ⟨a1, r1, l1, o1, k1, b1⟩ := open_97.out f1
    refine ⟨⟨a0, a1⟩, (r0.append r1), rfl, fun u hu => ?_, ⟨k0, k1⟩, ?_⟩
    · have hu : u ∈ [c0] ++ [c1] := hu
      simp only [List.mem_append] at hu
      rcases hu with hu | hu
      · exact o0 u hu
      · exact o1 u hu
    · subst hx
      simp only [List.map_cons, List.map_nil, Rows.uptoBulk, Rows.uptoBulkAll, bkOb]
      omega⟩
theorem open_24 : Opens Try.prog 24 1 (fun l : (List Ob) => [AV.sl 2 (l.map eOb)]) (okL okOb) (bkL bkOb) := Opens.slice Try.underlying24 (by kernel_rfl) (by decide) open_99
set_option maxRecDepth 100000 in
theorem open_26 : Opens Try.prog 26 3 eWd okWd bkWd := ⟨fun {H eH w sp held fuel cs x} h => by
  obtain ⟨xs, n, _, hx, hlen, hxl, hf⟩ := DataW.trod_struct Try.underlying26 h
  have h2 : cs.length = 3 := hlen.trans (by kernel_rfl)
  have h3 : xs.length = 3 := hxl
  have ce3 : Try.prog.cellsOf 3 = 1 := by kernel_rfl
  have ce23 : Try.prog.cellsOf 23 = 1 := by kernel_rfl
  have ce24 : Try.prog.cellsOf 24 = 1 := by kernel_rfl
  match cs, h2, xs, h3 with
  | [c0, c1, c2], _, [y0, y1, y2], _ =>
    have f0 : DataW.trod eH Try.prog w 0 sp held n 23 [c0] = some y0 := by simpa [ce23] using hf 0 _ rfl
    obtain ⟨a0, r0, l0, o0, k0, b0⟩ := open_23.out f0
    have f1 : DataW.trod eH Try.prog w 0 sp held n 24 [c1] = some y1 := by simpa [ce24] using hf 1 _ rfl
    obtain ⟨a1, r1, l1, o1, k1, b1⟩ := open_24.out f1
    have f2 : DataW.trod eH Try.prog w 0 sp held n 3 [c2] = some y2 := by simpa [ce3] using hf 2 _ rfl
    obtain ⟨a2, r2, l2, o2, k2, b2⟩ := (Opens.int Try.underlying3).out f2
    refine ⟨⟨a0, a1, a2⟩, (r0.append (r1.append r2)), rfl, fun u hu => ?_, ⟨k0, k1, k2⟩, ?_⟩
    · have hu : u ∈ [c0] ++ [c1] ++ [c2] := hu
      simp only [List.mem_append] at hu
      rcases hu with (hu | hu) | hu
      · exact o0 u hu
      · exact o1 u hu
      · exact o2 u hu
    · subst hx
      simp only [List.map_cons, List.map_nil, Rows.uptoBulk, Rows.uptoBulkAll, bkWd]
      omega⟩
theorem open_39 : Opens Try.prog 39 1 (fun l : (List St) => [AV.sl 3 (l.map eSt)]) (okL okSt) (bkL bkSt) := Opens.slice Try.underlying39 (by kernel_rfl) (by decide) open_28
theorem open_40 : Opens Try.prog 40 1 (fun l : (List Int) => [AV.sl 1 (l.map eInt)]) (okL okI) (bkL bkI) := Opens.slice Try.underlying40 (by kernel_rfl) (by decide) (Opens.int Try.underlying3)
set_option maxRecDepth 100000 in
theorem open_115 : Opens Try.prog 115 4 eTl okTl bkTl := ⟨fun {H eH w sp held fuel cs x} h => by
  obtain ⟨xs, n, _, hx, hlen, hxl, hf⟩ := DataW.trod_struct Try.underlying115 h
  have h2 : cs.length = 4 := hlen.trans (by kernel_rfl)
  have h3 : xs.length = 2 := hxl
  have ce28 : Try.prog.cellsOf 28 = 3 := by kernel_rfl
  have ce47 : Try.prog.cellsOf 47 = 1 := by kernel_rfl
  match cs, h2, xs, h3 with
  | [c0, c1, c2, c3], _, [y0, y1], _ =>
    have f0 : DataW.trod eH Try.prog w 0 sp held n 28 [c0, c1, c2] = some y0 := by simpa [ce28] using hf 0 _ rfl
    obtain ⟨a0, r0, l0, o0, k0, b0⟩ := open_28.out f0
    have f1 : DataW.trod eH Try.prog w 0 sp held n 47 [c3] = some y1 := by simpa [ce47] using hf 1 _ rfl
    obtain ⟨a1, r1, l1, o1, k1, b1⟩ := open_47.out f1
    refine ⟨⟨a0, a1⟩, (r0.append r1), rfl, fun u hu => ?_, ⟨k0, k1⟩, ?_⟩
    · have hu : u ∈ [c0, c1, c2] ++ [c3] := hu
      simp only [List.mem_append] at hu
      rcases hu with hu | hu
      · exact o0 u hu
      · exact o1 u hu
    · subst hx
      simp only [List.map_cons, List.map_nil, Rows.uptoBulk, Rows.uptoBulkAll, bkTl]
      omega⟩
theorem open_65 : Opens Try.prog 65 1 (fun l : (List Tl) => [AV.sl 4 (l.map eTl)]) (okL okTl) (bkL bkTl) := Opens.slice Try.underlying65 (by kernel_rfl) (by decide) open_115
end Go.Proofs.Ytoceeiamcfdnlaa
