/- How arguments that read as data read as plain data. Printed by law.py. -/
import Derived.Test.YtahmeibkdhbngaaOk
import Derived.Test.YtahmeibkdhbngaaProg
namespace Go.Proofs.Ytahmeibkdhbngaa
open Go.ChangeShapes Go.WideShapes Go.ChangeAt Go.RowKit Go.Deep
set_option linter.unusedVariables false
set_option maxRecDepth 100000 in
theorem bM6 : O6 Try.prog 23 3 eSt bO3 bB7:=⟨fun {H eH w sp held fuel cs x} h=>by
  obtain ⟨xs,n,_,hx,hlen,hxl,hf⟩:=DataW.trod_struct Try.underlying23 h
  have h2:cs.length=3:=hlen.trans (by kernel_rfl)
  have h3:xs.length=3:=hxl
  have ce3:Try.prog.cellsOf 3=1:=by kernel_rfl
  have ce9:Try.prog.cellsOf 9=1:=by kernel_rfl
  match cs,h2,xs,h3 with
  |[c0,c1,c2],_,[y0,y1,y2],_ =>
    have f0:DataW.trod eH Try.prog w 0 sp held n 3 [c0]=some y0:=by simpa [ce3] using hf 0 _ rfl
    obtain ⟨a0,r0,l0,o0,k0,b0⟩:=(O6.int Try.underlying3).out f0
    have f1:DataW.trod eH Try.prog w 0 sp held n 9 [c1]=some y1:=by simpa [ce9] using hf 1 _ rfl
    obtain ⟨a1,r1,l1,o1,k1,b1⟩:=(O6.str Try.underlying9).out f1
    have f2:DataW.trod eH Try.prog w 0 sp held n 3 [c2]=some y2:=by simpa [ce3] using hf 2 _ rfl
    obtain ⟨a2,r2,l2,o2,k2,b2⟩:=(O6.int Try.underlying3).out f2
    refine ⟨⟨a0,a1,a2⟩,(r0.append (r1.append r2)),rfl,fun u hu=>?_,⟨k0,k1,k2⟩,?_⟩
    · have hu:u∈[c0]++[c1]++[c2]:=hu
      simp only [List.mem_append] at hu
      rcases hu with (hu|hu)|hu
      · exact o0 u hu
      · exact o1 u hu
      · exact o2 u hu
    · subst hx
      simp only [List.map_cons,List.map_nil,Rows.uptoBulk,Rows.uptoBulkAll,bB7]
      omega⟩
theorem bL6 : O6 Try.prog 24 1 (fun l:(List Int)=>[AV.sl 1 (l.map bC0)]) (okL okI) (bkL bkI):=O6.slice Try.underlying24 (by kernel_rfl) (by decide) (O6.int Try.underlying3)
end Go.Proofs.Ytahmeibkdhbngaa
