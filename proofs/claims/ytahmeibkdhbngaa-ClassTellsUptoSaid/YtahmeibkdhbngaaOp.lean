/- How arguments that read as data read as plain data. Printed by law.py. -/
import Derived.Test.YtahmeibkdhbngaaOk
import Derived.Test.YtahmeibkdhbngaaProg
namespace Go.Proofs.Ytahmeibkdhbngaa
open Go.ChangeShapes Go.WideShapes Go.ChangeAt Go.RowKit Go.Deep
set_option linter.unusedVariables false
set_option maxRecDepth 100000 in
theorem bV7 : C8 Try.prog 100 5 aI7 bP0 aK2:=⟨fun {H eH w sp held fuel cs x} h=>by
  obtain ⟨xs,n,_,hx,hlen,hxl,hf⟩:=DataW.trod_struct Try.underlying100 h
  have h2:cs.length=5:=hlen.trans (by kernel_rfl)
  have h3:xs.length=5:=hxl
  have ce3:Try.prog.cellsOf 3=1:=by kernel_rfl
  have ce9:Try.prog.cellsOf 9=1:=by kernel_rfl
  match cs,h2,xs,h3 with
  |[c0,c1,c2,c3,c4],_,[y0,y1,y2,y3,y4],_ =>
    have f0:DataW.trod eH Try.prog w 0 sp held n 3 [c0]=some y0:=by simpa [ce3] using hf 0 _ rfl
    obtain ⟨a0,r0,l0,o0,k0,b0⟩:=(C8.int Try.underlying3).out f0
    have f1:DataW.trod eH Try.prog w 0 sp held n 3 [c1]=some y1:=by simpa [ce3] using hf 1 _ rfl
    obtain ⟨a1,r1,l1,o1,k1,b1⟩:=(C8.int Try.underlying3).out f1
    have f2:DataW.trod eH Try.prog w 0 sp held n 3 [c2]=some y2:=by simpa [ce3] using hf 2 _ rfl
    obtain ⟨a2,r2,l2,o2,k2,b2⟩:=(C8.int Try.underlying3).out f2
    have f3:DataW.trod eH Try.prog w 0 sp held n 3 [c3]=some y3:=by simpa [ce3] using hf 3 _ rfl
    obtain ⟨a3,r3,l3,o3,k3,b3⟩:=(C8.int Try.underlying3).out f3
    have f4:DataW.trod eH Try.prog w 0 sp held n 9 [c4]=some y4:=by simpa [ce9] using hf 4 _ rfl
    obtain ⟨a4,r4,l4,o4,k4,b4⟩:=(C8.str Try.underlying9).out f4
    refine ⟨⟨a0,a1,a2,a3,a4⟩,(r0.append (r1.append (r2.append (r3.append r4)))),rfl,fun u hu=>?_,⟨k0,k1,k2,k3,k4⟩,?_⟩
    · have hu:u∈[c0]++[c1]++[c2]++[c3]++[c4]:=hu
      simp only [List.mem_append] at hu
      rcases hu with (((hu|hu)|hu)|hu)|hu
      · exact o0 u hu
      · exact o1 u hu
      · exact o2 u hu
      · exact o3 u hu
      · exact o4 u hu
    · subst hx
      simp only [List.map_cons,List.map_nil,Rows.uptoBulk,Rows.uptoBulkAll,aK2]
      omega⟩
theorem b07 : C8 Try.prog 62 1 (fun l:(List Ins)=>[AV.sl 5 (l.map aI7)]) (okL bP0) (bkL aK2):=C8.slice Try.underlying62 (by kernel_rfl) (by decide) bV7
set_option maxRecDepth 100000 in
theorem bM2 : C8 Try.prog 64 5 D6 bO9 aG6:=⟨fun {H eH w sp held fuel cs x} h=>by
  obtain ⟨xs,n,_,hx,hlen,hxl,hf⟩:=DataW.trod_struct Try.underlying64 h
  have h2:cs.length=5:=hlen.trans (by kernel_rfl)
  have h3:xs.length=5:=hxl
  have ce3:Try.prog.cellsOf 3=1:=by kernel_rfl
  have ce9:Try.prog.cellsOf 9=1:=by kernel_rfl
  have ce62:Try.prog.cellsOf 62=1:=by kernel_rfl
  match cs,h2,xs,h3 with
  |[c0,c1,c2,c3,c4],_,[y0,y1,y2,y3,y4],_ =>
    have f0:DataW.trod eH Try.prog w 0 sp held n 9 [c0]=some y0:=by simpa [ce9] using hf 0 _ rfl
    obtain ⟨a0,r0,l0,o0,k0,b0⟩:=(C8.str Try.underlying9).out f0
    have f1:DataW.trod eH Try.prog w 0 sp held n 3 [c1]=some y1:=by simpa [ce3] using hf 1 _ rfl
    obtain ⟨a1,r1,l1,o1,k1,b1⟩:=(C8.int Try.underlying3).out f1
    have f2:DataW.trod eH Try.prog w 0 sp held n 3 [c2]=some y2:=by simpa [ce3] using hf 2 _ rfl
    obtain ⟨a2,r2,l2,o2,k2,b2⟩:=(C8.int Try.underlying3).out f2
    have f3:DataW.trod eH Try.prog w 0 sp held n 3 [c3]=some y3:=by simpa [ce3] using hf 3 _ rfl
    obtain ⟨a3,r3,l3,o3,k3,b3⟩:=(C8.int Try.underlying3).out f3
    have f4:DataW.trod eH Try.prog w 0 sp held n 62 [c4]=some y4:=by simpa [ce62] using hf 4 _ rfl
    obtain ⟨a4,r4,l4,o4,k4,b4⟩:=b07.out f4
    refine ⟨⟨a0,a1,a2,a3,a4⟩,(r0.append (r1.append (r2.append (r3.append r4)))),rfl,fun u hu=>?_,⟨k0,k1,k2,k3,k4⟩,?_⟩
    · have hu:u∈[c0]++[c1]++[c2]++[c3]++[c4]:=hu
      simp only [List.mem_append] at hu
      rcases hu with (((hu|hu)|hu)|hu)|hu
      · exact o0 u hu
      · exact o1 u hu
      · exact o2 u hu
      · exact o3 u hu
      · exact o4 u hu
    · subst hx
      simp only [List.map_cons,List.map_nil,Rows.uptoBulk,Rows.uptoBulkAll,aG6]
      omega⟩
theorem b29 : C8 Try.prog 65 1 (fun l:(List Me)=>[AV.sl 5 (l.map D6)]) (okL bO9) (bkL aG6):=C8.slice Try.underlying65 (by kernel_rfl) (by decide) bM2
set_option maxRecDepth 100000 in
theorem bZ7 : C8 Try.prog 67 4 U7 bU3 aS9:=⟨fun {H eH w sp held fuel cs x} h=>by
  obtain ⟨xs,n,_,hx,hlen,hxl,hf⟩:=DataW.trod_struct Try.underlying67 h
  have h2:cs.length=4:=hlen.trans (by kernel_rfl)
  have h3:xs.length=4:=hxl
  have ce3:Try.prog.cellsOf 3=1:=by kernel_rfl
  have ce9:Try.prog.cellsOf 9=1:=by kernel_rfl
  have ce65:Try.prog.cellsOf 65=1:=by kernel_rfl
  match cs,h2,xs,h3 with
  |[c0,c1,c2,c3],_,[y0,y1,y2,y3],_ =>
    have f0:DataW.trod eH Try.prog w 0 sp held n 9 [c0]=some y0:=by simpa [ce9] using hf 0 _ rfl
    obtain ⟨a0,r0,l0,o0,k0,b0⟩:=(C8.str Try.underlying9).out f0
    have f1:DataW.trod eH Try.prog w 0 sp held n 3 [c1]=some y1:=by simpa [ce3] using hf 1 _ rfl
    obtain ⟨a1,r1,l1,o1,k1,b1⟩:=(C8.int Try.underlying3).out f1
    have f2:DataW.trod eH Try.prog w 0 sp held n 3 [c2]=some y2:=by simpa [ce3] using hf 2 _ rfl
    obtain ⟨a2,r2,l2,o2,k2,b2⟩:=(C8.int Try.underlying3).out f2
    have f3:DataW.trod eH Try.prog w 0 sp held n 65 [c3]=some y3:=by simpa [ce65] using hf 3 _ rfl
    obtain ⟨a3,r3,l3,o3,k3,b3⟩:=b29.out f3
    refine ⟨⟨a0,a1,a2,a3⟩,(r0.append (r1.append (r2.append r3))),rfl,fun u hu=>?_,⟨k0,k1,k2,k3⟩,?_⟩
    · have hu:u∈[c0]++[c1]++[c2]++[c3]:=hu
      simp only [List.mem_append] at hu
      rcases hu with ((hu|hu)|hu)|hu
      · exact o0 u hu
      · exact o1 u hu
      · exact o2 u hu
      · exact o3 u hu
    · subst hx
      simp only [List.map_cons,List.map_nil,Rows.uptoBulk,Rows.uptoBulkAll,aS9]
      omega⟩
theorem b26 : C8 Try.prog 34 1 (fun l:(List Cl)=>[AV.sl 4 (l.map U7)]) (okL bU3) (bkL aS9):=C8.slice Try.underlying34 (by kernel_rfl) (by decide) bZ7
set_option maxRecDepth 100000 in
theorem b27 : C8 Try.prog 39 2 eV okV bkV:=⟨fun {H eH w sp held fuel cs x} h=>by
  obtain ⟨xs,n,_,hx,hlen,hxl,hf⟩:=DataW.trod_struct Try.underlying39 h
  have h2:cs.length=2:=hlen.trans (by kernel_rfl)
  have h3:xs.length=2:=hxl
  have ce3:Try.prog.cellsOf 3=1:=by kernel_rfl
  match cs,h2,xs,h3 with
  |[c0,c1],_,[y0,y1],_ =>
    have f0:DataW.trod eH Try.prog w 0 sp held n 3 [c0]=some y0:=by simpa [ce3] using hf 0 _ rfl
    obtain ⟨a0,r0,l0,o0,k0,b0⟩:=(C8.int Try.underlying3).out f0
    have f1:DataW.trod eH Try.prog w 0 sp held n 3 [c1]=some y1:=by simpa [ce3] using hf 1 _ rfl
    obtain ⟨a1,r1,l1,o1,k1,b1⟩:=(C8.int Try.underlying3).out f1
    refine ⟨⟨a0,a1⟩,(r0.append r1),rfl,fun u hu=>?_,⟨k0,k1⟩,?_⟩
    · have hu:u∈[c0]++[c1]:=hu
      simp only [List.mem_append] at hu
      rcases hu with hu|hu
      · exact o0 u hu
      · exact o1 u hu
    · subst hx
      simp only [List.map_cons,List.map_nil,Rows.uptoBulk,Rows.uptoBulkAll,bkV]
      omega⟩
theorem bZ2 : C8 Try.prog 40 1 (fun l:(List V)=>[AV.sl 2 (l.map eV)]) (okL okV) (bkL bkV):=C8.slice Try.underlying40 (by kernel_rfl) (by decide) b27
set_option maxRecDepth 100000 in
theorem b34 : C8 Try.prog 97 2 eOb bW2 aS5:=⟨fun {H eH w sp held fuel cs x} h=>by
  obtain ⟨xs,n,_,hx,hlen,hxl,hf⟩:=DataW.trod_struct Try.underlying97 h
  have h2:cs.length=2:=hlen.trans (by kernel_rfl)
  have h3:xs.length=2:=hxl
  have ce3:Try.prog.cellsOf 3=1:=by kernel_rfl
  have ce40:Try.prog.cellsOf 40=1:=by kernel_rfl
  match cs,h2,xs,h3 with
  |[c0,c1],_,[y0,y1],_ =>
    have f0:DataW.trod eH Try.prog w 0 sp held n 3 [c0]=some y0:=by simpa [ce3] using hf 0 _ rfl
    obtain ⟨a0,r0,l0,o0,k0,b0⟩:=(C8.int Try.underlying3).out f0
    have f1:DataW.trod eH Try.prog w 0 sp held n 40 [c1]=some y1:=by simpa [ce40] using hf 1 _ rfl
    obtain ⟨a1,r1,l1,o1,k1,b1⟩:=bZ2.out f1
    refine ⟨⟨a0,a1⟩,(r0.append r1),rfl,fun u hu=>?_,⟨k0,k1⟩,?_⟩
    · have hu:u∈[c0]++[c1]:=hu
      simp only [List.mem_append] at hu
      rcases hu with hu|hu
      · exact o0 u hu
      · exact o1 u hu
    · subst hx
      simp only [List.map_cons,List.map_nil,Rows.uptoBulk,Rows.uptoBulkAll,aS5]
      omega⟩
theorem b24 : C8 Try.prog 35 1 (fun l:(List Ob)=>[AV.sl 2 (l.map eOb)]) (okL bW2) (bkL aS5):=C8.slice Try.underlying35 (by kernel_rfl) (by decide) b34
set_option maxRecDepth 100000 in
theorem b09 : C8 Try.prog 37 3 eWd b38 bD0:=⟨fun {H eH w sp held fuel cs x} h=>by
  obtain ⟨xs,n,_,hx,hlen,hxl,hf⟩:=DataW.trod_struct Try.underlying37 h
  have h2:cs.length=3:=hlen.trans (by kernel_rfl)
  have h3:xs.length=3:=hxl
  have ce3:Try.prog.cellsOf 3=1:=by kernel_rfl
  have ce34:Try.prog.cellsOf 34=1:=by kernel_rfl
  have ce35:Try.prog.cellsOf 35=1:=by kernel_rfl
  match cs,h2,xs,h3 with
  |[c0,c1,c2],_,[y0,y1,y2],_ =>
    have f0:DataW.trod eH Try.prog w 0 sp held n 34 [c0]=some y0:=by simpa [ce34] using hf 0 _ rfl
    obtain ⟨a0,r0,l0,o0,k0,b0⟩:=b26.out f0
    have f1:DataW.trod eH Try.prog w 0 sp held n 35 [c1]=some y1:=by simpa [ce35] using hf 1 _ rfl
    obtain ⟨a1,r1,l1,o1,k1,b1⟩:=b24.out f1
    have f2:DataW.trod eH Try.prog w 0 sp held n 3 [c2]=some y2:=by simpa [ce3] using hf 2 _ rfl
    obtain ⟨a2,r2,l2,o2,k2,b2⟩:=(C8.int Try.underlying3).out f2
    refine ⟨⟨a0,a1,a2⟩,(r0.append (r1.append r2)),rfl,fun u hu=>?_,⟨k0,k1,k2⟩,?_⟩
    · have hu:u∈[c0]++[c1]++[c2]:=hu
      simp only [List.mem_append] at hu
      rcases hu with (hu|hu)|hu
      · exact o0 u hu
      · exact o1 u hu
      · exact o2 u hu
    · subst hx
      simp only [List.map_cons,List.map_nil,Rows.uptoBulk,Rows.uptoBulkAll,bD0]
      omega⟩
end Go.Proofs.Ytahmeibkdhbngaa
