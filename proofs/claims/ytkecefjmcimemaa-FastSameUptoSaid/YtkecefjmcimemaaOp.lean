/- How arguments that read as data read as plain data. Printed by law.py. -/
import Derived.Test.YtkecefjmcimemaaOk
import Derived.Test.YtkecefjmcimemaaProg
namespace Go.Proofs.Ytkecefjmcimemaa
open Go.ChangeShapes Go.WideShapes Go.ChangeAt Go.RowKit Go.Deep
set_option linter.unusedVariables false
set_option maxRecDepth 100000 in
theorem dH4 : G8 Try.prog 60 5 J2 cU7 bL4:=⟨fun {H eH w sp held fuel cs x} h=>by
  obtain ⟨xs,n,_,hx,hlen,hxl,hf⟩:=DataW.trod_struct Try.underlying60 h
  have h2:cs.length=5:=hlen.trans (by kernel_rfl)
  have h3:xs.length=5:=hxl
  have ce3:Try.prog.cellsOf 3=1:=by kernel_rfl
  have ce9:Try.prog.cellsOf 9=1:=by kernel_rfl
  match cs,h2,xs,h3 with
  |[c0,c1,c2,c3,c4],_,[y0,y1,y2,y3,y4],_ =>
    have f0:DataW.trod eH Try.prog w 0 sp held n 3 [c0]=some y0:=by simpa [ce3] using hf 0 _ rfl
    obtain ⟨a0,r0,l0,o0,k0,b0⟩:=(G8.int Try.underlying3).out f0
    have f1:DataW.trod eH Try.prog w 0 sp held n 3 [c1]=some y1:=by simpa [ce3] using hf 1 _ rfl
    obtain ⟨a1,r1,l1,o1,k1,b1⟩:=(G8.int Try.underlying3).out f1
    have f2:DataW.trod eH Try.prog w 0 sp held n 3 [c2]=some y2:=by simpa [ce3] using hf 2 _ rfl
    obtain ⟨a2,r2,l2,o2,k2,b2⟩:=(G8.int Try.underlying3).out f2
    have f3:DataW.trod eH Try.prog w 0 sp held n 3 [c3]=some y3:=by simpa [ce3] using hf 3 _ rfl
    obtain ⟨a3,r3,l3,o3,k3,b3⟩:=(G8.int Try.underlying3).out f3
    have f4:DataW.trod eH Try.prog w 0 sp held n 9 [c4]=some y4:=by simpa [ce9] using hf 4 _ rfl
    obtain ⟨a4,r4,l4,o4,k4,b4⟩:=(G8.str Try.underlying9).out f4
    refine ⟨⟨a0,a1,a2,a3,a4⟩,(r0.append (r1.append (r2.append (r3.append r4)))),rfl,fun u hu=>?_,⟨k0,k1,k2,k3,k4⟩,?_⟩
    · have hu:u∈[c0]++[c1]++[c2]++[c3]++[c4]:=hu
      simp only [List.mem_append] at hu
      rcases hu with (((hu|hu)|hu)|hu)|hu
      · exact o0 u hu
      · exact o1 u hu
      · exact o2 u hu
      · exact o3 u hu
      · exact o4 u hu
    · subst hx
      simp only [List.map_cons,List.map_nil,Rows.uptoBulk,Rows.uptoBulkAll,bL4]
      omega⟩
theorem dG2 : G8 Try.prog 52 1 (fun l:(List Ins)=>[AV.sl 5 (l.map J2)]) (okL cU7) (bkL bL4):=G8.slice Try.underlying52 (by kernel_rfl) (by decide) dH4
set_option maxRecDepth 100000 in
theorem dI0 : G8 Try.prog 54 5 O1 c63 bN0:=⟨fun {H eH w sp held fuel cs x} h=>by
  obtain ⟨xs,n,_,hx,hlen,hxl,hf⟩:=DataW.trod_struct Try.underlying54 h
  have h2:cs.length=5:=hlen.trans (by kernel_rfl)
  have h3:xs.length=5:=hxl
  have ce3:Try.prog.cellsOf 3=1:=by kernel_rfl
  have ce9:Try.prog.cellsOf 9=1:=by kernel_rfl
  have ce52:Try.prog.cellsOf 52=1:=by kernel_rfl
  match cs,h2,xs,h3 with
  |[c0,c1,c2,c3,c4],_,[y0,y1,y2,y3,y4],_ =>
    have f0:DataW.trod eH Try.prog w 0 sp held n 9 [c0]=some y0:=by simpa [ce9] using hf 0 _ rfl
    obtain ⟨a0,r0,l0,o0,k0,b0⟩:=(G8.str Try.underlying9).out f0
    have f1:DataW.trod eH Try.prog w 0 sp held n 3 [c1]=some y1:=by simpa [ce3] using hf 1 _ rfl
    obtain ⟨a1,r1,l1,o1,k1,b1⟩:=(G8.int Try.underlying3).out f1
    have f2:DataW.trod eH Try.prog w 0 sp held n 3 [c2]=some y2:=by simpa [ce3] using hf 2 _ rfl
    obtain ⟨a2,r2,l2,o2,k2,b2⟩:=(G8.int Try.underlying3).out f2
    have f3:DataW.trod eH Try.prog w 0 sp held n 3 [c3]=some y3:=by simpa [ce3] using hf 3 _ rfl
    obtain ⟨a3,r3,l3,o3,k3,b3⟩:=(G8.int Try.underlying3).out f3
    have f4:DataW.trod eH Try.prog w 0 sp held n 52 [c4]=some y4:=by simpa [ce52] using hf 4 _ rfl
    obtain ⟨a4,r4,l4,o4,k4,b4⟩:=dG2.out f4
    refine ⟨⟨a0,a1,a2,a3,a4⟩,(r0.append (r1.append (r2.append (r3.append r4)))),rfl,fun u hu=>?_,⟨k0,k1,k2,k3,k4⟩,?_⟩
    · have hu:u∈[c0]++[c1]++[c2]++[c3]++[c4]:=hu
      simp only [List.mem_append] at hu
      rcases hu with (((hu|hu)|hu)|hu)|hu
      · exact o0 u hu
      · exact o1 u hu
      · exact o2 u hu
      · exact o3 u hu
      · exact o4 u hu
    · subst hx
      simp only [List.map_cons,List.map_nil,Rows.uptoBulk,Rows.uptoBulkAll,bN0]
      omega⟩
theorem dE5 : G8 Try.prog 49 1 (fun l:(List Me)=>[AV.sl 5 (l.map O1)]) (okL c63) (bkL bN0):=G8.slice Try.underlying49 (by kernel_rfl) (by decide) dI0
set_option maxRecDepth 100000 in
theorem dI7 : G8 Try.prog 51 4 K7 c74 bQ8:=⟨fun {H eH w sp held fuel cs x} h=>by
  obtain ⟨xs,n,_,hx,hlen,hxl,hf⟩:=DataW.trod_struct Try.underlying51 h
  have h2:cs.length=4:=hlen.trans (by kernel_rfl)
  have h3:xs.length=4:=hxl
  have ce3:Try.prog.cellsOf 3=1:=by kernel_rfl
  have ce9:Try.prog.cellsOf 9=1:=by kernel_rfl
  have ce49:Try.prog.cellsOf 49=1:=by kernel_rfl
  match cs,h2,xs,h3 with
  |[c0,c1,c2,c3],_,[y0,y1,y2,y3],_ =>
    have f0:DataW.trod eH Try.prog w 0 sp held n 9 [c0]=some y0:=by simpa [ce9] using hf 0 _ rfl
    obtain ⟨a0,r0,l0,o0,k0,b0⟩:=(G8.str Try.underlying9).out f0
    have f1:DataW.trod eH Try.prog w 0 sp held n 3 [c1]=some y1:=by simpa [ce3] using hf 1 _ rfl
    obtain ⟨a1,r1,l1,o1,k1,b1⟩:=(G8.int Try.underlying3).out f1
    have f2:DataW.trod eH Try.prog w 0 sp held n 3 [c2]=some y2:=by simpa [ce3] using hf 2 _ rfl
    obtain ⟨a2,r2,l2,o2,k2,b2⟩:=(G8.int Try.underlying3).out f2
    have f3:DataW.trod eH Try.prog w 0 sp held n 49 [c3]=some y3:=by simpa [ce49] using hf 3 _ rfl
    obtain ⟨a3,r3,l3,o3,k3,b3⟩:=dE5.out f3
    refine ⟨⟨a0,a1,a2,a3⟩,(r0.append (r1.append (r2.append r3))),rfl,fun u hu=>?_,⟨k0,k1,k2,k3⟩,?_⟩
    · have hu:u∈[c0]++[c1]++[c2]++[c3]:=hu
      simp only [List.mem_append] at hu
      rcases hu with ((hu|hu)|hu)|hu
      · exact o0 u hu
      · exact o1 u hu
      · exact o2 u hu
      · exact o3 u hu
    · subst hx
      simp only [List.map_cons,List.map_nil,Rows.uptoBulk,Rows.uptoBulkAll,bQ8]
      omega⟩
theorem dG6 : G8 Try.prog 22 1 (fun l:(List Cl)=>[AV.sl 4 (l.map K7)]) (okL c74) (bkL bQ8):=G8.slice Try.underlying22 (by kernel_rfl) (by decide) dI7
set_option maxRecDepth 100000 in
theorem cQ7 : G8 Try.prog 27 2 eV okV bkV:=⟨fun {H eH w sp held fuel cs x} h=>by
  obtain ⟨xs,n,_,hx,hlen,hxl,hf⟩:=DataW.trod_struct Try.underlying27 h
  have h2:cs.length=2:=hlen.trans (by kernel_rfl)
  have h3:xs.length=2:=hxl
  have ce3:Try.prog.cellsOf 3=1:=by kernel_rfl
  match cs,h2,xs,h3 with
  |[c0,c1],_,[y0,y1],_ =>
    have f0:DataW.trod eH Try.prog w 0 sp held n 3 [c0]=some y0:=by simpa [ce3] using hf 0 _ rfl
    obtain ⟨a0,r0,l0,o0,k0,b0⟩:=(G8.int Try.underlying3).out f0
    have f1:DataW.trod eH Try.prog w 0 sp held n 3 [c1]=some y1:=by simpa [ce3] using hf 1 _ rfl
    obtain ⟨a1,r1,l1,o1,k1,b1⟩:=(G8.int Try.underlying3).out f1
    refine ⟨⟨a0,a1⟩,(r0.append r1),rfl,fun u hu=>?_,⟨k0,k1⟩,?_⟩
    · have hu:u∈[c0]++[c1]:=hu
      simp only [List.mem_append] at hu
      rcases hu with hu|hu
      · exact o0 u hu
      · exact o1 u hu
    · subst hx
      simp only [List.map_cons,List.map_nil,Rows.uptoBulk,Rows.uptoBulkAll,bkV]
      omega⟩
theorem cS1 : G8 Try.prog 28 1 (fun l:(List V)=>[AV.sl 2 (l.map eV)]) (okL okV) (bkL bkV):=G8.slice Try.underlying28 (by kernel_rfl) (by decide) cQ7
set_option maxRecDepth 100000 in
theorem dE9 : G8 Try.prog 97 2 H8 c99 bR7:=⟨fun {H eH w sp held fuel cs x} h=>by
  obtain ⟨xs,n,_,hx,hlen,hxl,hf⟩:=DataW.trod_struct Try.underlying97 h
  have h2:cs.length=2:=hlen.trans (by kernel_rfl)
  have h3:xs.length=2:=hxl
  have ce3:Try.prog.cellsOf 3=1:=by kernel_rfl
  have ce28:Try.prog.cellsOf 28=1:=by kernel_rfl
  match cs,h2,xs,h3 with
  |[c0,c1],_,[y0,y1],_ =>
    have f0:DataW.trod eH Try.prog w 0 sp held n 3 [c0]=some y0:=by simpa [ce3] using hf 0 _ rfl
    obtain ⟨a0,r0,l0,o0,k0,b0⟩:=(G8.int Try.underlying3).out f0
    have f1:DataW.trod eH Try.prog w 0 sp held n 28 [c1]=some y1:=by simpa [ce28] using hf 1 _ rfl
    obtain ⟨a1,r1,l1,o1,k1,b1⟩:=cS1.out f1
    refine ⟨⟨a0,a1⟩,(r0.append r1),rfl,fun u hu=>?_,⟨k0,k1⟩,?_⟩
    · have hu:u∈[c0]++[c1]:=hu
      simp only [List.mem_append] at hu
      rcases hu with hu|hu
      · exact o0 u hu
      · exact o1 u hu
    · subst hx
      simp only [List.map_cons,List.map_nil,Rows.uptoBulk,Rows.uptoBulkAll,bR7]
      omega⟩
theorem dI8 : G8 Try.prog 23 1 (fun l:(List Ob)=>[AV.sl 2 (l.map H8)]) (okL c99) (bkL bR7):=G8.slice Try.underlying23 (by kernel_rfl) (by decide) dE9
set_option maxRecDepth 100000 in
theorem dJ3 : G8 Try.prog 25 3 P5 dL2 cD6:=⟨fun {H eH w sp held fuel cs x} h=>by
  obtain ⟨xs,n,_,hx,hlen,hxl,hf⟩:=DataW.trod_struct Try.underlying25 h
  have h2:cs.length=3:=hlen.trans (by kernel_rfl)
  have h3:xs.length=3:=hxl
  have ce3:Try.prog.cellsOf 3=1:=by kernel_rfl
  have ce22:Try.prog.cellsOf 22=1:=by kernel_rfl
  have ce23:Try.prog.cellsOf 23=1:=by kernel_rfl
  match cs,h2,xs,h3 with
  |[c0,c1,c2],_,[y0,y1,y2],_ =>
    have f0:DataW.trod eH Try.prog w 0 sp held n 22 [c0]=some y0:=by simpa [ce22] using hf 0 _ rfl
    obtain ⟨a0,r0,l0,o0,k0,b0⟩:=dG6.out f0
    have f1:DataW.trod eH Try.prog w 0 sp held n 23 [c1]=some y1:=by simpa [ce23] using hf 1 _ rfl
    obtain ⟨a1,r1,l1,o1,k1,b1⟩:=dI8.out f1
    have f2:DataW.trod eH Try.prog w 0 sp held n 3 [c2]=some y2:=by simpa [ce3] using hf 2 _ rfl
    obtain ⟨a2,r2,l2,o2,k2,b2⟩:=(G8.int Try.underlying3).out f2
    refine ⟨⟨a0,a1,a2⟩,(r0.append (r1.append r2)),rfl,fun u hu=>?_,⟨k0,k1,k2⟩,?_⟩
    · have hu:u∈[c0]++[c1]++[c2]:=hu
      simp only [List.mem_append] at hu
      rcases hu with (hu|hu)|hu
      · exact o0 u hu
      · exact o1 u hu
      · exact o2 u hu
    · subst hx
      simp only [List.map_cons,List.map_nil,Rows.uptoBulk,Rows.uptoBulkAll,cD6]
      omega⟩
set_option maxRecDepth 100000 in
theorem dH0 : G8 Try.prog 30 4 bH6 cR5 bZ3:=⟨fun {H eH w sp held fuel cs x} h=>by
  obtain ⟨xs,n,_,hx,hlen,hxl,hf⟩:=DataW.trod_struct Try.underlying30 h
  have h2:cs.length=4:=hlen.trans (by kernel_rfl)
  have h3:xs.length=3:=hxl
  have ce9:Try.prog.cellsOf 9=1:=by kernel_rfl
  have ce27:Try.prog.cellsOf 27=2:=by kernel_rfl
  have ce28:Try.prog.cellsOf 28=1:=by kernel_rfl
  match cs,h2,xs,h3 with
  |[c0,c1,c2,c3],_,[y0,y1,y2],_ =>
    have f0:DataW.trod eH Try.prog w 0 sp held n 27 [c0,c1]=some y0:=by simpa [ce27] using hf 0 _ rfl
    obtain ⟨a0,r0,l0,o0,k0,b0⟩:=cQ7.out f0
    have f1:DataW.trod eH Try.prog w 0 sp held n 9 [c2]=some y1:=by simpa [ce9] using hf 1 _ rfl
    obtain ⟨a1,r1,l1,o1,k1,b1⟩:=(G8.str Try.underlying9).out f1
    have f2:DataW.trod eH Try.prog w 0 sp held n 28 [c3]=some y2:=by simpa [ce28] using hf 2 _ rfl
    obtain ⟨a2,r2,l2,o2,k2,b2⟩:=cS1.out f2
    refine ⟨⟨a0,a1,a2⟩,(r0.append (r1.append r2)),rfl,fun u hu=>?_,⟨k0,k1,k2⟩,?_⟩
    · have hu:u∈[c0,c1]++[c2]++[c3]:=hu
      simp only [List.mem_append] at hu
      rcases hu with (hu|hu)|hu
      · exact o0 u hu
      · exact o1 u hu
      · exact o2 u hu
    · subst hx
      simp only [List.map_cons,List.map_nil,Rows.uptoBulk,Rows.uptoBulkAll,bZ3]
      omega⟩
set_option maxRecDepth 100000 in
theorem dE3 : G8 Try.prog 56 3 eSt dJ4 c92:=⟨fun {H eH w sp held fuel cs x} h=>by
  obtain ⟨xs,n,_,hx,hlen,hxl,hf⟩:=DataW.trod_struct Try.underlying56 h
  have h2:cs.length=3:=hlen.trans (by kernel_rfl)
  have h3:xs.length=3:=hxl
  have ce3:Try.prog.cellsOf 3=1:=by kernel_rfl
  have ce9:Try.prog.cellsOf 9=1:=by kernel_rfl
  match cs,h2,xs,h3 with
  |[c0,c1,c2],_,[y0,y1,y2],_ =>
    have f0:DataW.trod eH Try.prog w 0 sp held n 3 [c0]=some y0:=by simpa [ce3] using hf 0 _ rfl
    obtain ⟨a0,r0,l0,o0,k0,b0⟩:=(G8.int Try.underlying3).out f0
    have f1:DataW.trod eH Try.prog w 0 sp held n 9 [c1]=some y1:=by simpa [ce9] using hf 1 _ rfl
    obtain ⟨a1,r1,l1,o1,k1,b1⟩:=(G8.str Try.underlying9).out f1
    have f2:DataW.trod eH Try.prog w 0 sp held n 3 [c2]=some y2:=by simpa [ce3] using hf 2 _ rfl
    obtain ⟨a2,r2,l2,o2,k2,b2⟩:=(G8.int Try.underlying3).out f2
    refine ⟨⟨a0,a1,a2⟩,(r0.append (r1.append r2)),rfl,fun u hu=>?_,⟨k0,k1,k2⟩,?_⟩
    · have hu:u∈[c0]++[c1]++[c2]:=hu
      simp only [List.mem_append] at hu
      rcases hu with (hu|hu)|hu
      · exact o0 u hu
      · exact o1 u hu
      · exact o2 u hu
    · subst hx
      simp only [List.map_cons,List.map_nil,Rows.uptoBulk,Rows.uptoBulkAll,c92]
      omega⟩
set_option maxRecDepth 100000 in
theorem c58 : G8 Try.prog 127 2 eLn c71 cV4:=⟨fun {H eH w sp held fuel cs x} h=>by
  obtain ⟨xs,n,_,hx,hlen,hxl,hf⟩:=DataW.trod_struct Try.underlying127 h
  have h2:cs.length=2:=hlen.trans (by kernel_rfl)
  have h3:xs.length=2:=hxl
  have ce3:Try.prog.cellsOf 3=1:=by kernel_rfl
  match cs,h2,xs,h3 with
  |[c0,c1],_,[y0,y1],_ =>
    have f0:DataW.trod eH Try.prog w 0 sp held n 3 [c0]=some y0:=by simpa [ce3] using hf 0 _ rfl
    obtain ⟨a0,r0,l0,o0,k0,b0⟩:=(G8.int Try.underlying3).out f0
    have f1:DataW.trod eH Try.prog w 0 sp held n 3 [c1]=some y1:=by simpa [ce3] using hf 1 _ rfl
    obtain ⟨a1,r1,l1,o1,k1,b1⟩:=(G8.int Try.underlying3).out f1
    refine ⟨⟨a0,a1⟩,(r0.append r1),rfl,fun u hu=>?_,⟨k0,k1⟩,?_⟩
    · have hu:u∈[c0]++[c1]:=hu
      simp only [List.mem_append] at hu
      rcases hu with hu|hu
      · exact o0 u hu
      · exact o1 u hu
    · subst hx
      simp only [List.map_cons,List.map_nil,Rows.uptoBulk,Rows.uptoBulkAll,cV4]
      omega⟩
theorem dE4 : G8 Try.prog 81 1 (fun l:(List Ln)=>[AV.sl 2 (l.map eLn)]) (okL c71) (bkL cV4):=G8.slice Try.underlying81 (by kernel_rfl) (by decide) c58
set_option maxRecDepth 100000 in
theorem dB2 : G8 Try.prog 138 4 eTl c95 cK0:=⟨fun {H eH w sp held fuel cs x} h=>by
  obtain ⟨xs,n,_,hx,hlen,hxl,hf⟩:=DataW.trod_struct Try.underlying138 h
  have h2:cs.length=4:=hlen.trans (by kernel_rfl)
  have h3:xs.length=2:=hxl
  have ce56:Try.prog.cellsOf 56=3:=by kernel_rfl
  have ce81:Try.prog.cellsOf 81=1:=by kernel_rfl
  match cs,h2,xs,h3 with
  |[c0,c1,c2,c3],_,[y0,y1],_ =>
    have f0:DataW.trod eH Try.prog w 0 sp held n 56 [c0,c1,c2]=some y0:=by simpa [ce56] using hf 0 _ rfl
    obtain ⟨a0,r0,l0,o0,k0,b0⟩:=dE3.out f0
    have f1:DataW.trod eH Try.prog w 0 sp held n 81 [c3]=some y1:=by simpa [ce81] using hf 1 _ rfl
    obtain ⟨a1,r1,l1,o1,k1,b1⟩:=dE4.out f1
    refine ⟨⟨a0,a1⟩,(r0.append r1),rfl,fun u hu=>?_,⟨k0,k1⟩,?_⟩
    · have hu:u∈[c0,c1,c2]++[c3]:=hu
      simp only [List.mem_append] at hu
      rcases hu with hu|hu
      · exact o0 u hu
      · exact o1 u hu
    · subst hx
      simp only [List.map_cons,List.map_nil,Rows.uptoBulk,Rows.uptoBulkAll,cK0]
      omega⟩
theorem dH1 : G8 Try.prog 71 1 (fun l:(List Tl)=>[AV.sl 4 (l.map eTl)]) (okL c95) (bkL cK0):=G8.slice Try.underlying71 (by kernel_rfl) (by decide) dB2
end Go.Proofs.Ytkecefjmcimemaa
