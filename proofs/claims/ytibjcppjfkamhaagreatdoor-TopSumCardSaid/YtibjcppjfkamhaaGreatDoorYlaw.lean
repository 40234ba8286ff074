/- From a row's listed variables to what the library's contracts ask; the last step of a law whose walk needs them. -/
import Derived.Test.YtibjcppjfkamhaaGreatDoorYsh
import Derived.Test.YtibjcppjfkamhaaGreatDoorFr
import Derived.Stop.LaidErr
import Derived.Shelf.Vars
import Derived.MakeChecks
namespace Go.Proofs.YtibjcppjfkamhaaGreatDoor
open Go.ChangeShapes Go.WideShapes Go.ChangeAt Go.RowKit Go.Deep
set_option linter.unusedVariables false
theorem aD9.u8 {P:Program} {t:TypeId} (ht:P.underlying t=some (.int .u8)):aD9 P t 1 (fun n:Int=>[AV.ik .u8 n]) okI bkI:=⟨fun h=>by
 obtain ⟨n,rfl,rfl,hw⟩:=DataW.trod_int ht h
 have hn:IntKind.u8.min≤n∧n≤IntKind.u8.max:=by simpa [Lit.wf] using hw
 have e1:IntKind.u8.min=0:=rfl
 have e2:IntKind.u8.max=255:=rfl
 exact ⟨n,.cons (.ik _ n) .nil,rfl,by simp [Value.oneCell'],⟨by omega,by omega⟩,Nat.le_refl _⟩⟩
theorem GLw.lt {W:World} (h:GLw W):∀b∈GLs,b < W.heap.size:=by
 have hg : Tryz.prog.globalNamed "internal/strconv.uint64pow10" = some 0 := by kernel_rfl
 obtain ⟨t,⟨s,s1,_⟩,⟨r,r1,_⟩,⟨m,m1⟩⟩:=h
 have t1:=t.cell hg 0 (by decide)
 intro b hb
 simp only [GLs,List.mem_cons,List.not_mem_nil,or_false] at hb
 rcases hb with rfl|rfl|rfl|rfl
 ·exact bF3 t1
 ·exact bF3 s1
 ·exact bF3 r1
 ·exact bF3 m1
theorem Spec.lawG {P:Program} {f:Nat} {ins:List AV} (hS:Spec P f [(2000,GL)] ins (.bool true) [(2000,GL)] []) {W:World} (hG:GLw W) {args:Array Value} (h:F6 (bS7 W) W args.toList ins) :
  Calls P f args W fun e W'=>e=.returned (.bool true)∧Below W.heap.size W W':=by
 have one:∀(id:Nat) (o:Obj),lk [(2000,GL)] id=some o→o=GL:=fun id o h=>by
  simp only [lk] at h
  cases hb:Nat.beq 2000 id<;>rw [hb] at h
  ·cases h
  ·exact (Option.some.inj h).symm
 refine (hS.2.2 (bS7 W) W args ⟨fun id o h=>?_,fun id o b h hf=>?_,fun id id' o o' b _ h _ hf=>?_,fun b hb=>hb⟩ h).mono ?_
 ·obtain rfl:=one id o h
  exact ⟨fun b hb=>hG.lt b hb,W,hG,fun _ _=>rfl⟩
 ·obtain rfl:=one id o h
  exact hf.elim
 ·obtain rfl:=one id o h
  exact hf.elim
 rintro e W' ⟨v,c',rfl,hp,hr⟩
 exact ⟨by rw [hr.bool_],hp.wos,hp.tape,hp.output,hp.size,fun k hk=>hp.keep k hk fun ⟨id,o,h,_,hf⟩=>by
  obtain rfl:=one id o h
  exact hf.elim⟩
theorem star : "*" ++ "errors.errorString" = "*errors.errorString" := by decide
theorem cO8 (u : TypeId) (h : Tryz.prog.typeName? 3 u = some "*errors.errorString") : u = 306 :=
 typeName_ptr_named (nm := "errors.errorString") (by rw [star]; kernel_rfl) (by kernel_rfl) (by decide) u (by rw [star]; exact h)
theorem GLw.ofLaid {W : World} {x y : String × DataW Unit} (h : laidMetH Tryz.prog [x, y, ("internal/strconv.uint64pow10", Rows.laid_internal_strconv_uint64pow10), ("strconv.ErrRange", Rows.laid_strconv_ErrRange), ("strconv.ErrSyntax", Rows.laid_strconv_ErrSyntax)] W)
  (hx:x.2.handleName?.isNone=true) (hy:y.2.handleName?.isNone=true) (hs:W.ShapedOpen Tryz.prog):GLw W:=by
 rw [MakeChecks.laidMetH_plain _ _ _ (by simp only [List.all_cons,hx,hy,Bool.true_and]; kernel_rfl)] at h
 have h3 : laidMet Tryz.prog (("internal/strconv.uint64pow10", Lib.tabData .u64 Lib.pow10Tab) :: [("strconv.ErrRange", Rows.laid_strconv_ErrRange), ("strconv.ErrSyntax", Rows.laid_strconv_ErrSyntax)]) W := h.tail.tail
 obtain ⟨a1,s1,v1,_⟩:=laid_sentinel (g:=2) (ti:=143) (tp:=306) (te:=308) (ts:=9) h.tail.tail.tail (by kernel_rfl) (by kernel_rfl) Tryz.underlying143 cO8 Tryz.underlying306 Tryz.underlying308 rfl rfl Tryz.underlying9 (by kernel_rfl) (by kernel_rfl)
 obtain ⟨a2,s2,v2,_⟩:=laid_sentinel (g:=1) (ti:=143) (tp:=306) (te:=308) (ts:=9) h.tail.tail.tail.tail (by kernel_rfl) (by kernel_rfl) Tryz.underlying143 cO8 Tryz.underlying306 Tryz.underlying308 rfl rfl Tryz.underlying9 (by kernel_rfl) (by kernel_rfl)
 refine ⟨Lib.tabIs_of_head (g := 0) (by kernel_rfl) (by kernel_rfl) Tryz.underlying273 Tryz.underlying227 (by kernel_rfl) (by kernel_rfl) h3, ⟨_, by simpa using World.var?_cell (show Tryz.prog.globalNamed "strconv.ErrSyntax" = some 1 by kernel_rfl) v2 0, .inr ⟨_, _, rfl⟩⟩, ⟨_, by simpa using World.var?_cell (show Tryz.prog.globalNamed "strconv.ErrRange" = some 2 by kernel_rfl) v1 0, .inr ⟨_, _, rfl⟩⟩, ?_⟩
 exact cell_of_shapedOpen_int (zero:=#[.int .i64 0]) (t:=3) hs (of_decide_eq_true (by kernel_rfl)) (by kernel_rfl) rfl (by kernel_rfl) (by kernel_rfl) Tryz.underlying3
end Go.Proofs.YtibjcppjfkamhaaGreatDoor
