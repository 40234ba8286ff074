/- append, over readings: the row that is appended to is gone, another one is there. No program in sight; the element's type is told by the table. -/
import Derived.Test.YtibjcppjfkamhaaGreatDoorAn
import Derived.ArgAppend
namespace Go.Proofs.YtibjcppjfkamhaaGreatDoor
open Go.RowKit
set_option linter.unusedVariables false
def Src (Φ:Nat→Prop) (w:World) (sz:Nat) (x:Value) (ls:List (List AV)):Prop :=
 ∃(A:Option Addr) (cap:Nat) (css:List (List Value)),x=.slice A ls.length cap∧css.length=ls.length∧(∀us∈css,us.length=sz)∧(∀us∈css,∀u∈us,u.oneCell'=true) ∧
  (∀(i:Nat) (us:List Value) (cs:List AV),css[i]?=some us→ls[i]?=some cs→J4 Φ w us cs) ∧
  (0 < ls.length→∃b o,A=some ⟨b,o,none⟩∧∀i us,css[i]?=some us→∀j u,us[j]?=some u→w.cell? ⟨b,o+i*sz+j,none⟩=some u)
theorem Src.of_rf {c:Ctx} {w:World} {sz:Nat} {x:Value} {ls:List (List AV)} (h:Rd c w x (.sl sz ls)):Src c.Φ w sz x ls:=by
 obtain ⟨A,k,us,b,o,rfl,h1,h2,h3,h4,h5,h6,h7⟩:=h.sl_
 have at_:∀(i:Nat) (u:List Value),((List.range ls.length).map us)[i]?=some u→i < ls.length∧u=us i:=fun i u hi=>by
  simp only [List.getElem?_map,Option.map_eq_some_iff] at hi
  obtain ⟨a,ha,rfl⟩:=hi
  have:=List.getElem?_eq_some_iff.1 ha
  simp at this
  exact ⟨by omega,by rw [←this.2]⟩
 have mem_:∀u∈(List.range ls.length).map us,∃i,i < ls.length∧u=us i:=fun u hu=>by
  simp only [List.mem_map,List.mem_range] at hu
  obtain ⟨i,hi,rfl⟩:=hu
  exact ⟨i,hi,rfl⟩
 refine ⟨A,k,(List.range ls.length).map us,rfl,by simp,fun u hu=>?_,fun u hu=>?_,fun i u cs hu hc=>?_,fun hp=>?_⟩
 ·obtain ⟨i,hi,rfl⟩:=mem_ u hu
  exact h4 i ls[i] (List.getElem?_eq_getElem hi)
 ·obtain ⟨i,hi,rfl⟩:=mem_ u hu
  exact h7 i ls[i] (List.getElem?_eq_getElem hi)
 ·obtain ⟨hi,rfl⟩:=at_ i u hu
  exact h6 i cs hc
 ·refine ⟨b,o,(h3 hp).1,fun i u hu j v hv=>?_⟩
  obtain ⟨hi,rfl⟩:=at_ i u hu
  exact h5 i ls[i] (List.getElem?_eq_getElem hi) j v hv
theorem Src.of_rowOk {Φ:Nat→Prop} {w:World} {v:Value} {sz e:Nat} {css:List (List Value)} {ls:List (List AV)} (h1:M7 w v sz e css) (h2:css.length=ls.length)
  (h3:∀(i:Nat) (us:List Value) (cs:List AV),css[i]?=some us→ls[i]?=some cs→J4 Φ w us cs):Src Φ w sz v ls:=by
 obtain ⟨A,cap,hv,h4,h5⟩:=h1.head
 refine ⟨A,cap,css,by rw [hv,h2],h2,h1.len,h1.one,h3,fun hp=>?_⟩
 have hp':0 < css.length:=by omega
 obtain ⟨g,x,cap',hv',hg,_⟩:=h1.cells (List.getElem?_eq_getElem hp')
 rw [hv] at hv'
 injection hv' with e1 e2 e3
 refine ⟨g,x,e1,fun i us hi j u hj=>?_⟩
 obtain ⟨g',x',cap2,hv2,hg2,hc⟩:=h1.cells hi
 rw [hv,e1] at hv2
 injection hv2 with a1 _ _
 injection a1 with a1
 injection a1 with a1 a2 _
 subst a1 a2
 exact hc j u hj
theorem Src.of_row {c:Ctx} {w:World} {id sz e:Nat} {ls:List (List AV)} (h:aH8 c w id (.row sz ls e)):Src c.Φ w sz (c.hd id) ls:=by
 obtain ⟨css,h1,h2,h3⟩:=h
 exact Src.of_rowOk h1 h2 h3
theorem Src.nil {Φ:Nat→Prop} {w:World} (sz:Nat):Src Φ w sz (.slice none 0 0) [] :=
 ⟨none,0,[],rfl,rfl,by simp,by simp,fun i us cs h=>by simp at h,fun h=>absurd h (by simp)⟩
theorem M7.take {w:World} {A:Option Addr} {m cap sz e n:Nat} {css:List (List Value)} (h:M7 w (.slice A m cap) sz e css) (hn:n≤m):M7 w (.slice A n cap) sz e (css.take n):=by
 have hm:css.length=m:=by
  obtain ⟨A',cap',hv,_,_⟩:=h.head
  injection hv with _ e2 _
  exact e2.symm
 have hlen:(css.take n).length=n:=by rw [List.length_take]; omega
 have h1:∀us∈css.take n,us.length=sz:=fun us hu=>h.len us (List.mem_of_mem_take hu)
 have hfl:=aA6 sz _ h1
 refine ⟨?_,h1,fun us hu=>h.one us (List.mem_of_mem_take hu)⟩
 rcases h.lies with ⟨hv,h0⟩|⟨g,x,p,cap',cur,hv,hg,a1,a2,a3,hx,a4⟩
 ·injection hv with e1 e2 e3
  subst e1 e3
  exact .inl ⟨by rw [show n=0 by omega],by omega⟩
 ·injection hv with e1 e2 e3
  subst e1 e3
  refine .inr ⟨g,x,p,cap,cur,by rw [hlen],hg,by omega,a2,a3,hx,?_⟩
  have e:(cur.toList.drop (p*sz)).take (n*sz)=css.flatten.take (n*sz):=by
   rw [←a4,List.take_take]
   congr 1
   have:n*sz≤css.length*sz:=Nat.mul_le_mul_right _ (by omega)
   omega
  rw [hlen,e]
  have hsplit:css.flatten=(css.take n).flatten++(css.drop n).flatten:=by rw [←List.flatten_append,List.take_append_drop]
  rw [hsplit,List.take_left' (by rw [hfl,hlen])]
theorem M7.drop {w:World} {A:Option Addr} {m cap sz e n:Nat} {css:List (List Value)} (h:M7 w (.slice A m cap) sz e css) (hn:n≤m):M7 w (.slice (if cap=n then A else A.map (·.add (n*sz))) (m - n) (cap - n)) sz e (css.drop n):=by
 have hm:css.length=m:=by
  obtain ⟨A',cap',hv,_,_⟩:=h.head
  injection hv with _ e2 _
  exact e2.symm
 have hlen:(css.drop n).length=m - n:=by rw [List.length_drop]; omega
 refine ⟨?_,fun us hu=>h.len us (List.mem_of_mem_drop hu),fun us hu=>h.one us (List.mem_of_mem_drop hu)⟩
 rcases h.lies with ⟨hv,h0⟩|⟨g,x,p,cap',cur,hv,hg,a1,a2,a3,hx,a4⟩
 ·injection hv with e1 e2 e3
  subst e1 e3
  exact .inl ⟨by rw [show m - n=0 by omega]; simp,by omega⟩
 ·injection hv with e1 e2 e3
  subst e1 e3
  have hd:(cur.toList.drop ((p+n)*sz)).take ((m - n)*sz)=(css.drop n).flatten:=by
   have hf:(css.take n).flatten.length=n*sz:=by rw [aA6 sz _ fun us hu=>h.len us (List.mem_of_mem_take hu),List.length_take]; congr 1; omega
   have hsplit:css.flatten=(css.take n).flatten++(css.drop n).flatten:=by rw [←List.flatten_append,List.take_append_drop]
   have e5:(css.drop n).flatten=css.flatten.drop (n*sz):=by rw [hsplit,List.drop_left' hf]
   rw [e5,←a4,List.drop_take,List.drop_drop,Nat.add_mul,hm,←Nat.sub_mul]
  by_cases hc:cap=n
  ·refine .inr ⟨g,x,p+n,0,cur,by rw [if_pos hc,hlen,hc]; simp,hg,by omega,by omega,by rw [a3]; congr 1; omega,fun h=>absurd h (by omega),by rw [hlen]; exact hd⟩
  ·refine .inr ⟨g,x+n*sz,p+n,cap - n,cur,by rw [if_neg hc,hlen]; simp [aF4],hg,by omega,by omega,by rw [a3]; congr 1; omega,fun h=>by rw [hx (by omega),Nat.add_mul],by rw [hlen]; exact hd⟩
section
variable {P:Program} {tab:Q6} {t:TypeId} {ti te:TI}
theorem bY6 (hT:U4 P t ti) (hk:ti.kind=2) (hE:U4 P ti.elem te) (ty:TypeId) {w:World} {hdv:Value} {sz e c:Nat} {A2:Option Addr} {css:List (List Value)} (h:M7 w hdv sz e css) :
  (Builtin.append_ #[t,t] ty #[hdv,.slice A2 0 c]).run P w=.ok hdv w:=by
 obtain ⟨i,z,hi,_⟩:=hE.info
 have ht:=hT.slice_ hk
 obtain ⟨A,cap,rfl,h1,h2⟩:=h.head
 have hf:(Builtin.firstCells i.size 0 (.slice A2 0 c)).run P w=.ok #[] w:=by
  cases A2 with
  |none=>simp [Builtin.firstCells]
  |some ad=>exact run_firstCells_some (P:=P) w i.size 0 ad 0 c [] (by simp) (by simp)
 rcases h.lies with ⟨hv,hn⟩|⟨g,x,p,cap',cur,hv,_⟩<;>injection hv with e1 e2 e3<;>subst e1
 ·subst e3
  have h0:css.length=0:=by omega
  simp [Builtin.append_,run_underlying ht,sizeOf,typeInfo,hi,Builtin.lenOf,hf,h0,storeCells]
 ·simp [Builtin.append_,run_underlying ht,sizeOf,typeInfo,hi,Builtin.lenOf,hf,h1,storeCells]
theorem bK4 (hT:U4 P t ti) (hk:ti.kind=2) (hE:U4 P ti.elem te) (hpos:0 < te.size) (ty:TypeId) {Φ:Nat→Prop} {w:World} {hdv x:Value} {css:List (List Value)} {ls2:List (List AV)}
  (h:M7 w hdv te.size ti.elem css) (hs:Src Φ w te.size x ls2) (hb:(css.length+ls2.length)*te.bytes≤140737488355328) (hl:css.length+ls2.length≤maxLen) :
  ∃v' w' css2,(Builtin.append_ #[t,t] ty #[hdv,x]).run P w=.ok v' w'∧css2.length=ls2.length∧M7 w' v' te.size ti.elem (css++css2)∧w.grownBy w' hdv.ownBlock∧(v'.ownBlock=hdv.ownBlock∨∀b,v'.ownBlock=some b→w.heap.size≤b) ∧
   (∀(i:Nat) (us:List Value) (cs:List AV),css2[i]?=some us→ls2[i]?=some cs→J4 Φ w us cs):=by
 obtain ⟨A,cap,css2,rfl,h1,h2,h3,h4,h5⟩:=hs
 obtain ⟨i,z,hi,hsz,hby,hz,hzo,hza⟩:=hE.info
 have hzs:z.cells.size=te.size:=by
  have:=(aH3 (fun _=>False) w _ _ hzo).1.length
  rw [←hE.zl,←this]
  simp
 rcases Nat.eq_zero_or_pos ls2.length with h0|hp
 ·have e2:ls2=[]:=List.eq_nil_of_length_eq_zero h0
  have e3:css2=[]:=List.eq_nil_of_length_eq_zero (by omega)
  subst e2 e3
  exact ⟨hdv,w,[],bY6 hT hk hE ty h,rfl,by simpa using h,World.grownBy.refl w _,.inl rfl,fun i us cs h=>by simp at h⟩
 ·obtain ⟨b,o,rfl,hc⟩:=h5 hp
  have hfl:=aA6 te.size css2 h2
  have hlen12:∀us∈css++css2,us.length=te.size:=fun us hu=>by
   rcases List.mem_append.1 hu with hu|hu
   ·exact h.len us hu
   ·exact h2 us hu
  have hone12:∀us∈css++css2,∀u∈us,u.oneCell'=true:=fun us hu=>by
   rcases List.mem_append.1 hu with hu|hu
   ·exact h.one us hu
   ·exact h3 us hu
  have hcell:∀(j:Nat) (u:Value),css2.flatten[j]?=some u→w.cell? ((⟨b,o,none⟩:Addr).add j)=some u:=by
   intro j u hj
   have hjl:j < css2.length*te.size:=by
    have:=(List.getElem?_eq_some_iff.1 hj).1
    rwa [hfl] at this
   have hd:j / te.size < css2.length:=Nat.div_lt_of_lt_mul (by rwa [Nat.mul_comm] at hjl)
   have hm:j % te.size < te.size:=Nat.mod_lt _ hpos
   have hf:=flat_get te.size css2 h2 (j / te.size) (j % te.size) css2[j / te.size] (List.getElem?_eq_getElem hd) hm
   have ej:j / te.size*te.size+j % te.size=j:=by rw [Nat.mul_comm]; exact Nat.div_add_mod j te.size
   rw [ej,hj] at hf
   have:=hc (j / te.size) _ (List.getElem?_eq_getElem hd) (j % te.size) u hf.symm
   rw [aF4,←this]
   simp only [Nat.add_assoc,ej]
  have hone:∀u∈css2.flatten,u.oneCell'=true:=by
   intro u hu
   obtain ⟨us,hus,hu⟩:=List.mem_flatten.1 hu
   exact h3 us hus u hu
  have hfl0:=aA6 te.size css h.len
  have new_:∀{w':World} {v':Value} {base:Nat},w'.ownsRow base ti.elem te.size v' (css.length+ls2.length) (css.flatten++css2.flatten)→M7 w' v' te.size ti.elem (css++css2)∧∀b,v'.ownBlock=some b→base≤b:=fun {w' v' base} ho=>by
   refine ⟨⟨?_,hlen12,hone12⟩,fun b hb=>?_⟩
   ·rcases ho.2 with ⟨e,_⟩|⟨g,cp,cur,e,_,b2,b3,b4,b5,b6⟩
    ·omega
    ·exact .inr ⟨g,0,0,cp,cur,by rw [e,List.length_append,h1],b2,by rw [List.length_append,h1]; exact b3,by omega,by simpa using b5,fun _=>by simp,by simpa [h1] using b6⟩
   ·rcases ho.2 with ⟨e,_⟩|⟨g,cp,cur,e,b1,_⟩
    ·rw [e] at hb; cases hb
    ·rw [e] at hb; cases hb; exact b1
  have hfin:∀j u,css.flatten[j]?=some u→∀(g x p:Nat) (cur:Array Value),w.heap[g]?=some (.cells cur ti.elem)→x=p*te.size→(cur.toList.drop (p*te.size)).take (css.length*te.size)=css.flatten→w.cell? ((⟨g,x,none⟩:Addr).add j)=some u:=fun j u hj g x p cur hg hx h4=>by
   have hlt:j < css.length*te.size:=by
    have:=(List.getElem?_eq_some_iff.1 hj).1
    rwa [hfl0] at this
   rw [←h4,List.getElem?_take_of_lt hlt,List.getElem?_drop] at hj
   rw [aF4,hx]
   unfold World.cell?
   rw [hg]
   simpa using hj
  rcases h.lies with ⟨rfl,hn⟩|⟨g,x,p,cp,cur,rfl,hg,a1,a2,a3,hx,a4⟩
  ·have e0:css=[]:=List.eq_nil_of_length_eq_zero hn
   subst e0
   obtain ⟨v',w',hrun,hown,hgr,_,hat⟩:=run_append_own_at (P:=P) w w.heap.size t ty ti.elem i z te.size te.bytes (hT.slice_ hk) hi hz hsz hby hzs hpos (.slice none 0 0) 0 [] (World.ownsRow_nil w _ _ _) ⟨b,o,none⟩ ls2.length cap css2.flatten (by rw [hfl,h1]) hcell hone (by simpa using hl) (by simpa using hb) (Nat.le_refl _)
   have:=new_ (by simpa using hown)
   exact ⟨v',w',css2,hrun,h1,this.1,hgr,.inr this.2,h4⟩
  ·rcases Nat.lt_or_ge cp (css.length+ls2.length) with hgrow|hroom
   ·obtain ⟨v',w',hrun,hown,hgr⟩:=run_append_arg_grows (P:=P) w t ty ti.elem i z te.size te.bytes (hT.slice_ hk) hi hz hsz hby hzs hpos ⟨g,x,none⟩ css.length cp css.flatten hfl0 (fun j u hj=>by
      have:0 < css.length:=by
       rcases Nat.eq_zero_or_pos css.length with e|e
       ·have:css=[]:=List.eq_nil_of_length_eq_zero e
        subst this
        simp at hj
       ·exact e
      exact hfin j u hj g x p cur hg (hx (by omega)) a4) ⟨b,o,none⟩ ls2.length cap css2.flatten (by rw [hfl,h1]) hcell hgrow hl hb
    have:=new_ hown
    exact ⟨v',w',css2,hrun,h1,this.1,⟨hgr.os,hgr.tape,hgr.output,hgr.size,fun k hk _=>hgr.block k hk (by simp)⟩,.inr this.2,h4⟩
   ·have hxp:=hx (by omega)
    have hst:css2.flatten.length=ls2.length*te.size:=by rw [hfl,h1]
    have hcs:cur.toList.length=(p+cp)*te.size:=by rw [←a3]; simp
    have hroom2:p*te.size+css.length*te.size+ls2.length*te.size≤cur.toList.length:=by
     rw [hcs,←Nat.add_mul,←Nat.add_mul]
     exact Nat.mul_le_mul_right _ (by omega)
    obtain ⟨rs,hrs⟩:=aN3 (p*te.size+css.length*te.size+0) css2.flatten cur.toList (by rw [hst]; omega)
    have hg':w.heap[g]?=some (.cells cur.toList.toArray ti.elem):=by simpa using hg
    obtain ⟨w',q1,q2,q3,q4,q5,q6,q7⟩:=aW2 (P:=P) g (p*te.size+css.length*te.size) ti.elem css2.flatten 0 cur.toList rs w hg' hone hrs
    have hfc:=run_firstCells_some (P:=P) w te.size ls2.length ⟨b,o,none⟩ ls2.length cap css2.flatten hst hcell
    refine ⟨.slice (some ⟨g,x,none⟩) (css.length+ls2.length) cp,w',css2,?_,h1,⟨.inr ⟨g,x,p,cp,rs.toArray,by rw [List.length_append,h1],q2,by rw [List.length_append,h1]; exact hroom,a2,by rw [List.size_toArray,(aB6 hrs).1,hcs],hx,?_⟩,hlen12,hone12⟩,⟨q5,q6,q7,by omega,fun k hk hn=>q3 k fun e=>hn (by rw [e]; rfl)⟩,.inl rfl,h4⟩
    ·simp [Builtin.append_,run_underlying (hT.slice_ hk),sizeOf,typeInfo,hi,Builtin.lenOf,hroom,hsz,hfc,aF4,hxp,q1]
    ·rw [List.length_append,h1,List.flatten_append]
     apply List.ext_getElem?
     intro j
     simp only [Nat.add_mul]
     rw [List.getElem?_take]
     split
     ·rename_i hj
      rw [List.getElem?_drop]
      show rs[p*te.size+j]?=_
      rw [U7 hrs]
      by_cases hjl:j < css.length*te.size
      ·rw [if_neg (by omega),List.getElem?_append_left (by omega),←a4,List.getElem?_take_of_lt hjl,List.getElem?_drop]
      ·rw [if_pos (by omega),List.getElem?_append_right (by omega),hfl0]
       congr 1
       omega
     ·rw [List.getElem?_eq_none]
      rw [List.length_append,hfl0,hst]
      omega
end
theorem Post.append {c:Ctx} {w w':World} {v' hdv:Value} {g:Os} {d sz e:Nat} {css:List (List Value)} {ls:List (List AV)} (hok:P9 c w g) (hgb:∀b,hdv.ownBlock=some b↔∃id o,lk g id=some o∧foot c id o b) (hd:lk g d=none)
  (hg:w.grownBy w' hdv.ownBlock) (hat:v'.ownBlock=hdv.ownBlock∨∀b,v'.ownBlock=some b→w.heap.size≤b) (hR:M7 w' v' sz e css) (hl:css.length=ls.length)
  (hr:∀(i:Nat) (us:List Value) (cs:List AV),css[i]?=some us→ls[i]?=some cs→J4 c.Φ w us cs) :
  Post c w (c.setHd d v') w' g ((d,.row sz ls e)::K5 g) [d]:=by
 have hm:(c.setHd d v').hd d=v':=by simp [Ctx.setHd]
 have hs:∀id,(lk (K5 g) id).isSome=(lk g id).isSome:=aX4 g
 have touch:∀b,hdv.ownBlock=some b→Touch c g ((d,.row sz ls e)::K5 g) b:=fun b hb=>by
  obtain ⟨id,o,h1,h2⟩:=(hgb b).1 hb
  refine ⟨id,o,h1,?_,h2⟩
  have hne:d≠id:=fun e=>by rw [e,h1] at hd; cases hd
  rw [G9 _ _ hne,hs,h1]
  rfl
 have hfr:∀b,c.Φ b→w'.heap[b]?=w.heap[b]?:=fun b hb=>hg.block b (hok.phi b hb) fun e=>by
  obtain ⟨id,o,h1,h2⟩:=(hgb b).1 e.symm
  exact (hok.lt id o b h1 h2).2 hb
 have hfoot:∀b,foot (c.setHd d v') d (.row sz ls e) b→w.heap.size≤b∨hdv.ownBlock=some b:=fun b hf=>by
  simp only [foot,hm] at hf
  rcases hat with h|h
  ·exact .inr (h▸hf)
  ·exact .inl (h b hf)
 have hlt:∀b,foot (c.setHd d v') d (.row sz ls e) b→b < w'.heap.size∧¬c.Φ b:=fun b hf=>by
  refine ⟨?_,fun hb=>?_⟩
  ·simp only [foot,hm] at hf
   rcases hR.lies with ⟨e1,_⟩|⟨g',x',p',cp',cur',e1,hg',_⟩
   ·rw [e1] at hf; cases hf
   ·rw [e1] at hf
    injection hf with hf
    subst hf
    exact (Array.getElem?_eq_some_iff.1 hg').1
  ·rcases hfoot b hf with h|h
   ·have:=hok.phi b hb; omega
   ·obtain ⟨id,o,h1,h2⟩:=(hgb b).1 h
    exact (hok.lt id o b h1 h2).2 hb
 have way:∀id o,lk ((d,Obj.row sz ls e)::K5 g) id=some o→(id=d∧o=.row sz ls e)∨(id≠d∧o=.gone):=fun id o hl=>by
  rw [y7] at hl
  split at hl
  ·rename_i e; cases hl; exact .inl ⟨e.symm,rfl⟩
  ·rename_i e; exact .inr ⟨fun h=>e h.symm,aZ3 hl⟩
 refine ⟨hg.os,hg.tape,hg.output,hg.size,fun b hb=>hb,fun b hb=>.inl hb,fun b hb hn=>hg.block b hb fun e=>hn (touch b e.symm),fun id hid=>⟨rfl,by have:id≠d:=(by simpa using hid); simp [Ctx.setHd,this]⟩,
  ⟨fun id o hl=>?_,fun id o b hl hf=>?_,fun id id' o o' b hdis hl hl' hf hf'=>?_,fun b hb=>Nat.lt_of_lt_of_le (hok.phi b hb) hg.size⟩,fun id o b hl hf=>?_⟩
 ·rcases way id o hl with ⟨rfl,rfl⟩|⟨_,rfl⟩
  ·exact ⟨css,by rw [hm]; exact hR,by assumption,fun i us cs hu hc=>(hr i us cs hu hc).mono hfr fun _ h=>h⟩
  ·trivial
 ·rcases way id o hl with ⟨rfl,rfl⟩|⟨_,rfl⟩
  ·exact hlt b hf
  ·exact hf.elim
 ·rcases way id o hl with ⟨rfl,rfl⟩|⟨_,rfl⟩
  ·rcases way id' o' hl' with ⟨rfl,rfl⟩|⟨_,rfl⟩
   ·exact hdis rfl
   ·exact hf'.elim
  ·exact hf.elim
 ·rcases way id o hl with ⟨rfl,rfl⟩|⟨_,rfl⟩
  ·exact (hfoot b hf).imp (fun h=>h) (touch b)
  ·exact hf.elim
end Go.Proofs.YtibjcppjfkamhaaGreatDoor
