import Derived.Test.YtahmeibkdhbngaaPl22
import Derived.Test.YtahmeibkdhbngaaPl24
/- The reference's calls within calls do what the machine does. No program in sight. -/
namespace Go.Proofs.Ytahmeibkdhbngaa
open Go.RowKit
set_option linter.unusedVariables false
def c84 (f g:l6):Prop:=g.class_=f.class_∧g.method=f.method∧g.code=f.code∧g.self_=f.self_∧g.args=f.args
section
variable {w:Wd} {fuel:Int} {N:Nat}
theorem bL2 {l:List V} {v:V} (h:l.getLast?=some v) (hl:l.length≤1000):P8 N l=some (v,l.dropLast):=by
 obtain ⟨e1,e2,e3,e4⟩:=bN1 h hl
 unfold P8
 simp only [e1,e4,Option.bind_some,cond_true]
 rw [e2,Int.toNat_natCast,List.dropLast_eq_take]
theorem dB9 (x:TR) (hx:x.w.heap.length≤1000) (hs:∀o∈x.w.heap,o.slots.length≤1000) {o v:V} {n:Int} {H':List Ob} (h:bU0 x.w.heap o n v=some H') :
  aO1 N x o n v=some ⟨⟨x.w.classes,H',x.w.epoch⟩,x.fuel,x.sends,x.turns,x.deep,x.err,x.sites,x.of⟩:=by
 unfold aO1
 rw [H7 (by simp; omega)]
 simp only [cond_true,List.nil_append]
 unfold bU0 at h
 by_cases h4:o.k=4
 ·rw [if_pos h4] at h
  rw [decide_eq_true h4]
  simp only [cond_true]
  by_cases h0:0≤o.n
  ·rw [if_pos h0] at h
   cases hb:x.w.heap[o.n.toNat]? with
   |none =>
    rw [hb] at h
    cases h
    have hlt:¬o.n < (x.w.heap.length:Int):=by have:=List.getElem?_eq_none_iff.1 hb; omega
    rw [decide_eq_false hlt]
    rfl
   |some b =>
    rw [hb] at h
    have hlt:o.n < (x.w.heap.length:Int):=by have:=(List.getElem?_eq_some_iff.1 hb).1; omega
    have hn:q9 x.w.heap o.n=some b:=by rw [aO0 h0,hb]
    rw [decide_eq_true hlt]
    simp only [cond_true,hn,Option.bind_some]
    simp only at h
    by_cases hk:n < (b.slots.length:Int)
    ·rw [if_pos hk] at h
     rw [decide_eq_true hk]
     have hbs:=hs b (List.mem_of_getElem? hb)
     simp only [cond_true]
     rw [H7 (by simp; omega)]
     by_cases hz:0≤n
     ·rw [if_pos hz] at h
      cases h
      obtain ⟨y,_,hy⟩:=Z4 hz hk
      simp only [cond_true,hy,Option.bind_some]
     ·rw [if_neg hz] at h; cases h
    ·rw [if_neg hk] at h
     cases h
     rw [decide_eq_false hk]
     rfl
  ·rw [if_neg h0] at h; cases h
 ·rw [if_neg h4] at h
  cases h
  rw [decide_eq_false h4]
  rfl
theorem cA7 {c:Cf} {gR:Nat→TR→Int→Int→V→List V→Option (V×TR)} {Q:Int→Int→Fs×Bool} (hN:1048578≤N) (W:Wk w Q c) (he:c.err=0) {f:l6} {F:List l6} (hfs:c.fs=f::F) {i:Ins} (hi:q9 f.code f.at_=some i)
  (h14:i.op≠14) (h17:i.op≠17) (hop:i.op≤17) {L:St→Int→ByteArray→Int×Int} {c1:Cf} (h:aJ9 w fuel L Q c=some c1) {k:Int} {m:Me} (hc:f.code=m.code) (deep:Int) (S:List St) (O:List Int) (n:Nat) :
  ∃f1,c1.fs=f1::F∧c84 f f1∧c1.ev=c.ev∧c1.sends=c.sends∧G9 N gR k m f.self_ f.args (n+1) w.classes c.heap w.epoch fuel c.sends c.turns deep c.err S O f.temps f.stack f.at_ =
   G9 N gR k m f.self_ f.args n w.classes c1.heap w.epoch fuel c1.sends c1.turns deep c1.err S O f1.temps f1.stack f1.at_:=by
 have hl:=(W.fr f (by rw [hfs]; simp)).stack
 have hcl:=(W.fr f (by rw [hfs]; simp)).code
 have hp:=bL5 hi
 have wat:wr (f.at_+1)=f.at_+1:=H5 (by unfold F5; omega)
 have hat:decide (f.at_+1≤f.at_)=false:=decide_eq_false (by omega)
 have wt:wr (c.turns+1)=c.turns+1:=H5 (by have:=W.turns; unfold F5; omega)
 unfold aJ9 at h
 rw [hfs] at h
 simp only [hi,Option.bind_some] at h
 rw [if_neg h14] at h
 rw [G9,he]
 rw [hc] at hi
 have pu:∀v:V,Nat.ble ((f.stack.length+[v].length)*16) 140737488355328=true:=fun v=>H7 (by simp; omega)
 simp only [decide_true,cond_true,hi,Option.bind_some,wat,pu]
 by_cases o15:i.op=15
 ·rw [if_pos o15] at h
  cases h
  have n1:¬i.op=1:=by omega
  have n2:¬i.op=2:=by omega
  have n3:¬i.op=3:=by omega
  have n4:¬i.op=4:=by omega
  have n5:¬i.op=5:=by omega
  have n6:¬i.op=6:=by omega
  have n7:¬i.op=7:=by omega
  have n8:¬i.op=8:=by omega
  have n9:¬i.op=9:=by omega
  have n10:¬i.op=10:=by omega
  have n11:¬i.op=11:=by omega
  have n12:¬i.op=12:=by omega
  have n13:¬i.op=13:=by omega
  simp only [decide_eq_false n1,decide_eq_false n2,decide_eq_false n3,decide_eq_false n4,decide_eq_false n5,decide_eq_false n6,decide_eq_false n7,decide_eq_false n8,decide_eq_false n9,decide_eq_false n10,decide_eq_false n11,decide_eq_false n12,decide_eq_false n13,decide_eq_false h14,decide_eq_true o15,cond_true,cond_false,Option.bind_some]
  unfold aU3
  by_cases hj:i.a < f.at_+1
  ·rw [if_pos hj,decide_eq_true (show i.a≤f.at_ by omega)]
   refine ⟨{ f with at_:=i.a },rfl,⟨rfl,rfl,rfl,rfl,rfl⟩,rfl,rfl,?_⟩
   by_cases h3:300 < c.turns+1
   ·simp only [wt,decide_eq_true h3,cond_true,Option.bind_some,if_pos h3]
   ·simp only [wt,decide_eq_false h3,cond_true,cond_false,Option.bind_some,if_neg h3,he]
  ·rw [if_neg hj,decide_eq_false (show ¬i.a≤f.at_ by omega)]
   refine ⟨{ f with at_:=i.a },rfl,⟨rfl,rfl,rfl,rfl,rfl⟩,rfl,rfl,?_⟩
   simp only [cond_false,Option.bind_some,he]
 rw [if_neg o15] at h
 by_cases o16:i.op=16
 ·rw [if_pos o16] at h
  rw [Option.map_eq_some_iff] at h
  obtain ⟨q,hq,rfl⟩:=h
  obtain ⟨hq1,hq2⟩:=aB9 hq
  obtain ⟨v,q2⟩:=q
  simp only at hq1 hq2
  subst hq2
  have n1:¬i.op=1:=by omega
  have n2:¬i.op=2:=by omega
  have n3:¬i.op=3:=by omega
  have n4:¬i.op=4:=by omega
  have n5:¬i.op=5:=by omega
  have n6:¬i.op=6:=by omega
  have n7:¬i.op=7:=by omega
  have n8:¬i.op=8:=by omega
  have n9:¬i.op=9:=by omega
  have n10:¬i.op=10:=by omega
  have n11:¬i.op=11:=by omega
  have n12:¬i.op=12:=by omega
  have n13:¬i.op=13:=by omega
  simp only [decide_eq_false n1,decide_eq_false n2,decide_eq_false n3,decide_eq_false n4,decide_eq_false n5,decide_eq_false n6,decide_eq_false n7,decide_eq_false n8,decide_eq_false n9,decide_eq_false n10,decide_eq_false n11,decide_eq_false n12,decide_eq_false n13,decide_eq_false h14,decide_eq_false o15,decide_eq_true o16,cond_true,cond_false,Option.bind_some,bL2 hq1 hl]
  unfold b54
  by_cases k1:v.k=1
  ·rw [if_pos k1]
   unfold aU3
   simp only [decide_eq_true k1,cond_true,Option.bind_some]
   by_cases hj:i.a < f.at_+1
   ·rw [if_pos hj,decide_eq_true (show i.a≤f.at_ by omega)]
    refine ⟨{ f with at_:=i.a,stack:=f.stack.dropLast },rfl,⟨rfl,rfl,rfl,rfl,rfl⟩,rfl,rfl,?_⟩
    by_cases h3:300 < c.turns+1
    ·simp only [wt,decide_eq_true h3,cond_true,Option.bind_some,if_pos h3]
    ·simp only [wt,decide_eq_false h3,cond_true,cond_false,Option.bind_some,if_neg h3,he]
   ·rw [if_neg hj,decide_eq_false (show ¬i.a≤f.at_ by omega)]
    refine ⟨{ f with at_:=i.a,stack:=f.stack.dropLast },rfl,⟨rfl,rfl,rfl,rfl,rfl⟩,rfl,rfl,?_⟩
    simp only [cond_false,Option.bind_some,he]
  ·rw [if_neg k1]
   by_cases k2:v.k=2
   ·rw [if_pos k2]
    refine ⟨{ f with at_:=f.at_+1,stack:=f.stack.dropLast },rfl,⟨rfl,rfl,rfl,rfl,rfl⟩,rfl,rfl,?_⟩
    simp only [decide_eq_false k1,decide_eq_true k2,Bool.not_true,hat,cond_false,Option.bind_some,he]
   ·rw [if_neg k2]
    refine ⟨{ f with at_:=f.at_+1,stack:=f.stack.dropLast },rfl,⟨rfl,rfl,rfl,rfl,rfl⟩,rfl,rfl,?_⟩
    simp only [decide_eq_false k1,decide_eq_false k2,Bool.not_false,hat,cond_true,cond_false,Option.bind_some,M6]
 rw [if_neg o16,if_neg h17,if_neg (show ¬i.op=18 by omega),if_neg (show ¬i.op=21 by omega)] at h
 unfold bM5 at h
 by_cases o1:i.op=1
 ·rw [if_pos o1] at h
  cases h
  refine ⟨M3 { f with at_:=f.at_+1 } f.self_,rfl,⟨rfl,rfl,rfl,rfl,rfl⟩,rfl,rfl,?_⟩
  simp only [decide_eq_true o1,cond_true,cond_false,hat,Option.bind_some,he,M3]
 rw [if_neg o1] at h
 by_cases o2:i.op=2
 ·rw [if_pos o2] at h
  rw [Option.map_eq_some_iff] at h
  obtain ⟨v,hv,rfl⟩:=h
  refine ⟨M3 { f with at_:=f.at_+1 } v,rfl,⟨rfl,rfl,rfl,rfl,rfl⟩,rfl,rfl,?_⟩
  simp only [decide_eq_false o1,decide_eq_true o2,hv,cond_true,cond_false,hat,Option.bind_some,he,M3]
 rw [if_neg o2] at h
 by_cases o3:i.op=3
 ·rw [if_pos o3] at h
  rw [Option.map_eq_some_iff] at h
  obtain ⟨v,hv,rfl⟩:=h
  refine ⟨M3 { f with at_:=f.at_+1 } v,rfl,⟨rfl,rfl,rfl,rfl,rfl⟩,rfl,rfl,?_⟩
  simp only [decide_eq_false o1,decide_eq_false o2,decide_eq_true o3,hv,cond_true,cond_false,hat,Option.bind_some,he,M3]
 rw [if_neg o3] at h
 by_cases o4:i.op=4
 ·rw [if_pos o4] at h
  cases h
  refine ⟨M3 { f with at_:=f.at_+1 } (bB8 c.heap f.self_ i.a),rfl,⟨rfl,rfl,rfl,rfl,rfl⟩,rfl,rfl,?_⟩
  simp only [decide_eq_false o1,decide_eq_false o2,decide_eq_false o3,decide_eq_true o4,b98,cond_true,cond_false,hat,Option.bind_some,he,M3]
 rw [if_neg o4] at h
 by_cases o5:i.op=5
 ·rw [if_pos o5] at h
  cases h
  refine ⟨M3 { f with at_:=f.at_+1 } ⟨3,i.a⟩,rfl,⟨rfl,rfl,rfl,rfl,rfl⟩,rfl,rfl,?_⟩
  simp only [decide_eq_false o1,decide_eq_false o2,decide_eq_false o3,decide_eq_false o4,decide_eq_true o5,cond_true,cond_false,hat,Option.bind_some,he,M3]
 rw [if_neg o5] at h
 by_cases o6:i.op=6
 ·rw [if_pos o6] at h
  cases h
  refine ⟨M3 { f with at_:=f.at_+1 } ⟨0,0⟩,rfl,⟨rfl,rfl,rfl,rfl,rfl⟩,rfl,rfl,?_⟩
  simp only [decide_eq_false o1,decide_eq_false o2,decide_eq_false o3,decide_eq_false o4,decide_eq_false o5,decide_eq_true o6,cond_true,cond_false,hat,Option.bind_some,he,M3]
 rw [if_neg o6] at h
 by_cases o7:i.op=7
 ·rw [if_pos o7] at h
  cases h
  refine ⟨M3 { f with at_:=f.at_+1 } ⟨1,0⟩,rfl,⟨rfl,rfl,rfl,rfl,rfl⟩,rfl,rfl,?_⟩
  simp only [decide_eq_false o1,decide_eq_false o2,decide_eq_false o3,decide_eq_false o4,decide_eq_false o5,decide_eq_false o6,decide_eq_true o7,a05,Bool.false_eq_true,if_false,cond_true,cond_false,hat,Option.bind_some,he,M3]
 rw [if_neg o7] at h
 by_cases o8:i.op=8
 ·rw [if_pos o8] at h
  cases h
  refine ⟨M3 { f with at_:=f.at_+1 } ⟨2,0⟩,rfl,⟨rfl,rfl,rfl,rfl,rfl⟩,rfl,rfl,?_⟩
  simp only [decide_eq_false o1,decide_eq_false o2,decide_eq_false o3,decide_eq_false o4,decide_eq_false o5,decide_eq_false o6,decide_eq_false o7,decide_eq_true o8,a05,if_true,cond_true,cond_false,hat,Option.bind_some,he,M3]
 rw [if_neg o8] at h
 by_cases o9:i.op=9
 ·rw [if_pos o9] at h
  rw [Option.map_eq_some_iff] at h
  obtain ⟨⟨v,q2⟩,hq,rfl⟩:=h
  obtain ⟨hq1,hq2⟩:=aB9 hq
  simp only at hq1 hq2
  subst hq2
  refine ⟨_,rfl,⟨rfl,rfl,rfl,rfl,rfl⟩,rfl,rfl,?_⟩
  simp only [decide_eq_false o1,decide_eq_false o2,decide_eq_false o3,decide_eq_false o4,decide_eq_false o5,decide_eq_false o6,decide_eq_false o7,decide_eq_false o8,decide_eq_true o9,bL2 hq1 hl,cond_true,cond_false,hat,Option.bind_some,he]
 rw [if_neg o9] at h
 by_cases o10:i.op=10
 ·rw [if_pos o10] at h
  rw [Option.map_eq_some_iff] at h
  obtain ⟨v,hv,rfl⟩:=h
  refine ⟨_,rfl,⟨rfl,rfl,rfl,rfl,rfl⟩,rfl,rfl,?_⟩
  have hd:f.stack.dropLast++[v,v]=f.stack++[v]:=by
   obtain ⟨ys,hys⟩:=List.getLast?_eq_some_iff.1 hv
   simp only at hys
   rw [hys]
   simp
  have hb:Nat.ble ((f.stack.dropLast.length+[v,v].length)*16) 140737488355328=true:=H7 (by simp; omega)
  simp only [decide_eq_false o1,decide_eq_false o2,decide_eq_false o3,decide_eq_false o4,decide_eq_false o5,decide_eq_false o6,decide_eq_false o7,decide_eq_false o8,decide_eq_false o9,decide_eq_true o10,bL2 hv hl,hd,hb,cond_true,cond_false,hat,Option.bind_some,he,M3]
 rw [if_neg o10] at h
 by_cases o11:i.op=11
 ·rw [if_pos o11] at h
  obtain ⟨⟨v,q2⟩,hq,h⟩:=j4 h
  obtain ⟨hq1,hq2⟩:=aB9 hq
  simp only at hq1 hq2
  subst hq2
  by_cases ha:0≤i.a∧i.a < f.temps.length
  ·rw [if_pos ha] at h
   cases h
   obtain ⟨y,_,hy⟩:=Z4 ha.1 ha.2
   refine ⟨_,rfl,⟨rfl,rfl,rfl,rfl,rfl⟩,rfl,rfl,?_⟩
   simp only [decide_eq_false o1,decide_eq_false o2,decide_eq_false o3,decide_eq_false o4,decide_eq_false o5,decide_eq_false o6,decide_eq_false o7,decide_eq_false o8,decide_eq_false o9,decide_eq_false o10,decide_eq_true o11,bL2 hq1 hl,hy,cond_true,cond_false,hat,Option.bind_some,he]
  ·rw [if_neg ha] at h; cases h
 rw [if_neg o11] at h
 by_cases o12:i.op=12
 ·rw [if_pos o12] at h
  obtain ⟨⟨v,q2⟩,hq,h⟩:=j4 h
  obtain ⟨hq1,hq2⟩:=aB9 hq
  simp only at hq1 hq2
  subst hq2
  rw [Option.map_eq_some_iff] at h
  obtain ⟨H',hH,rfl⟩:=h
  refine ⟨_,rfl,⟨rfl,rfl,rfl,rfl,rfl⟩,rfl,rfl,?_⟩
  have hs:=dB9 (N:=N) (⟨⟨w.classes,c.heap,w.epoch⟩,fuel,c.sends,c.turns,deep,0,S,O⟩:TR) (by exact W.heap.1) (by exact W.heap.2) (o:=f.self_) (v:=v) (n:=i.a) hH
  simp only [decide_eq_false o1,decide_eq_false o2,decide_eq_false o3,decide_eq_false o4,decide_eq_false o5,decide_eq_false o6,decide_eq_false o7,decide_eq_false o8,decide_eq_false o9,decide_eq_false o10,decide_eq_false o11,decide_eq_true o12,bL2 hq1 hl,hs,cond_true,cond_false,hat,Option.bind_some,he]
 rw [if_neg o12,if_neg (show ¬i.op=19 by omega),if_neg (show ¬i.op=20 by omega)] at h
 by_cases o13:i.op=13
 ·rw [if_pos o13] at h
  by_cases h60:60≤c.heap.length
  ·rw [if_pos h60] at h
   cases h
   have h60':(60:Int)≤(c.heap.length:Int):=by omega
   refine ⟨_,rfl,⟨rfl,rfl,rfl,rfl,rfl⟩,rfl,rfl,?_⟩
   simp only [decide_eq_false o1,decide_eq_false o2,decide_eq_false o3,decide_eq_false o4,decide_eq_false o5,decide_eq_false o6,decide_eq_false o7,decide_eq_false o8,decide_eq_false o9,decide_eq_false o10,decide_eq_false o11,decide_eq_false o12,decide_eq_true o13,decide_eq_true h60',cond_true,cond_false,hat,Option.bind_some,M6]
  ·rw [if_neg h60] at h
   cases h
   have h60':¬(60:Int)≤(c.heap.length:Int):=by omega
   have hsl:=W.slots i.a
   have hslot:W9 N (⟨w.classes,c.heap,w.epoch⟩:Wd) i.a=some (G8 w i.a):=(aK0 N ⟨w.classes,c.heap,w.epoch⟩ i.a hN W.cls).trans (by rw [aO8 w c.heap w.epoch i.a])
   have e1:(decide (0≤G8 w i.a) && decide (G8 w i.a≤140737488355328) && decide (G8 w i.a*16≤140737488355328))=true:=by
    simp only [Bool.and_eq_true,decide_eq_true_eq]; omega
   have b1:Nat.ble ((([]:List Ob).length+c.heap.length)*32) 140737488355328=true:=H7 (by simp; omega)
   have b2:∀o:Ob,Nat.ble ((c.heap.length+[o].length)*32) 140737488355328=true:=fun o=>H7 (by simp; omega)
   refine ⟨_,rfl,⟨rfl,rfl,rfl,rfl,rfl⟩,rfl,rfl,?_⟩
   simp only [decide_eq_false o1,decide_eq_false o2,decide_eq_false o3,decide_eq_false o4,decide_eq_false o5,decide_eq_false o6,decide_eq_false o7,decide_eq_false o8,decide_eq_false o9,decide_eq_false o10,decide_eq_false o11,decide_eq_false o12,decide_eq_true o13,decide_eq_false h60',hslot,e1,b1,b2,List.nil_append,cond_true,cond_false,hat,Option.bind_some,he,M3]
 rw [if_neg o13] at h
 cases h
 refine ⟨_,rfl,⟨rfl,rfl,rfl,rfl,rfl⟩,rfl,rfl,?_⟩
 simp only [decide_eq_false o1,decide_eq_false o2,decide_eq_false o3,decide_eq_false o4,decide_eq_false o5,decide_eq_false o6,decide_eq_false o7,decide_eq_false o8,decide_eq_false o9,decide_eq_false o10,decide_eq_false o11,decide_eq_false o12,decide_eq_false o13,decide_eq_false h14,decide_eq_false o15,decide_eq_false o16,decide_eq_false h17,cond_false,hat,Option.bind_some,he]
theorem cW5 {Q:Int→Int→Fs×Bool} {c c':Cf} {k j:Int} {self:V} {args:List V} (h:aM0 w fuel Q c k j self args=some c'):c'.ev=c.ev∧(c'.err≠0∨c'.sends=c.sends+1):=by
 obtain ⟨x,m,_,_,h|h|⟨_,_,_,a,_,h|h⟩|h|h⟩:=bC7 h
 ·rw [h.2]; exact ⟨rfl,.inl (by simp [M6])⟩
 ·rw [h.2.2]; exact ⟨rfl,.inl (by simp [M6])⟩
 ·rw [h.2]; exact ⟨rfl,.inl h.1⟩
 ·rw [h.2]; exact ⟨(S9 _ _).2.2.2,.inr (S9 _ _).1⟩
 ·rw [h.2.2.2.2]; exact ⟨rfl,.inl (by simp [M6])⟩
 ·rw [h.2.2.2.2]; exact ⟨rfl,.inr rfl⟩
theorem dE0 {Q:Int→Int→Fs×Bool} (W:WOk w) (h1:0 < w.classes.length) (hQ:∀k j,(Q k j).2=false) {c c':Cf} (p:Path w fuel (fun _ k s=>F3 w s k) Q c c') (hI:c.err=0→aM6 w fuel c):mu fuel c'≤mu fuel c:=by
 induction p with
 |refl=>exact Nat.le_refl _
 |@step c c1 c2 he hne hst _ ih =>
  cases hfs:c.fs with
  |nil=>exact absurd hfs hne
  |cons f F =>
   obtain ⟨c1',k1,k2⟩:=aZ6 (Q:=Q) W h1 hQ (hI he) he hfs
   rw [hst] at k1
   cases k1
   have:=ih k2.inv
   have:=k2.mu
   omega
theorem dC9 {Q:Int→Int→Fs×Bool} (hQ:∀k j,(Q k j).2=true→0≤(Q k j).1.temps∧(Q k j).1.temps≤1000) (W:WOk w) {c c1:Cf} {L:St→Int→ByteArray→Int×Int} (I:aM6 w fuel c) (he:c.err=0) {f:l6} {F:List l6} (hfs:c.fs=f::F)
  (h:aJ9 w fuel L Q c=some c1) (hev:(c.ev.length:Int)≤c.sends):c1.err=0→(c1.ev.length:Int)≤c1.sends:=by
 intro h0
 have hF:=I.fs
 rw [hfs] at hF
 obtain ⟨⟨m,hh,R⟩,hF⟩:=hF
 obtain ⟨i,hi1,hi2,him,hlt,_⟩:=R.len
 have hops:=bZ0 (R.me.num i him)
 have hop:i.op≤17:=by
  rcases hops with ⟨h,_⟩|⟨h,_⟩|⟨h,_⟩|⟨h,_⟩|⟨h,_⟩|⟨h,_⟩|⟨h,_⟩|⟨h,_⟩<;>omega
 by_cases h14:i.op=14
 ·unfold aJ9 at h
  rw [hfs] at h
  simp only [hi2,Option.bind_some,if_pos h14] at h
  obtain ⟨x,cl,m',_,_,_,_,_,h|h⟩:=a11 h
  ·rw [h.2] at h0; cases h0
  ·obtain ⟨e1,e2⟩:=cW5 h.2
   rw [e1]
   rcases e2 with e2|e2
   ·exact absurd h0 e2
   ·rw [e2]; simp; omega
 by_cases h17:i.op=17
 ·unfold aJ9 at h
  rw [hfs] at h
  simp only [hi2,Option.bind_some,if_neg h14,if_neg (show ¬i.op=15 by omega),if_neg (show ¬i.op=16 by omega),if_pos h17] at h
  rw [Option.map_eq_some_iff] at h
  obtain ⟨q,_,rfl⟩:=h
  rw [(S9 _ _).1,(S9 _ _).2.2.2]
  exact hev
 ·obtain ⟨f1,_,_,e1,e2,_⟩:=cA7 (N:=1048578) (gR:=fun _ _ _ _ _ _=>none) (Nat.le_refl _) (I.wk W hQ) he hfs hi2 h14 h17 hop h (k:=0) R.code 0 [] [] 0
  rw [e1,e2]
  exact hev
theorem dA5 {Q:Int→Int→Fs×Bool} (W:WOk w) (h1:0 < w.classes.length) (hQ:∀k j,(Q k j).2=false) {c c':Cf} (p:Path w fuel (fun _ k s=>F3 w s k) Q c c') (hI:c.err=0→aM6 w fuel c) (hev:c.err=0→(c.ev.length:Int)≤c.sends):c'.err=0→(c'.ev.length:Int)≤c'.sends:=by
 induction p with
 |refl=>exact hev
 |@step c c1 c2 he hne hst _ ih =>
  cases hfs:c.fs with
  |nil=>exact absurd hfs hne
  |cons f F =>
   obtain ⟨c1',k1,k2⟩:=aZ6 (Q:=Q) W h1 hQ (hI he) he hfs
   rw [hst] at k1
   cases k1
   exact ih k2.inv (dC9 (fun k j h=>by rw [hQ] at h; cases h) W (hI he) he hfs hst (hev he))
end
def toR (w:Wd) (fuel:Int) (c:Cf) (d:Nat):TR:=⟨⟨w.classes,c.heap,w.epoch⟩,fuel,c.sends,c.turns,(d:Int),c.err,c.ev.map (·.1),c.ev.map (·.2)⟩
structure dH7 (r:TR) (c:Cf):Prop where
 err:r.err=c.err
 sends:r.sends=c.sends
 sites:r.sites=c.ev.map (·.1)
 of:r.of=c.ev.map (·.2)
def cR7 (w:Wd) (fuel:Int) (c:Cf) (F:List l6) (d:Nat) (v:V) (r:TR):Prop :=
 ∃c2,Path w fuel (fun _ k s=>F3 w s k) noQ c c2∧((c2.err≠0∧dH7 r c2)∨(c2.err=0∧∃c3,c2=aE4 c3 v∧c3.fs=F∧c3.err=0∧r=toR w fuel c3 d))
def c95 (N:Nat) (w:Wd) (fuel:Int) (M:Nat):Prop:=∀(c:Cf) (f:l6) (F:List l6) (m:Me) (d n:Nat),c.fs=f::F→c.err=0→aM6 w fuel c→(c.ev.length:Int)≤c.sends →
 (∃x,q9 w.classes f.class_=some x∧q9 x.methods f.method=some m)→mu fuel c < M→1≤d→21≤d+c.fs.length→mu fuel c+1 < n →
 ∃o v r,G9 N (fun _=>J8 N d) f.class_ m f.self_ f.args n w.classes c.heap w.epoch fuel c.sends c.turns (c.fs.length:Int) c.err (c.ev.map (·.1)) (c.ev.map (·.2)) f.temps f.stack f.at_=some o ∧
  cR7 w fuel c F c.fs.length v r∧(o=.ret (v,r)∨(v=⟨0,0⟩∧o=.next (r.w.classes,r.w.heap,r.w.epoch,r.fuel,r.sends,r.turns,r.deep,r.err,r.sites,r.of)))
section
variable {w:Wd} {fuel:Int} {N:Nat}
theorem cC5 (hN:4194304≤N) (W:WOk w) {M:Nat} (hB:c95 N w fuel M) (c:Cf) (he:c.err=0) (hh:aL8 w c.heap) (hl:c.fs.length≤20) (hf:∀g∈c.fs,aK7 w (c.heap.length:Int) 1 g) (hs:0≤c.sends∧c.sends≤fuel∧fuel≤400)
  (ht:0≤c.turns∧c.turns≤300) (hb:L9 (c.heap.length:Int) c.back) (hev:(c.ev.length:Int)≤c.sends+1) (k j:Int) (self:V) (args:List V) (hself:L9 (c.heap.length:Int) self) (hargs:∀v∈args,L9 (c.heap.length:Int) v)
  (hx:∃x m,q9 w.classes k=some x∧q9 x.methods j=some m) (hmu:mu fuel c < M) (hM:mu fuel c+1 < N) (d:Nat) (hd:1≤d) (hd2:21≤d+c.fs.length) :
  ∃v r c1,J8 N d (toR w fuel c c.fs.length) k j self args=some (v,r)∧aM0 w fuel noQ c k j self args=some c1∧cR7 w fuel c1 c.fs c.fs.length v r:=by
 obtain ⟨c1,hc1,a1,a2,a3,a4,a5⟩:=b28 (Q:=noQ) W (fun _ _=>rfl) c he hh hl hf hs ht hb k j self args hself hargs hx
 obtain ⟨d,rfl⟩:∃e,d=e+1:=⟨d - 1,by omega⟩
 obtain ⟨x,m,hx,hm,h⟩:=bC7 hc1
 have hw1:wr (c.sends+1)=c.sends+1:=H5 (by unfold F5; omega)
 show ∃v r c1,aI3 N (fun _=>aJ3 N (fun _=>J8 N d)) (toR w fuel c c.fs.length) k j self args=some (v,r)∧_
 unfold aI3 toR
 simp only [hx,hm,Option.bind_some,hw1]
 rcases h with ⟨g1,rfl⟩|⟨g1,g2,rfl⟩|⟨g1,g2,g3,a,ha,h⟩|⟨g1,g2,g3,g4,rfl⟩|⟨g1,g2,g3,g4,rfl⟩
 ·rw [decide_eq_false g1]
  exact ⟨_,_,_,rfl,hc1,_,.refl _,.inl ⟨by simp [M6],⟨rfl,rfl,rfl,rfl⟩⟩⟩
 ·rw [decide_eq_true g1,decide_eq_true g2]
  exact ⟨_,_,_,rfl,hc1,_,.refl _,.inl ⟨by simp [M6],⟨rfl,rfl,rfl,rfl⟩⟩⟩
 ·rw [decide_eq_true g1,decide_eq_false (show ¬fuel≤c.sends by omega),decide_eq_false g3]
  simp only [Bool.not_true,Bool.not_false,cond_true,cond_false,ha,Option.bind_some,b99 N m.prim self a hself.num (hargs a (aQ5 ha)).num]
  rcases h with ⟨h5,rfl⟩|⟨h5,rfl⟩
  ·exact ⟨_,_,_,rfl,hc1,_,.refl _,.inl ⟨h5,⟨rfl,rfl,rfl,rfl⟩⟩⟩
  ·refine ⟨_,_,_,rfl,hc1,_,.refl _,.inr ⟨by rw [(S9 _ _).2.2.1]; exact he,{ c with sends:=c.sends+1 },rfl,rfl,he,?_⟩⟩
   simp only [toR,h5,he]
 ·rw [decide_eq_true g1,decide_eq_false (show ¬fuel≤c.sends by omega),decide_eq_true g3,decide_eq_true (show (20:Int)≤(c.fs.length:Int) by omega)]
  exact ⟨_,_,_,rfl,hc1,_,.refl _,.inl ⟨by simp [M6],⟨rfl,rfl,rfl,rfl⟩⟩⟩
 ·rw [decide_eq_true g1,decide_eq_false (show ¬fuel≤c.sends by omega),decide_eq_true g3,decide_eq_false (show ¬(20:Int)≤(c.fs.length:Int) by omega)]
  simp only [Bool.not_true,cond_false]
  have hw2:wr ((c.fs.length:Int)+1)=((c.fs.length+1:Nat):Int):=by rw [H5 (by unfold F5; omega)]; omega
  have hw3:wr (((c.fs.length+1:Nat):Int) - 1)=(c.fs.length:Int):=by rw [H5 (by unfold F5; omega)]; omega
  have hME:0≤m.temps∧m.temps≤6:=by
   rcases W.meth k x j m hx hm with hme|hme
   ·exact hme.temps
   ·exact absurd g3 hme.1
  have e1:(decide (0≤m.temps) && decide (m.temps≤140737488355328) && decide (m.temps*16≤140737488355328))=true:=by
   simp only [Bool.and_eq_true,decide_eq_true_eq]; omega
  obtain ⟨o,v,r,b1,b2,b3⟩:=hB { c with sends:=c.sends+1,fs:=bN4 noQ k j m self args::c.fs } (bN4 noQ k j m self args) c.fs m d N rfl he (a5 he) (by simp only; omega) ⟨x,hx,hm⟩ (by omega) (by omega) (by simp only [List.length_cons]; omega) (by omega)
  have b1':G9 N (fun _=>J8 N d) k m self args N w.classes c.heap w.epoch fuel (c.sends+1) c.turns ((c.fs.length+1:Nat):Int) c.err (c.ev.map (·.1)) (c.ev.map (·.2)) (List.replicate m.temps.toNat ⟨0,0⟩) [] 0=some o:=b1
  unfold aJ3
  simp only [e1,cond_true,hw2,b1',Option.bind_some]
  obtain ⟨c2,p1,p2⟩:=b2
  have fin:∀r':TR,r'=⟨r.w,r.fuel,r.sends,r.turns,wr (r.deep - 1),r.err,r.sites,r.of⟩→cR7 w fuel { c with sends:=c.sends+1,fs:=bN4 noQ k j m self args::c.fs } c.fs c.fs.length v r':=by
   rintro r' rfl
   refine ⟨c2,p1,?_⟩
   rcases p2 with ⟨q1,q2⟩|⟨q1,c3,q2,q3,q4,q5⟩
   ·exact .inl ⟨q1,q2.err,q2.sends,q2.sites,q2.of⟩
   ·refine .inr ⟨q1,c3,q2,q3,q4,?_⟩
    rw [q5]
    unfold toR
    simp only [List.length_cons,hw3]
  rcases b3 with rfl|⟨rfl,rfl⟩
  ·exact ⟨_,_,_,rfl,hc1,fin _ rfl⟩
  ·exact ⟨_,_,_,rfl,hc1,fin _ rfl⟩
theorem bV5 {gR:Nat→TR→Int→Int→V→List V→Option (V×TR)} {k:Int} {m:Me} {self:V} {args:List V} {n:Nat} (hn:1≤n) (r:TR) (he:r.err≠0) (T S:List V) (p:Int) :
  G9 N gR k m self args n r.w.classes r.w.heap r.w.epoch r.fuel r.sends r.turns r.deep r.err r.sites r.of T S p=some (.next (r.w.classes,r.w.heap,r.w.epoch,r.fuel,r.sends,r.turns,r.deep,r.err,r.sites,r.of)):=by
 obtain ⟨n,rfl⟩:∃e,n=e+1:=⟨n - 1,by omega⟩
 rw [G9,decide_eq_false he]
 rfl
theorem cL9 (hN:4194304≤N) (W:WOk w) (h1:0 < w.classes.length) (hcl:V7 w):∀M:Nat,M≤1048576→c95 N w fuel M
 |0,_=>fun c f F m d n _ _ _ _ _ hmu=>absurd hmu (Nat.not_lt_zero _)
 |M+1,hM=>by
  intro c f F m d n hfs he I hev hmeth hmu hd hd2 hn
  have ih:=cL9 hN W h1 hcl M (by omega)
  have hQt:∀k j,(noQ k j).2=true→0≤(noQ k j).1.temps∧(noQ k j).1.temps≤1000:=fun k j h=>by cases h
  have Wk0:=I.wk W hQt
  obtain ⟨c1,hst,A⟩:=aZ6 (Q:=noQ) W h1 (fun _ _=>rfl) I he hfs
  have hP1:Path w fuel (fun _ k s=>F3 w s k) noQ c c1:=.step he (by rw [hfs]; simp) hst (.refl _)
  have hF:=I.fs
  rw [hfs] at hF
  obtain ⟨⟨m',hh,R⟩,hF⟩:=hF
  obtain ⟨x,hx,hm⟩:=hmeth
  obtain ⟨x',hx',hm'⟩:=R.meth
  rw [hx] at hx'
  cases hx'
  rw [hm] at hm'
  cases hm'
  obtain ⟨i,hi1,hi2,him,hlt,h12,hneed,hback,_,hnext⟩:=R.len
  simp only [Nat.add_zero] at h12 hneed hback hnext
  have hops:=bZ0 (R.me.num i him)
  have hop:i.op≤17:=by
   rcases hops with ⟨h,_⟩|⟨h,_⟩|⟨h,_⟩|⟨h,_⟩|⟨h,_⟩|⟨h,_⟩|⟨h,_⟩|⟨h,_⟩<;>omega
  obtain ⟨n,rfl⟩:∃e,n=e+1:=⟨n - 1,by omega⟩
  have hmu1:=A.mu
  have hl3:c.fs.length=F.length+1:=by rw [hfs]; rfl
  have rest:∀(c2:Cf) (f2:l6),Path w fuel (fun _ k s=>F3 w s k) noQ c c2→c2.fs=f2::F→c2.err=0→mu fuel c2 < mu fuel c→c84 f f2 →
    ∃o v r,G9 N (fun _=>J8 N d) f.class_ m f.self_ f.args n w.classes c2.heap w.epoch fuel c2.sends c2.turns (c.fs.length:Int) c2.err (c2.ev.map (·.1)) (c2.ev.map (·.2)) f2.temps f2.stack f2.at_=some o ∧
     cR7 w fuel c F c.fs.length v r∧(o=.ret (v,r)∨(v=⟨0,0⟩∧o=.next (r.w.classes,r.w.heap,r.w.epoch,r.fuel,r.sends,r.turns,r.deep,r.err,r.sites,r.of))):=by
   intro c2 f2 p2 hfs2 he2 hmu2 hsame
   have hpa:=b47 W h1 (fun _ _=>rfl) p2 I.sends.2.1 (fun _=>I)
   have hev2:=dA5 W h1 (fun _ _=>rfl) p2 (fun _=>I) (fun _=>hev) he2
   have hl2:c2.fs.length=c.fs.length:=by rw [hfs2,hfs]; rfl
   obtain ⟨s1,s2,s3,s4,s5⟩:=hsame
   obtain ⟨o,v,r,q1,⟨c3,q2,q3⟩,q4⟩:=ih c2 f2 F m d n hfs2 he2 (hpa.2.2.2 he2) hev2 ⟨x,by rw [s1]; exact hx,by rw [s2]; exact hm⟩ (by omega) hd (by omega) (by omega)
   rw [s1,s4,s5,hl2] at q1
   rw [hl2] at q3
   exact ⟨o,v,r,q1,⟨c3,p2.trans q2,q3⟩,q4⟩
  by_cases h14:i.op=14
  ·-- a send
   have ha:0≤i.a∧i.a < 5:=by
    rcases hops with ⟨h,_⟩|⟨h,_⟩|⟨h,_⟩|⟨h,_⟩|⟨h,_⟩|⟨h,_⟩|⟨_,h⟩|⟨h,_⟩<;>omega
   have hst':=hst
   unfold aJ9 at hst'
   rw [hfs] at hst'
   simp only [hi2,Option.bind_some,if_pos h14] at hst'
   obtain ⟨y,cl,m2,k0,k1,hy,hc2,hm2,h⟩:=a11 hst'
   simp only at k1 hy hc2 hm2
   rw [hx] at hc2
   cases hc2
   rw [hm] at hm2
   cases hm2
   have hsS:O9 { f with at_:=f.at_+1 } m i f.at_=⟨f.class_,m.name,f.at_⟩:=by unfold O9; rw [show ({ f with at_:=f.at_+1 }:l6).fast=false from R.slow]; rfl
   have wat:wr (f.at_+1)=f.at_+1:=H5 (by have:=R.me.len; rw [←R.code] at this; have:=R.pos; unfold F5; omega)
   have hat:decide (f.at_+1≤f.at_)=false:=decide_eq_false (by omega)
   have e1:wr ((f.stack.length:Int) - i.a)=((f.stack.length - i.a.toNat:Nat):Int):=by rw [H5 (by unfold F5; omega)]; omega
   have e2:wr (((f.stack.length - i.a.toNat:Nat):Int) - 1)=((f.stack.length - i.a.toNat - 1:Nat):Int):=by rw [H5 (by unfold F5; omega)]; omega
   have d1:(decide ((0:Int)≤((f.stack.length - i.a.toNat:Nat):Int)) && decide (((f.stack.length - i.a.toNat:Nat):Int)≤(f.stack.length:Int)))=true:=by simp only [Bool.and_eq_true,decide_eq_true_eq]; omega
   have d2:(decide ((0:Int)≤((f.stack.length - i.a.toNat - 1:Nat):Int)) && decide (((f.stack.length - i.a.toNat - 1:Nat):Int)≤(f.stack.length:Int)))=true:=by simp only [Bool.and_eq_true,decide_eq_true_eq]; omega
   have hsd:=I.sends
   have b1:Nat.ble ((([]:List V).length+(f.stack.drop (f.stack.length - i.a.toNat)).length)*16) 140737488355328=true:=H7 (by simp; omega)
   have b2:∀s:St,Nat.ble (((c.ev.map (·.1)).length+[s].length)*32) 140737488355328=true:=fun s=>H7 (by simp; omega)
   have b3:∀s:Int,Nat.ble (((c.ev.map (·.2)).length+[s].length)*8) 140737488355328=true:=fun s=>H7 (by simp; omega)
   have b4:∀v:V,Nat.ble (((f.stack.take (f.stack.length - i.a.toNat - 1)).length+[v].length)*16) 140737488355328=true:=fun v=>H7 (by simp; omega)
   have hfind:∀k:Int,aK8 N (⟨w.classes,c.heap,w.epoch⟩:Wd) k i.name=some (F3 w i.name k):=fun k=>(bK8 N ⟨w.classes,c.heap,w.epoch⟩ k i.name (by omega) hcl.1).trans (by rw [bM6 w c.heap w.epoch])
   rw [hsS] at h
   simp only at h
   have him2:q9 m.code f.at_=some i:=by rw [←R.code]; exact hi2
   rw [G9,he]
   simp only [decide_true,cond_true,him2,Option.bind_some,h14,decide_eq_false (show ¬((14:Int)=1) by decide),decide_eq_false (show ¬((14:Int)=2) by decide),decide_eq_false (show ¬((14:Int)=3) by decide),decide_eq_false (show ¬((14:Int)=4) by decide),decide_eq_false (show ¬((14:Int)=5) by decide),
    decide_eq_false (show ¬((14:Int)=6) by decide),decide_eq_false (show ¬((14:Int)=7) by decide),decide_eq_false (show ¬((14:Int)=8) by decide),decide_eq_false (show ¬((14:Int)=9) by decide),decide_eq_false (show ¬((14:Int)=10) by decide),decide_eq_false (show ¬((14:Int)=11) by decide),
    decide_eq_false (show ¬((14:Int)=12) by decide),decide_eq_false (show ¬((14:Int)=13) by decide),cond_false,e1,e2,d1,d2,b1,b2,b3,Int.toNat_natCast,J3,hy,bG7,hfind,wat]
   rcases h with ⟨h2,rfl⟩|⟨h2,h⟩
   ·rw [decide_eq_true h2]
    simp only [cond_true,hat,cond_false,Option.bind_some]
    have:=bV5 (N:=N) (gR:=fun _=>J8 N d) (k:=f.class_) (m:=m) (self:=f.self_) (args:=f.args) (n:=n) (by omega) (toR w fuel (M6 { c with fs:={ f with at_:=f.at_+1 }::F,ev:=c.ev++[(⟨f.class_,m.name,f.at_⟩,G7 c.heap y)] } 10) c.fs.length)
     (by simp [toR,M6]) f.temps (f.stack.take (f.stack.length - i.a.toNat - 1)) (f.at_+1)
    simp only [toR,M6,List.map_append,List.map_cons,List.map_nil] at this
    exact ⟨_,⟨0,0⟩,toR w fuel (M6 { c with fs:={ f with at_:=f.at_+1 }::F,ev:=c.ev++[(⟨f.class_,m.name,f.at_⟩,G7 c.heap y)] } 10) c.fs.length,this,⟨_,hP1,.inl ⟨by simp [M6],⟨rfl,rfl,rfl,rfl⟩⟩⟩,.inr ⟨rfl,by simp [toR,M6]⟩⟩
   ·rw [decide_eq_false (show ¬(F3 w i.name (G7 c.heap y)).2 < 0 by omega)]
    simp only [cond_false,List.nil_append]
    have hn1:=hnext (wr (f.at_+1)) (by rw [b67 h14]; simp)
    rw [wat,b67 h14] at hn1
    simp only at hn1
    rw [H5 (by unfold F5; omega)] at hn1
    have hg:aK7 w (c.heap.length:Int) 1 { f with at_:=f.at_+1,stack:=f.stack.take (f.stack.length - i.a.toNat - 1) } :=
     ⟨m,hh,R.go (f.at_+1) f.temps (f.stack.take (f.stack.length - i.a.toNat - 1)) 1 (by omega) (by rw [hn1.2]; congr 1; simp; omega) rfl R.vtemps fun u hu=>R.vstack u (List.mem_of_mem_take hu)⟩
    obtain ⟨x3,m3,hx3,hm3,_⟩:=bE0 (w:=w) (s:=i.name) (c:=G7 c.heap y) h2
    have hmu0:mu fuel { c with fs:={ f with at_:=f.at_+1,stack:=f.stack.take (f.stack.length - i.a.toNat - 1) }::F,ev:=c.ev++[(⟨f.class_,m.name,f.at_⟩,G7 c.heap y)] } < mu fuel c:=by
     have hpt:=cH8 hlt
     have e:pot { f with at_:=f.at_+1,stack:=f.stack.take (f.stack.length - i.a.toNat - 1) }=pot { f with at_:=f.at_+1 }:=rfl
     simp only [mu,hfs,List.map_cons,List.sum_cons,e]
     omega
    obtain ⟨v,r,c1',q1,q2,q3⟩:=cC5 hN W ih { c with fs:={ f with at_:=f.at_+1,stack:=f.stack.take (f.stack.length - i.a.toNat - 1) }::F,ev:=c.ev++[(⟨f.class_,m.name,f.at_⟩,G7 c.heap y)] }
     he I.heap (by have:=I.fl; simp only [List.length_cons]; omega) (fun g hg'=>by
      rcases List.mem_cons.1 hg' with rfl|hg'
      ·exact hg
      ·exact hF g hg') I.sends I.turns I.back (by simp; omega) (F3 w i.name (G7 c.heap y)).1 (F3 w i.name (G7 c.heap y)).2 y (f.stack.drop (f.stack.length - i.a.toNat)) (R.vstack y (List.mem_of_getElem? hy)) (fun v hv=>R.vstack v (List.mem_of_mem_drop hv))
      ⟨x3,m3,hx3,hm3⟩ (by omega) (by omega) d hd (by simp only [List.length_cons]; omega)
    rw [h] at q2
    cases q2
    have q1':J8 N d ⟨⟨w.classes,c.heap,w.epoch⟩,fuel,c.sends,c.turns,(c.fs.length:Int),0,c.ev.map (·.1)++[⟨f.class_,m.name,f.at_⟩],c.ev.map (·.2)++[G7 c.heap y]⟩ (F3 w i.name (G7 c.heap y)).1 (F3 w i.name (G7 c.heap y)).2 y (f.stack.drop (f.stack.length - i.a.toNat))=some (v,r):=by
     have:toR w fuel { c with fs:={ f with at_:=f.at_+1,stack:=f.stack.take (f.stack.length - i.a.toNat - 1) }::F,ev:=c.ev++[(⟨f.class_,m.name,f.at_⟩,G7 c.heap y)] } (F.length+1)=⟨⟨w.classes,c.heap,w.epoch⟩,fuel,c.sends,c.turns,(c.fs.length:Int),0,c.ev.map (·.1)++[⟨f.class_,m.name,f.at_⟩],c.ev.map (·.2)++[G7 c.heap y]⟩:=by
      simp only [toR,he,hl3,List.map_append,List.map_cons,List.map_nil]
     rw [←this]
     exact q1
    simp only [q1',Option.bind_some,b4,cond_true,hat,cond_false]
    obtain ⟨c2,p1,p2⟩:=q3
    have hPc:Path w fuel (fun _ k s=>F3 w s k) noQ c c2:=hP1.trans p1
    rcases p2 with ⟨g1,g2⟩|⟨g1,c3,g2,g3,g4,g5⟩
    ·have:=bV5 (N:=N) (gR:=fun _=>J8 N d) (k:=f.class_) (m:=m) (self:=f.self_) (args:=f.args) (n:=n) (by omega) r (by rw [g2.err]; exact g1) f.temps (f.stack.take (f.stack.length - i.a.toNat - 1)++[v]) (f.at_+1)
     exact ⟨_,⟨0,0⟩,r,this,⟨c2,hPc,.inl ⟨g1,g2⟩⟩,.inr ⟨rfl,rfl⟩⟩
    ·have hfs2:c2.fs=M3 { f with at_:=f.at_+1,stack:=f.stack.take (f.stack.length - i.a.toNat - 1) } v::F:=by
      rw [g2]
      unfold aE4
      rw [g3]
     have hmu2:mu fuel c2 < mu fuel c:=by
      have h6:=dE0 W h1 (fun _ _=>rfl) p1 A.inv
      omega
     have:=rest c2 _ hPc hfs2 g1 hmu2 ⟨rfl,rfl,rfl,rfl,rfl⟩
     rw [g5]
     have e3:=S9 c3 v
     have e4:=aS2 c3 v
     rw [←g2] at e3 e4
     obtain ⟨z1,z2,z3,z4⟩:=e3
     rw [e4,z1,z2,z3,z4] at this
     simp only [toR]
     have hlen:((F.length+1:Nat):Int)=(c.fs.length:Int):=by rw [hl3]
     simp only [List.length_cons,hlen]
     exact this
  by_cases h17:i.op=17
  ·have hn1:1≤f.stack.length:=by have:=hback h17; omega
   obtain ⟨v,hv,hvm⟩:=bD0 (f:={ f with at_:=f.at_+1 }) hn1
   have hst':=hst
   unfold aJ9 at hst'
   rw [hfs] at hst'
   simp only [hi2,Option.bind_some,if_neg h14,if_neg (show ¬i.op=15 by omega),if_neg (show ¬i.op=16 by omega),if_pos h17,hv,Option.map_some] at hst'
   cases hst'
   have hv1:f.stack.getLast?=some v:=(aB9 hv).1
   have him2:q9 m.code f.at_=some i:=by rw [←R.code]; exact hi2
   rw [G9,he]
   simp only [decide_true,cond_true,him2,Option.bind_some,h17,decide_eq_false (show ¬((17:Int)=1) by decide),decide_eq_false (show ¬((17:Int)=2) by decide),decide_eq_false (show ¬((17:Int)=3) by decide),decide_eq_false (show ¬((17:Int)=4) by decide),decide_eq_false (show ¬((17:Int)=5) by decide),
    decide_eq_false (show ¬((17:Int)=6) by decide),decide_eq_false (show ¬((17:Int)=7) by decide),decide_eq_false (show ¬((17:Int)=8) by decide),decide_eq_false (show ¬((17:Int)=9) by decide),decide_eq_false (show ¬((17:Int)=10) by decide),decide_eq_false (show ¬((17:Int)=11) by decide),
    decide_eq_false (show ¬((17:Int)=12) by decide),decide_eq_false (show ¬((17:Int)=13) by decide),decide_eq_false (show ¬((17:Int)=14) by decide),decide_eq_false (show ¬((17:Int)=15) by decide),decide_eq_false (show ¬((17:Int)=16) by decide),cond_false,bL2 hv1 (show f.stack.length≤1000 by omega)]
   refine ⟨_,v,toR w fuel c c.fs.length,rfl,⟨_,hP1,.inr ⟨by rw [(S9 _ _).2.2.1]; exact he,{ c with fs:=F },rfl,rfl,he,rfl⟩⟩,.inl ?_⟩
   simp only [toR,he]
  ·obtain ⟨f1,y1,y2,y3,y4,y5⟩:=cA7 (N:=N) (gR:=fun _=>J8 N d) (by omega) Wk0 he hfs hi2 h14 h17 hop hst (k:=f.class_) R.code (c.fs.length:Int) (c.ev.map (·.1)) (c.ev.map (·.2)) n
   rw [y5]
   by_cases he1:c1.err=0
   ·have:=rest c1 f1 hP1 y1 he1 hmu1 y2
    rw [y3] at this
    exact this
   ·have:=bV5 (N:=N) (gR:=fun _=>J8 N d) (k:=f.class_) (m:=m) (self:=f.self_) (args:=f.args) (n:=n) (by omega) (toR w fuel c1 c.fs.length) he1 f1.temps f1.stack f1.at_
    simp only [toR,y3] at this
    exact ⟨_,⟨0,0⟩,toR w fuel c1 c.fs.length,this,⟨_,hP1,.inl ⟨he1,⟨rfl,rfl,rfl,rfl⟩⟩⟩,.inr ⟨rfl,by simp [toR,y3]⟩⟩
end
theorem cE2 {w:Wd} {N:Nat} (hN:4194304≤N) (hs:V7 w) (hp:aE2 N w) (c:K7) (fuel:Int):∃r R ev,aY0 N w c fuel=some (r.1,r.2,R)∧bT1 w c fuel r ev∧R.sites=ev.map (·.1)∧R.of=ev.map (·.2):=by
 have W:=hp.wOk hN hs
 have hcl:0 < w.classes.length:=by have:=hp.many.1; omega
 unfold aY0
 rw [bR9]
 simp only [Option.bind_some]
 by_cases hw:K8 w c fuel=0
 ·obtain ⟨h1,h2,h3,h4,h5,h6⟩:=aU2 hw
  simp only [hw,decide_true,Bool.not_true,cond_false,bG7,Option.bind_some,bK8 N w _ _ (show 1048578≤N by omega) hs.1]
  by_cases hj:(F3 w c.name (G7 w.heap c.self_)).2 < 0
  ·rw [decide_eq_true hj]
   exact ⟨(w,⟨⟨0,0⟩,10,0⟩),_,[],rfl,.inr ⟨hw,M6 (aB2 w) 10,M6 (aB2 w) 10,by unfold aO2; rw [if_pos hj],.refl _,.inl (by simp [M6]),rfl,rfl⟩,rfl,rfl⟩
  ·rw [decide_eq_false hj]
   simp only [cond_false]
   obtain ⟨x,m,hx,hm,_⟩:=bE0 (w:=w) (s:=c.name) (c:=G7 w.heap c.self_) (by omega)
   have hmu:mu fuel (aB2 w) < 1048576:=c86 h4 (Int.le_refl _) (Int.le_refl _) (by simp [aB2])
   obtain ⟨v,r,c1,q1,q2,c2,q3,q4⟩:=cC5 hN W (cL9 (fuel:=fuel) hN W hcl hs 1048576 (Nat.le_refl _)) (aB2 w) rfl (b35 hp) (by simp [aB2]) (fun g hg=>by cases hg) ⟨Int.le_refl _,h3,h4⟩ ⟨Int.le_refl _,by simp [aB2]⟩ (L9.nil _) (by simp [aB2])
    (F3 w c.name (G7 w.heap c.self_)).1 (F3 w c.name (G7 w.heap c.self_)).2 c.self_ c.args h5 h6 ⟨x,m,hx,hm⟩ hmu (by omega) N (by omega) (by omega)
   have q1':aZ0 N (⟨w,fuel,0,0,0,0,[],[]⟩:TR) (F3 w c.name (G7 w.heap c.self_)).1 (F3 w c.name (G7 w.heap c.self_)).2 c.self_ c.args=some (v,r):=q1
   rw [q1']
   simp only [Option.bind_some]
   have hb:aO2 w fuel noQ c=some c1:=by unfold aO2; rw [if_neg hj]; exact q2
   rcases q4 with ⟨g1,g2⟩|⟨g1,c3,g2,g3,g4,g5⟩
   ·have e1:r.err≠0:=by rw [g2.err]; exact g1
    rw [decide_eq_false e1]
    refine ⟨aZ3 w c2,r,c2.ev,?_,.inr ⟨hw,c1,c2,hb,q3,.inl g1,rfl,rfl⟩,g2.sites,g2.of⟩
    simp only [Bool.not_false,cond_true,aZ3,if_neg g1,g2.err,g2.sends]
   ·have e0:r.err=0:=by rw [g5]; exact g4
    have g3:c3.fs=[]:=g3
    have hfs:c2.fs=[]:=by rw [g2]; unfold aE4; rw [g3]
    have hback:c2.back=v:=by rw [g2]; unfold aE4; rw [g3]
    have e3:=S9 c3 v
    have e4:=aS2 c3 v
    rw [←g2] at e3 e4
    rw [decide_eq_true e0]
    refine ⟨aZ3 w c2,r,c2.ev,?_,.inr ⟨hw,c1,c2,hb,q3,.inr hfs,rfl,rfl⟩,by rw [g5,e3.2.2.2]; rfl,by rw [g5,e3.2.2.2]; rfl⟩
    simp only [Bool.not_true,cond_false,aZ3,if_pos g1,hback,e3.1,e4,g5,toR]
 ·rw [decide_eq_false hw]
  exact ⟨(w,⟨⟨0,0⟩,K8 w c fuel,0⟩),_,[],rfl,.inl ⟨hw,rfl,rfl⟩,rfl,rfl⟩
theorem cX0 (a b:aF1):aF5 (bM8 a) (bM8 b)=decide (a=b):=by
 obtain ⟨⟨k,n⟩,e,s⟩:=a
 obtain ⟨⟨k',n'⟩,e',s'⟩:=b
 by_cases h1:k=k'<;>by_cases h2:n=n'<;>by_cases h3:e=e'<;>by_cases h4:s=s'<;>simp [bM8,aF5,eq1,h1,h2,h3,h4]
theorem cT9 {w:Wd} {N:Nat} (hN:4194304≤N) (hs:V7 w) (hp:aE2 N w) {c:K7} {fuel:Int} {r:Wd×aF1} (h:cI9 w c fuel noQ r) :
  (r.2.err=0→K8 w c fuel=0∧0≤r.2.sends∧r.2.sends≤fuel∧fuel≤400∧aL8 w r.1.heap∧r.1=⟨w.classes,r.1.heap,w.epoch⟩∧w.heap.length≤r.1.heap.length∧L9 (r.1.heap.length:Int) r.2.value) ∧
  (r.2.err≠0→r.1=w∧r.2.value=⟨0,0⟩∧0≤r.2.sends∧r.2.sends≤400):=by
 rcases h with ⟨h1,rfl⟩|⟨h1,c1,c',h2,h3,h4,rfl⟩
 ·exact ⟨fun e=>absurd e h1,fun _=>⟨rfl,rfl,Int.le_refl _,by simp only; omega⟩⟩
 ·have W:=hp.wOk hN hs
  have hcl:0 < w.classes.length:=by have:=hp.many.1; omega
  obtain ⟨_,_,f1,f2,_⟩:=aU2 h1
  obtain ⟨c1',b1,b2,b3,b4,b5,b6⟩:=cK4 (Q:=noQ) hN hs hp (fun _ _=>rfl) c h1
  rw [h2] at b1
  cases b1
  obtain ⟨p1,p2,p3,p4⟩:=b47 W hcl (fun _ _=>rfl) h3 b3 b6
  rw [b4] at p3
  unfold aZ3
  by_cases he:c'.err=0
  ·rw [if_pos he]
   have I:=p4 he
   exact ⟨fun _=>⟨h1,by simp only; omega,by simp only; omega,f2,I.heap,rfl,p3,I.back⟩,fun h=>absurd rfl h⟩
  ·rw [if_neg he]
   exact ⟨fun h=>absurd h he,fun _=>⟨rfl,rfl,by simp only; omega,by simp only; omega⟩⟩
theorem aE2.heap {w:Wd} {N:Nat} (hN:4194304≤N) (hs:V7 w) (hp:aE2 N w) {H:List Ob} (hH:aL8 w H):aE2 N ⟨w.classes,H,w.epoch⟩∧V7 ⟨w.classes,H,w.epoch⟩:=by
 have hsl:=bY2 hp
 have W:=hp.wOk hN hs
 have hs':V7 ⟨w.classes,H,w.epoch⟩:=⟨hs.1,by have:=hH.len; simp only; omega,hs.2.2.1,fun o ho=>by
  have h1:=(hH.ob o ho).2.2.2.1
  have:=W.slots o.cls
  omega⟩
 have hchk:∀(k:Int) (m:Me),checkN N ⟨w.classes,H,w.epoch⟩ k m=checkN N w k m:=by
  intro k m
  have hnum:∀i,aP3 ⟨w.classes,H,w.epoch⟩ k m i=aP3 w k m i:=fun i=>by
   unfold aP3 bF2
   simp only [aO8]
  have hc:∀(l:List Ins) (j:Nat),aX1 ⟨w.classes,H,w.epoch⟩ k m l j=aX1 w k m l j:=by
   intro l
   induction l with
   |nil=>intro j; rfl
   |cons i l ih=>intro j; rw [aX1,aX1,hnum,ih]
  unfold checkN
  rw [hc]
 refine ⟨⟨⟨hp.many.1,hp.many.2.1,hH.len⟩,hp.epoch,hp.cls,fun j c hc=>?_,fun o ho=>?_⟩,hs'⟩
 ·obtain ⟨h1,h2,h3,h4⟩:=hp.meth j c hc
  refine ⟨by rw [aO8]; exact h1,h2,h3,fun m hm=>?_⟩
  rcases h4 m hm with h|⟨f,h5,h6⟩
  ·exact .inl h
  ·refine .inr ⟨f,?_,h6⟩
   rw [aX8 N w _ m (by omega) hs.1 (bV0 hsl hs.1 _)] at h5
   rw [aX8 N ⟨w.classes,H,w.epoch⟩ _ m (by omega) hs.1 (by rw [aO8]; exact bV0 hsl hs.1 _),hchk]
   exact h5
 ·obtain ⟨h1,h2,h3,h4,h5⟩:=hH.ob o ho
  exact ⟨h1,h2,h3,by rw [aO8]; exact h4,h5⟩
end Go.Proofs.Ytahmeibkdhbngaa
