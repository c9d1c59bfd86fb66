/- The law NamesStand holds: for every text and every number the law returns true, and its arguments read as before. No condition. Part 30: Shp5. -/
import Derived.Test.YtoepemlnlpamlaaGreatStand29
set_option maxRecDepth 100000
set_option maxHeartbeats 4000000
namespace Go.Proofs.YtoepemlnlpamlaaGreat
open Go.RowKit
theorem so_0:((aG Tryz.f141 4).toArray[0]?).map (fun o=>(o.dst,o.op,o.guard))=some (some 11,Op.makeMap 191 none,none):=by kernel_rfl
theorem so_1:((aG Tryz.f141 4).toArray[1]?).map (fun o=>(o.dst,o.op,o.guard))=some (some 12,Op.build 197 #[(0,Operand.func 194)],none):=by kernel_rfl
theorem so_2:((aG Tryz.f141 4).toArray[2]?).map (fun o=>(o.dst,o.op,o.guard))=some (none,Op.insert 191 (Operand.tmp 11) (Operand.const (Value.int IntKind.i64 0)) (Operand.tmp 12),none):=by kernel_rfl
theorem so_3:((aG Tryz.f141 4).toArray[3]?).map (fun o=>(o.dst,o.op,o.guard))=some (some 13,Op.buildSlice 28 2 #[(0,Operand.const (Value.int IntKind.i64 3)),(1,Operand.const (Value.int IntKind.i64 5))],none):=by kernel_rfl
theorem so_4:((aG Tryz.f141 4).toArray[4]?).map (fun o=>(o.dst,o.op,o.guard))=some (some 14,Op.call { callee:=Callee.value (Operand.func 189),args:=#[Operand.tmp 13],argTypes:=#[28] },none):=by kernel_rfl
theorem so_5:((aG Tryz.f141 4).toArray[5]?).map (fun o=>(o.dst,o.op,o.guard))=some (some 15,Op.build 197 #[(0,Operand.func 194),(2,Operand.tmp 14)],none):=by kernel_rfl
theorem so_6:((aG Tryz.f141 4).toArray[6]?).map (fun o=>(o.dst,o.op,o.guard))=some (none,Op.insert 191 (Operand.tmp 11) (Operand.const (Value.int IntKind.i64 2)) (Operand.tmp 15),none):=by kernel_rfl
theorem so_7:((aG Tryz.f141 4).toArray[7]?).map (fun o=>(o.dst,o.op,o.guard))=some (some 16,Op.load 99 (Operand.tmp 1),none):=by kernel_rfl
theorem so_8:((aG Tryz.f141 4).toArray[8]?).map (fun o=>(o.dst,o.op,o.guard))=some (some 17,Op.buildSlice 28 1 #[(0,Operand.const (Value.int IntKind.i64 4))],none):=by kernel_rfl
theorem so_9:((aG Tryz.f141 4).toArray[9]?).map (fun o=>(o.dst,o.op,o.guard))=some (some 18,Op.call { callee:=Callee.value (Operand.func 189),args:=#[Operand.tmp 17],argTypes:=#[28] },none):=by kernel_rfl
theorem so_10:((aG Tryz.f141 4).toArray[10]?).map (fun o=>(o.dst,o.op,o.guard))=some (some 19,Op.build 197 #[(0,Operand.tmp 16),(2,Operand.tmp 18),(3,Operand.const (Value.int IntKind.i64 1))],none):=by kernel_rfl
theorem so_11:((aG Tryz.f141 4).toArray[11]?).map (fun o=>(o.dst,o.op,o.guard))=some (none,Op.insert 191 (Operand.tmp 11) (Operand.const (Value.int IntKind.i64 3)) (Operand.tmp 19),none):=by kernel_rfl
theorem so_12:((aG Tryz.f141 4).toArray[12]?).map (fun o=>(o.dst,o.op,o.guard))=some (some 20,Op.load 99 (Operand.tmp 1),none):=by kernel_rfl
theorem so_13:((aG Tryz.f141 4).toArray[13]?).map (fun o=>(o.dst,o.op,o.guard))=some (some 21,Op.buildSlice 28 1 #[(0,Operand.const (Value.int IntKind.i64 9))],none):=by kernel_rfl
theorem so_14:((aG Tryz.f141 4).toArray[14]?).map (fun o=>(o.dst,o.op,o.guard))=some (some 22,Op.call { callee:=Callee.value (Operand.func 189),args:=#[Operand.tmp 21],argTypes:=#[28] },none):=by kernel_rfl
theorem so_15:((aG Tryz.f141 4).toArray[15]?).map (fun o=>(o.dst,o.op,o.guard))=some (some 23,Op.buildSlice 195 1 #[(0,Operand.tmp 22)],none):=by kernel_rfl
theorem so_16:((aG Tryz.f141 4).toArray[16]?).map (fun o=>(o.dst,o.op,o.guard))=some (some 24,Op.build 197 #[(0,Operand.tmp 20),(1,Operand.tmp 23)],none):=by kernel_rfl
theorem so_17:((aG Tryz.f141 4).toArray[17]?).map (fun o=>(o.dst,o.op,o.guard))=some (none,Op.insert 191 (Operand.tmp 11) (Operand.const (Value.int IntKind.i64 4)) (Operand.tmp 24),none):=by kernel_rfl
theorem so_18:((aG Tryz.f141 4).toArray[18]?).map (fun o=>(o.dst,o.op,o.guard))=some (some 25,Op.load 99 (Operand.tmp 1),none):=by kernel_rfl
theorem so_19:((aG Tryz.f141 4).toArray[19]?).map (fun o=>(o.dst,o.op,o.guard))=some (some 26,Op.buildSlice 28 1 #[(0,Operand.const (Value.int IntKind.i64 6))],none):=by kernel_rfl
theorem so_20:((aG Tryz.f141 4).toArray[20]?).map (fun o=>(o.dst,o.op,o.guard))=some (some 27,Op.call { callee:=Callee.value (Operand.func 189),args:=#[Operand.tmp 26],argTypes:=#[28] },none):=by kernel_rfl
theorem so_21:((aG Tryz.f141 4).toArray[21]?).map (fun o=>(o.dst,o.op,o.guard))=some (some 28,Op.move (Operand.tmp 4),none):=by kernel_rfl
theorem so_22:((aG Tryz.f141 4).toArray[22]?).map (fun o=>(o.dst,o.op,o.guard))=some (some 29,Op.move (Operand.tmp 2),none):=by kernel_rfl
theorem so_23:((aG Tryz.f141 4).toArray[23]?).map (fun o=>(o.dst,o.op,o.guard))=some (some 30,Op.buildSlice 195 3 #[(0,Operand.tmp 27),(1,Operand.tmp 28),(2,Operand.tmp 29)],none):=by kernel_rfl
theorem so_24:((aG Tryz.f141 4).toArray[24]?).map (fun o=>(o.dst,o.op,o.guard))=some (some 31,Op.build 197 #[(0,Operand.tmp 25),(1,Operand.tmp 30)],none):=by kernel_rfl
theorem so_25:((aG Tryz.f141 4).toArray[25]?).map (fun o=>(o.dst,o.op,o.guard))=some (none,Op.insert 191 (Operand.tmp 11) (Operand.const (Value.int IntKind.i64 5)) (Operand.tmp 31),none):=by kernel_rfl
theorem so_26:((aG Tryz.f141 4).toArray[26]?).map (fun o=>(o.dst,o.op,o.guard))=some (some 32,Op.buildSlice 28 2 #[(0,Operand.const (Value.int IntKind.i64 7)),(1,Operand.const (Value.int IntKind.i64 8))],none):=by kernel_rfl
theorem so_27:((aG Tryz.f141 4).toArray[27]?).map (fun o=>(o.dst,o.op,o.guard))=some (some 33,Op.call { callee:=Callee.value (Operand.func 189),args:=#[Operand.tmp 32],argTypes:=#[28] },none):=by kernel_rfl
theorem so_28:((aG Tryz.f141 4).toArray[28]?).map (fun o=>(o.dst,o.op,o.guard))=some (some 34,Op.build 197 #[(0,Operand.func 194),(2,Operand.tmp 33)],none):=by kernel_rfl
theorem so_29:((aG Tryz.f141 4).toArray[29]?).map (fun o=>(o.dst,o.op,o.guard))=some (none,Op.insert 191 (Operand.tmp 11) (Operand.const (Value.int IntKind.i64 6)) (Operand.tmp 34),none):=by kernel_rfl
theorem so_30:((aG Tryz.f141 4).toArray[30]?).map (fun o=>(o.dst,o.op,o.guard))=some (some 35,Op.load 99 (Operand.tmp 1),none):=by kernel_rfl
theorem so_31:((aG Tryz.f141 4).toArray[31]?).map (fun o=>(o.dst,o.op,o.guard))=some (some 36,Op.move (Operand.tmp 4),none):=by kernel_rfl
theorem so_32:((aG Tryz.f141 4).toArray[32]?).map (fun o=>(o.dst,o.op,o.guard))=some (some 37,Op.buildSlice 195 1 #[(0,Operand.tmp 36)],none):=by kernel_rfl
theorem so_33:((aG Tryz.f141 4).toArray[33]?).map (fun o=>(o.dst,o.op,o.guard))=some (some 38,Op.build 197 #[(0,Operand.tmp 35),(1,Operand.tmp 37)],none):=by kernel_rfl
theorem so_34:((aG Tryz.f141 4).toArray[34]?).map (fun o=>(o.dst,o.op,o.guard))=some (none,Op.insert 191 (Operand.tmp 11) (Operand.const (Value.int IntKind.i64 7)) (Operand.tmp 38),none):=by kernel_rfl
theorem so_35:((aG Tryz.f141 4).toArray[35]?).map (fun o=>(o.dst,o.op,o.guard))=some (some 39,Op.load 99 (Operand.tmp 1),none):=by kernel_rfl
theorem so_36:((aG Tryz.f141 4).toArray[36]?).map (fun o=>(o.dst,o.op,o.guard))=some (some 40,Op.move (Operand.tmp 4),none):=by kernel_rfl
theorem so_37:((aG Tryz.f141 4).toArray[37]?).map (fun o=>(o.dst,o.op,o.guard))=some (some 41,Op.buildSlice 195 1 #[(0,Operand.tmp 40)],none):=by kernel_rfl
theorem so_38:((aG Tryz.f141 4).toArray[38]?).map (fun o=>(o.dst,o.op,o.guard))=some (some 42,Op.build 197 #[(0,Operand.tmp 39),(1,Operand.tmp 41)],none):=by kernel_rfl
theorem so_39:((aG Tryz.f141 4).toArray[39]?).map (fun o=>(o.dst,o.op,o.guard))=some (none,Op.insert 191 (Operand.tmp 11) (Operand.const (Value.int IntKind.i64 8)) (Operand.tmp 42),none):=by kernel_rfl
theorem so_40:((aG Tryz.f141 4).toArray[40]?).map (fun o=>(o.dst,o.op,o.guard))=some (some 43,Op.makeFunc (Fn.func 195) #[] #[Operand.tmp 5,Operand.tmp 1],none):=by kernel_rfl
theorem so_41:((aG Tryz.f141 4).toArray[41]?).map (fun o=>(o.dst,o.op,o.guard))=some (some 44,Op.build 197 #[(0,Operand.tmp 43)],none):=by kernel_rfl
theorem so_42:((aG Tryz.f141 4).toArray[42]?).map (fun o=>(o.dst,o.op,o.guard))=some (none,Op.insert 191 (Operand.tmp 11) (Operand.const (Value.int IntKind.i64 9)) (Operand.tmp 44),none):=by kernel_rfl
theorem so_43:((aG Tryz.f141 4).toArray[43]?).map (fun o=>(o.dst,o.op,o.guard))=some (some 45,Op.build 197 #[(0,Operand.func 196)],none):=by kernel_rfl
theorem so_44:((aG Tryz.f141 4).toArray[44]?).map (fun o=>(o.dst,o.op,o.guard))=some (none,Op.insert 191 (Operand.tmp 11) (Operand.const (Value.int IntKind.i64 10)) (Operand.tmp 45),none):=by kernel_rfl
theorem so_45:((aG Tryz.f141 4).toArray[45]?).map (fun o=>(o.dst,o.op,o.guard))=some (some 46,Op.build 197 #[(0,Operand.func 194),(2,Operand.func 197)],none):=by kernel_rfl
theorem so_46:((aG Tryz.f141 4).toArray[46]?).map (fun o=>(o.dst,o.op,o.guard))=some (none,Op.insert 191 (Operand.tmp 11) (Operand.const (Value.int IntKind.i64 11)) (Operand.tmp 46),none):=by kernel_rfl
theorem so_47:((aG Tryz.f141 4).toArray[47]?).map (fun o=>(o.dst,o.op,o.guard))=some (some 47,Op.load 99 (Operand.tmp 1),none):=by kernel_rfl
theorem op_1:aN 1:=by
 intro w0 b1 b5 v2 v4 v5 listed a w Q hs hI hi;obtain⟨o,ho,hd,hop,hg⟩:=aS so_1;refine aQ hs hI hi ho hg hd (by decide) (by decide) (v:=.agg #[.func (Fn.func 194) #[] #[],.slice none 0 0,.nilFunc,.int .i64 0]) (w':=w) (by simp only[execOp,hop];go_simp) (Below.refl _ _) ?_;exact⟨_,_,_,_,rfl,oL w,(by intro i p h;simp at h),rfl⟩
theorem op_2:aN 2:=by
 intro w0 b1 b5 v2 v4 v5 listed a w Q hs hI hi;obtain⟨o,ho,hd,hop,hg⟩:=aS so_2;obtain⟨v,hv,hT⟩:=hI.get hi (j:=1) (u:=12) (by kernel_rfl) (by kernel_rfl);exact eY hs hI hi ho hg hd hop rfl (aM hv) (dE hi (by kernel_rfl)) rfl hT
theorem op_3:aN 3:=by
 intro w0 b1 b5 v2 v4 v5 listed a w Q hs hI hi;obtain⟨o,ho,hd,hop,hg⟩:=aS so_3;refine aQ hs hI hi ho hg hd (by decide) (by decide) (v:=.slice (some ⟨w.heap.size,0,none⟩) 2 2) (w':=w.alloc (.cells #[.int .i64 3,.int .i64 5] 3)) (by simp only[execOp,hop];go_simp) (ae _ _) ?_;exact⟨_,_,rfl,qP w 3 [3,5]⟩
theorem op_4:aN 4:=by
 intro w0 b1 b5 v2 v4 v5 listed a w Q hs hI hi;obtain⟨o,ho,hd,hop,hg⟩:=aS so_4;obtain⟨v,hv,A,c,rfl,hr⟩:=hI.get hi (j:=3) (u:=13) (by kernel_rfl) (by kernel_rfl);have he:=aM hv;exact kZ hs hI hi ho hg hd (by decide) (by decide) (f:=189) (args:=#[.slice A 2 c]) (by simp only[execOp,hop];go_simp) (sH A 2 c [3,5] w hr rfl (by omega))
theorem op_5:aN 5:=by
 intro w0 b1 b5 v2 v4 v5 listed a w Q hs hI hi;obtain⟨o,ho,hd,hop,hg⟩:=aS so_5;obtain⟨xl,hxl,yC⟩:=hI.get hi (j:=4) (u:=14) (by kernel_rfl) (by kernel_rfl);have hel:=aM hxl;obtain⟨fl,cl,rfl⟩:=dI yC;refine aQ hs hI hi ho hg hd (by decide) (by decide) (v:=.agg #[.func (Fn.func 194) #[] #[],.slice none 0 0,.func (Fn.func fl) #[] cl,.int .i64 0]) (w':=w) (by simp only[execOp,hop];go_simp) (Below.refl _ _) ?_;exact⟨_,_,_,_,rfl,oL w,(by intro i p h;simp at h),yC⟩
theorem op_6:aN 6:=by
 intro w0 b1 b5 v2 v4 v5 listed a w Q hs hI hi;obtain⟨o,ho,hd,hop,hg⟩:=aS so_6;obtain⟨v,hv,hT⟩:=hI.get hi (j:=5) (u:=15) (by kernel_rfl) (by kernel_rfl);exact eY hs hI hi ho hg hd hop rfl (aM hv) (dE hi (by kernel_rfl)) rfl hT
theorem op_7:aN 7:=by
 intro w0 b1 b5 v2 v4 v5 listed a w Q hs hI hi;obtain⟨o,ho,hd,hop,hg⟩:=aS so_7;have ht1:=hI.t1;have hc:w.cell? ⟨b1,0,none⟩=some (.func (Fn.func 53) #[] #[]):=hI.k1.cell 0;exact aQ hs hI hi ho hg hd (by decide) (by decide) (v:=(.func (Fn.func 53) #[] #[])) (w':=w) (by simp only[execOp,hop];go_simp) (Below.refl _ _) (qB w)
theorem op_8:aN 8:=by
 intro w0 b1 b5 v2 v4 v5 listed a w Q hs hI hi;obtain⟨o,ho,hd,hop,hg⟩:=aS so_8;refine aQ hs hI hi ho hg hd (by decide) (by decide) (v:=.slice (some ⟨w.heap.size,0,none⟩) 1 1) (w':=w.alloc (.cells #[.int .i64 4] 3)) (by simp only[execOp,hop];go_simp) (ae _ _) ?_;exact⟨_,_,rfl,qP w 3 [4]⟩
theorem op_9:aN 9:=by
 intro w0 b1 b5 v2 v4 v5 listed a w Q hs hI hi;obtain⟨o,ho,hd,hop,hg⟩:=aS so_9;obtain⟨v,hv,A,c,rfl,hr⟩:=hI.get hi (j:=8) (u:=17) (by kernel_rfl) (by kernel_rfl);have he:=aM hv;exact kZ hs hI hi ho hg hd (by decide) (by decide) (f:=189) (args:=#[.slice A 1 c]) (by simp only[execOp,hop];go_simp) (sH A 1 c [4] w hr rfl (by omega))
theorem op_10:aN 10:=by
 intro w0 b1 b5 v2 v4 v5 listed a w Q hs hI hi;obtain⟨o,ho,hd,hop,hg⟩:=aS so_10;obtain⟨xt,hxt,lC⟩:=hI.get hi (j:=7) (u:=16) (by kernel_rfl) (by kernel_rfl);have het:=aM hxt;obtain⟨xl,hxl,yC⟩:=hI.get hi (j:=9) (u:=18) (by kernel_rfl) (by kernel_rfl);have hel:=aM hxl;obtain⟨ft,ct,rfl⟩:=jM lC;obtain⟨fl,cl,rfl⟩:=dI yC;refine aQ hs hI hi ho hg hd (by decide) (by decide) (v:=.agg #[.func (Fn.func ft) #[] ct,.slice none 0 0,.func (Fn.func fl) #[] cl,.int .i64 1]) (w':=w) (by simp only[execOp,hop];go_simp) (Below.refl _ _) ?_;exact⟨_,_,_,_,rfl,lC,(by intro i p h;simp at h),yC⟩
theorem op_11:aN 11:=by
 intro w0 b1 b5 v2 v4 v5 listed a w Q hs hI hi;obtain⟨o,ho,hd,hop,hg⟩:=aS so_11;obtain⟨v,hv,hT⟩:=hI.get hi (j:=10) (u:=19) (by kernel_rfl) (by kernel_rfl);exact eY hs hI hi ho hg hd hop rfl (aM hv) (dE hi (by kernel_rfl)) rfl hT
theorem op_12:aN 12:=by
 intro w0 b1 b5 v2 v4 v5 listed a w Q hs hI hi;obtain⟨o,ho,hd,hop,hg⟩:=aS so_12;have ht1:=hI.t1;have hc:w.cell? ⟨b1,0,none⟩=some (.func (Fn.func 53) #[] #[]):=hI.k1.cell 0;exact aQ hs hI hi ho hg hd (by decide) (by decide) (v:=(.func (Fn.func 53) #[] #[])) (w':=w) (by simp only[execOp,hop];go_simp) (Below.refl _ _) (qB w)
theorem op_13:aN 13:=by
 intro w0 b1 b5 v2 v4 v5 listed a w Q hs hI hi;obtain⟨o,ho,hd,hop,hg⟩:=aS so_13;refine aQ hs hI hi ho hg hd (by decide) (by decide) (v:=.slice (some ⟨w.heap.size,0,none⟩) 1 1) (w':=w.alloc (.cells #[.int .i64 9] 3)) (by simp only[execOp,hop];go_simp) (ae _ _) ?_;exact⟨_,_,rfl,qP w 3 [9]⟩
theorem op_14:aN 14:=by
 intro w0 b1 b5 v2 v4 v5 listed a w Q hs hI hi;obtain⟨o,ho,hd,hop,hg⟩:=aS so_14;obtain⟨v,hv,A,c,rfl,hr⟩:=hI.get hi (j:=13) (u:=21) (by kernel_rfl) (by kernel_rfl);have he:=aM hv;exact kZ hs hI hi ho hg hd (by decide) (by decide) (f:=189) (args:=#[.slice A 1 c]) (by simp only[execOp,hop];go_simp) (sH A 1 c [9] w hr rfl (by omega))
theorem op_15:aN 15:=by
 intro w0 b1 b5 v2 v4 v5 listed a w Q hs hI hi;obtain⟨o,ho,hd,hop,hg⟩:=aS so_15;obtain⟨x0,hx0,hT0⟩:=hI.get hi (j:=14) (u:=22) (by kernel_rfl) (by kernel_rfl);have he0:=aM hx0;obtain⟨f0,c0,rfl⟩:=dI hT0;refine aQ hs hI hi ho hg hd (by decide) (by decide) (v:=.slice (some ⟨w.heap.size,0,none⟩) 1 1) (w':=w.alloc (.cells #[.func (Fn.func f0) #[] c0] 54)) (by simp only[execOp,hop];go_simp) (ae _ _) ?_;exact⟨_,_,rfl,kY w 54 [.func (Fn.func f0) #[] c0] [dH [9]] (.cons (hT0) .nil)⟩
theorem op_16:aN 16:=by
 intro w0 b1 b5 v2 v4 v5 listed a w Q hs hI hi;obtain⟨o,ho,hd,hop,hg⟩:=aS so_16;obtain⟨xt,hxt,lC⟩:=hI.get hi (j:=12) (u:=20) (by kernel_rfl) (by kernel_rfl);have het:=aM hxt;obtain⟨xk,hxk,A,c,rfl,hr⟩:=hI.get hi (j:=15) (u:=23) (by kernel_rfl) (by kernel_rfl);have Aj:=aM hxk;obtain⟨ft,ct,rfl⟩:=jM lC;refine aQ hs hI hi ho hg hd (by decide) (by decide) (v:=.agg #[.func (Fn.func ft) #[] ct,.slice A 1 c,.nilFunc,.int .i64 0]) (w':=w) (by simp only[execOp,hop];go_simp) (Below.refl _ _) ?_;exact⟨_,_,_,_,rfl,lC,hr,rfl⟩
theorem op_17:aN 17:=by
 intro w0 b1 b5 v2 v4 v5 listed a w Q hs hI hi;obtain⟨o,ho,hd,hop,hg⟩:=aS so_17;obtain⟨v,hv,hT⟩:=hI.get hi (j:=16) (u:=24) (by kernel_rfl) (by kernel_rfl);exact eY hs hI hi ho hg hd hop rfl (aM hv) (dE hi (by kernel_rfl)) rfl hT
theorem op_18:aN 18:=by
 intro w0 b1 b5 v2 v4 v5 listed a w Q hs hI hi;obtain⟨o,ho,hd,hop,hg⟩:=aS so_18;have ht1:=hI.t1;have hc:w.cell? ⟨b1,0,none⟩=some (.func (Fn.func 53) #[] #[]):=hI.k1.cell 0;exact aQ hs hI hi ho hg hd (by decide) (by decide) (v:=(.func (Fn.func 53) #[] #[])) (w':=w) (by simp only[execOp,hop];go_simp) (Below.refl _ _) (qB w)
theorem op_19:aN 19:=by
 intro w0 b1 b5 v2 v4 v5 listed a w Q hs hI hi;obtain⟨o,ho,hd,hop,hg⟩:=aS so_19;refine aQ hs hI hi ho hg hd (by decide) (by decide) (v:=.slice (some ⟨w.heap.size,0,none⟩) 1 1) (w':=w.alloc (.cells #[.int .i64 6] 3)) (by simp only[execOp,hop];go_simp) (ae _ _) ?_;exact⟨_,_,rfl,qP w 3 [6]⟩
theorem op_20:aN 20:=by
 intro w0 b1 b5 v2 v4 v5 listed a w Q hs hI hi;obtain⟨o,ho,hd,hop,hg⟩:=aS so_20;obtain⟨v,hv,A,c,rfl,hr⟩:=hI.get hi (j:=19) (u:=26) (by kernel_rfl) (by kernel_rfl);have he:=aM hv;exact kZ hs hI hi ho hg hd (by decide) (by decide) (f:=189) (args:=#[.slice A 1 c]) (by simp only[execOp,hop];go_simp) (sH A 1 c [6] w hr rfl (by omega))
theorem op_21:aN 21:=by
 intro w0 b1 b5 v2 v4 v5 listed a w Q hs hI hi;obtain⟨o,ho,hd,hop,hg⟩:=aS so_21;have ht:=hI.t4;exact aQ hs hI hi ho hg hd (by decide) (by decide) (v:=v4) (w':=w) (by simp only[execOp,hop];go_simp) (Below.refl _ _) hI.k4
theorem op_22:aN 22:=by
 intro w0 b1 b5 v2 v4 v5 listed a w Q hs hI hi;obtain⟨o,ho,hd,hop,hg⟩:=aS so_22;have ht:=hI.t2;exact aQ hs hI hi ho hg hd (by decide) (by decide) (v:=v2) (w':=w) (by simp only[execOp,hop];go_simp) (Below.refl _ _) hI.k2
theorem op_23:aN 23:=by
 intro w0 b1 b5 v2 v4 v5 listed a w Q hs hI hi;obtain⟨o,ho,hd,hop,hg⟩:=aS so_23;obtain⟨x0,hx0,hT0⟩:=hI.get hi (j:=20) (u:=27) (by kernel_rfl) (by kernel_rfl);have he0:=aM hx0;obtain⟨x1,hx1,hT1⟩:=hI.get hi (j:=21) (u:=28) (by kernel_rfl) (by kernel_rfl);have he1:=aM hx1;obtain⟨x2,hx2,mP⟩:=hI.get hi (j:=22) (u:=29) (by kernel_rfl) (by kernel_rfl);have he2:=aM hx2;obtain⟨f0,c0,rfl⟩:=dI hT0;obtain⟨f1,c1,rfl⟩:=dI hT1;obtain⟨f2,c2,rfl⟩:=dI mP;refine aQ hs hI hi ho hg hd (by decide) (by decide) (v:=.slice (some ⟨w.heap.size,0,none⟩) 3 3) (w':=w.alloc (.cells #[.func (Fn.func f0) #[] c0,.func (Fn.func f1) #[] c1,.func (Fn.func f2) #[] c2] 54)) (by simp only[execOp,hop];go_simp) (ae _ _) ?_;exact⟨_,_,rfl,kY w 54 [.func (Fn.func f0) #[] c0,.func (Fn.func f1) #[] c1,.func (Fn.func f2) #[] c2] [dH [6],jm eQ,dH [11]] (.cons (hT0) (.cons (hT1) (.cons (mP) .nil)))⟩
theorem op_24:aN 24:=by
 intro w0 b1 b5 v2 v4 v5 listed a w Q hs hI hi;obtain⟨o,ho,hd,hop,hg⟩:=aS so_24;obtain⟨xt,hxt,lC⟩:=hI.get hi (j:=18) (u:=25) (by kernel_rfl) (by kernel_rfl);have het:=aM hxt;obtain⟨xk,hxk,A,c,rfl,hr⟩:=hI.get hi (j:=23) (u:=30) (by kernel_rfl) (by kernel_rfl);have Aj:=aM hxk;obtain⟨ft,ct,rfl⟩:=jM lC;refine aQ hs hI hi ho hg hd (by decide) (by decide) (v:=.agg #[.func (Fn.func ft) #[] ct,.slice A 3 c,.nilFunc,.int .i64 0]) (w':=w) (by simp only[execOp,hop];go_simp) (Below.refl _ _) ?_;exact⟨_,_,_,_,rfl,lC,hr,rfl⟩
theorem op_25:aN 25:=by
 intro w0 b1 b5 v2 v4 v5 listed a w Q hs hI hi;obtain⟨o,ho,hd,hop,hg⟩:=aS so_25;obtain⟨v,hv,hT⟩:=hI.get hi (j:=24) (u:=31) (by kernel_rfl) (by kernel_rfl);exact eY hs hI hi ho hg hd hop rfl (aM hv) (dE hi (by kernel_rfl)) rfl hT
theorem op_26:aN 26:=by
 intro w0 b1 b5 v2 v4 v5 listed a w Q hs hI hi;obtain⟨o,ho,hd,hop,hg⟩:=aS so_26;refine aQ hs hI hi ho hg hd (by decide) (by decide) (v:=.slice (some ⟨w.heap.size,0,none⟩) 2 2) (w':=w.alloc (.cells #[.int .i64 7,.int .i64 8] 3)) (by simp only[execOp,hop];go_simp) (ae _ _) ?_;exact⟨_,_,rfl,qP w 3 [7,8]⟩
theorem op_27:aN 27:=by
 intro w0 b1 b5 v2 v4 v5 listed a w Q hs hI hi;obtain⟨o,ho,hd,hop,hg⟩:=aS so_27;obtain⟨v,hv,A,c,rfl,hr⟩:=hI.get hi (j:=26) (u:=32) (by kernel_rfl) (by kernel_rfl);have he:=aM hv;exact kZ hs hI hi ho hg hd (by decide) (by decide) (f:=189) (args:=#[.slice A 2 c]) (by simp only[execOp,hop];go_simp) (sH A 2 c [7,8] w hr rfl (by omega))
theorem op_28:aN 28:=by
 intro w0 b1 b5 v2 v4 v5 listed a w Q hs hI hi;obtain⟨o,ho,hd,hop,hg⟩:=aS so_28;obtain⟨xl,hxl,yC⟩:=hI.get hi (j:=27) (u:=33) (by kernel_rfl) (by kernel_rfl);have hel:=aM hxl;obtain⟨fl,cl,rfl⟩:=dI yC;refine aQ hs hI hi ho hg hd (by decide) (by decide) (v:=.agg #[.func (Fn.func 194) #[] #[],.slice none 0 0,.func (Fn.func fl) #[] cl,.int .i64 0]) (w':=w) (by simp only[execOp,hop];go_simp) (Below.refl _ _) ?_;exact⟨_,_,_,_,rfl,oL w,(by intro i p h;simp at h),yC⟩
theorem op_29:aN 29:=by
 intro w0 b1 b5 v2 v4 v5 listed a w Q hs hI hi;obtain⟨o,ho,hd,hop,hg⟩:=aS so_29;obtain⟨v,hv,hT⟩:=hI.get hi (j:=28) (u:=34) (by kernel_rfl) (by kernel_rfl);exact eY hs hI hi ho hg hd hop rfl (aM hv) (dE hi (by kernel_rfl)) rfl hT
theorem op_30:aN 30:=by
 intro w0 b1 b5 v2 v4 v5 listed a w Q hs hI hi;obtain⟨o,ho,hd,hop,hg⟩:=aS so_30;have ht1:=hI.t1;have hc:w.cell? ⟨b1,0,none⟩=some (.func (Fn.func 53) #[] #[]):=hI.k1.cell 0;exact aQ hs hI hi ho hg hd (by decide) (by decide) (v:=(.func (Fn.func 53) #[] #[])) (w':=w) (by simp only[execOp,hop];go_simp) (Below.refl _ _) (qB w)
theorem op_31:aN 31:=by
 intro w0 b1 b5 v2 v4 v5 listed a w Q hs hI hi;obtain⟨o,ho,hd,hop,hg⟩:=aS so_31;have ht:=hI.t4;exact aQ hs hI hi ho hg hd (by decide) (by decide) (v:=v4) (w':=w) (by simp only[execOp,hop];go_simp) (Below.refl _ _) hI.k4
theorem op_32:aN 32:=by
 intro w0 b1 b5 v2 v4 v5 listed a w Q hs hI hi;obtain⟨o,ho,hd,hop,hg⟩:=aS so_32;obtain⟨x0,hx0,hT0⟩:=hI.get hi (j:=31) (u:=36) (by kernel_rfl) (by kernel_rfl);have he0:=aM hx0;obtain⟨f0,c0,rfl⟩:=dI hT0;refine aQ hs hI hi ho hg hd (by decide) (by decide) (v:=.slice (some ⟨w.heap.size,0,none⟩) 1 1) (w':=w.alloc (.cells #[.func (Fn.func f0) #[] c0] 54)) (by simp only[execOp,hop];go_simp) (ae _ _) ?_;exact⟨_,_,rfl,kY w 54 [.func (Fn.func f0) #[] c0] [jm eQ] (.cons (hT0) .nil)⟩
theorem op_33:aN 33:=by
 intro w0 b1 b5 v2 v4 v5 listed a w Q hs hI hi;obtain⟨o,ho,hd,hop,hg⟩:=aS so_33;obtain⟨xt,hxt,lC⟩:=hI.get hi (j:=30) (u:=35) (by kernel_rfl) (by kernel_rfl);have het:=aM hxt;obtain⟨xk,hxk,A,c,rfl,hr⟩:=hI.get hi (j:=32) (u:=37) (by kernel_rfl) (by kernel_rfl);have Aj:=aM hxk;obtain⟨ft,ct,rfl⟩:=jM lC;refine aQ hs hI hi ho hg hd (by decide) (by decide) (v:=.agg #[.func (Fn.func ft) #[] ct,.slice A 1 c,.nilFunc,.int .i64 0]) (w':=w) (by simp only[execOp,hop];go_simp) (Below.refl _ _) ?_;exact⟨_,_,_,_,rfl,lC,hr,rfl⟩
theorem op_34:aN 34:=by
 intro w0 b1 b5 v2 v4 v5 listed a w Q hs hI hi;obtain⟨o,ho,hd,hop,hg⟩:=aS so_34;obtain⟨v,hv,hT⟩:=hI.get hi (j:=33) (u:=38) (by kernel_rfl) (by kernel_rfl);exact eY hs hI hi ho hg hd hop rfl (aM hv) (dE hi (by kernel_rfl)) rfl hT
theorem op_35:aN 35:=by
 intro w0 b1 b5 v2 v4 v5 listed a w Q hs hI hi;obtain⟨o,ho,hd,hop,hg⟩:=aS so_35;have ht1:=hI.t1;have hc:w.cell? ⟨b1,0,none⟩=some (.func (Fn.func 53) #[] #[]):=hI.k1.cell 0;exact aQ hs hI hi ho hg hd (by decide) (by decide) (v:=(.func (Fn.func 53) #[] #[])) (w':=w) (by simp only[execOp,hop];go_simp) (Below.refl _ _) (qB w)
theorem op_36:aN 36:=by
 intro w0 b1 b5 v2 v4 v5 listed a w Q hs hI hi;obtain⟨o,ho,hd,hop,hg⟩:=aS so_36;have ht:=hI.t4;exact aQ hs hI hi ho hg hd (by decide) (by decide) (v:=v4) (w':=w) (by simp only[execOp,hop];go_simp) (Below.refl _ _) hI.k4
theorem op_37:aN 37:=by
 intro w0 b1 b5 v2 v4 v5 listed a w Q hs hI hi;obtain⟨o,ho,hd,hop,hg⟩:=aS so_37;obtain⟨x0,hx0,hT0⟩:=hI.get hi (j:=36) (u:=40) (by kernel_rfl) (by kernel_rfl);have he0:=aM hx0;obtain⟨f0,c0,rfl⟩:=dI hT0;refine aQ hs hI hi ho hg hd (by decide) (by decide) (v:=.slice (some ⟨w.heap.size,0,none⟩) 1 1) (w':=w.alloc (.cells #[.func (Fn.func f0) #[] c0] 54)) (by simp only[execOp,hop];go_simp) (ae _ _) ?_;exact⟨_,_,rfl,kY w 54 [.func (Fn.func f0) #[] c0] [jm eQ] (.cons (hT0) .nil)⟩
theorem op_38:aN 38:=by
 intro w0 b1 b5 v2 v4 v5 listed a w Q hs hI hi;obtain⟨o,ho,hd,hop,hg⟩:=aS so_38;obtain⟨xt,hxt,lC⟩:=hI.get hi (j:=35) (u:=39) (by kernel_rfl) (by kernel_rfl);have het:=aM hxt;obtain⟨xk,hxk,A,c,rfl,hr⟩:=hI.get hi (j:=37) (u:=41) (by kernel_rfl) (by kernel_rfl);have Aj:=aM hxk;obtain⟨ft,ct,rfl⟩:=jM lC;refine aQ hs hI hi ho hg hd (by decide) (by decide) (v:=.agg #[.func (Fn.func ft) #[] ct,.slice A 1 c,.nilFunc,.int .i64 0]) (w':=w) (by simp only[execOp,hop];go_simp) (Below.refl _ _) ?_;exact⟨_,_,_,_,rfl,lC,hr,rfl⟩
theorem op_39:aN 39:=by
 intro w0 b1 b5 v2 v4 v5 listed a w Q hs hI hi;obtain⟨o,ho,hd,hop,hg⟩:=aS so_39;obtain⟨v,hv,hT⟩:=hI.get hi (j:=38) (u:=42) (by kernel_rfl) (by kernel_rfl);exact eY hs hI hi ho hg hd hop rfl (aM hv) (dE hi (by kernel_rfl)) rfl hT
theorem op_40:aN 40:=by
 intro w0 b1 b5 v2 v4 v5 listed a w Q hs hI hi;obtain⟨o,ho,hd,hop,hg⟩:=aS so_40;have ht1:=hI.t1;have ht5:=hI.t5;exact aQ hs hI hi ho hg hd (by decide) (by decide) (v:=.func (Fn.func 195) #[] #[.pointer (some ⟨b5,0,none⟩),.pointer (some ⟨b1,0,none⟩)]) (w':=w) (by simp only[execOp,hop];go_simp) (Below.refl _ _) (Xc w b5 b1 v5 _ _ _ hI.q5 (qB w) hI.k5 hI.k1)
theorem op_41:aN 41:=by
 intro w0 b1 b5 v2 v4 v5 listed a w Q hs hI hi;obtain⟨o,ho,hd,hop,hg⟩:=aS so_41;obtain⟨xt,hxt,lC⟩:=hI.get hi (j:=40) (u:=43) (by kernel_rfl) (by kernel_rfl);have het:=aM hxt;obtain⟨ft,ct,rfl⟩:=jM lC;refine aQ hs hI hi ho hg hd (by decide) (by decide) (v:=.agg #[.func (Fn.func ft) #[] ct,.slice none 0 0,.nilFunc,.int .i64 0]) (w':=w) (by simp only[execOp,hop];go_simp) (Below.refl _ _) ?_;exact⟨_,_,_,_,rfl,lC,(by intro i p h;simp at h),rfl⟩
theorem op_42:aN 42:=by
 intro w0 b1 b5 v2 v4 v5 listed a w Q hs hI hi;obtain⟨o,ho,hd,hop,hg⟩:=aS so_42;obtain⟨v,hv,hT⟩:=hI.get hi (j:=41) (u:=44) (by kernel_rfl) (by kernel_rfl);exact eY hs hI hi ho hg hd hop rfl (aM hv) (dE hi (by kernel_rfl)) rfl hT
theorem op_43:aN 43:=by
 intro w0 b1 b5 v2 v4 v5 listed a w Q hs hI hi;obtain⟨o,ho,hd,hop,hg⟩:=aS so_43;refine aQ hs hI hi ho hg hd (by decide) (by decide) (v:=.agg #[.func (Fn.func 196) #[] #[],.slice none 0 0,.nilFunc,.int .i64 0]) (w':=w) (by simp only[execOp,hop];go_simp) (Below.refl _ _) ?_;exact⟨_,_,_,_,rfl,Ml w,(by intro i p h;simp at h),rfl⟩
theorem op_44:aN 44:=by
 intro w0 b1 b5 v2 v4 v5 listed a w Q hs hI hi;obtain⟨o,ho,hd,hop,hg⟩:=aS so_44;obtain⟨v,hv,hT⟩:=hI.get hi (j:=43) (u:=45) (by kernel_rfl) (by kernel_rfl);exact eY hs hI hi ho hg hd hop rfl (aM hv) (dE hi (by kernel_rfl)) rfl hT
theorem op_45:aN 45:=by
 intro w0 b1 b5 v2 v4 v5 listed a w Q hs hI hi;obtain⟨o,ho,hd,hop,hg⟩:=aS so_45;refine aQ hs hI hi ho hg hd (by decide) (by decide) (v:=.agg #[.func (Fn.func 194) #[] #[],.slice none 0 0,.func (Fn.func 197) #[] #[],.int .i64 0]) (w':=w) (by simp only[execOp,hop];go_simp) (Below.refl _ _) ?_;exact⟨_,_,_,_,rfl,oL w,(by intro i p h;simp at h),Wp w⟩
theorem op_46:aN 46:=by
 intro w0 b1 b5 v2 v4 v5 listed a w Q hs hI hi;obtain⟨o,ho,hd,hop,hg⟩:=aS so_46;obtain⟨v,hv,hT⟩:=hI.get hi (j:=45) (u:=46) (by kernel_rfl) (by kernel_rfl);exact eY hs hI hi ho hg hd hop rfl (aM hv) (dE hi (by kernel_rfl)) rfl hT
theorem op_47:aN 47:=by
 intro w0 b1 b5 v2 v4 v5 listed a w Q hs hI hi;obtain⟨o,ho,hd,hop,hg⟩:=aS so_47;have ht1:=hI.t1;have hc:w.cell? ⟨b1,0,none⟩=some (.func (Fn.func 53) #[] #[]):=hI.k1.cell 0;exact aQ hs hI hi ho hg hd (by decide) (by decide) (v:=(.func (Fn.func 53) #[] #[])) (w':=w) (by simp only[execOp,hop];go_simp) (Below.refl _ _) (qB w)
end Go.Proofs.YtoepemlnlpamlaaGreat
