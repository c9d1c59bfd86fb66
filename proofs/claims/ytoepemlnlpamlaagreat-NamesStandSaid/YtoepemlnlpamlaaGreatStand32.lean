/- The law NamesStand holds: for every text and every number the law returns true, and its arguments read as before. No condition. Part 32: Shp7 Shp8. -/
import Derived.Laws.EntriesVeiled
import Derived.Test.YtoepemlnlpamlaaGreatStand29
import Derived.Test.YtoepemlnlpamlaaGreatStand30
import Derived.Test.YtoepemlnlpamlaaGreatStand31
set_option maxRecDepth 100000
set_option maxHeartbeats 4000000
namespace Go.Proofs.YtoepemlnlpamlaaGreat
open Go.RowKit
theorem so_96:((aG Tryz.f141 4).toArray[96]?).map (fun o=>(o.dst,o.op,o.guard))=some (some 87,Op.buildSlice 195 2 #[(0,Operand.tmp 85),(1,Operand.tmp 86)],none):=by kernel_rfl
theorem so_97:((aG Tryz.f141 4).toArray[97]?).map (fun o=>(o.dst,o.op,o.guard))=some (some 88,Op.build 197 #[(0,Operand.func 194),(1,Operand.tmp 87)],none):=by kernel_rfl
theorem so_98:((aG Tryz.f141 4).toArray[98]?).map (fun o=>(o.dst,o.op,o.guard))=some (none,Op.insert 191 (Operand.tmp 11) (Operand.const (Value.int IntKind.i64 21)) (Operand.tmp 88),none):=by kernel_rfl
theorem so_99:((aG Tryz.f141 4).toArray[99]?).map (fun o=>(o.dst,o.op,o.guard))=some (some 89,Op.load 99 (Operand.tmp 1),none):=by kernel_rfl
theorem so_100:((aG Tryz.f141 4).toArray[100]?).map (fun o=>(o.dst,o.op,o.guard))=some (some 90,Op.buildSlice 28 1 #[(0,Operand.const (Value.int IntKind.i64 20))],none):=by kernel_rfl
theorem so_101:((aG Tryz.f141 4).toArray[101]?).map (fun o=>(o.dst,o.op,o.guard))=some (some 91,Op.call { callee:=Callee.value (Operand.func 189),args:=#[Operand.tmp 90],argTypes:=#[28] },none):=by kernel_rfl
theorem so_102:((aG Tryz.f141 4).toArray[102]?).map (fun o=>(o.dst,o.op,o.guard))=some (some 92,Op.buildSlice 195 1 #[(0,Operand.tmp 91)],none):=by kernel_rfl
theorem so_103:((aG Tryz.f141 4).toArray[103]?).map (fun o=>(o.dst,o.op,o.guard))=some (some 93,Op.build 197 #[(0,Operand.tmp 89),(1,Operand.tmp 92)],none):=by kernel_rfl
theorem so_104:((aG Tryz.f141 4).toArray[104]?).map (fun o=>(o.dst,o.op,o.guard))=some (none,Op.insert 191 (Operand.tmp 11) (Operand.const (Value.int IntKind.i64 22)) (Operand.tmp 93),none):=by kernel_rfl
theorem so_105:((aG Tryz.f141 4).toArray[105]?).map (fun o=>(o.dst,o.op,o.guard))=some (some 94,Op.buildSlice 28 1 #[(0,Operand.const (Value.int IntKind.i64 20))],none):=by kernel_rfl
theorem so_106:((aG Tryz.f141 4).toArray[106]?).map (fun o=>(o.dst,o.op,o.guard))=some (some 95,Op.call { callee:=Callee.value (Operand.func 189),args:=#[Operand.tmp 94],argTypes:=#[28] },none):=by kernel_rfl
theorem so_107:((aG Tryz.f141 4).toArray[107]?).map (fun o=>(o.dst,o.op,o.guard))=some (some 96,Op.buildSlice 195 1 #[(0,Operand.tmp 95)],none):=by kernel_rfl
theorem so_108:((aG Tryz.f141 4).toArray[108]?).map (fun o=>(o.dst,o.op,o.guard))=some (some 97,Op.build 197 #[(0,Operand.func 194),(1,Operand.tmp 96)],none):=by kernel_rfl
theorem so_109:((aG Tryz.f141 4).toArray[109]?).map (fun o=>(o.dst,o.op,o.guard))=some (none,Op.insert 191 (Operand.tmp 11) (Operand.const (Value.int IntKind.i64 23)) (Operand.tmp 97),none):=by kernel_rfl
theorem so_110:((aG Tryz.f141 4).toArray[110]?).map (fun o=>(o.dst,o.op,o.guard))=some (some 98,Op.build 197 #[(0,Operand.func 196)],none):=by kernel_rfl
theorem so_111:((aG Tryz.f141 4).toArray[111]?).map (fun o=>(o.dst,o.op,o.guard))=some (none,Op.insert 191 (Operand.tmp 11) (Operand.const (Value.int IntKind.i64 24)) (Operand.tmp 98),none):=by kernel_rfl
theorem so_112:((aG Tryz.f141 4).toArray[112]?).map (fun o=>(o.dst,o.op,o.guard))=some (some 99,Op.buildSlice 41 2 #[(0,Operand.const (Value.string { data:=#[116,114,117,101] })),(1,Operand.const (Value.string { data:=#[102,97,108,115,101] }))],none):=by kernel_rfl
theorem so_113:((aG Tryz.f141 4).toArray[113]?).map (fun o=>(o.dst,o.op,o.guard))=some (some 100,Op.call { callee:=Callee.value (Operand.func 193),args:=#[Operand.tmp 99],argTypes:=#[41] },none):=by kernel_rfl
theorem so_114:((aG Tryz.f141 4).toArray[114]?).map (fun o=>(o.dst,o.op,o.guard))=some (some 101,Op.build 197 #[(0,Operand.tmp 100)],none):=by kernel_rfl
theorem so_115:((aG Tryz.f141 4).toArray[115]?).map (fun o=>(o.dst,o.op,o.guard))=some (none,Op.insert 191 (Operand.tmp 11) (Operand.const (Value.int IntKind.i64 25)) (Operand.tmp 101),none):=by kernel_rfl
theorem so_116:((aG Tryz.f141 4).toArray[116]?).map (fun o=>(o.dst,o.op,o.guard))=some (some 102,Op.move (Operand.tmp 3),none):=by kernel_rfl
theorem so_117:((aG Tryz.f141 4).toArray[117]?).map (fun o=>(o.dst,o.op,o.guard))=some (some 103,Op.build 197 #[(0,Operand.func 194),(2,Operand.tmp 102),(3,Operand.const (Value.int IntKind.i64 1))],none):=by kernel_rfl
theorem so_118:((aG Tryz.f141 4).toArray[118]?).map (fun o=>(o.dst,o.op,o.guard))=some (none,Op.insert 191 (Operand.tmp 11) (Operand.const (Value.int IntKind.i64 26)) (Operand.tmp 103),none):=by kernel_rfl
theorem so_119:((aG Tryz.f141 4).toArray[119]?).map (fun o=>(o.dst,o.op,o.guard))=some (some 104,Op.load 99 (Operand.tmp 1),none):=by kernel_rfl
theorem so_120:((aG Tryz.f141 4).toArray[120]?).map (fun o=>(o.dst,o.op,o.guard))=some (some 105,Op.move (Operand.tmp 3),none):=by kernel_rfl
theorem so_121:((aG Tryz.f141 4).toArray[121]?).map (fun o=>(o.dst,o.op,o.guard))=some (some 106,Op.build 197 #[(0,Operand.tmp 104),(2,Operand.tmp 105)],none):=by kernel_rfl
theorem so_122:((aG Tryz.f141 4).toArray[122]?).map (fun o=>(o.dst,o.op,o.guard))=some (none,Op.insert 191 (Operand.tmp 11) (Operand.const (Value.int IntKind.i64 27)) (Operand.tmp 106),none):=by kernel_rfl
theorem so_123:((aG Tryz.f141 4).toArray[123]?).map (fun o=>(o.dst,o.op,o.guard))=some (some 107,Op.buildSlice 41 2 #[(0,Operand.const (Value.string { data:=#[45] })),(1,Operand.const (Value.string { data:=#[110,111,116] }))],none):=by kernel_rfl
theorem so_124:((aG Tryz.f141 4).toArray[124]?).map (fun o=>(o.dst,o.op,o.guard))=some (some 108,Op.call { callee:=Callee.value (Operand.func 193),args:=#[Operand.tmp 107],argTypes:=#[41] },none):=by kernel_rfl
theorem so_125:((aG Tryz.f141 4).toArray[125]?).map (fun o=>(o.dst,o.op,o.guard))=some (some 109,Op.move (Operand.tmp 3),none):=by kernel_rfl
theorem so_126:((aG Tryz.f141 4).toArray[126]?).map (fun o=>(o.dst,o.op,o.guard))=some (some 110,Op.buildSlice 195 1 #[(0,Operand.tmp 109)],none):=by kernel_rfl
theorem so_127:((aG Tryz.f141 4).toArray[127]?).map (fun o=>(o.dst,o.op,o.guard))=some (some 111,Op.build 197 #[(0,Operand.tmp 108),(1,Operand.tmp 110)],none):=by kernel_rfl
theorem so_128:((aG Tryz.f141 4).toArray[128]?).map (fun o=>(o.dst,o.op,o.guard))=some (none,Op.insert 191 (Operand.tmp 11) (Operand.const (Value.int IntKind.i64 28)) (Operand.tmp 111),none):=by kernel_rfl
theorem so_129:((aG Tryz.f141 4).toArray[129]?).map (fun o=>(o.dst,o.op,o.guard))=some (some 112,Op.buildSlice 41 13 #[(0,Operand.const (Value.string { data:=#[111,114] })),(1,Operand.const (Value.string { data:=#[97,110,100] })),(2,Operand.const (Value.string { data:=#[61,61] })),(3,Operand.const (Value.string { data:=#[33,61] })),(4,Operand.const (Value.string { data:=#[60] })),(5,Operand.const (Value.string { data:=#[60,61] })),(6,Operand.const (Value.string { data:=#[62] })),(7,Operand.const (Value.string { data:=#[62,61] })),(8,Operand.const (Value.string { data:=#[43] })),(9,Operand.const (Value.string { data:=#[45] })),(10,Operand.const (Value.string { data:=#[42] })),(11,Operand.const (Value.string { data:=#[47] })),(12,Operand.const (Value.string { data:=#[37] }))],none):=by kernel_rfl
theorem so_130:((aG Tryz.f141 4).toArray[130]?).map (fun o=>(o.dst,o.op,o.guard))=some (some 113,Op.call { callee:=Callee.value (Operand.func 193),args:=#[Operand.tmp 112],argTypes:=#[41] },none):=by kernel_rfl
theorem so_131:((aG Tryz.f141 4).toArray[131]?).map (fun o=>(o.dst,o.op,o.guard))=some (some 114,Op.move (Operand.tmp 3),none):=by kernel_rfl
theorem so_132:((aG Tryz.f141 4).toArray[132]?).map (fun o=>(o.dst,o.op,o.guard))=some (some 115,Op.move (Operand.tmp 3),none):=by kernel_rfl
theorem so_133:((aG Tryz.f141 4).toArray[133]?).map (fun o=>(o.dst,o.op,o.guard))=some (some 116,Op.buildSlice 195 2 #[(0,Operand.tmp 114),(1,Operand.tmp 115)],none):=by kernel_rfl
theorem so_134:((aG Tryz.f141 4).toArray[134]?).map (fun o=>(o.dst,o.op,o.guard))=some (some 117,Op.build 197 #[(0,Operand.tmp 113),(1,Operand.tmp 116)],none):=by kernel_rfl
theorem so_135:((aG Tryz.f141 4).toArray[135]?).map (fun o=>(o.dst,o.op,o.guard))=some (none,Op.insert 191 (Operand.tmp 11) (Operand.const (Value.int IntKind.i64 29)) (Operand.tmp 117),none):=by kernel_rfl
theorem so_136:((aG Tryz.f141 4).toArray[136]?).map (fun o=>(o.dst,o.op,o.guard))=some (some 118,Op.move (Operand.tmp 11),none):=by kernel_rfl
theorem so_137:((aG Tryz.f141 4).toArray[137]?).map (fun o=>(o.dst,o.op,o.guard))=some (some 0,Op.assign (Operand.tmp 118),none):=by kernel_rfl
theorem op_96:aN 96:=by
 intro w0 b1 b5 v2 v4 v5 listed a w Q hs hI hi;obtain⟨o,ho,hd,hop,hg⟩:=aS so_96;obtain⟨x0,hx0,hT0⟩:=hI.get hi (j:=94) (u:=85) (by kernel_rfl) (by kernel_rfl);have he0:=aM hx0;obtain⟨x1,hx1,hT1⟩:=hI.get hi (j:=95) (u:=86) (by kernel_rfl) (by kernel_rfl);have he1:=aM hx1;obtain⟨f0,c0,rfl⟩:=dI hT0;obtain⟨f1,c1,rfl⟩:=dI hT1;refine aQ hs hI hi ho hg hd (by decide) (by decide) (v:=.slice (some ⟨w.heap.size,0,none⟩) 2 2) (w':=w.alloc (.cells #[.func (Fn.func f0) #[] c0,.func (Fn.func f1) #[] c1] 54)) (by simp only[execOp,hop];go_simp) (ae _ _) ?_;exact⟨_,_,rfl,kY w 54 [.func (Fn.func f0) #[] c0,.func (Fn.func f1) #[] c1] [dH [20],bA] (.cons (hT0) (.cons (hT1) .nil))⟩
theorem op_97:aN 97:=by
 intro w0 b1 b5 v2 v4 v5 listed a w Q hs hI hi;obtain⟨o,ho,hd,hop,hg⟩:=aS so_97;obtain⟨xk,hxk,A,c,rfl,hr⟩:=hI.get hi (j:=96) (u:=87) (by kernel_rfl) (by kernel_rfl);have Aj:=aM hxk;refine aQ hs hI hi ho hg hd (by decide) (by decide) (v:=.agg #[.func (Fn.func 194) #[] #[],.slice A 2 c,.nilFunc,.int .i64 0]) (w':=w) (by simp only[execOp,hop];go_simp) (Below.refl _ _) ?_;exact⟨_,_,_,_,rfl,oL w,hr,rfl⟩
theorem op_98:aN 98:=by
 intro w0 b1 b5 v2 v4 v5 listed a w Q hs hI hi;obtain⟨o,ho,hd,hop,hg⟩:=aS so_98;obtain⟨v,hv,hT⟩:=hI.get hi (j:=97) (u:=88) (by kernel_rfl) (by kernel_rfl);exact eY hs hI hi ho hg hd hop rfl (aM hv) (dE hi (by kernel_rfl)) rfl hT
theorem op_99:aN 99:=by
 intro w0 b1 b5 v2 v4 v5 listed a w Q hs hI hi;obtain⟨o,ho,hd,hop,hg⟩:=aS so_99;have ht1:=hI.t1;have hc:w.cell? ⟨b1,0,none⟩=some (.func (Fn.func 53) #[] #[]):=hI.k1.cell 0;exact aQ hs hI hi ho hg hd (by decide) (by decide) (v:=(.func (Fn.func 53) #[] #[])) (w':=w) (by simp only[execOp,hop];go_simp) (Below.refl _ _) (qB w)
theorem op_100:aN 100:=by
 intro w0 b1 b5 v2 v4 v5 listed a w Q hs hI hi;obtain⟨o,ho,hd,hop,hg⟩:=aS so_100;refine aQ hs hI hi ho hg hd (by decide) (by decide) (v:=.slice (some ⟨w.heap.size,0,none⟩) 1 1) (w':=w.alloc (.cells #[.int .i64 20] 3)) (by simp only[execOp,hop];go_simp) (ae _ _) ?_;exact⟨_,_,rfl,qP w 3 [20]⟩
theorem op_101:aN 101:=by
 intro w0 b1 b5 v2 v4 v5 listed a w Q hs hI hi;obtain⟨o,ho,hd,hop,hg⟩:=aS so_101;obtain⟨v,hv,A,c,rfl,hr⟩:=hI.get hi (j:=100) (u:=90) (by kernel_rfl) (by kernel_rfl);have he:=aM hv;exact kZ hs hI hi ho hg hd (by decide) (by decide) (f:=189) (args:=#[.slice A 1 c]) (by simp only[execOp,hop];go_simp) (sH A 1 c [20] w hr rfl (by omega))
theorem op_102:aN 102:=by
 intro w0 b1 b5 v2 v4 v5 listed a w Q hs hI hi;obtain⟨o,ho,hd,hop,hg⟩:=aS so_102;obtain⟨x0,hx0,hT0⟩:=hI.get hi (j:=101) (u:=91) (by kernel_rfl) (by kernel_rfl);have he0:=aM hx0;obtain⟨f0,c0,rfl⟩:=dI hT0;refine aQ hs hI hi ho hg hd (by decide) (by decide) (v:=.slice (some ⟨w.heap.size,0,none⟩) 1 1) (w':=w.alloc (.cells #[.func (Fn.func f0) #[] c0] 54)) (by simp only[execOp,hop];go_simp) (ae _ _) ?_;exact⟨_,_,rfl,kY w 54 [.func (Fn.func f0) #[] c0] [dH [20]] (.cons (hT0) .nil)⟩
theorem op_103:aN 103:=by
 intro w0 b1 b5 v2 v4 v5 listed a w Q hs hI hi;obtain⟨o,ho,hd,hop,hg⟩:=aS so_103;obtain⟨xt,hxt,lC⟩:=hI.get hi (j:=99) (u:=89) (by kernel_rfl) (by kernel_rfl);have het:=aM hxt;obtain⟨xk,hxk,A,c,rfl,hr⟩:=hI.get hi (j:=102) (u:=92) (by kernel_rfl) (by kernel_rfl);have Aj:=aM hxk;obtain⟨ft,ct,rfl⟩:=jM lC;refine aQ hs hI hi ho hg hd (by decide) (by decide) (v:=.agg #[.func (Fn.func ft) #[] ct,.slice A 1 c,.nilFunc,.int .i64 0]) (w':=w) (by simp only[execOp,hop];go_simp) (Below.refl _ _) ?_;exact⟨_,_,_,_,rfl,lC,hr,rfl⟩
theorem op_104:aN 104:=by
 intro w0 b1 b5 v2 v4 v5 listed a w Q hs hI hi;obtain⟨o,ho,hd,hop,hg⟩:=aS so_104;obtain⟨v,hv,hT⟩:=hI.get hi (j:=103) (u:=93) (by kernel_rfl) (by kernel_rfl);exact eY hs hI hi ho hg hd hop rfl (aM hv) (dE hi (by kernel_rfl)) rfl hT
theorem op_105:aN 105:=by
 intro w0 b1 b5 v2 v4 v5 listed a w Q hs hI hi;obtain⟨o,ho,hd,hop,hg⟩:=aS so_105;refine aQ hs hI hi ho hg hd (by decide) (by decide) (v:=.slice (some ⟨w.heap.size,0,none⟩) 1 1) (w':=w.alloc (.cells #[.int .i64 20] 3)) (by simp only[execOp,hop];go_simp) (ae _ _) ?_;exact⟨_,_,rfl,qP w 3 [20]⟩
theorem op_106:aN 106:=by
 intro w0 b1 b5 v2 v4 v5 listed a w Q hs hI hi;obtain⟨o,ho,hd,hop,hg⟩:=aS so_106;obtain⟨v,hv,A,c,rfl,hr⟩:=hI.get hi (j:=105) (u:=94) (by kernel_rfl) (by kernel_rfl);have he:=aM hv;exact kZ hs hI hi ho hg hd (by decide) (by decide) (f:=189) (args:=#[.slice A 1 c]) (by simp only[execOp,hop];go_simp) (sH A 1 c [20] w hr rfl (by omega))
theorem op_107:aN 107:=by
 intro w0 b1 b5 v2 v4 v5 listed a w Q hs hI hi;obtain⟨o,ho,hd,hop,hg⟩:=aS so_107;obtain⟨x0,hx0,hT0⟩:=hI.get hi (j:=106) (u:=95) (by kernel_rfl) (by kernel_rfl);have he0:=aM hx0;obtain⟨f0,c0,rfl⟩:=dI hT0;refine aQ hs hI hi ho hg hd (by decide) (by decide) (v:=.slice (some ⟨w.heap.size,0,none⟩) 1 1) (w':=w.alloc (.cells #[.func (Fn.func f0) #[] c0] 54)) (by simp only[execOp,hop];go_simp) (ae _ _) ?_;exact⟨_,_,rfl,kY w 54 [.func (Fn.func f0) #[] c0] [dH [20]] (.cons (hT0) .nil)⟩
theorem op_108:aN 108:=by
 intro w0 b1 b5 v2 v4 v5 listed a w Q hs hI hi;obtain⟨o,ho,hd,hop,hg⟩:=aS so_108;obtain⟨xk,hxk,A,c,rfl,hr⟩:=hI.get hi (j:=107) (u:=96) (by kernel_rfl) (by kernel_rfl);have Aj:=aM hxk;refine aQ hs hI hi ho hg hd (by decide) (by decide) (v:=.agg #[.func (Fn.func 194) #[] #[],.slice A 1 c,.nilFunc,.int .i64 0]) (w':=w) (by simp only[execOp,hop];go_simp) (Below.refl _ _) ?_;exact⟨_,_,_,_,rfl,oL w,hr,rfl⟩
theorem op_109:aN 109:=by
 intro w0 b1 b5 v2 v4 v5 listed a w Q hs hI hi;obtain⟨o,ho,hd,hop,hg⟩:=aS so_109;obtain⟨v,hv,hT⟩:=hI.get hi (j:=108) (u:=97) (by kernel_rfl) (by kernel_rfl);exact eY hs hI hi ho hg hd hop rfl (aM hv) (dE hi (by kernel_rfl)) rfl hT
theorem op_110:aN 110:=by
 intro w0 b1 b5 v2 v4 v5 listed a w Q hs hI hi;obtain⟨o,ho,hd,hop,hg⟩:=aS so_110;refine aQ hs hI hi ho hg hd (by decide) (by decide) (v:=.agg #[.func (Fn.func 196) #[] #[],.slice none 0 0,.nilFunc,.int .i64 0]) (w':=w) (by simp only[execOp,hop];go_simp) (Below.refl _ _) ?_;exact⟨_,_,_,_,rfl,Ml w,(by intro i p h;simp at h),rfl⟩
theorem op_111:aN 111:=by
 intro w0 b1 b5 v2 v4 v5 listed a w Q hs hI hi;obtain⟨o,ho,hd,hop,hg⟩:=aS so_111;obtain⟨v,hv,hT⟩:=hI.get hi (j:=110) (u:=98) (by kernel_rfl) (by kernel_rfl);exact eY hs hI hi ho hg hd hop rfl (aM hv) (dE hi (by kernel_rfl)) rfl hT
theorem op_112:aN 112:=by
 intro w0 b1 b5 v2 v4 v5 listed a w Q hs hI hi;obtain⟨o,ho,hd,hop,hg⟩:=aS so_112;refine aQ hs hI hi ho hg hd (by decide) (by decide) (v:=.slice (some ⟨w.heap.size,0,none⟩) 2 2) (w':=w.alloc (.cells #[.string ⟨#[116,114,117,101]⟩,.string ⟨#[102,97,108,115,101]⟩] 9)) (by simp only[execOp,hop];go_simp) (ae _ _) ?_;exact⟨_,_,rfl,Bu w 9 BJ⟩
theorem op_113:aN 113:=by
 intro w0 b1 b5 v2 v4 v5 listed a w Q hs hI hi;obtain⟨o,ho,hd,hop,hg⟩:=aS so_113;obtain⟨v,hv,A,c,rfl,hr⟩:=hI.get hi (j:=112) (u:=99) (by kernel_rfl) (by kernel_rfl);have he:=aM hv;exact kZ hs hI hi ho hg hd (by decide) (by decide) (f:=193) (args:=#[.slice A (BJ.length) c]) (by simp only[execOp,hop];go_simp) (CP A (BJ.length) c BJ w hr rfl (by decide))
theorem op_114:aN 114:=by
 intro w0 b1 b5 v2 v4 v5 listed a w Q hs hI hi;obtain⟨o,ho,hd,hop,hg⟩:=aS so_114;obtain⟨xt,hxt,lC⟩:=hI.get hi (j:=113) (u:=100) (by kernel_rfl) (by kernel_rfl);have het:=aM hxt;obtain⟨ft,ct,rfl⟩:=jM lC;refine aQ hs hI hi ho hg hd (by decide) (by decide) (v:=.agg #[.func (Fn.func ft) #[] ct,.slice none 0 0,.nilFunc,.int .i64 0]) (w':=w) (by simp only[execOp,hop];go_simp) (Below.refl _ _) ?_;exact⟨_,_,_,_,rfl,lC,(by intro i p h;simp at h),rfl⟩
theorem op_115:aN 115:=by
 intro w0 b1 b5 v2 v4 v5 listed a w Q hs hI hi;obtain⟨o,ho,hd,hop,hg⟩:=aS so_115;obtain⟨v,hv,hT⟩:=hI.get hi (j:=114) (u:=101) (by kernel_rfl) (by kernel_rfl);exact eY hs hI hi ho hg hd hop rfl (aM hv) (dE hi (by kernel_rfl)) rfl hT
theorem op_116:aN 116:=by
 intro w0 b1 b5 v2 v4 v5 listed a w Q hs hI hi;obtain⟨o,ho,hd,hop,hg⟩:=aS so_116;have ht:=hI.t3;exact aQ hs hI hi ho hg hd (by decide) (by decide) (v:=(.func (Fn.func 190) #[] #[])) (w':=w) (by simp only[execOp,hop];go_simp) (Below.refl _ _) (kF w)
theorem op_117:aN 117:=by
 intro w0 b1 b5 v2 v4 v5 listed a w Q hs hI hi;obtain⟨o,ho,hd,hop,hg⟩:=aS so_117;obtain⟨xl,hxl,yC⟩:=hI.get hi (j:=116) (u:=102) (by kernel_rfl) (by kernel_rfl);have hel:=aM hxl;obtain⟨fl,cl,rfl⟩:=dI yC;refine aQ hs hI hi ho hg hd (by decide) (by decide) (v:=.agg #[.func (Fn.func 194) #[] #[],.slice none 0 0,.func (Fn.func fl) #[] cl,.int .i64 1]) (w':=w) (by simp only[execOp,hop];go_simp) (Below.refl _ _) ?_;exact⟨_,_,_,_,rfl,oL w,(by intro i p h;simp at h),yC⟩
theorem op_118:aN 118:=by
 intro w0 b1 b5 v2 v4 v5 listed a w Q hs hI hi;obtain⟨o,ho,hd,hop,hg⟩:=aS so_118;obtain⟨v,hv,hT⟩:=hI.get hi (j:=117) (u:=103) (by kernel_rfl) (by kernel_rfl);exact eY hs hI hi ho hg hd hop rfl (aM hv) (dE hi (by kernel_rfl)) rfl hT
theorem op_119:aN 119:=by
 intro w0 b1 b5 v2 v4 v5 listed a w Q hs hI hi;obtain⟨o,ho,hd,hop,hg⟩:=aS so_119;have ht1:=hI.t1;have hc:w.cell? ⟨b1,0,none⟩=some (.func (Fn.func 53) #[] #[]):=hI.k1.cell 0;exact aQ hs hI hi ho hg hd (by decide) (by decide) (v:=(.func (Fn.func 53) #[] #[])) (w':=w) (by simp only[execOp,hop];go_simp) (Below.refl _ _) (qB w)
theorem op_120:aN 120:=by
 intro w0 b1 b5 v2 v4 v5 listed a w Q hs hI hi;obtain⟨o,ho,hd,hop,hg⟩:=aS so_120;have ht:=hI.t3;exact aQ hs hI hi ho hg hd (by decide) (by decide) (v:=(.func (Fn.func 190) #[] #[])) (w':=w) (by simp only[execOp,hop];go_simp) (Below.refl _ _) (kF w)
theorem op_121:aN 121:=by
 intro w0 b1 b5 v2 v4 v5 listed a w Q hs hI hi;obtain⟨o,ho,hd,hop,hg⟩:=aS so_121;obtain⟨xt,hxt,lC⟩:=hI.get hi (j:=119) (u:=104) (by kernel_rfl) (by kernel_rfl);have het:=aM hxt;obtain⟨xl,hxl,yC⟩:=hI.get hi (j:=120) (u:=105) (by kernel_rfl) (by kernel_rfl);have hel:=aM hxl;obtain⟨ft,ct,rfl⟩:=jM lC;obtain⟨fl,cl,rfl⟩:=dI yC;refine aQ hs hI hi ho hg hd (by decide) (by decide) (v:=.agg #[.func (Fn.func ft) #[] ct,.slice none 0 0,.func (Fn.func fl) #[] cl,.int .i64 0]) (w':=w) (by simp only[execOp,hop];go_simp) (Below.refl _ _) ?_;exact⟨_,_,_,_,rfl,lC,(by intro i p h;simp at h),yC⟩
theorem op_122:aN 122:=by
 intro w0 b1 b5 v2 v4 v5 listed a w Q hs hI hi;obtain⟨o,ho,hd,hop,hg⟩:=aS so_122;obtain⟨v,hv,hT⟩:=hI.get hi (j:=121) (u:=106) (by kernel_rfl) (by kernel_rfl);exact eY hs hI hi ho hg hd hop rfl (aM hv) (dE hi (by kernel_rfl)) rfl hT
theorem op_123:aN 123:=by
 intro w0 b1 b5 v2 v4 v5 listed a w Q hs hI hi;obtain⟨o,ho,hd,hop,hg⟩:=aS so_123;refine aQ hs hI hi ho hg hd (by decide) (by decide) (v:=.slice (some ⟨w.heap.size,0,none⟩) 2 2) (w':=w.alloc (.cells #[.string ⟨#[45]⟩,.string ⟨#[110,111,116]⟩] 9)) (by simp only[execOp,hop];go_simp) (ae _ _) ?_;exact⟨_,_,rfl,Bu w 9 LZ⟩
theorem op_124:aN 124:=by
 intro w0 b1 b5 v2 v4 v5 listed a w Q hs hI hi;obtain⟨o,ho,hd,hop,hg⟩:=aS so_124;obtain⟨v,hv,A,c,rfl,hr⟩:=hI.get hi (j:=123) (u:=107) (by kernel_rfl) (by kernel_rfl);have he:=aM hv;exact kZ hs hI hi ho hg hd (by decide) (by decide) (f:=193) (args:=#[.slice A (LZ.length) c]) (by simp only[execOp,hop];go_simp) (CP A (LZ.length) c LZ w hr rfl (by decide))
theorem op_125:aN 125:=by
 intro w0 b1 b5 v2 v4 v5 listed a w Q hs hI hi;obtain⟨o,ho,hd,hop,hg⟩:=aS so_125;have ht:=hI.t3;exact aQ hs hI hi ho hg hd (by decide) (by decide) (v:=(.func (Fn.func 190) #[] #[])) (w':=w) (by simp only[execOp,hop];go_simp) (Below.refl _ _) (kF w)
theorem op_126:aN 126:=by
 intro w0 b1 b5 v2 v4 v5 listed a w Q hs hI hi;obtain⟨o,ho,hd,hop,hg⟩:=aS so_126;obtain⟨x0,hx0,hT0⟩:=hI.get hi (j:=125) (u:=109) (by kernel_rfl) (by kernel_rfl);have he0:=aM hx0;obtain⟨f0,c0,rfl⟩:=dI hT0;refine aQ hs hI hi ho hg hd (by decide) (by decide) (v:=.slice (some ⟨w.heap.size,0,none⟩) 1 1) (w':=w.alloc (.cells #[.func (Fn.func f0) #[] c0] 54)) (by simp only[execOp,hop];go_simp) (ae _ _) ?_;exact⟨_,_,rfl,kY w 54 [.func (Fn.func f0) #[] c0] [bA] (.cons (hT0) .nil)⟩
theorem op_127:aN 127:=by
 intro w0 b1 b5 v2 v4 v5 listed a w Q hs hI hi;obtain⟨o,ho,hd,hop,hg⟩:=aS so_127;obtain⟨xt,hxt,lC⟩:=hI.get hi (j:=124) (u:=108) (by kernel_rfl) (by kernel_rfl);have het:=aM hxt;obtain⟨xk,hxk,A,c,rfl,hr⟩:=hI.get hi (j:=126) (u:=110) (by kernel_rfl) (by kernel_rfl);have Aj:=aM hxk;obtain⟨ft,ct,rfl⟩:=jM lC;refine aQ hs hI hi ho hg hd (by decide) (by decide) (v:=.agg #[.func (Fn.func ft) #[] ct,.slice A 1 c,.nilFunc,.int .i64 0]) (w':=w) (by simp only[execOp,hop];go_simp) (Below.refl _ _) ?_;exact⟨_,_,_,_,rfl,lC,hr,rfl⟩
theorem op_128:aN 128:=by
 intro w0 b1 b5 v2 v4 v5 listed a w Q hs hI hi;obtain⟨o,ho,hd,hop,hg⟩:=aS so_128;obtain⟨v,hv,hT⟩:=hI.get hi (j:=127) (u:=111) (by kernel_rfl) (by kernel_rfl);exact eY hs hI hi ho hg hd hop rfl (aM hv) (dE hi (by kernel_rfl)) rfl hT
theorem op_129:aN 129:=by
 intro w0 b1 b5 v2 v4 v5 listed a w Q hs hI hi;obtain⟨o,ho,hd,hop,hg⟩:=aS so_129;refine aQ hs hI hi ho hg hd (by decide) (by decide) (v:=.slice (some ⟨w.heap.size,0,none⟩) 13 13) (w':=w.alloc (.cells #[.string ⟨#[111,114]⟩,.string ⟨#[97,110,100]⟩,.string ⟨#[61,61]⟩,.string ⟨#[33,61]⟩,.string ⟨#[60]⟩,.string ⟨#[60,61]⟩,.string ⟨#[62]⟩,.string ⟨#[62,61]⟩,.string ⟨#[43]⟩,.string ⟨#[45]⟩,.string ⟨#[42]⟩,.string ⟨#[47]⟩,.string ⟨#[37]⟩] 9)) (by simp only[execOp,hop];go_simp) (ae _ _) ?_;exact⟨_,_,rfl,Bu w 9 FD⟩
theorem op_130:aN 130:=by
 intro w0 b1 b5 v2 v4 v5 listed a w Q hs hI hi;obtain⟨o,ho,hd,hop,hg⟩:=aS so_130;obtain⟨v,hv,A,c,rfl,hr⟩:=hI.get hi (j:=129) (u:=112) (by kernel_rfl) (by kernel_rfl);have he:=aM hv;exact kZ hs hI hi ho hg hd (by decide) (by decide) (f:=193) (args:=#[.slice A (FD.length) c]) (by simp only[execOp,hop];go_simp) (CP A (FD.length) c FD w hr rfl (by decide))
theorem op_131:aN 131:=by
 intro w0 b1 b5 v2 v4 v5 listed a w Q hs hI hi;obtain⟨o,ho,hd,hop,hg⟩:=aS so_131;have ht:=hI.t3;exact aQ hs hI hi ho hg hd (by decide) (by decide) (v:=(.func (Fn.func 190) #[] #[])) (w':=w) (by simp only[execOp,hop];go_simp) (Below.refl _ _) (kF w)
theorem op_132:aN 132:=by
 intro w0 b1 b5 v2 v4 v5 listed a w Q hs hI hi;obtain⟨o,ho,hd,hop,hg⟩:=aS so_132;have ht:=hI.t3;exact aQ hs hI hi ho hg hd (by decide) (by decide) (v:=(.func (Fn.func 190) #[] #[])) (w':=w) (by simp only[execOp,hop];go_simp) (Below.refl _ _) (kF w)
theorem op_133:aN 133:=by
 intro w0 b1 b5 v2 v4 v5 listed a w Q hs hI hi;obtain⟨o,ho,hd,hop,hg⟩:=aS so_133;obtain⟨x0,hx0,hT0⟩:=hI.get hi (j:=131) (u:=114) (by kernel_rfl) (by kernel_rfl);have he0:=aM hx0;obtain⟨x1,hx1,hT1⟩:=hI.get hi (j:=132) (u:=115) (by kernel_rfl) (by kernel_rfl);have he1:=aM hx1;obtain⟨f0,c0,rfl⟩:=dI hT0;obtain⟨f1,c1,rfl⟩:=dI hT1;refine aQ hs hI hi ho hg hd (by decide) (by decide) (v:=.slice (some ⟨w.heap.size,0,none⟩) 2 2) (w':=w.alloc (.cells #[.func (Fn.func f0) #[] c0,.func (Fn.func f1) #[] c1] 54)) (by simp only[execOp,hop];go_simp) (ae _ _) ?_;exact⟨_,_,rfl,kY w 54 [.func (Fn.func f0) #[] c0,.func (Fn.func f1) #[] c1] [bA,bA] (.cons (hT0) (.cons (hT1) .nil))⟩
theorem op_134:aN 134:=by
 intro w0 b1 b5 v2 v4 v5 listed a w Q hs hI hi;obtain⟨o,ho,hd,hop,hg⟩:=aS so_134;obtain⟨xt,hxt,lC⟩:=hI.get hi (j:=130) (u:=113) (by kernel_rfl) (by kernel_rfl);have het:=aM hxt;obtain⟨xk,hxk,A,c,rfl,hr⟩:=hI.get hi (j:=133) (u:=116) (by kernel_rfl) (by kernel_rfl);have Aj:=aM hxk;obtain⟨ft,ct,rfl⟩:=jM lC;refine aQ hs hI hi ho hg hd (by decide) (by decide) (v:=.agg #[.func (Fn.func ft) #[] ct,.slice A 2 c,.nilFunc,.int .i64 0]) (w':=w) (by simp only[execOp,hop];go_simp) (Below.refl _ _) ?_;exact⟨_,_,_,_,rfl,lC,hr,rfl⟩
theorem op_135:aN 135:=by
 intro w0 b1 b5 v2 v4 v5 listed a w Q hs hI hi;obtain⟨o,ho,hd,hop,hg⟩:=aS so_135;obtain⟨v,hv,hT⟩:=hI.get hi (j:=134) (u:=117) (by kernel_rfl) (by kernel_rfl);exact eY hs hI hi ho hg hd hop rfl (aM hv) (dE hi (by kernel_rfl)) rfl hT
theorem op_136:aN 136:=by
 intro w0 b1 b5 v2 v4 v5 listed a w Q hs hI hi;obtain⟨o,ho,hd,hop,hg⟩:=aS so_136;have h0:listed.getD 0 false=true:=dE hi (by kernel_rfl);have hlt:136<listed.size:=by have:=(aae.1 ho).1;omega
 obtain⟨r,m,h1,h2,h3,h4,h5,h6,h7⟩:=hI.oH h0
 have hp:∀u,u≠118->(a.put o.dst (.map (some r))).tmps[u]? =a.tmps[u]? :=fun u hu=>by
  rw[hd];show(a.tmps.setIfInBounds 118 _)[u]? =_;rw[Array.getElem?_setIfInBounds_ne (Ne.symm hu)]
 refine zH (o:=o) ho hg ?_;unfold Oper.wp
 have hrun:(execOp a.eval o).run Tryz.prog w= .ok (.value (.map (some r))) w:=by
  simp only[execOp,hop];go_simp
 rw[hrun,Oper.upon_value];refine⟨?_,(hp 1 (by omega)).trans hI.t1,(hp 2 (by omega)).trans hI.t2,(hp 3 (by omega)).trans hI.t3,(hp 4 (by omega)).trans hI.t4,(hp 5 (by omega)).trans hI.t5,hI.k1,hI.k2,hI.k4,hI.k5,hI.q5,?_,?_,?_,hI.below,?_⟩
 ·rw[hd]
  show(a.tmps.setIfInBounds 118 _).size=119;simpa using hI.size
 ·exact hI.tmp.put hs (fun t v h=>h) (J3 Jz) ho hd (by rw[hI.size];omega) trivial
 ·intro _
  refine⟨r,m,(hp 11 (by omega)).trans h1,h2,h3,h4,fun j k hj hl=>?_,fun _=>?_,fun hl=>?_⟩
  ·have hne:j≠136:=by rintro rfl;cases hj
   rw[fC hne]at hl;exact h5 j k hj hl
  ·rw[hd]
   show(a.tmps.setIfInBounds 118 _)[118]? =_;simp[hI.size]
  ·rw[fC (by omega)]at hl
   exact(hp 0 (by omega)).trans (h7 hl)
 ·intro j hj hl
  rw[fC (by omega)];exact h0
 ·rw[hd]
  exact hI.defers
theorem op_137:aN 137:=by
 intro w0 b1 b5 v2 v4 v5 listed a w Q hs hI hi;obtain⟨o,ho,hd,hop,hg⟩:=aS so_137;have h136:listed.getD 136 false=true:=dE hi (by kernel_rfl);have h0:listed.getD 0 false=true:=hI.ord 136 (.inr (.inl rfl)) h136;obtain⟨r,m,h1,h2,h3,h4,h5,h6,h7⟩:=hI.oH h0;have h118:=h6 h136
 have hp:∀u,u≠0->(a.put o.dst (.map (some r))).tmps[u]? =a.tmps[u]? :=fun u hu=>by
  rw[hd];show(a.tmps.setIfInBounds 0 _)[u]? =_;rw[Array.getElem?_setIfInBounds_ne (Ne.symm hu)]
 refine zH (o:=o) ho hg ?_;unfold Oper.wp
 have hrun:(execOp a.eval o).run Tryz.prog w= .ok (.value (.map (some r))) w:=by
  simp only[execOp,hop];go_simp
 rw[hrun,Oper.upon_value];refine⟨?_,(hp 1 (by omega)).trans hI.t1,(hp 2 (by omega)).trans hI.t2,(hp 3 (by omega)).trans hI.t3,(hp 4 (by omega)).trans hI.t4,(hp 5 (by omega)).trans hI.t5,hI.k1,hI.k2,hI.k4,hI.k5,hI.q5,?_,?_,?_,hI.below,?_⟩
 ·rw[hd]
  show(a.tmps.setIfInBounds 0 _).size=119;simpa using hI.size
 ·exact hI.tmp.put hs (fun t v h=>h) (J3 Jz) ho hd (by rw[hI.size];omega) trivial
 ·intro _
  refine⟨r,m,(hp 11 (by omega)).trans h1,h2,h3,h4,fun j k hj hl=>?_,fun hl=>?_,fun _=>?_⟩
  ·have hne:j≠137:=by rintro rfl;cases hj
   rw[fC hne]at hl;exact h5 j k hj hl
  ·rw[fC (by omega)]at hl
   exact(hp 118 (by omega)).trans (h6 hl)
  ·rw[hd]
   show(a.tmps.setIfInBounds 0 _)[0]? =_;simp[hI.size]
 ·intro j hj hl
  rw[fC (by omega)];exact h0
 ·rw[hd]
  exact hI.defers
theorem op_all:∀i,i<138->aN i
 | 0,_=>op_0 so_0
 | 1,_=>op_1
 | 2,_=>op_2
 | 3,_=>op_3
 | 4,_=>op_4
 | 5,_=>op_5
 | 6,_=>op_6
 | 7,_=>op_7
 | 8,_=>op_8
 | 9,_=>op_9
 | 10,_=>op_10
 | 11,_=>op_11
 | 12,_=>op_12
 | 13,_=>op_13
 | 14,_=>op_14
 | 15,_=>op_15
 | 16,_=>op_16
 | 17,_=>op_17
 | 18,_=>op_18
 | 19,_=>op_19
 | 20,_=>op_20
 | 21,_=>op_21
 | 22,_=>op_22
 | 23,_=>op_23
 | 24,_=>op_24
 | 25,_=>op_25
 | 26,_=>op_26
 | 27,_=>op_27
 | 28,_=>op_28
 | 29,_=>op_29
 | 30,_=>op_30
 | 31,_=>op_31
 | 32,_=>op_32
 | 33,_=>op_33
 | 34,_=>op_34
 | 35,_=>op_35
 | 36,_=>op_36
 | 37,_=>op_37
 | 38,_=>op_38
 | 39,_=>op_39
 | 40,_=>op_40
 | 41,_=>op_41
 | 42,_=>op_42
 | 43,_=>op_43
 | 44,_=>op_44
 | 45,_=>op_45
 | 46,_=>op_46
 | 47,_=>op_47
 | 48,_=>op_48
 | 49,_=>op_49
 | 50,_=>op_50
 | 51,_=>op_51
 | 52,_=>op_52
 | 53,_=>op_53
 | 54,_=>op_54
 | 55,_=>op_55
 | 56,_=>op_56
 | 57,_=>op_57
 | 58,_=>op_58
 | 59,_=>op_59
 | 60,_=>op_60
 | 61,_=>op_61
 | 62,_=>op_62
 | 63,_=>op_63
 | 64,_=>op_64
 | 65,_=>op_65
 | 66,_=>op_66
 | 67,_=>op_67
 | 68,_=>op_68
 | 69,_=>op_69
 | 70,_=>op_70
 | 71,_=>op_71
 | 72,_=>op_72
 | 73,_=>op_73
 | 74,_=>op_74
 | 75,_=>op_75
 | 76,_=>op_76
 | 77,_=>op_77
 | 78,_=>op_78
 | 79,_=>op_79
 | 80,_=>op_80
 | 81,_=>op_81
 | 82,_=>op_82
 | 83,_=>op_83
 | 84,_=>op_84
 | 85,_=>op_85
 | 86,_=>op_86
 | 87,_=>op_87
 | 88,_=>op_88
 | 89,_=>op_89
 | 90,_=>op_90
 | 91,_=>op_91
 | 92,_=>op_92
 | 93,_=>op_93
 | 94,_=>op_94
 | 95,_=>op_95
 | 96,_=>op_96
 | 97,_=>op_97
 | 98,_=>op_98
 | 99,_=>op_99
 | 100,_=>op_100
 | 101,_=>op_101
 | 102,_=>op_102
 | 103,_=>op_103
 | 104,_=>op_104
 | 105,_=>op_105
 | 106,_=>op_106
 | 107,_=>op_107
 | 108,_=>op_108
 | 109,_=>op_109
 | 110,_=>op_110
 | 111,_=>op_111
 | 112,_=>op_112
 | 113,_=>op_113
 | 114,_=>op_114
 | 115,_=>op_115
 | 116,_=>op_116
 | 117,_=>op_117
 | 118,_=>op_118
 | 119,_=>op_119
 | 120,_=>op_120
 | 121,_=>op_121
 | 122,_=>op_122
 | 123,_=>op_123
 | 124,_=>op_124
 | 125,_=>op_125
 | 126,_=>op_126
 | 127,_=>op_127
 | 128,_=>op_128
 | 129,_=>op_129
 | 130,_=>op_130
 | 131,_=>op_131
 | 132,_=>op_132
 | 133,_=>op_133
 | 134,_=>op_134
 | 135,_=>op_135
 | 136,_=>op_136
 | 137,_=>op_137
 | i+138,h=>absurd h (by omega)
theorem Hu{P:Program}{Q:Exit->Act->World->Prop}{id:Nat}{a:Act}{w:World}{ops:Array Oper}(l:List Oper)(he:ops=l.toArray)(I:Array Bool->Act->World->Prop)(hm:P.follows .mixedOrders=true)
 (Dt:∀(i:Nat) (o:Oper),l.toArray[i]? =some o->∀e∈o.after,e.on<i)
 (h0:I (Array.replicate l.toArray.size false) a w.drew)
 (hstep:∀listed a w i,listed.size=l.toArray.size->I listed a w->i∈Region.ready .any l.toArray listed->wpOp P l.toArray (NoPanic Q) i (I (listed.setIfInBounds i true)) a w)
 (hend:∀listed a w,listed.size=l.toArray.size->(∀i,i<l.toArray.size->listed.getD i true=true)->I listed a w->Q .normal a w):(Code.region id ops true).wp P Q a w:=by
 subst he;exact Nl I hm Dt h0 hstep hend
theorem VO(n:Nat)(h:30<=n):tF n=none:=by
 unfold tF;split<;>first|omega|rfl
def Wq:Bool:=(List.range 30).all fun n=> !(tF n).isSome || (List.range 138).any fun i=>BB i==some (n:Int)
theorem ins_chk:Wq=true:=by kernel_rfl
theorem ins_of{k:Int}(h:(lZ k).isSome=true):∃i,i<138/\BB i=some k:=by
 cases k with
 | negSucc n=>cases h
 | ofNat n=>
  have hs:(tF n).isSome=true:=h;by_cases hn:n<30
  ·have hc:=ins_chk
   unfold Wq at hc;rw[List.all_eq_true]at hc;have h1:=hc n (by simpa using hn);rw[hs]at h1;simp only[Bool.not_true,Bool.false_or,List.any_eq_true,beq_iff_eq]at h1;obtain⟨i,h2,h3⟩:=h1;exact⟨i,by simpa using h2,h3⟩
  ·rw[VO n (by omega)]at hs
   cases hs
def Je(w:World)(r:Nat):Prop:=∃m,aY iN w r m/\(∀x∈m,∃sh,lZ x.1=some sh/\qC w x.2 sh)/\∀k,(lZ k).isSome=true->(nP m k).isSome=true
theorem TA(w:World):Calls Tryz.prog 141 #[] w fun e w'=> ∃r,e= .returned (.map (some r))/\Je w' r/\Below w.heap.size w w':=by
 go_enter Tryz.func141,Tryz.ntmps141
 go_wp2_with fail
 generalize hW1:w.alloc (.cells #[.func (Fn.func 53) #[] #[]] 99)=W1
 have hb1:Below w.heap.size w W1:=by rw[<- hW1];exact ae _ _
 have hk1:ak W1 w.heap.size 99 #[.func (Fn.func 53) #[] #[]]:=by rw[<- hW1];exact ak.new w _ _
 have hs1:W1.heap.size=w.heap.size+1:=by rw[<- hW1];simp
 rw[<- hs1];have hr1:=qP W1 3 [11];have hb1':=ae W1 (.cells #[.int .i64 11] 3);clear hW1 hs1;refine(sH (some ⟨W1.heap.size,0,none⟩) 1 1 [11] _ hr1 rfl (by omega)).mono ?_;rintro e w2 ⟨v2,rfl,hf2,hb2⟩;have lX:Below w.heap.size w w2:=(hb1.trans (hb1'.mono hb1.size)).trans (hb2.mono (aac hb1.size hb1'.size));have hk2:ak w2 w.heap.size 99 #[.func (Fn.func 53) #[] #[]]:=hk1.below ((hb1'.trans (hb2.mono hb1'.size)).mono (aab _)) hk1.lt;obtain⟨fn2,cap2,hv2⟩:=dI hf2;subst hv2;have HF2:=kH hf2;have FV:=kH lX;have Hl:=kH hk2;clear hb1 hk1 hr1 hb1' hb2 hf2 lX hk2;go_wp2_with fail
 refine(yO (.func (Fn.func 192) #[] #[]) eQ w2 (Wo w2)).mono ?_;rintro e w3 ⟨v4,rfl,R6,hb3⟩;obtain⟨fn4,cap4,hv4⟩:=dI R6;subst hv4;have HF4:=kH R6;have HF23:=kH (HF2.out.below hb3);have oO:=kH (FV.out.trans (hb3.mono FV.out.size));have gq:=kH (Hl.out.below hb3 Hl.out.lt);clear R6 hb3;go_wp2_with fail
 have hr3:=Bu w3 9 F4;have YZ:=ae w3 (.cells #[.string ⟨#[105,110,116]⟩,.string ⟨#[98,111,111,108]⟩] 9);refine(CP (some ⟨w3.heap.size,0,none⟩) 2 2 F4 _ hr3 rfl (by omega)).mono ?_;rintro e w4 ⟨v5,rfl,hf5,hb4⟩;obtain⟨fn5,cap5,hv5⟩:=jM hf5;subst hv5;have oJ:Below w3.heap.size w3 w4:=YZ.trans (hb4.mono YZ.size);have HF5:=kH hf5;have HF24:=kH (HF23.out.below oJ);have HF44:=kH (HF4.out.below oJ);have HB04:=kH (oO.out.trans (oJ.mono oO.out.size));have El:=kH (gq.out.below oJ gq.out.lt);clear hr3 YZ hf5 hb4 oJ;go_wp2_with fail
 rename_i K hK
 generalize pI:w4.alloc (.cells #[.func (Fn.func fn5) #[] cap5] 99)=w5
 have hb5:Below w4.heap.size w4 w5:=by rw[<- pI];exact ae _ _
 have hk5:ak w5 w4.heap.size 99 #[.func (Fn.func fn5) #[] cap5]:=by rw[<- pI];exact ak.new w4 _ _
 have hkd:KC w5 w5.drew:=fun _ _ _ _ _=>rfl
 have UY:=(KC.of_below hb5).trans hkd;have UD:w4.heap.size<=w5.drew.heap.size:=hb5.size;refine Hu (aG Tryz.f141 4) (by kernel_rfl) (sU w w.heap.size w4.heap.size (.func (Fn.func fn2) #[] cap2) (.func (Fn.func fn4) #[] cap4) (.func (Fn.func fn5) #[] cap5)) (by kernel_rfl) (acyc_of sh_acyc) ?_ ?_ ?_
 ·have hno:∀i,(Array.replicate (aG Tryz.f141 4).toArray.size false).getD i false≠true:=by
   intro i h;simp[Array.getD_eq_getD_getElem?,Array.getElem?_replicate]at h;split at h<;>simp at h
  exact⟨rfl,rfl,rfl,rfl,rfl,rfl,UY.blk El.out,HF24.out.kc UY UD,HF44.out.kc UY UD,hk5.drew,HF5.out.kc UY UD,fun i o t _ _ hl=>absurd hl (hno i),fun hl=>absurd hl (hno 0),fun i _ hl=>absurd hl (hno i),(HB04.out.trans (hb5.mono HB04.out.size)).drew,rfl⟩
 ·intro listed a w' i hs hI hi
  obtain⟨-,o,ho,-⟩:=mem_ready.1 hi;have hlt:=(aae.1 ho).1
  have hlt2:i<138:=by
   have:=Md;simp only[List.size_toArray]at hlt;omega
  exact op_all i hlt2 _ _ _ _ _ _ listed a w' _ hs hI hi
 ·intro listed a w' hs hall hI
  have hsz:(aG Tryz.f141 4).toArray.size=138:=by simp only[List.size_toArray];exact Md
  have Dr:∀i,i<138->listed.getD i false=true:=by
   intro i hi;have h1:=hall i (by omega);have h2:i<listed.size:=by omega
   simp[h2]at h1⊢;exact h1
  obtain⟨r,m,h1,h2,h3,h4,h5,h6,h7⟩:=hI.oH (Dr 0 (by omega));have hr0:=h7 (Dr 137 (by omega));have iV:=kH Dr;have HI:=kH hI
  have HM:Hid (Je w' r):=kH ⟨m,h3,h4,fun k hk=>by
   obtain⟨i,hi1,hi2⟩:=ins_of hk
   exact h5 i k hi2 (Dr i hi1)⟩
  clear hall Dr h1 h2 h3 h4 h5 h6 h7 hI;refine hK a w' ?_;go_wp2_with fail
  refine bodyPost_ret (v:=.map (some r)) ?_ HI.out.defers ?_
  ·simp[results,Tryz.results141,go_sem,hr0]
  ·exact⟨r,rfl,HM.out,HI.out.below⟩
end Go.Proofs.YtoepemlnlpamlaaGreat
