/- The law NamesStand holds: for every text and every number the law returns true, and its arguments read as before. No condition. Part 31: Shp6. -/
import Derived.Test.YtoepemlnlpamlaaGreatStand29
set_option maxRecDepth 100000
set_option maxHeartbeats 4000000
namespace Go.Proofs.YtoepemlnlpamlaaGreat
open Go.RowKit
theorem so_48:((aG Tryz.f141 4).toArray[48]?).map (fun o=>(o.dst,o.op,o.guard))=some (some 48,Op.move (Operand.tmp 4),none):=by kernel_rfl
theorem so_49:((aG Tryz.f141 4).toArray[49]?).map (fun o=>(o.dst,o.op,o.guard))=some (some 49,Op.move (Operand.tmp 3),none):=by kernel_rfl
theorem so_50:((aG Tryz.f141 4).toArray[50]?).map (fun o=>(o.dst,o.op,o.guard))=some (some 50,Op.buildSlice 195 2 #[(0,Operand.tmp 48),(1,Operand.tmp 49)],none):=by kernel_rfl
theorem so_51:((aG Tryz.f141 4).toArray[51]?).map (fun o=>(o.dst,o.op,o.guard))=some (some 51,Op.build 197 #[(0,Operand.tmp 47),(1,Operand.tmp 50)],none):=by kernel_rfl
theorem so_52:((aG Tryz.f141 4).toArray[52]?).map (fun o=>(o.dst,o.op,o.guard))=some (none,Op.insert 191 (Operand.tmp 11) (Operand.const (Value.int IntKind.i64 12)) (Operand.tmp 51),none):=by kernel_rfl
theorem so_53:((aG Tryz.f141 4).toArray[53]?).map (fun o=>(o.dst,o.op,o.guard))=some (some 52,Op.move (Operand.tmp 3),none):=by kernel_rfl
theorem so_54:((aG Tryz.f141 4).toArray[54]?).map (fun o=>(o.dst,o.op,o.guard))=some (some 53,Op.buildSlice 195 2 #[(0,Operand.func 198),(1,Operand.tmp 52)],none):=by kernel_rfl
theorem so_55:((aG Tryz.f141 4).toArray[55]?).map (fun o=>(o.dst,o.op,o.guard))=some (some 54,Op.build 197 #[(0,Operand.func 194),(1,Operand.tmp 53)],none):=by kernel_rfl
theorem so_56:((aG Tryz.f141 4).toArray[56]?).map (fun o=>(o.dst,o.op,o.guard))=some (none,Op.insert 191 (Operand.tmp 11) (Operand.const (Value.int IntKind.i64 13)) (Operand.tmp 54),none):=by kernel_rfl
theorem so_57:((aG Tryz.f141 4).toArray[57]?).map (fun o=>(o.dst,o.op,o.guard))=some (some 55,Op.move (Operand.tmp 3),none):=by kernel_rfl
theorem so_58:((aG Tryz.f141 4).toArray[58]?).map (fun o=>(o.dst,o.op,o.guard))=some (some 56,Op.move (Operand.tmp 2),none):=by kernel_rfl
theorem so_59:((aG Tryz.f141 4).toArray[59]?).map (fun o=>(o.dst,o.op,o.guard))=some (some 57,Op.buildSlice 28 2 #[(0,Operand.const (Value.int IntKind.i64 11)),(1,Operand.const (Value.int IntKind.i64 14))],none):=by kernel_rfl
theorem so_60:((aG Tryz.f141 4).toArray[60]?).map (fun o=>(o.dst,o.op,o.guard))=some (some 58,Op.call { callee:=Callee.value (Operand.func 189),args:=#[Operand.tmp 57],argTypes:=#[28] },none):=by kernel_rfl
theorem so_61:((aG Tryz.f141 4).toArray[61]?).map (fun o=>(o.dst,o.op,o.guard))=some (some 59,Op.call { callee:=Callee.value (Operand.func 191),args:=#[Operand.tmp 58],argTypes:=#[54] },none):=by kernel_rfl
theorem so_62:((aG Tryz.f141 4).toArray[62]?).map (fun o=>(o.dst,o.op,o.guard))=some (some 60,Op.buildSlice 195 3 #[(0,Operand.tmp 55),(1,Operand.tmp 56),(2,Operand.tmp 59)],none):=by kernel_rfl
theorem so_63:((aG Tryz.f141 4).toArray[63]?).map (fun o=>(o.dst,o.op,o.guard))=some (some 61,Op.build 197 #[(0,Operand.func 194),(1,Operand.tmp 60)],none):=by kernel_rfl
theorem so_64:((aG Tryz.f141 4).toArray[64]?).map (fun o=>(o.dst,o.op,o.guard))=some (none,Op.insert 191 (Operand.tmp 11) (Operand.const (Value.int IntKind.i64 14)) (Operand.tmp 61),none):=by kernel_rfl
theorem so_65:((aG Tryz.f141 4).toArray[65]?).map (fun o=>(o.dst,o.op,o.guard))=some (some 62,Op.move (Operand.tmp 3),none):=by kernel_rfl
theorem so_66:((aG Tryz.f141 4).toArray[66]?).map (fun o=>(o.dst,o.op,o.guard))=some (some 63,Op.move (Operand.tmp 2),none):=by kernel_rfl
theorem so_67:((aG Tryz.f141 4).toArray[67]?).map (fun o=>(o.dst,o.op,o.guard))=some (some 64,Op.buildSlice 195 2 #[(0,Operand.tmp 62),(1,Operand.tmp 63)],none):=by kernel_rfl
theorem so_68:((aG Tryz.f141 4).toArray[68]?).map (fun o=>(o.dst,o.op,o.guard))=some (some 65,Op.build 197 #[(0,Operand.func 194),(1,Operand.tmp 64)],none):=by kernel_rfl
theorem so_69:((aG Tryz.f141 4).toArray[69]?).map (fun o=>(o.dst,o.op,o.guard))=some (none,Op.insert 191 (Operand.tmp 11) (Operand.const (Value.int IntKind.i64 15)) (Operand.tmp 65),none):=by kernel_rfl
theorem so_70:((aG Tryz.f141 4).toArray[70]?).map (fun o=>(o.dst,o.op,o.guard))=some (some 66,Op.load 99 (Operand.tmp 1),none):=by kernel_rfl
theorem so_71:((aG Tryz.f141 4).toArray[71]?).map (fun o=>(o.dst,o.op,o.guard))=some (some 67,Op.move (Operand.tmp 3),none):=by kernel_rfl
theorem so_72:((aG Tryz.f141 4).toArray[72]?).map (fun o=>(o.dst,o.op,o.guard))=some (some 68,Op.move (Operand.tmp 3),none):=by kernel_rfl
theorem so_73:((aG Tryz.f141 4).toArray[73]?).map (fun o=>(o.dst,o.op,o.guard))=some (some 69,Op.move (Operand.tmp 2),none):=by kernel_rfl
theorem so_74:((aG Tryz.f141 4).toArray[74]?).map (fun o=>(o.dst,o.op,o.guard))=some (some 70,Op.buildSlice 195 3 #[(0,Operand.tmp 67),(1,Operand.tmp 68),(2,Operand.tmp 69)],none):=by kernel_rfl
theorem so_75:((aG Tryz.f141 4).toArray[75]?).map (fun o=>(o.dst,o.op,o.guard))=some (some 71,Op.build 197 #[(0,Operand.tmp 66),(1,Operand.tmp 70)],none):=by kernel_rfl
theorem so_76:((aG Tryz.f141 4).toArray[76]?).map (fun o=>(o.dst,o.op,o.guard))=some (none,Op.insert 191 (Operand.tmp 11) (Operand.const (Value.int IntKind.i64 16)) (Operand.tmp 71),none):=by kernel_rfl
theorem so_77:((aG Tryz.f141 4).toArray[77]?).map (fun o=>(o.dst,o.op,o.guard))=some (some 72,Op.move (Operand.tmp 3),none):=by kernel_rfl
theorem so_78:((aG Tryz.f141 4).toArray[78]?).map (fun o=>(o.dst,o.op,o.guard))=some (some 73,Op.call { callee:=Callee.value (Operand.func 191),args:=#[Operand.tmp 72],argTypes:=#[54] },none):=by kernel_rfl
theorem so_79:((aG Tryz.f141 4).toArray[79]?).map (fun o=>(o.dst,o.op,o.guard))=some (some 74,Op.buildSlice 195 1 #[(0,Operand.tmp 73)],none):=by kernel_rfl
theorem so_80:((aG Tryz.f141 4).toArray[80]?).map (fun o=>(o.dst,o.op,o.guard))=some (some 75,Op.build 197 #[(0,Operand.func 194),(1,Operand.tmp 74)],none):=by kernel_rfl
theorem so_81:((aG Tryz.f141 4).toArray[81]?).map (fun o=>(o.dst,o.op,o.guard))=some (none,Op.insert 191 (Operand.tmp 11) (Operand.const (Value.int IntKind.i64 17)) (Operand.tmp 75),none):=by kernel_rfl
theorem so_82:((aG Tryz.f141 4).toArray[82]?).map (fun o=>(o.dst,o.op,o.guard))=some (some 76,Op.move (Operand.tmp 3),none):=by kernel_rfl
theorem so_83:((aG Tryz.f141 4).toArray[83]?).map (fun o=>(o.dst,o.op,o.guard))=some (some 77,Op.buildSlice 195 1 #[(0,Operand.tmp 76)],none):=by kernel_rfl
theorem so_84:((aG Tryz.f141 4).toArray[84]?).map (fun o=>(o.dst,o.op,o.guard))=some (some 78,Op.build 197 #[(0,Operand.func 194),(1,Operand.tmp 77)],none):=by kernel_rfl
theorem so_85:((aG Tryz.f141 4).toArray[85]?).map (fun o=>(o.dst,o.op,o.guard))=some (none,Op.insert 191 (Operand.tmp 11) (Operand.const (Value.int IntKind.i64 18)) (Operand.tmp 78),none):=by kernel_rfl
theorem so_86:((aG Tryz.f141 4).toArray[86]?).map (fun o=>(o.dst,o.op,o.guard))=some (some 79,Op.load 99 (Operand.tmp 1),none):=by kernel_rfl
theorem so_87:((aG Tryz.f141 4).toArray[87]?).map (fun o=>(o.dst,o.op,o.guard))=some (some 80,Op.move (Operand.tmp 3),none):=by kernel_rfl
theorem so_88:((aG Tryz.f141 4).toArray[88]?).map (fun o=>(o.dst,o.op,o.guard))=some (some 81,Op.build 197 #[(0,Operand.tmp 79),(2,Operand.tmp 80)],none):=by kernel_rfl
theorem so_89:((aG Tryz.f141 4).toArray[89]?).map (fun o=>(o.dst,o.op,o.guard))=some (none,Op.insert 191 (Operand.tmp 11) (Operand.const (Value.int IntKind.i64 19)) (Operand.tmp 81),none):=by kernel_rfl
theorem so_90:((aG Tryz.f141 4).toArray[90]?).map (fun o=>(o.dst,o.op,o.guard))=some (some 82,Op.load 99 (Operand.tmp 1),none):=by kernel_rfl
theorem so_91:((aG Tryz.f141 4).toArray[91]?).map (fun o=>(o.dst,o.op,o.guard))=some (some 83,Op.build 197 #[(0,Operand.tmp 82)],none):=by kernel_rfl
theorem so_92:((aG Tryz.f141 4).toArray[92]?).map (fun o=>(o.dst,o.op,o.guard))=some (none,Op.insert 191 (Operand.tmp 11) (Operand.const (Value.int IntKind.i64 20)) (Operand.tmp 83),none):=by kernel_rfl
theorem so_93:((aG Tryz.f141 4).toArray[93]?).map (fun o=>(o.dst,o.op,o.guard))=some (some 84,Op.buildSlice 28 1 #[(0,Operand.const (Value.int IntKind.i64 20))],none):=by kernel_rfl
theorem so_94:((aG Tryz.f141 4).toArray[94]?).map (fun o=>(o.dst,o.op,o.guard))=some (some 85,Op.call { callee:=Callee.value (Operand.func 189),args:=#[Operand.tmp 84],argTypes:=#[28] },none):=by kernel_rfl
theorem so_95:((aG Tryz.f141 4).toArray[95]?).map (fun o=>(o.dst,o.op,o.guard))=some (some 86,Op.move (Operand.tmp 3),none):=by kernel_rfl
theorem op_48:aN 48:=by
 intro w0 b1 b5 v2 v4 v5 listed a w Q hs hI hi;obtain⟨o,ho,hd,hop,hg⟩:=aS so_48;have ht:=hI.t4;exact aQ hs hI hi ho hg hd (by decide) (by decide) (v:=v4) (w':=w) (by simp only[execOp,hop];go_simp) (Below.refl _ _) hI.k4
theorem op_49:aN 49:=by
 intro w0 b1 b5 v2 v4 v5 listed a w Q hs hI hi;obtain⟨o,ho,hd,hop,hg⟩:=aS so_49;have ht:=hI.t3;exact aQ hs hI hi ho hg hd (by decide) (by decide) (v:=(.func (Fn.func 190) #[] #[])) (w':=w) (by simp only[execOp,hop];go_simp) (Below.refl _ _) (kF w)
theorem op_50:aN 50:=by
 intro w0 b1 b5 v2 v4 v5 listed a w Q hs hI hi;obtain⟨o,ho,hd,hop,hg⟩:=aS so_50;obtain⟨x0,hx0,hT0⟩:=hI.get hi (j:=48) (u:=48) (by kernel_rfl) (by kernel_rfl);have he0:=aM hx0;obtain⟨x1,hx1,hT1⟩:=hI.get hi (j:=49) (u:=49) (by kernel_rfl) (by kernel_rfl);have he1:=aM hx1;obtain⟨f0,c0,rfl⟩:=dI hT0;obtain⟨f1,c1,rfl⟩:=dI hT1;refine aQ hs hI hi ho hg hd (by decide) (by decide) (v:=.slice (some ⟨w.heap.size,0,none⟩) 2 2) (w':=w.alloc (.cells #[.func (Fn.func f0) #[] c0,.func (Fn.func f1) #[] c1] 54)) (by simp only[execOp,hop];go_simp) (ae _ _) ?_;exact⟨_,_,rfl,kY w 54 [.func (Fn.func f0) #[] c0,.func (Fn.func f1) #[] c1] [jm eQ,bA] (.cons (hT0) (.cons (hT1) .nil))⟩
theorem op_51:aN 51:=by
 intro w0 b1 b5 v2 v4 v5 listed a w Q hs hI hi;obtain⟨o,ho,hd,hop,hg⟩:=aS so_51;obtain⟨xt,hxt,lC⟩:=hI.get hi (j:=47) (u:=47) (by kernel_rfl) (by kernel_rfl);have het:=aM hxt;obtain⟨xk,hxk,A,c,rfl,hr⟩:=hI.get hi (j:=50) (u:=50) (by kernel_rfl) (by kernel_rfl);have Aj:=aM hxk;obtain⟨ft,ct,rfl⟩:=jM lC;refine aQ hs hI hi ho hg hd (by decide) (by decide) (v:=.agg #[.func (Fn.func ft) #[] ct,.slice A 2 c,.nilFunc,.int .i64 0]) (w':=w) (by simp only[execOp,hop];go_simp) (Below.refl _ _) ?_;exact⟨_,_,_,_,rfl,lC,hr,rfl⟩
theorem op_52:aN 52:=by
 intro w0 b1 b5 v2 v4 v5 listed a w Q hs hI hi;obtain⟨o,ho,hd,hop,hg⟩:=aS so_52;obtain⟨v,hv,hT⟩:=hI.get hi (j:=51) (u:=51) (by kernel_rfl) (by kernel_rfl);exact eY hs hI hi ho hg hd hop rfl (aM hv) (dE hi (by kernel_rfl)) rfl hT
theorem op_53:aN 53:=by
 intro w0 b1 b5 v2 v4 v5 listed a w Q hs hI hi;obtain⟨o,ho,hd,hop,hg⟩:=aS so_53;have ht:=hI.t3;exact aQ hs hI hi ho hg hd (by decide) (by decide) (v:=(.func (Fn.func 190) #[] #[])) (w':=w) (by simp only[execOp,hop];go_simp) (Below.refl _ _) (kF w)
theorem op_54:aN 54:=by
 intro w0 b1 b5 v2 v4 v5 listed a w Q hs hI hi;obtain⟨o,ho,hd,hop,hg⟩:=aS so_54;obtain⟨x1,hx1,hT1⟩:=hI.get hi (j:=53) (u:=52) (by kernel_rfl) (by kernel_rfl);have he1:=aM hx1;obtain⟨f1,c1,rfl⟩:=dI hT1;refine aQ hs hI hi ho hg hd (by decide) (by decide) (v:=.slice (some ⟨w.heap.size,0,none⟩) 2 2) (w':=w.alloc (.cells #[.func (Fn.func 198) #[] #[],.func (Fn.func f1) #[] c1] 54)) (by simp only[execOp,hop];go_simp) (ae _ _) ?_;exact⟨_,_,rfl,kY w 54 [.func (Fn.func 198) #[] #[],.func (Fn.func f1) #[] c1] [nH,bA] (.cons (Us w) (.cons (hT1) .nil))⟩
theorem op_55:aN 55:=by
 intro w0 b1 b5 v2 v4 v5 listed a w Q hs hI hi;obtain⟨o,ho,hd,hop,hg⟩:=aS so_55;obtain⟨xk,hxk,A,c,rfl,hr⟩:=hI.get hi (j:=54) (u:=53) (by kernel_rfl) (by kernel_rfl);have Aj:=aM hxk;refine aQ hs hI hi ho hg hd (by decide) (by decide) (v:=.agg #[.func (Fn.func 194) #[] #[],.slice A 2 c,.nilFunc,.int .i64 0]) (w':=w) (by simp only[execOp,hop];go_simp) (Below.refl _ _) ?_;exact⟨_,_,_,_,rfl,oL w,hr,rfl⟩
theorem op_56:aN 56:=by
 intro w0 b1 b5 v2 v4 v5 listed a w Q hs hI hi;obtain⟨o,ho,hd,hop,hg⟩:=aS so_56;obtain⟨v,hv,hT⟩:=hI.get hi (j:=55) (u:=54) (by kernel_rfl) (by kernel_rfl);exact eY hs hI hi ho hg hd hop rfl (aM hv) (dE hi (by kernel_rfl)) rfl hT
theorem op_57:aN 57:=by
 intro w0 b1 b5 v2 v4 v5 listed a w Q hs hI hi;obtain⟨o,ho,hd,hop,hg⟩:=aS so_57;have ht:=hI.t3;exact aQ hs hI hi ho hg hd (by decide) (by decide) (v:=(.func (Fn.func 190) #[] #[])) (w':=w) (by simp only[execOp,hop];go_simp) (Below.refl _ _) (kF w)
theorem op_58:aN 58:=by
 intro w0 b1 b5 v2 v4 v5 listed a w Q hs hI hi;obtain⟨o,ho,hd,hop,hg⟩:=aS so_58;have ht:=hI.t2;exact aQ hs hI hi ho hg hd (by decide) (by decide) (v:=v2) (w':=w) (by simp only[execOp,hop];go_simp) (Below.refl _ _) hI.k2
theorem op_59:aN 59:=by
 intro w0 b1 b5 v2 v4 v5 listed a w Q hs hI hi;obtain⟨o,ho,hd,hop,hg⟩:=aS so_59;refine aQ hs hI hi ho hg hd (by decide) (by decide) (v:=.slice (some ⟨w.heap.size,0,none⟩) 2 2) (w':=w.alloc (.cells #[.int .i64 11,.int .i64 14] 3)) (by simp only[execOp,hop];go_simp) (ae _ _) ?_;exact⟨_,_,rfl,qP w 3 [11,14]⟩
theorem op_60:aN 60:=by
 intro w0 b1 b5 v2 v4 v5 listed a w Q hs hI hi;obtain⟨o,ho,hd,hop,hg⟩:=aS so_60;obtain⟨v,hv,A,c,rfl,hr⟩:=hI.get hi (j:=59) (u:=57) (by kernel_rfl) (by kernel_rfl);have he:=aM hv;exact kZ hs hI hi ho hg hd (by decide) (by decide) (f:=189) (args:=#[.slice A 2 c]) (by simp only[execOp,hop];go_simp) (sH A 2 c [11,14] w hr rfl (by omega))
theorem op_61:aN 61:=by
 intro w0 b1 b5 v2 v4 v5 listed a w Q hs hI hi;obtain⟨o,ho,hd,hop,hg⟩:=aS so_61;obtain⟨v,hv,hT⟩:=hI.get hi (j:=60) (u:=58) (by kernel_rfl) (by kernel_rfl);have he:=aM hv;exact kZ hs hI hi ho hg hd (by decide) (by decide) (f:=191) (args:=#[v]) (by simp only[execOp,hop];go_simp) (yO v (dH [11,14]) w hT)
theorem op_62:aN 62:=by
 intro w0 b1 b5 v2 v4 v5 listed a w Q hs hI hi;obtain⟨o,ho,hd,hop,hg⟩:=aS so_62;obtain⟨x0,hx0,hT0⟩:=hI.get hi (j:=57) (u:=55) (by kernel_rfl) (by kernel_rfl);have he0:=aM hx0;obtain⟨x1,hx1,hT1⟩:=hI.get hi (j:=58) (u:=56) (by kernel_rfl) (by kernel_rfl);have he1:=aM hx1;obtain⟨x2,hx2,mP⟩:=hI.get hi (j:=61) (u:=59) (by kernel_rfl) (by kernel_rfl);have he2:=aM hx2;obtain⟨f0,c0,rfl⟩:=dI hT0;obtain⟨f1,c1,rfl⟩:=dI hT1;obtain⟨f2,c2,rfl⟩:=dI mP;refine aQ hs hI hi ho hg hd (by decide) (by decide) (v:=.slice (some ⟨w.heap.size,0,none⟩) 3 3) (w':=w.alloc (.cells #[.func (Fn.func f0) #[] c0,.func (Fn.func f1) #[] c1,.func (Fn.func f2) #[] c2] 54)) (by simp only[execOp,hop];go_simp) (ae _ _) ?_;exact⟨_,_,rfl,kY w 54 [.func (Fn.func f0) #[] c0,.func (Fn.func f1) #[] c1,.func (Fn.func f2) #[] c2] [bA,dH [11],jm (dH [11,14])] (.cons (hT0) (.cons (hT1) (.cons (mP) .nil)))⟩
theorem op_63:aN 63:=by
 intro w0 b1 b5 v2 v4 v5 listed a w Q hs hI hi;obtain⟨o,ho,hd,hop,hg⟩:=aS so_63;obtain⟨xk,hxk,A,c,rfl,hr⟩:=hI.get hi (j:=62) (u:=60) (by kernel_rfl) (by kernel_rfl);have Aj:=aM hxk;refine aQ hs hI hi ho hg hd (by decide) (by decide) (v:=.agg #[.func (Fn.func 194) #[] #[],.slice A 3 c,.nilFunc,.int .i64 0]) (w':=w) (by simp only[execOp,hop];go_simp) (Below.refl _ _) ?_;exact⟨_,_,_,_,rfl,oL w,hr,rfl⟩
theorem op_64:aN 64:=by
 intro w0 b1 b5 v2 v4 v5 listed a w Q hs hI hi;obtain⟨o,ho,hd,hop,hg⟩:=aS so_64;obtain⟨v,hv,hT⟩:=hI.get hi (j:=63) (u:=61) (by kernel_rfl) (by kernel_rfl);exact eY hs hI hi ho hg hd hop rfl (aM hv) (dE hi (by kernel_rfl)) rfl hT
theorem op_65:aN 65:=by
 intro w0 b1 b5 v2 v4 v5 listed a w Q hs hI hi;obtain⟨o,ho,hd,hop,hg⟩:=aS so_65;have ht:=hI.t3;exact aQ hs hI hi ho hg hd (by decide) (by decide) (v:=(.func (Fn.func 190) #[] #[])) (w':=w) (by simp only[execOp,hop];go_simp) (Below.refl _ _) (kF w)
theorem op_66:aN 66:=by
 intro w0 b1 b5 v2 v4 v5 listed a w Q hs hI hi;obtain⟨o,ho,hd,hop,hg⟩:=aS so_66;have ht:=hI.t2;exact aQ hs hI hi ho hg hd (by decide) (by decide) (v:=v2) (w':=w) (by simp only[execOp,hop];go_simp) (Below.refl _ _) hI.k2
theorem op_67:aN 67:=by
 intro w0 b1 b5 v2 v4 v5 listed a w Q hs hI hi;obtain⟨o,ho,hd,hop,hg⟩:=aS so_67;obtain⟨x0,hx0,hT0⟩:=hI.get hi (j:=65) (u:=62) (by kernel_rfl) (by kernel_rfl);have he0:=aM hx0;obtain⟨x1,hx1,hT1⟩:=hI.get hi (j:=66) (u:=63) (by kernel_rfl) (by kernel_rfl);have he1:=aM hx1;obtain⟨f0,c0,rfl⟩:=dI hT0;obtain⟨f1,c1,rfl⟩:=dI hT1;refine aQ hs hI hi ho hg hd (by decide) (by decide) (v:=.slice (some ⟨w.heap.size,0,none⟩) 2 2) (w':=w.alloc (.cells #[.func (Fn.func f0) #[] c0,.func (Fn.func f1) #[] c1] 54)) (by simp only[execOp,hop];go_simp) (ae _ _) ?_;exact⟨_,_,rfl,kY w 54 [.func (Fn.func f0) #[] c0,.func (Fn.func f1) #[] c1] [bA,dH [11]] (.cons (hT0) (.cons (hT1) .nil))⟩
theorem op_68:aN 68:=by
 intro w0 b1 b5 v2 v4 v5 listed a w Q hs hI hi;obtain⟨o,ho,hd,hop,hg⟩:=aS so_68;obtain⟨xk,hxk,A,c,rfl,hr⟩:=hI.get hi (j:=67) (u:=64) (by kernel_rfl) (by kernel_rfl);have Aj:=aM hxk;refine aQ hs hI hi ho hg hd (by decide) (by decide) (v:=.agg #[.func (Fn.func 194) #[] #[],.slice A 2 c,.nilFunc,.int .i64 0]) (w':=w) (by simp only[execOp,hop];go_simp) (Below.refl _ _) ?_;exact⟨_,_,_,_,rfl,oL w,hr,rfl⟩
theorem op_69:aN 69:=by
 intro w0 b1 b5 v2 v4 v5 listed a w Q hs hI hi;obtain⟨o,ho,hd,hop,hg⟩:=aS so_69;obtain⟨v,hv,hT⟩:=hI.get hi (j:=68) (u:=65) (by kernel_rfl) (by kernel_rfl);exact eY hs hI hi ho hg hd hop rfl (aM hv) (dE hi (by kernel_rfl)) rfl hT
theorem op_70:aN 70:=by
 intro w0 b1 b5 v2 v4 v5 listed a w Q hs hI hi;obtain⟨o,ho,hd,hop,hg⟩:=aS so_70;have ht1:=hI.t1;have hc:w.cell? ⟨b1,0,none⟩=some (.func (Fn.func 53) #[] #[]):=hI.k1.cell 0;exact aQ hs hI hi ho hg hd (by decide) (by decide) (v:=(.func (Fn.func 53) #[] #[])) (w':=w) (by simp only[execOp,hop];go_simp) (Below.refl _ _) (qB w)
theorem op_71:aN 71:=by
 intro w0 b1 b5 v2 v4 v5 listed a w Q hs hI hi;obtain⟨o,ho,hd,hop,hg⟩:=aS so_71;have ht:=hI.t3;exact aQ hs hI hi ho hg hd (by decide) (by decide) (v:=(.func (Fn.func 190) #[] #[])) (w':=w) (by simp only[execOp,hop];go_simp) (Below.refl _ _) (kF w)
theorem op_72:aN 72:=by
 intro w0 b1 b5 v2 v4 v5 listed a w Q hs hI hi;obtain⟨o,ho,hd,hop,hg⟩:=aS so_72;have ht:=hI.t3;exact aQ hs hI hi ho hg hd (by decide) (by decide) (v:=(.func (Fn.func 190) #[] #[])) (w':=w) (by simp only[execOp,hop];go_simp) (Below.refl _ _) (kF w)
theorem op_73:aN 73:=by
 intro w0 b1 b5 v2 v4 v5 listed a w Q hs hI hi;obtain⟨o,ho,hd,hop,hg⟩:=aS so_73;have ht:=hI.t2;exact aQ hs hI hi ho hg hd (by decide) (by decide) (v:=v2) (w':=w) (by simp only[execOp,hop];go_simp) (Below.refl _ _) hI.k2
theorem op_74:aN 74:=by
 intro w0 b1 b5 v2 v4 v5 listed a w Q hs hI hi;obtain⟨o,ho,hd,hop,hg⟩:=aS so_74;obtain⟨x0,hx0,hT0⟩:=hI.get hi (j:=71) (u:=67) (by kernel_rfl) (by kernel_rfl);have he0:=aM hx0;obtain⟨x1,hx1,hT1⟩:=hI.get hi (j:=72) (u:=68) (by kernel_rfl) (by kernel_rfl);have he1:=aM hx1;obtain⟨x2,hx2,mP⟩:=hI.get hi (j:=73) (u:=69) (by kernel_rfl) (by kernel_rfl);have he2:=aM hx2;obtain⟨f0,c0,rfl⟩:=dI hT0;obtain⟨f1,c1,rfl⟩:=dI hT1;obtain⟨f2,c2,rfl⟩:=dI mP;refine aQ hs hI hi ho hg hd (by decide) (by decide) (v:=.slice (some ⟨w.heap.size,0,none⟩) 3 3) (w':=w.alloc (.cells #[.func (Fn.func f0) #[] c0,.func (Fn.func f1) #[] c1,.func (Fn.func f2) #[] c2] 54)) (by simp only[execOp,hop];go_simp) (ae _ _) ?_;exact⟨_,_,rfl,kY w 54 [.func (Fn.func f0) #[] c0,.func (Fn.func f1) #[] c1,.func (Fn.func f2) #[] c2] [bA,bA,dH [11]] (.cons (hT0) (.cons (hT1) (.cons (mP) .nil)))⟩
theorem op_75:aN 75:=by
 intro w0 b1 b5 v2 v4 v5 listed a w Q hs hI hi;obtain⟨o,ho,hd,hop,hg⟩:=aS so_75;obtain⟨xt,hxt,lC⟩:=hI.get hi (j:=70) (u:=66) (by kernel_rfl) (by kernel_rfl);have het:=aM hxt;obtain⟨xk,hxk,A,c,rfl,hr⟩:=hI.get hi (j:=74) (u:=70) (by kernel_rfl) (by kernel_rfl);have Aj:=aM hxk;obtain⟨ft,ct,rfl⟩:=jM lC;refine aQ hs hI hi ho hg hd (by decide) (by decide) (v:=.agg #[.func (Fn.func ft) #[] ct,.slice A 3 c,.nilFunc,.int .i64 0]) (w':=w) (by simp only[execOp,hop];go_simp) (Below.refl _ _) ?_;exact⟨_,_,_,_,rfl,lC,hr,rfl⟩
theorem op_76:aN 76:=by
 intro w0 b1 b5 v2 v4 v5 listed a w Q hs hI hi;obtain⟨o,ho,hd,hop,hg⟩:=aS so_76;obtain⟨v,hv,hT⟩:=hI.get hi (j:=75) (u:=71) (by kernel_rfl) (by kernel_rfl);exact eY hs hI hi ho hg hd hop rfl (aM hv) (dE hi (by kernel_rfl)) rfl hT
theorem op_77:aN 77:=by
 intro w0 b1 b5 v2 v4 v5 listed a w Q hs hI hi;obtain⟨o,ho,hd,hop,hg⟩:=aS so_77;have ht:=hI.t3;exact aQ hs hI hi ho hg hd (by decide) (by decide) (v:=(.func (Fn.func 190) #[] #[])) (w':=w) (by simp only[execOp,hop];go_simp) (Below.refl _ _) (kF w)
theorem op_78:aN 78:=by
 intro w0 b1 b5 v2 v4 v5 listed a w Q hs hI hi;obtain⟨o,ho,hd,hop,hg⟩:=aS so_78;obtain⟨v,hv,hT⟩:=hI.get hi (j:=77) (u:=72) (by kernel_rfl) (by kernel_rfl);have he:=aM hv;exact kZ hs hI hi ho hg hd (by decide) (by decide) (f:=191) (args:=#[v]) (by simp only[execOp,hop];go_simp) (yO v (bA) w hT)
theorem op_79:aN 79:=by
 intro w0 b1 b5 v2 v4 v5 listed a w Q hs hI hi;obtain⟨o,ho,hd,hop,hg⟩:=aS so_79;obtain⟨x0,hx0,hT0⟩:=hI.get hi (j:=78) (u:=73) (by kernel_rfl) (by kernel_rfl);have he0:=aM hx0;obtain⟨f0,c0,rfl⟩:=dI hT0;refine aQ hs hI hi ho hg hd (by decide) (by decide) (v:=.slice (some ⟨w.heap.size,0,none⟩) 1 1) (w':=w.alloc (.cells #[.func (Fn.func f0) #[] c0] 54)) (by simp only[execOp,hop];go_simp) (ae _ _) ?_;exact⟨_,_,rfl,kY w 54 [.func (Fn.func f0) #[] c0] [jm (bA)] (.cons (hT0) .nil)⟩
theorem op_80:aN 80:=by
 intro w0 b1 b5 v2 v4 v5 listed a w Q hs hI hi;obtain⟨o,ho,hd,hop,hg⟩:=aS so_80;obtain⟨xk,hxk,A,c,rfl,hr⟩:=hI.get hi (j:=79) (u:=74) (by kernel_rfl) (by kernel_rfl);have Aj:=aM hxk;refine aQ hs hI hi ho hg hd (by decide) (by decide) (v:=.agg #[.func (Fn.func 194) #[] #[],.slice A 1 c,.nilFunc,.int .i64 0]) (w':=w) (by simp only[execOp,hop];go_simp) (Below.refl _ _) ?_;exact⟨_,_,_,_,rfl,oL w,hr,rfl⟩
theorem op_81:aN 81:=by
 intro w0 b1 b5 v2 v4 v5 listed a w Q hs hI hi;obtain⟨o,ho,hd,hop,hg⟩:=aS so_81;obtain⟨v,hv,hT⟩:=hI.get hi (j:=80) (u:=75) (by kernel_rfl) (by kernel_rfl);exact eY hs hI hi ho hg hd hop rfl (aM hv) (dE hi (by kernel_rfl)) rfl hT
theorem op_82:aN 82:=by
 intro w0 b1 b5 v2 v4 v5 listed a w Q hs hI hi;obtain⟨o,ho,hd,hop,hg⟩:=aS so_82;have ht:=hI.t3;exact aQ hs hI hi ho hg hd (by decide) (by decide) (v:=(.func (Fn.func 190) #[] #[])) (w':=w) (by simp only[execOp,hop];go_simp) (Below.refl _ _) (kF w)
theorem op_83:aN 83:=by
 intro w0 b1 b5 v2 v4 v5 listed a w Q hs hI hi;obtain⟨o,ho,hd,hop,hg⟩:=aS so_83;obtain⟨x0,hx0,hT0⟩:=hI.get hi (j:=82) (u:=76) (by kernel_rfl) (by kernel_rfl);have he0:=aM hx0;obtain⟨f0,c0,rfl⟩:=dI hT0;refine aQ hs hI hi ho hg hd (by decide) (by decide) (v:=.slice (some ⟨w.heap.size,0,none⟩) 1 1) (w':=w.alloc (.cells #[.func (Fn.func f0) #[] c0] 54)) (by simp only[execOp,hop];go_simp) (ae _ _) ?_;exact⟨_,_,rfl,kY w 54 [.func (Fn.func f0) #[] c0] [bA] (.cons (hT0) .nil)⟩
theorem op_84:aN 84:=by
 intro w0 b1 b5 v2 v4 v5 listed a w Q hs hI hi;obtain⟨o,ho,hd,hop,hg⟩:=aS so_84;obtain⟨xk,hxk,A,c,rfl,hr⟩:=hI.get hi (j:=83) (u:=77) (by kernel_rfl) (by kernel_rfl);have Aj:=aM hxk;refine aQ hs hI hi ho hg hd (by decide) (by decide) (v:=.agg #[.func (Fn.func 194) #[] #[],.slice A 1 c,.nilFunc,.int .i64 0]) (w':=w) (by simp only[execOp,hop];go_simp) (Below.refl _ _) ?_;exact⟨_,_,_,_,rfl,oL w,hr,rfl⟩
theorem op_85:aN 85:=by
 intro w0 b1 b5 v2 v4 v5 listed a w Q hs hI hi;obtain⟨o,ho,hd,hop,hg⟩:=aS so_85;obtain⟨v,hv,hT⟩:=hI.get hi (j:=84) (u:=78) (by kernel_rfl) (by kernel_rfl);exact eY hs hI hi ho hg hd hop rfl (aM hv) (dE hi (by kernel_rfl)) rfl hT
theorem op_86:aN 86:=by
 intro w0 b1 b5 v2 v4 v5 listed a w Q hs hI hi;obtain⟨o,ho,hd,hop,hg⟩:=aS so_86;have ht1:=hI.t1;have hc:w.cell? ⟨b1,0,none⟩=some (.func (Fn.func 53) #[] #[]):=hI.k1.cell 0;exact aQ hs hI hi ho hg hd (by decide) (by decide) (v:=(.func (Fn.func 53) #[] #[])) (w':=w) (by simp only[execOp,hop];go_simp) (Below.refl _ _) (qB w)
theorem op_87:aN 87:=by
 intro w0 b1 b5 v2 v4 v5 listed a w Q hs hI hi;obtain⟨o,ho,hd,hop,hg⟩:=aS so_87;have ht:=hI.t3;exact aQ hs hI hi ho hg hd (by decide) (by decide) (v:=(.func (Fn.func 190) #[] #[])) (w':=w) (by simp only[execOp,hop];go_simp) (Below.refl _ _) (kF w)
theorem op_88:aN 88:=by
 intro w0 b1 b5 v2 v4 v5 listed a w Q hs hI hi;obtain⟨o,ho,hd,hop,hg⟩:=aS so_88;obtain⟨xt,hxt,lC⟩:=hI.get hi (j:=86) (u:=79) (by kernel_rfl) (by kernel_rfl);have het:=aM hxt;obtain⟨xl,hxl,yC⟩:=hI.get hi (j:=87) (u:=80) (by kernel_rfl) (by kernel_rfl);have hel:=aM hxl;obtain⟨ft,ct,rfl⟩:=jM lC;obtain⟨fl,cl,rfl⟩:=dI yC;refine aQ hs hI hi ho hg hd (by decide) (by decide) (v:=.agg #[.func (Fn.func ft) #[] ct,.slice none 0 0,.func (Fn.func fl) #[] cl,.int .i64 0]) (w':=w) (by simp only[execOp,hop];go_simp) (Below.refl _ _) ?_;exact⟨_,_,_,_,rfl,lC,(by intro i p h;simp at h),yC⟩
theorem op_89:aN 89:=by
 intro w0 b1 b5 v2 v4 v5 listed a w Q hs hI hi;obtain⟨o,ho,hd,hop,hg⟩:=aS so_89;obtain⟨v,hv,hT⟩:=hI.get hi (j:=88) (u:=81) (by kernel_rfl) (by kernel_rfl);exact eY hs hI hi ho hg hd hop rfl (aM hv) (dE hi (by kernel_rfl)) rfl hT
theorem op_90:aN 90:=by
 intro w0 b1 b5 v2 v4 v5 listed a w Q hs hI hi;obtain⟨o,ho,hd,hop,hg⟩:=aS so_90;have ht1:=hI.t1;have hc:w.cell? ⟨b1,0,none⟩=some (.func (Fn.func 53) #[] #[]):=hI.k1.cell 0;exact aQ hs hI hi ho hg hd (by decide) (by decide) (v:=(.func (Fn.func 53) #[] #[])) (w':=w) (by simp only[execOp,hop];go_simp) (Below.refl _ _) (qB w)
theorem op_91:aN 91:=by
 intro w0 b1 b5 v2 v4 v5 listed a w Q hs hI hi;obtain⟨o,ho,hd,hop,hg⟩:=aS so_91;obtain⟨xt,hxt,lC⟩:=hI.get hi (j:=90) (u:=82) (by kernel_rfl) (by kernel_rfl);have het:=aM hxt;obtain⟨ft,ct,rfl⟩:=jM lC;refine aQ hs hI hi ho hg hd (by decide) (by decide) (v:=.agg #[.func (Fn.func ft) #[] ct,.slice none 0 0,.nilFunc,.int .i64 0]) (w':=w) (by simp only[execOp,hop];go_simp) (Below.refl _ _) ?_;exact⟨_,_,_,_,rfl,lC,(by intro i p h;simp at h),rfl⟩
theorem op_92:aN 92:=by
 intro w0 b1 b5 v2 v4 v5 listed a w Q hs hI hi;obtain⟨o,ho,hd,hop,hg⟩:=aS so_92;obtain⟨v,hv,hT⟩:=hI.get hi (j:=91) (u:=83) (by kernel_rfl) (by kernel_rfl);exact eY hs hI hi ho hg hd hop rfl (aM hv) (dE hi (by kernel_rfl)) rfl hT
theorem op_93:aN 93:=by
 intro w0 b1 b5 v2 v4 v5 listed a w Q hs hI hi;obtain⟨o,ho,hd,hop,hg⟩:=aS so_93;refine aQ hs hI hi ho hg hd (by decide) (by decide) (v:=.slice (some ⟨w.heap.size,0,none⟩) 1 1) (w':=w.alloc (.cells #[.int .i64 20] 3)) (by simp only[execOp,hop];go_simp) (ae _ _) ?_;exact⟨_,_,rfl,qP w 3 [20]⟩
theorem op_94:aN 94:=by
 intro w0 b1 b5 v2 v4 v5 listed a w Q hs hI hi;obtain⟨o,ho,hd,hop,hg⟩:=aS so_94;obtain⟨v,hv,A,c,rfl,hr⟩:=hI.get hi (j:=93) (u:=84) (by kernel_rfl) (by kernel_rfl);have he:=aM hv;exact kZ hs hI hi ho hg hd (by decide) (by decide) (f:=189) (args:=#[.slice A 1 c]) (by simp only[execOp,hop];go_simp) (sH A 1 c [20] w hr rfl (by omega))
theorem op_95:aN 95:=by
 intro w0 b1 b5 v2 v4 v5 listed a w Q hs hI hi;obtain⟨o,ho,hd,hop,hg⟩:=aS so_95;have ht:=hI.t3;exact aQ hs hI hi ho hg hd (by decide) (by decide) (v:=(.func (Fn.func 190) #[] #[])) (w':=w) (by simp only[execOp,hop];go_simp) (Below.refl _ _) (kF w)
end Go.Proofs.YtoepemlnlpamlaaGreat
