/- The law NamesFreeAt holds: for every text and every number the law returns true, and its arguments read as before. No condition. Part 31: Shp6. -/
import Derived.Test.YtoepemlnlpamlaaGreatFreeAt29
namespace Go.Proofs.YtoepemlnlpamlaaGreat
set_option maxRecDepth 100000
set_option maxHeartbeats 4000000
open Go.RowKit
theorem so_48:((regOps Tryz.f141 4).toArray[48]?).map (fun o=>(o.dst,o.op,o.guard))=some (some 48,Op.move (Operand.tmp 4),none):=by kernel_rfl
theorem so_49:((regOps Tryz.f141 4).toArray[49]?).map (fun o=>(o.dst,o.op,o.guard))=some (some 49,Op.move (Operand.tmp 3),none):=by kernel_rfl
theorem so_50:((regOps Tryz.f141 4).toArray[50]?).map (fun o=>(o.dst,o.op,o.guard))=some (some 50,Op.buildSlice 195 2 #[(0,Operand.tmp 48),(1,Operand.tmp 49)],none):=by kernel_rfl
theorem so_51:((regOps Tryz.f141 4).toArray[51]?).map (fun o=>(o.dst,o.op,o.guard))=some (some 51,Op.build 197 #[(0,Operand.tmp 47),(1,Operand.tmp 50)],none):=by kernel_rfl
theorem so_52:((regOps Tryz.f141 4).toArray[52]?).map (fun o=>(o.dst,o.op,o.guard))=some (none,Op.insert 191 (Operand.tmp 11) (Operand.const (Value.int IntKind.i64 12)) (Operand.tmp 51),none):=by kernel_rfl
theorem so_53:((regOps Tryz.f141 4).toArray[53]?).map (fun o=>(o.dst,o.op,o.guard))=some (some 52,Op.move (Operand.tmp 3),none):=by kernel_rfl
theorem so_54:((regOps Tryz.f141 4).toArray[54]?).map (fun o=>(o.dst,o.op,o.guard))=some (some 53,Op.buildSlice 195 2 #[(0,Operand.func 198),(1,Operand.tmp 52)],none):=by kernel_rfl
theorem so_55:((regOps Tryz.f141 4).toArray[55]?).map (fun o=>(o.dst,o.op,o.guard))=some (some 54,Op.build 197 #[(0,Operand.func 194),(1,Operand.tmp 53)],none):=by kernel_rfl
theorem so_56:((regOps Tryz.f141 4).toArray[56]?).map (fun o=>(o.dst,o.op,o.guard))=some (none,Op.insert 191 (Operand.tmp 11) (Operand.const (Value.int IntKind.i64 13)) (Operand.tmp 54),none):=by kernel_rfl
theorem so_57:((regOps Tryz.f141 4).toArray[57]?).map (fun o=>(o.dst,o.op,o.guard))=some (some 55,Op.move (Operand.tmp 3),none):=by kernel_rfl
theorem so_58:((regOps Tryz.f141 4).toArray[58]?).map (fun o=>(o.dst,o.op,o.guard))=some (some 56,Op.move (Operand.tmp 2),none):=by kernel_rfl
theorem so_59:((regOps Tryz.f141 4).toArray[59]?).map (fun o=>(o.dst,o.op,o.guard))=some (some 57,Op.buildSlice 28 2 #[(0,Operand.const (Value.int IntKind.i64 11)),(1,Operand.const (Value.int IntKind.i64 14))],none):=by kernel_rfl
theorem so_60:((regOps Tryz.f141 4).toArray[60]?).map (fun o=>(o.dst,o.op,o.guard))=some (some 58,Op.call { callee:=Callee.value (Operand.func 189),args:=#[Operand.tmp 57],argTypes:=#[28] },none):=by kernel_rfl
theorem so_61:((regOps Tryz.f141 4).toArray[61]?).map (fun o=>(o.dst,o.op,o.guard))=some (some 59,Op.call { callee:=Callee.value (Operand.func 191),args:=#[Operand.tmp 58],argTypes:=#[54] },none):=by kernel_rfl
theorem so_62:((regOps Tryz.f141 4).toArray[62]?).map (fun o=>(o.dst,o.op,o.guard))=some (some 60,Op.buildSlice 195 3 #[(0,Operand.tmp 55),(1,Operand.tmp 56),(2,Operand.tmp 59)],none):=by kernel_rfl
theorem so_63:((regOps Tryz.f141 4).toArray[63]?).map (fun o=>(o.dst,o.op,o.guard))=some (some 61,Op.build 197 #[(0,Operand.func 194),(1,Operand.tmp 60)],none):=by kernel_rfl
theorem so_64:((regOps Tryz.f141 4).toArray[64]?).map (fun o=>(o.dst,o.op,o.guard))=some (none,Op.insert 191 (Operand.tmp 11) (Operand.const (Value.int IntKind.i64 14)) (Operand.tmp 61),none):=by kernel_rfl
theorem so_65:((regOps Tryz.f141 4).toArray[65]?).map (fun o=>(o.dst,o.op,o.guard))=some (some 62,Op.move (Operand.tmp 3),none):=by kernel_rfl
theorem so_66:((regOps Tryz.f141 4).toArray[66]?).map (fun o=>(o.dst,o.op,o.guard))=some (some 63,Op.move (Operand.tmp 2),none):=by kernel_rfl
theorem so_67:((regOps Tryz.f141 4).toArray[67]?).map (fun o=>(o.dst,o.op,o.guard))=some (some 64,Op.buildSlice 195 2 #[(0,Operand.tmp 62),(1,Operand.tmp 63)],none):=by kernel_rfl
theorem so_68:((regOps Tryz.f141 4).toArray[68]?).map (fun o=>(o.dst,o.op,o.guard))=some (some 65,Op.build 197 #[(0,Operand.func 194),(1,Operand.tmp 64)],none):=by kernel_rfl
theorem so_69:((regOps Tryz.f141 4).toArray[69]?).map (fun o=>(o.dst,o.op,o.guard))=some (none,Op.insert 191 (Operand.tmp 11) (Operand.const (Value.int IntKind.i64 15)) (Operand.tmp 65),none):=by kernel_rfl
theorem so_70:((regOps Tryz.f141 4).toArray[70]?).map (fun o=>(o.dst,o.op,o.guard))=some (some 66,Op.load 99 (Operand.tmp 1),none):=by kernel_rfl
theorem so_71:((regOps Tryz.f141 4).toArray[71]?).map (fun o=>(o.dst,o.op,o.guard))=some (some 67,Op.move (Operand.tmp 3),none):=by kernel_rfl
theorem so_72:((regOps Tryz.f141 4).toArray[72]?).map (fun o=>(o.dst,o.op,o.guard))=some (some 68,Op.move (Operand.tmp 3),none):=by kernel_rfl
theorem so_73:((regOps Tryz.f141 4).toArray[73]?).map (fun o=>(o.dst,o.op,o.guard))=some (some 69,Op.move (Operand.tmp 2),none):=by kernel_rfl
theorem so_74:((regOps Tryz.f141 4).toArray[74]?).map (fun o=>(o.dst,o.op,o.guard))=some (some 70,Op.buildSlice 195 3 #[(0,Operand.tmp 67),(1,Operand.tmp 68),(2,Operand.tmp 69)],none):=by kernel_rfl
theorem so_75:((regOps Tryz.f141 4).toArray[75]?).map (fun o=>(o.dst,o.op,o.guard))=some (some 71,Op.build 197 #[(0,Operand.tmp 66),(1,Operand.tmp 70)],none):=by kernel_rfl
theorem so_76:((regOps Tryz.f141 4).toArray[76]?).map (fun o=>(o.dst,o.op,o.guard))=some (none,Op.insert 191 (Operand.tmp 11) (Operand.const (Value.int IntKind.i64 16)) (Operand.tmp 71),none):=by kernel_rfl
theorem so_77:((regOps Tryz.f141 4).toArray[77]?).map (fun o=>(o.dst,o.op,o.guard))=some (some 72,Op.move (Operand.tmp 3),none):=by kernel_rfl
theorem so_78:((regOps Tryz.f141 4).toArray[78]?).map (fun o=>(o.dst,o.op,o.guard))=some (some 73,Op.call { callee:=Callee.value (Operand.func 191),args:=#[Operand.tmp 72],argTypes:=#[54] },none):=by kernel_rfl
theorem so_79:((regOps Tryz.f141 4).toArray[79]?).map (fun o=>(o.dst,o.op,o.guard))=some (some 74,Op.buildSlice 195 1 #[(0,Operand.tmp 73)],none):=by kernel_rfl
theorem so_80:((regOps Tryz.f141 4).toArray[80]?).map (fun o=>(o.dst,o.op,o.guard))=some (some 75,Op.build 197 #[(0,Operand.func 194),(1,Operand.tmp 74)],none):=by kernel_rfl
theorem so_81:((regOps Tryz.f141 4).toArray[81]?).map (fun o=>(o.dst,o.op,o.guard))=some (none,Op.insert 191 (Operand.tmp 11) (Operand.const (Value.int IntKind.i64 17)) (Operand.tmp 75),none):=by kernel_rfl
theorem so_82:((regOps Tryz.f141 4).toArray[82]?).map (fun o=>(o.dst,o.op,o.guard))=some (some 76,Op.move (Operand.tmp 3),none):=by kernel_rfl
theorem so_83:((regOps Tryz.f141 4).toArray[83]?).map (fun o=>(o.dst,o.op,o.guard))=some (some 77,Op.buildSlice 195 1 #[(0,Operand.tmp 76)],none):=by kernel_rfl
theorem so_84:((regOps Tryz.f141 4).toArray[84]?).map (fun o=>(o.dst,o.op,o.guard))=some (some 78,Op.build 197 #[(0,Operand.func 194),(1,Operand.tmp 77)],none):=by kernel_rfl
theorem so_85:((regOps Tryz.f141 4).toArray[85]?).map (fun o=>(o.dst,o.op,o.guard))=some (none,Op.insert 191 (Operand.tmp 11) (Operand.const (Value.int IntKind.i64 18)) (Operand.tmp 78),none):=by kernel_rfl
theorem so_86:((regOps Tryz.f141 4).toArray[86]?).map (fun o=>(o.dst,o.op,o.guard))=some (some 79,Op.load 99 (Operand.tmp 1),none):=by kernel_rfl
theorem so_87:((regOps Tryz.f141 4).toArray[87]?).map (fun o=>(o.dst,o.op,o.guard))=some (some 80,Op.move (Operand.tmp 3),none):=by kernel_rfl
theorem so_88:((regOps Tryz.f141 4).toArray[88]?).map (fun o=>(o.dst,o.op,o.guard))=some (some 81,Op.build 197 #[(0,Operand.tmp 79),(2,Operand.tmp 80)],none):=by kernel_rfl
theorem so_89:((regOps Tryz.f141 4).toArray[89]?).map (fun o=>(o.dst,o.op,o.guard))=some (none,Op.insert 191 (Operand.tmp 11) (Operand.const (Value.int IntKind.i64 19)) (Operand.tmp 81),none):=by kernel_rfl
theorem so_90:((regOps Tryz.f141 4).toArray[90]?).map (fun o=>(o.dst,o.op,o.guard))=some (some 82,Op.load 99 (Operand.tmp 1),none):=by kernel_rfl
theorem so_91:((regOps Tryz.f141 4).toArray[91]?).map (fun o=>(o.dst,o.op,o.guard))=some (some 83,Op.build 197 #[(0,Operand.tmp 82)],none):=by kernel_rfl
theorem so_92:((regOps Tryz.f141 4).toArray[92]?).map (fun o=>(o.dst,o.op,o.guard))=some (none,Op.insert 191 (Operand.tmp 11) (Operand.const (Value.int IntKind.i64 20)) (Operand.tmp 83),none):=by kernel_rfl
theorem so_93:((regOps Tryz.f141 4).toArray[93]?).map (fun o=>(o.dst,o.op,o.guard))=some (some 84,Op.buildSlice 28 1 #[(0,Operand.const (Value.int IntKind.i64 20))],none):=by kernel_rfl
theorem so_94:((regOps Tryz.f141 4).toArray[94]?).map (fun o=>(o.dst,o.op,o.guard))=some (some 85,Op.call { callee:=Callee.value (Operand.func 189),args:=#[Operand.tmp 84],argTypes:=#[28] },none):=by kernel_rfl
theorem so_95:((regOps Tryz.f141 4).toArray[95]?).map (fun o=>(o.dst,o.op,o.guard))=some (some 86,Op.move (Operand.tmp 3),none):=by kernel_rfl
theorem op_48:StepAt 48:=by
 intro w0 b1 b5 v2 v4 v5 listed a w Q hs hI hi;obtain⟨o,ho,hd,hop,hg⟩:=so_of so_48;have ht:=hI.t4;exact step_val hs hI hi ho hg hd (by decide) (by decide) (v:=v4) (w':=w) (by simp only[execOp,hop];go_simp) (Below.refl _ _) hI.k4
theorem op_49:StepAt 49:=by
 intro w0 b1 b5 v2 v4 v5 listed a w Q hs hI hi;obtain⟨o,ho,hd,hop,hg⟩:=so_of so_49;have ht:=hI.t3;exact step_val hs hI hi ho hg hd (by decide) (by decide) (v:=(.func (Fn.func 190) #[] #[])) (w':=w) (by simp only[execOp,hop];go_simp) (Below.refl _ _) (isExpr_fn w)
theorem op_50:StepAt 50:=by
 intro w0 b1 b5 v2 v4 v5 listed a w Q hs hI hi;obtain⟨o,ho,hd,hop,hg⟩:=so_of so_50;obtain⟨x0,hx0,hT0⟩:=hI.get hi (j:=48) (u:=48) (by kernel_rfl) (by kernel_rfl);have he0:=eval_tmp hx0;obtain⟨x1,hx1,hT1⟩:=hI.get hi (j:=49) (u:=49) (by kernel_rfl) (by kernel_rfl);have he1:=eval_tmp hx1;obtain⟨f0,c0,rfl⟩:=kind_form hT0;obtain⟨f1,c1,rfl⟩:=kind_form hT1;refine step_val hs hI hi ho hg hd (by decide) (by decide) (v:=.slice (some ⟨w.heap.size,0,none⟩) 2 2) (w':=w.alloc (.cells #[.func (Fn.func f0) #[] c0,.func (Fn.func f1) #[] c1] 54)) (by simp only[execOp,hop];go_simp) (below_alloc _ _) ?_;exact⟨_,_,rfl,funs_row w 54 [.func (Fn.func f0) #[] c0,.func (Fn.func f1) #[] c1] [optP isTypeM,isExprM] (.cons (hT0) (.cons (hT1) .nil))⟩
theorem op_51:StepAt 51:=by
 intro w0 b1 b5 v2 v4 v5 listed a w Q hs hI hi;obtain⟨o,ho,hd,hop,hg⟩:=so_of so_51;obtain⟨xt,hxt,hTt⟩:=hI.get hi (j:=47) (u:=47) (by kernel_rfl) (by kernel_rfl);have het:=eval_tmp hxt;obtain⟨xk,hxk,A,c,rfl,hr⟩:=hI.get hi (j:=50) (u:=50) (by kernel_rfl) (by kernel_rfl);have hek:=eval_tmp hxk;obtain⟨ft,ct,rfl⟩:=text_form hTt;refine step_val hs hI hi ho hg hd (by decide) (by decide) (v:=.agg #[.func (Fn.func ft) #[] ct,.slice A 2 c,.nilFunc,.int .i64 0]) (w':=w) (by simp only[execOp,hop];go_simp) (Below.refl _ _) ?_;exact⟨_,_,_,_,rfl,hTt,hr,rfl⟩
theorem op_52:StepAt 52:=by
 intro w0 b1 b5 v2 v4 v5 listed a w Q hs hI hi;obtain⟨o,ho,hd,hop,hg⟩:=so_of so_52;obtain⟨v,hv,hT⟩:=hI.get hi (j:=51) (u:=51) (by kernel_rfl) (by kernel_rfl);exact step_ins hs hI hi ho hg hd hop rfl (eval_tmp hv) (dep_listed hi (by kernel_rfl)) rfl hT
theorem op_53:StepAt 53:=by
 intro w0 b1 b5 v2 v4 v5 listed a w Q hs hI hi;obtain⟨o,ho,hd,hop,hg⟩:=so_of so_53;have ht:=hI.t3;exact step_val hs hI hi ho hg hd (by decide) (by decide) (v:=(.func (Fn.func 190) #[] #[])) (w':=w) (by simp only[execOp,hop];go_simp) (Below.refl _ _) (isExpr_fn w)
theorem op_54:StepAt 54:=by
 intro w0 b1 b5 v2 v4 v5 listed a w Q hs hI hi;obtain⟨o,ho,hd,hop,hg⟩:=so_of so_54;obtain⟨x1,hx1,hT1⟩:=hI.get hi (j:=53) (u:=52) (by kernel_rfl) (by kernel_rfl);have he1:=eval_tmp hx1;obtain⟨f1,c1,rfl⟩:=kind_form hT1;refine step_val hs hI hi ho hg hd (by decide) (by decide) (v:=.slice (some ⟨w.heap.size,0,none⟩) 2 2) (w':=w.alloc (.cells #[.func (Fn.func 198) #[] #[],.func (Fn.func f1) #[] c1] 54)) (by simp only[execOp,hop];go_simp) (below_alloc _ _) ?_;exact⟨_,_,rfl,funs_row w 54 [.func (Fn.func 198) #[] #[],.func (Fn.func f1) #[] c1] [isPlaceM,isExprM] (.cons (isPlace_fn w) (.cons (hT1) .nil))⟩
theorem op_55:StepAt 55:=by
 intro w0 b1 b5 v2 v4 v5 listed a w Q hs hI hi;obtain⟨o,ho,hd,hop,hg⟩:=so_of so_55;obtain⟨xk,hxk,A,c,rfl,hr⟩:=hI.get hi (j:=54) (u:=53) (by kernel_rfl) (by kernel_rfl);have hek:=eval_tmp hxk;refine step_val hs hI hi ho hg hd (by decide) (by decide) (v:=.agg #[.func (Fn.func 194) #[] #[],.slice A 2 c,.nilFunc,.int .i64 0]) (w':=w) (by simp only[execOp,hop];go_simp) (Below.refl _ _) ?_;exact⟨_,_,_,_,rfl,empty_fn w,hr,rfl⟩
theorem op_56:StepAt 56:=by
 intro w0 b1 b5 v2 v4 v5 listed a w Q hs hI hi;obtain⟨o,ho,hd,hop,hg⟩:=so_of so_56;obtain⟨v,hv,hT⟩:=hI.get hi (j:=55) (u:=54) (by kernel_rfl) (by kernel_rfl);exact step_ins hs hI hi ho hg hd hop rfl (eval_tmp hv) (dep_listed hi (by kernel_rfl)) rfl hT
theorem op_57:StepAt 57:=by
 intro w0 b1 b5 v2 v4 v5 listed a w Q hs hI hi;obtain⟨o,ho,hd,hop,hg⟩:=so_of so_57;have ht:=hI.t3;exact step_val hs hI hi ho hg hd (by decide) (by decide) (v:=(.func (Fn.func 190) #[] #[])) (w':=w) (by simp only[execOp,hop];go_simp) (Below.refl _ _) (isExpr_fn w)
theorem op_58:StepAt 58:=by
 intro w0 b1 b5 v2 v4 v5 listed a w Q hs hI hi;obtain⟨o,ho,hd,hop,hg⟩:=so_of so_58;have ht:=hI.t2;exact step_val hs hI hi ho hg hd (by decide) (by decide) (v:=v2) (w':=w) (by simp only[execOp,hop];go_simp) (Below.refl _ _) hI.k2
theorem op_59:StepAt 59:=by
 intro w0 b1 b5 v2 v4 v5 listed a w Q hs hI hi;obtain⟨o,ho,hd,hop,hg⟩:=so_of so_59;refine step_val hs hI hi ho hg hd (by decide) (by decide) (v:=.slice (some ⟨w.heap.size,0,none⟩) 2 2) (w':=w.alloc (.cells #[.int .i64 11,.int .i64 14] 3)) (by simp only[execOp,hop];go_simp) (below_alloc _ _) ?_;exact⟨_,_,rfl,ints_row w 3 [11,14]⟩
theorem op_60:StepAt 60:=by
 intro w0 b1 b5 v2 v4 v5 listed a w Q hs hI hi;obtain⟨o,ho,hd,hop,hg⟩:=so_of so_60;obtain⟨v,hv,A,c,rfl,hr⟩:=hI.get hi (j:=59) (u:=57) (by kernel_rfl) (by kernel_rfl);have he:=eval_tmp hv;exact step_call hs hI hi ho hg hd (by decide) (by decide) (f:=189) (args:=#[.slice A 2 c]) (by simp only[execOp,hop];go_simp) (one_any A 2 c [11,14] w hr rfl (by omega))
theorem op_61:StepAt 61:=by
 intro w0 b1 b5 v2 v4 v5 listed a w Q hs hI hi;obtain⟨o,ho,hd,hop,hg⟩:=so_of so_61;obtain⟨v,hv,hT⟩:=hI.get hi (j:=60) (u:=58) (by kernel_rfl) (by kernel_rfl);have he:=eval_tmp hv;exact step_call hs hI hi ho hg hd (by decide) (by decide) (f:=191) (args:=#[v]) (by simp only[execOp,hop];go_simp) (optional2_any v (oneP [11,14]) w hT)
theorem op_62:StepAt 62:=by
 intro w0 b1 b5 v2 v4 v5 listed a w Q hs hI hi;obtain⟨o,ho,hd,hop,hg⟩:=so_of so_62;obtain⟨x0,hx0,hT0⟩:=hI.get hi (j:=57) (u:=55) (by kernel_rfl) (by kernel_rfl);have he0:=eval_tmp hx0;obtain⟨x1,hx1,hT1⟩:=hI.get hi (j:=58) (u:=56) (by kernel_rfl) (by kernel_rfl);have he1:=eval_tmp hx1;obtain⟨x2,hx2,hT2⟩:=hI.get hi (j:=61) (u:=59) (by kernel_rfl) (by kernel_rfl);have he2:=eval_tmp hx2;obtain⟨f0,c0,rfl⟩:=kind_form hT0;obtain⟨f1,c1,rfl⟩:=kind_form hT1;obtain⟨f2,c2,rfl⟩:=kind_form hT2;refine step_val hs hI hi ho hg hd (by decide) (by decide) (v:=.slice (some ⟨w.heap.size,0,none⟩) 3 3) (w':=w.alloc (.cells #[.func (Fn.func f0) #[] c0,.func (Fn.func f1) #[] c1,.func (Fn.func f2) #[] c2] 54)) (by simp only[execOp,hop];go_simp) (below_alloc _ _) ?_;exact⟨_,_,rfl,funs_row w 54 [.func (Fn.func f0) #[] c0,.func (Fn.func f1) #[] c1,.func (Fn.func f2) #[] c2] [isExprM,oneP [11],optP (oneP [11,14])] (.cons (hT0) (.cons (hT1) (.cons (hT2) .nil)))⟩
theorem op_63:StepAt 63:=by
 intro w0 b1 b5 v2 v4 v5 listed a w Q hs hI hi;obtain⟨o,ho,hd,hop,hg⟩:=so_of so_63;obtain⟨xk,hxk,A,c,rfl,hr⟩:=hI.get hi (j:=62) (u:=60) (by kernel_rfl) (by kernel_rfl);have hek:=eval_tmp hxk;refine step_val hs hI hi ho hg hd (by decide) (by decide) (v:=.agg #[.func (Fn.func 194) #[] #[],.slice A 3 c,.nilFunc,.int .i64 0]) (w':=w) (by simp only[execOp,hop];go_simp) (Below.refl _ _) ?_;exact⟨_,_,_,_,rfl,empty_fn w,hr,rfl⟩
theorem op_64:StepAt 64:=by
 intro w0 b1 b5 v2 v4 v5 listed a w Q hs hI hi;obtain⟨o,ho,hd,hop,hg⟩:=so_of so_64;obtain⟨v,hv,hT⟩:=hI.get hi (j:=63) (u:=61) (by kernel_rfl) (by kernel_rfl);exact step_ins hs hI hi ho hg hd hop rfl (eval_tmp hv) (dep_listed hi (by kernel_rfl)) rfl hT
theorem op_65:StepAt 65:=by
 intro w0 b1 b5 v2 v4 v5 listed a w Q hs hI hi;obtain⟨o,ho,hd,hop,hg⟩:=so_of so_65;have ht:=hI.t3;exact step_val hs hI hi ho hg hd (by decide) (by decide) (v:=(.func (Fn.func 190) #[] #[])) (w':=w) (by simp only[execOp,hop];go_simp) (Below.refl _ _) (isExpr_fn w)
theorem op_66:StepAt 66:=by
 intro w0 b1 b5 v2 v4 v5 listed a w Q hs hI hi;obtain⟨o,ho,hd,hop,hg⟩:=so_of so_66;have ht:=hI.t2;exact step_val hs hI hi ho hg hd (by decide) (by decide) (v:=v2) (w':=w) (by simp only[execOp,hop];go_simp) (Below.refl _ _) hI.k2
theorem op_67:StepAt 67:=by
 intro w0 b1 b5 v2 v4 v5 listed a w Q hs hI hi;obtain⟨o,ho,hd,hop,hg⟩:=so_of so_67;obtain⟨x0,hx0,hT0⟩:=hI.get hi (j:=65) (u:=62) (by kernel_rfl) (by kernel_rfl);have he0:=eval_tmp hx0;obtain⟨x1,hx1,hT1⟩:=hI.get hi (j:=66) (u:=63) (by kernel_rfl) (by kernel_rfl);have he1:=eval_tmp hx1;obtain⟨f0,c0,rfl⟩:=kind_form hT0;obtain⟨f1,c1,rfl⟩:=kind_form hT1;refine step_val hs hI hi ho hg hd (by decide) (by decide) (v:=.slice (some ⟨w.heap.size,0,none⟩) 2 2) (w':=w.alloc (.cells #[.func (Fn.func f0) #[] c0,.func (Fn.func f1) #[] c1] 54)) (by simp only[execOp,hop];go_simp) (below_alloc _ _) ?_;exact⟨_,_,rfl,funs_row w 54 [.func (Fn.func f0) #[] c0,.func (Fn.func f1) #[] c1] [isExprM,oneP [11]] (.cons (hT0) (.cons (hT1) .nil))⟩
theorem op_68:StepAt 68:=by
 intro w0 b1 b5 v2 v4 v5 listed a w Q hs hI hi;obtain⟨o,ho,hd,hop,hg⟩:=so_of so_68;obtain⟨xk,hxk,A,c,rfl,hr⟩:=hI.get hi (j:=67) (u:=64) (by kernel_rfl) (by kernel_rfl);have hek:=eval_tmp hxk;refine step_val hs hI hi ho hg hd (by decide) (by decide) (v:=.agg #[.func (Fn.func 194) #[] #[],.slice A 2 c,.nilFunc,.int .i64 0]) (w':=w) (by simp only[execOp,hop];go_simp) (Below.refl _ _) ?_;exact⟨_,_,_,_,rfl,empty_fn w,hr,rfl⟩
theorem op_69:StepAt 69:=by
 intro w0 b1 b5 v2 v4 v5 listed a w Q hs hI hi;obtain⟨o,ho,hd,hop,hg⟩:=so_of so_69;obtain⟨v,hv,hT⟩:=hI.get hi (j:=68) (u:=65) (by kernel_rfl) (by kernel_rfl);exact step_ins hs hI hi ho hg hd hop rfl (eval_tmp hv) (dep_listed hi (by kernel_rfl)) rfl hT
theorem op_70:StepAt 70:=by
 intro w0 b1 b5 v2 v4 v5 listed a w Q hs hI hi;obtain⟨o,ho,hd,hop,hg⟩:=so_of so_70;have ht1:=hI.t1;have hc:w.cell? ⟨b1,0,none⟩=some (.func (Fn.func 53) #[] #[]):=hI.k1.cell 0;exact step_val hs hI hi ho hg hd (by decide) (by decide) (v:=(.func (Fn.func 53) #[] #[])) (w':=w) (by simp only[execOp,hop];go_simp) (Below.refl _ _) (name_fn w)
theorem op_71:StepAt 71:=by
 intro w0 b1 b5 v2 v4 v5 listed a w Q hs hI hi;obtain⟨o,ho,hd,hop,hg⟩:=so_of so_71;have ht:=hI.t3;exact step_val hs hI hi ho hg hd (by decide) (by decide) (v:=(.func (Fn.func 190) #[] #[])) (w':=w) (by simp only[execOp,hop];go_simp) (Below.refl _ _) (isExpr_fn w)
theorem op_72:StepAt 72:=by
 intro w0 b1 b5 v2 v4 v5 listed a w Q hs hI hi;obtain⟨o,ho,hd,hop,hg⟩:=so_of so_72;have ht:=hI.t3;exact step_val hs hI hi ho hg hd (by decide) (by decide) (v:=(.func (Fn.func 190) #[] #[])) (w':=w) (by simp only[execOp,hop];go_simp) (Below.refl _ _) (isExpr_fn w)
theorem op_73:StepAt 73:=by
 intro w0 b1 b5 v2 v4 v5 listed a w Q hs hI hi;obtain⟨o,ho,hd,hop,hg⟩:=so_of so_73;have ht:=hI.t2;exact step_val hs hI hi ho hg hd (by decide) (by decide) (v:=v2) (w':=w) (by simp only[execOp,hop];go_simp) (Below.refl _ _) hI.k2
theorem op_74:StepAt 74:=by
 intro w0 b1 b5 v2 v4 v5 listed a w Q hs hI hi;obtain⟨o,ho,hd,hop,hg⟩:=so_of so_74;obtain⟨x0,hx0,hT0⟩:=hI.get hi (j:=71) (u:=67) (by kernel_rfl) (by kernel_rfl);have he0:=eval_tmp hx0;obtain⟨x1,hx1,hT1⟩:=hI.get hi (j:=72) (u:=68) (by kernel_rfl) (by kernel_rfl);have he1:=eval_tmp hx1;obtain⟨x2,hx2,hT2⟩:=hI.get hi (j:=73) (u:=69) (by kernel_rfl) (by kernel_rfl);have he2:=eval_tmp hx2;obtain⟨f0,c0,rfl⟩:=kind_form hT0;obtain⟨f1,c1,rfl⟩:=kind_form hT1;obtain⟨f2,c2,rfl⟩:=kind_form hT2;refine step_val hs hI hi ho hg hd (by decide) (by decide) (v:=.slice (some ⟨w.heap.size,0,none⟩) 3 3) (w':=w.alloc (.cells #[.func (Fn.func f0) #[] c0,.func (Fn.func f1) #[] c1,.func (Fn.func f2) #[] c2] 54)) (by simp only[execOp,hop];go_simp) (below_alloc _ _) ?_;exact⟨_,_,rfl,funs_row w 54 [.func (Fn.func f0) #[] c0,.func (Fn.func f1) #[] c1,.func (Fn.func f2) #[] c2] [isExprM,isExprM,oneP [11]] (.cons (hT0) (.cons (hT1) (.cons (hT2) .nil)))⟩
theorem op_75:StepAt 75:=by
 intro w0 b1 b5 v2 v4 v5 listed a w Q hs hI hi;obtain⟨o,ho,hd,hop,hg⟩:=so_of so_75;obtain⟨xt,hxt,hTt⟩:=hI.get hi (j:=70) (u:=66) (by kernel_rfl) (by kernel_rfl);have het:=eval_tmp hxt;obtain⟨xk,hxk,A,c,rfl,hr⟩:=hI.get hi (j:=74) (u:=70) (by kernel_rfl) (by kernel_rfl);have hek:=eval_tmp hxk;obtain⟨ft,ct,rfl⟩:=text_form hTt;refine step_val hs hI hi ho hg hd (by decide) (by decide) (v:=.agg #[.func (Fn.func ft) #[] ct,.slice A 3 c,.nilFunc,.int .i64 0]) (w':=w) (by simp only[execOp,hop];go_simp) (Below.refl _ _) ?_;exact⟨_,_,_,_,rfl,hTt,hr,rfl⟩
theorem op_76:StepAt 76:=by
 intro w0 b1 b5 v2 v4 v5 listed a w Q hs hI hi;obtain⟨o,ho,hd,hop,hg⟩:=so_of so_76;obtain⟨v,hv,hT⟩:=hI.get hi (j:=75) (u:=71) (by kernel_rfl) (by kernel_rfl);exact step_ins hs hI hi ho hg hd hop rfl (eval_tmp hv) (dep_listed hi (by kernel_rfl)) rfl hT
theorem op_77:StepAt 77:=by
 intro w0 b1 b5 v2 v4 v5 listed a w Q hs hI hi;obtain⟨o,ho,hd,hop,hg⟩:=so_of so_77;have ht:=hI.t3;exact step_val hs hI hi ho hg hd (by decide) (by decide) (v:=(.func (Fn.func 190) #[] #[])) (w':=w) (by simp only[execOp,hop];go_simp) (Below.refl _ _) (isExpr_fn w)
theorem op_78:StepAt 78:=by
 intro w0 b1 b5 v2 v4 v5 listed a w Q hs hI hi;obtain⟨o,ho,hd,hop,hg⟩:=so_of so_78;obtain⟨v,hv,hT⟩:=hI.get hi (j:=77) (u:=72) (by kernel_rfl) (by kernel_rfl);have he:=eval_tmp hv;exact step_call hs hI hi ho hg hd (by decide) (by decide) (f:=191) (args:=#[v]) (by simp only[execOp,hop];go_simp) (optional2_any v (isExprM) w hT)
theorem op_79:StepAt 79:=by
 intro w0 b1 b5 v2 v4 v5 listed a w Q hs hI hi;obtain⟨o,ho,hd,hop,hg⟩:=so_of so_79;obtain⟨x0,hx0,hT0⟩:=hI.get hi (j:=78) (u:=73) (by kernel_rfl) (by kernel_rfl);have he0:=eval_tmp hx0;obtain⟨f0,c0,rfl⟩:=kind_form hT0;refine step_val hs hI hi ho hg hd (by decide) (by decide) (v:=.slice (some ⟨w.heap.size,0,none⟩) 1 1) (w':=w.alloc (.cells #[.func (Fn.func f0) #[] c0] 54)) (by simp only[execOp,hop];go_simp) (below_alloc _ _) ?_;exact⟨_,_,rfl,funs_row w 54 [.func (Fn.func f0) #[] c0] [optP (isExprM)] (.cons (hT0) .nil)⟩
theorem op_80:StepAt 80:=by
 intro w0 b1 b5 v2 v4 v5 listed a w Q hs hI hi;obtain⟨o,ho,hd,hop,hg⟩:=so_of so_80;obtain⟨xk,hxk,A,c,rfl,hr⟩:=hI.get hi (j:=79) (u:=74) (by kernel_rfl) (by kernel_rfl);have hek:=eval_tmp hxk;refine step_val hs hI hi ho hg hd (by decide) (by decide) (v:=.agg #[.func (Fn.func 194) #[] #[],.slice A 1 c,.nilFunc,.int .i64 0]) (w':=w) (by simp only[execOp,hop];go_simp) (Below.refl _ _) ?_;exact⟨_,_,_,_,rfl,empty_fn w,hr,rfl⟩
theorem op_81:StepAt 81:=by
 intro w0 b1 b5 v2 v4 v5 listed a w Q hs hI hi;obtain⟨o,ho,hd,hop,hg⟩:=so_of so_81;obtain⟨v,hv,hT⟩:=hI.get hi (j:=80) (u:=75) (by kernel_rfl) (by kernel_rfl);exact step_ins hs hI hi ho hg hd hop rfl (eval_tmp hv) (dep_listed hi (by kernel_rfl)) rfl hT
theorem op_82:StepAt 82:=by
 intro w0 b1 b5 v2 v4 v5 listed a w Q hs hI hi;obtain⟨o,ho,hd,hop,hg⟩:=so_of so_82;have ht:=hI.t3;exact step_val hs hI hi ho hg hd (by decide) (by decide) (v:=(.func (Fn.func 190) #[] #[])) (w':=w) (by simp only[execOp,hop];go_simp) (Below.refl _ _) (isExpr_fn w)
theorem op_83:StepAt 83:=by
 intro w0 b1 b5 v2 v4 v5 listed a w Q hs hI hi;obtain⟨o,ho,hd,hop,hg⟩:=so_of so_83;obtain⟨x0,hx0,hT0⟩:=hI.get hi (j:=82) (u:=76) (by kernel_rfl) (by kernel_rfl);have he0:=eval_tmp hx0;obtain⟨f0,c0,rfl⟩:=kind_form hT0;refine step_val hs hI hi ho hg hd (by decide) (by decide) (v:=.slice (some ⟨w.heap.size,0,none⟩) 1 1) (w':=w.alloc (.cells #[.func (Fn.func f0) #[] c0] 54)) (by simp only[execOp,hop];go_simp) (below_alloc _ _) ?_;exact⟨_,_,rfl,funs_row w 54 [.func (Fn.func f0) #[] c0] [isExprM] (.cons (hT0) .nil)⟩
theorem op_84:StepAt 84:=by
 intro w0 b1 b5 v2 v4 v5 listed a w Q hs hI hi;obtain⟨o,ho,hd,hop,hg⟩:=so_of so_84;obtain⟨xk,hxk,A,c,rfl,hr⟩:=hI.get hi (j:=83) (u:=77) (by kernel_rfl) (by kernel_rfl);have hek:=eval_tmp hxk;refine step_val hs hI hi ho hg hd (by decide) (by decide) (v:=.agg #[.func (Fn.func 194) #[] #[],.slice A 1 c,.nilFunc,.int .i64 0]) (w':=w) (by simp only[execOp,hop];go_simp) (Below.refl _ _) ?_;exact⟨_,_,_,_,rfl,empty_fn w,hr,rfl⟩
theorem op_85:StepAt 85:=by
 intro w0 b1 b5 v2 v4 v5 listed a w Q hs hI hi;obtain⟨o,ho,hd,hop,hg⟩:=so_of so_85;obtain⟨v,hv,hT⟩:=hI.get hi (j:=84) (u:=78) (by kernel_rfl) (by kernel_rfl);exact step_ins hs hI hi ho hg hd hop rfl (eval_tmp hv) (dep_listed hi (by kernel_rfl)) rfl hT
theorem op_86:StepAt 86:=by
 intro w0 b1 b5 v2 v4 v5 listed a w Q hs hI hi;obtain⟨o,ho,hd,hop,hg⟩:=so_of so_86;have ht1:=hI.t1;have hc:w.cell? ⟨b1,0,none⟩=some (.func (Fn.func 53) #[] #[]):=hI.k1.cell 0;exact step_val hs hI hi ho hg hd (by decide) (by decide) (v:=(.func (Fn.func 53) #[] #[])) (w':=w) (by simp only[execOp,hop];go_simp) (Below.refl _ _) (name_fn w)
theorem op_87:StepAt 87:=by
 intro w0 b1 b5 v2 v4 v5 listed a w Q hs hI hi;obtain⟨o,ho,hd,hop,hg⟩:=so_of so_87;have ht:=hI.t3;exact step_val hs hI hi ho hg hd (by decide) (by decide) (v:=(.func (Fn.func 190) #[] #[])) (w':=w) (by simp only[execOp,hop];go_simp) (Below.refl _ _) (isExpr_fn w)
theorem op_88:StepAt 88:=by
 intro w0 b1 b5 v2 v4 v5 listed a w Q hs hI hi;obtain⟨o,ho,hd,hop,hg⟩:=so_of so_88;obtain⟨xt,hxt,hTt⟩:=hI.get hi (j:=86) (u:=79) (by kernel_rfl) (by kernel_rfl);have het:=eval_tmp hxt;obtain⟨xl,hxl,hTl⟩:=hI.get hi (j:=87) (u:=80) (by kernel_rfl) (by kernel_rfl);have hel:=eval_tmp hxl;obtain⟨ft,ct,rfl⟩:=text_form hTt;obtain⟨fl,cl,rfl⟩:=kind_form hTl;refine step_val hs hI hi ho hg hd (by decide) (by decide) (v:=.agg #[.func (Fn.func ft) #[] ct,.slice none 0 0,.func (Fn.func fl) #[] cl,.int .i64 0]) (w':=w) (by simp only[execOp,hop];go_simp) (Below.refl _ _) ?_;exact⟨_,_,_,_,rfl,hTt,(by intro i p h;simp at h),hTl⟩
theorem op_89:StepAt 89:=by
 intro w0 b1 b5 v2 v4 v5 listed a w Q hs hI hi;obtain⟨o,ho,hd,hop,hg⟩:=so_of so_89;obtain⟨v,hv,hT⟩:=hI.get hi (j:=88) (u:=81) (by kernel_rfl) (by kernel_rfl);exact step_ins hs hI hi ho hg hd hop rfl (eval_tmp hv) (dep_listed hi (by kernel_rfl)) rfl hT
theorem op_90:StepAt 90:=by
 intro w0 b1 b5 v2 v4 v5 listed a w Q hs hI hi;obtain⟨o,ho,hd,hop,hg⟩:=so_of so_90;have ht1:=hI.t1;have hc:w.cell? ⟨b1,0,none⟩=some (.func (Fn.func 53) #[] #[]):=hI.k1.cell 0;exact step_val hs hI hi ho hg hd (by decide) (by decide) (v:=(.func (Fn.func 53) #[] #[])) (w':=w) (by simp only[execOp,hop];go_simp) (Below.refl _ _) (name_fn w)
theorem op_91:StepAt 91:=by
 intro w0 b1 b5 v2 v4 v5 listed a w Q hs hI hi;obtain⟨o,ho,hd,hop,hg⟩:=so_of so_91;obtain⟨xt,hxt,hTt⟩:=hI.get hi (j:=90) (u:=82) (by kernel_rfl) (by kernel_rfl);have het:=eval_tmp hxt;obtain⟨ft,ct,rfl⟩:=text_form hTt;refine step_val hs hI hi ho hg hd (by decide) (by decide) (v:=.agg #[.func (Fn.func ft) #[] ct,.slice none 0 0,.nilFunc,.int .i64 0]) (w':=w) (by simp only[execOp,hop];go_simp) (Below.refl _ _) ?_;exact⟨_,_,_,_,rfl,hTt,(by intro i p h;simp at h),rfl⟩
theorem op_92:StepAt 92:=by
 intro w0 b1 b5 v2 v4 v5 listed a w Q hs hI hi;obtain⟨o,ho,hd,hop,hg⟩:=so_of so_92;obtain⟨v,hv,hT⟩:=hI.get hi (j:=91) (u:=83) (by kernel_rfl) (by kernel_rfl);exact step_ins hs hI hi ho hg hd hop rfl (eval_tmp hv) (dep_listed hi (by kernel_rfl)) rfl hT
theorem op_93:StepAt 93:=by
 intro w0 b1 b5 v2 v4 v5 listed a w Q hs hI hi;obtain⟨o,ho,hd,hop,hg⟩:=so_of so_93;refine step_val hs hI hi ho hg hd (by decide) (by decide) (v:=.slice (some ⟨w.heap.size,0,none⟩) 1 1) (w':=w.alloc (.cells #[.int .i64 20] 3)) (by simp only[execOp,hop];go_simp) (below_alloc _ _) ?_;exact⟨_,_,rfl,ints_row w 3 [20]⟩
theorem op_94:StepAt 94:=by
 intro w0 b1 b5 v2 v4 v5 listed a w Q hs hI hi;obtain⟨o,ho,hd,hop,hg⟩:=so_of so_94;obtain⟨v,hv,A,c,rfl,hr⟩:=hI.get hi (j:=93) (u:=84) (by kernel_rfl) (by kernel_rfl);have he:=eval_tmp hv;exact step_call hs hI hi ho hg hd (by decide) (by decide) (f:=189) (args:=#[.slice A 1 c]) (by simp only[execOp,hop];go_simp) (one_any A 1 c [20] w hr rfl (by omega))
theorem op_95:StepAt 95:=by
 intro w0 b1 b5 v2 v4 v5 listed a w Q hs hI hi;obtain⟨o,ho,hd,hop,hg⟩:=so_of so_95;have ht:=hI.t3;exact step_val hs hI hi ho hg hd (by decide) (by decide) (v:=(.func (Fn.func 190) #[] #[])) (w':=w) (by simp only[execOp,hop];go_simp) (Below.refl _ _) (isExpr_fn w)
end Go.Proofs.YtoepemlnlpamlaaGreat
