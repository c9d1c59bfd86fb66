/- The law NamesBack holds for every text and every number: it returns true, and its arguments read as before. No condition. Part 21: Shp8 Fits. -/
import Derived.Laws.EntriesVeiled
import Derived.Test.YtoepemlnlpamlaaGreatBakk18
import Derived.Test.YtoepemlnlpamlaaGreatBakk20
set_option maxRecDepth 100000
set_option maxHeartbeats 4000000
namespace Go.Proofs.YtoepemlnlpamlaaGreat
open Go.RowKit
theorem op_136:jD 136:=by
 intro w0 b1 b5 v2 v4 v5 listed a w Q hs hI hi;obtain⟨o,ho,hd,hop,hg⟩:=lY so_136;have h0:listed.getD 0 false=true:=zg hi (by kernel_rfl);have hlt:136<listed.size:=by have:=(aaG.1 ho).1;omega
 obtain⟨r,m,h1,h2,h3,h4,h5,h6,h7⟩:=hI.nY h0
 have hp:∀u,u≠118->(a.put o.dst (.map (some r))).tmps[u]? =a.tmps[u]? :=fun u hu=>by
  rw[hd];show(a.tmps.setIfInBounds 118 _)[u]? =_;rw[Array.getElem?_setIfInBounds_ne (Ne.symm hu)]
 refine zk (o:=o) ho hg ?_;unfold Oper.wp
 have hrun:(execOp a.eval o).run Tryz.prog w= .ok (.value (.map (some r))) w:=by
  simp only[execOp,hop];go_simp
 rw[hrun,Oper.upon_value];refine⟨?_,(hp 1 (by omega)).trans hI.t1,(hp 2 (by omega)).trans hI.t2,(hp 3 (by omega)).trans hI.t3,(hp 4 (by omega)).trans hI.t4,(hp 5 (by omega)).trans hI.t5,hI.k1,hI.k2,hI.k4,hI.k5,hI.q5,?_,?_,?_,hI.below,?_⟩
 ·rw[hd]
  show(a.tmps.setIfInBounds 118 _).size=119;simpa using hI.size
 ·exact hI.tmp.put hs (fun t v h=>h) (Kb JH) ho hd (by rw[hI.size];omega) trivial
 ·intro _
  refine⟨r,m,(hp 11 (by omega)).trans h1,h2,h3,h4,fun j k hj hl=>?_,fun _=>?_,fun hl=>?_⟩
  ·have hne:j≠136:=by rintro rfl;cases hj
   rw[eF hne]at hl;exact h5 j k hj hl
  ·rw[hd]
   show(a.tmps.setIfInBounds 118 _)[118]? =_;simp[hI.size]
  ·rw[eF (by omega)]at hl
   exact(hp 0 (by omega)).trans (h7 hl)
 ·intro j hj hl
  rw[eF (by omega)];exact h0
 ·rw[hd]
  exact hI.defers
theorem op_137:jD 137:=by
 intro w0 b1 b5 v2 v4 v5 listed a w Q hs hI hi;obtain⟨o,ho,hd,hop,hg⟩:=lY so_137;have h136:listed.getD 136 false=true:=zg hi (by kernel_rfl);have h0:listed.getD 0 false=true:=hI.ord 136 (.inr (.inl rfl)) h136;obtain⟨r,m,h1,h2,h3,h4,h5,h6,h7⟩:=hI.nY h0;have h118:=h6 h136
 have hp:∀u,u≠0->(a.put o.dst (.map (some r))).tmps[u]? =a.tmps[u]? :=fun u hu=>by
  rw[hd];show(a.tmps.setIfInBounds 0 _)[u]? =_;rw[Array.getElem?_setIfInBounds_ne (Ne.symm hu)]
 refine zk (o:=o) ho hg ?_;unfold Oper.wp
 have hrun:(execOp a.eval o).run Tryz.prog w= .ok (.value (.map (some r))) w:=by
  simp only[execOp,hop];go_simp
 rw[hrun,Oper.upon_value];refine⟨?_,(hp 1 (by omega)).trans hI.t1,(hp 2 (by omega)).trans hI.t2,(hp 3 (by omega)).trans hI.t3,(hp 4 (by omega)).trans hI.t4,(hp 5 (by omega)).trans hI.t5,hI.k1,hI.k2,hI.k4,hI.k5,hI.q5,?_,?_,?_,hI.below,?_⟩
 ·rw[hd]
  show(a.tmps.setIfInBounds 0 _).size=119;simpa using hI.size
 ·exact hI.tmp.put hs (fun t v h=>h) (Kb JH) ho hd (by rw[hI.size];omega) trivial
 ·intro _
  refine⟨r,m,(hp 11 (by omega)).trans h1,h2,h3,h4,fun j k hj hl=>?_,fun hl=>?_,fun _=>?_⟩
  ·have hne:j≠137:=by rintro rfl;cases hj
   rw[eF hne]at hl;exact h5 j k hj hl
  ·rw[eF (by omega)]at hl
   exact(hp 118 (by omega)).trans (h6 hl)
  ·rw[hd]
   show(a.tmps.setIfInBounds 0 _)[0]? =_;simp[hI.size]
 ·intro j hj hl
  rw[eF (by omega)];exact h0
 ·rw[hd]
  exact hI.defers
theorem op_all:∀i,i<138->jD i
 | 0,_=>op_0 so_0
 | 1,_=>kB 12 TX.e
 | 2,_=>kN 0 12
 | 3,_=>kI2 13 3 5
 | 4,_=>kO 14 13 _
 | 5,_=>Xh 15 TX.e (KP.t 14 _)
 | 6,_=>kN 2 15
 | 7,_=>kL 16
 | 8,_=>SG 17 4
 | 9,_=>kO 18 17 _
 | 10,_=>kBm 19 (TX.t 16 _) (KP.t 18 _)
 | 11,_=>kN 3 19
 | 12,_=>kL 20
 | 13,_=>SG 21 9
 | 14,_=>kO 22 21 _
 | 15,_=>MU 23 (KP.t 22 _)
 | 16,_=>yN 24 (TX.t 20 _) 23 _
 | 17,_=>kN 4 24
 | 18,_=>kL 25
 | 19,_=>SG 26 6
 | 20,_=>kO 27 26 _
 | 21,_=>kM4 28
 | 22,_=>kM2 29
 | 23,_=>kF3 30 (KP.t 27 _) (KP.t 28 _) (KP.t 29 _)
 | 24,_=>yN 31 (TX.t 25 _) 30 _
 | 25,_=>kN 5 31
 | 26,_=>kI2 32 7 8
 | 27,_=>kO 33 32 _
 | 28,_=>Xh 34 TX.e (KP.t 33 _)
 | 29,_=>kN 6 34
 | 30,_=>kL 35
 | 31,_=>kM4 36
 | 32,_=>MU 37 (KP.t 36 _)
 | 33,_=>yN 38 (TX.t 35 _) 37 _
 | 34,_=>kN 7 38
 | 35,_=>kL 39
 | 36,_=>kM4 40
 | 37,_=>MU 41 (KP.t 40 _)
 | 38,_=>yN 42 (TX.t 39 _) 41 _
 | 39,_=>kN 8 42
 | 40,_=>op_40
 | 41,_=>kB 44 (TX.t 43 _)
 | 42,_=>kN 9 44
 | 43,_=>kB 45 TX.n
 | 44,_=>kN 10 45
 | 45,_=>Xh 46 TX.e KP.s
 | 46,_=>kN 11 46
 | 47,_=>kL 47
 | 48,_=>kM4 48
 | 49,_=>zN 49
 | 50,_=>Xg 50 (KP.t 48 _) (KP.t 49 _)
 | 51,_=>yN 51 (TX.t 47 _) 50 _
 | 52,_=>kN 12 51
 | 53,_=>zN 52
 | 54,_=>Xg 53 KP.p (KP.t 52 _)
 | 55,_=>yN 54 TX.e 53 _
 | 56,_=>kN 13 54
 | 57,_=>zN 55
 | 58,_=>kM2 56
 | 59,_=>kI2 57 11 14
 | 60,_=>kO 58 57 _
 | 61,_=>kQ 59 58 _
 | 62,_=>kF3 60 (KP.t 55 _) (KP.t 56 _) (KP.t 59 _)
 | 63,_=>yN 61 TX.e 60 _
 | 64,_=>kN 14 61
 | 65,_=>zN 62
 | 66,_=>kM2 63
 | 67,_=>Xg 64 (KP.t 62 _) (KP.t 63 _)
 | 68,_=>yN 65 TX.e 64 _
 | 69,_=>kN 15 65
 | 70,_=>kL 66
 | 71,_=>zN 67
 | 72,_=>zN 68
 | 73,_=>kM2 69
 | 74,_=>kF3 70 (KP.t 67 _) (KP.t 68 _) (KP.t 69 _)
 | 75,_=>yN 71 (TX.t 66 _) 70 _
 | 76,_=>kN 16 71
 | 77,_=>zN 72
 | 78,_=>kQ 73 72 _
 | 79,_=>MU 74 (KP.t 73 _)
 | 80,_=>yN 75 TX.e 74 _
 | 81,_=>kN 17 75
 | 82,_=>zN 76
 | 83,_=>MU 77 (KP.t 76 _)
 | 84,_=>yN 78 TX.e 77 _
 | 85,_=>kN 18 78
 | 86,_=>kL 79
 | 87,_=>zN 80
 | 88,_=>Xh 81 (TX.t 79 _) (KP.t 80 _)
 | 89,_=>kN 19 81
 | 90,_=>kL 82
 | 91,_=>kB 83 (TX.t 82 _)
 | 92,_=>kN 20 83
 | 93,_=>SG 84 20
 | 94,_=>kO 85 84 _
 | 95,_=>zN 86
 | 96,_=>Xg 87 (KP.t 85 _) (KP.t 86 _)
 | 97,_=>yN 88 TX.e 87 _
 | 98,_=>kN 21 88
 | 99,_=>kL 89
 | 100,_=>SG 90 20
 | 101,_=>kO 91 90 _
 | 102,_=>MU 92 (KP.t 91 _)
 | 103,_=>yN 93 (TX.t 89 _) 92 _
 | 104,_=>kN 22 93
 | 105,_=>SG 94 20
 | 106,_=>kO 95 94 _
 | 107,_=>MU 96 (KP.t 95 _)
 | 108,_=>yN 97 TX.e 96 _
 | 109,_=>kN 23 97
 | 110,_=>kB 98 TX.n
 | 111,_=>kN 24 98
 | 112,_=>kS2 99 ⟨#[116,114,117,101]⟩ ⟨#[102,97,108,115,101]⟩
 | 113,_=>kW 100 99 _
 | 114,_=>kB 101 (TX.t 100 _)
 | 115,_=>kN 25 101
 | 116,_=>zN 102
 | 117,_=>kBm 103 TX.e (KP.t 102 _)
 | 118,_=>kN 26 103
 | 119,_=>kL 104
 | 120,_=>zN 105
 | 121,_=>Xh 106 (TX.t 104 _) (KP.t 105 _)
 | 122,_=>kN 27 106
 | 123,_=>kS2 107 ⟨#[45]⟩ ⟨#[110,111,116]⟩
 | 124,_=>kW 108 107 _
 | 125,_=>zN 109
 | 126,_=>MU 110 (KP.t 109 _)
 | 127,_=>yN 111 (TX.t 108 _) 110 _
 | 128,_=>kN 28 111
 | 129,_=>op_129
 | 130,_=>kW 113 112 _
 | 131,_=>zN 114
 | 132,_=>zN 115
 | 133,_=>Xg 116 (KP.t 114 _) (KP.t 115 _)
 | 134,_=>yN 117 (TX.t 113 _) 116 _
 | 135,_=>kN 29 117
 | 136,_=>op_136
 | 137,_=>op_137
 | i+138,h=>absurd h (by omega)
theorem Hq{P:Program}{Q:Exit->Act->World->Prop}{id:Nat}{a:Act}{w:World}{ops:Array Oper}(l:List Oper)(he:ops=l.toArray)(I:Array Bool->Act->World->Prop)(hm:P.follows .mixedOrders=true)
 (De:∀(i:Nat) (o:Oper),l.toArray[i]? =some o->∀e∈o.after,e.on<i)
 (h0:I (Array.replicate l.toArray.size false) a w.drew)
 (hstep:∀listed a w i,listed.size=l.toArray.size->I listed a w->i∈Region.ready .any l.toArray listed->wpOp P l.toArray (NoPanic Q) i (I (listed.setIfInBounds i true)) a w)
 (hend:∀listed a w,listed.size=l.toArray.size->(∀i,i<l.toArray.size->listed.getD i true=true)->I listed a w->Q .normal a w):(Code.region id ops true).wp P Q a w:=by
 subst he;exact NH I hm De h0 hstep hend
theorem WC(n:Nat)(h:30<=n):sP n=none:=by
 unfold sP;split<;>first|omega|rfl
def Xl:Bool:=(List.range 30).all fun n=> !(sP n).isSome || (List.range 138).any fun i=>kI i==some (n:Int)
theorem ins_chk:Xl=true:=by kernel_rfl
theorem ins_of{k:Int}(h:(lJ k).isSome=true):∃i,i<138/\kI i=some k:=by
 cases k with
 | negSucc n=>cases h
 | ofNat n=>
  have hs:(sP n).isSome=true:=h;by_cases hn:n<30
  ·have hc:=ins_chk
   unfold Xl at hc;rw[List.all_eq_true]at hc;have h1:=hc n (by simpa using hn);rw[hs]at h1;simp only[Bool.not_true,Bool.false_or,List.any_eq_true,beq_iff_eq]at h1;obtain⟨i,h2,h3⟩:=h1;exact⟨i,by simpa using h2,h3⟩
  ·rw[WC n (by omega)]at hs
   cases hs
def Jk(w:World)(r:Nat):Prop:=∃m,aZ kF w r m/\(∀x∈m,∃sh,lJ x.1=some sh/\qf w x.2 sh)/\∀k,(lJ k).isSome=true->(ng m k).isSome=true
theorem Ue(w:World):Calls Tryz.prog 141 #[] w fun e w'=> ∃r,e= .returned (.map (some r))/\Jk w' r/\Below w.heap.size w w':=by
 go_enter Tryz.func141,Tryz.ntmps141
 go_wp2_with fail
 generalize hW1:w.alloc (.cells #[.func (Fn.func 53) #[] #[]] 99)=W1
 have hb1:Below w.heap.size w W1:=by rw[<- hW1];exact af _ _
 have hk1:ai W1 w.heap.size 99 #[.func (Fn.func 53) #[] #[]]:=by rw[<- hW1];exact ai.new w _ _
 have hs1:W1.heap.size=w.heap.size+1:=by rw[<- hW1];simp
 rw[<- hs1];have hr1:=IP W1 3 [11];have hb1':=af W1 (.cells #[.int .i64 11] 3);clear hW1 hs1;refine(Sw (some ⟨W1.heap.size,0,none⟩) 1 1 [11] _ hr1 rfl (by omega)).mono ?_;rintro e w2 ⟨v2,rfl,hf2,hb2⟩;have lF:Below w.heap.size w w2:=(hb1.trans (hb1'.mono hb1.size)).trans (hb2.mono (aaE hb1.size hb1'.size));have hk2:ai w2 w.heap.size 99 #[.func (Fn.func 53) #[] #[]]:=hk1.below ((hb1'.trans (hb2.mono hb1'.size)).mono (aaD _)) hk1.lt;obtain⟨fn2,cap2,hv2⟩:=EF hf2;subst hv2;have HF2:=kH hf2;have FL:=kH lF;have Ap:=kH hk2;clear hb1 hk1 hr1 hb1' hb2 hf2 lF hk2;go_wp2_with fail
 refine(Dw (.func (Fn.func 192) #[] #[]) fq w2 (Xi w2)).mono ?_;rintro e w3 ⟨v4,rfl,Ta,hb3⟩;obtain⟨fn4,cap4,hv4⟩:=EF Ta;subst hv4;have HF4:=kH Ta;have HF23:=kH (HF2.out.below hb3);have oo:=kH (FL.out.trans (hb3.mono FL.out.size));have fZ:=kH (Ap.out.below hb3 Ap.out.lt);clear Ta hb3;go_wp2_with fail
 have hr3:=Eo w3 9 FR;have ZJ:=af w3 (.cells #[.string ⟨#[105,110,116]⟩,.string ⟨#[98,111,111,108]⟩] 9);refine(Od (some ⟨w3.heap.size,0,none⟩) 2 2 FR _ hr3 rfl (by omega)).mono ?_;rintro e w4 ⟨v5,rfl,hf5,hb4⟩;obtain⟨fn5,cap5,hv5⟩:=Mw hf5;subst hv5;have og:Below w3.heap.size w3 w4:=ZJ.trans (hb4.mono ZJ.size);have HF5:=kH hf5;have HF24:=kH (HF23.out.below og);have HF44:=kH (HF4.out.below og);have HB04:=kH (oo.out.trans (og.mono oo.out.size));have Lj:=kH (fZ.out.below og fZ.out.lt);clear hr3 ZJ hf5 hb4 og;go_wp2_with fail
 rename_i K hK
 generalize oz:w4.alloc (.cells #[.func (Fn.func fn5) #[] cap5] 99)=w5
 have hb5:Below w4.heap.size w4 w5:=by rw[<- oz];exact af _ _
 have hk5:ai w5 w4.heap.size 99 #[.func (Fn.func fn5) #[] cap5]:=by rw[<- oz];exact ai.new w4 _ _
 have hkd:KC w5 w5.drew:=fun _ _ _ _ _=>rfl
 have Vw:=(KC.of_below hb5).trans hkd;have Vi:w4.heap.size<=w5.drew.heap.size:=hb5.size;refine Hq (dz Tryz.f141 4) (by kernel_rfl) (pV w w.heap.size w4.heap.size (.func (Fn.func fn2) #[] cap2) (.func (Fn.func fn4) #[] cap4) (.func (Fn.func fn5) #[] cap5)) (by kernel_rfl) (acyc_of sh_acyc) ?_ ?_ ?_
 ·have hno:∀i,(Array.replicate (dz Tryz.f141 4).toArray.size false).getD i false≠true:=by
   intro i h;simp[Array.getD_eq_getD_getElem?,Array.getElem?_replicate]at h;split at h<;>simp at h
  exact⟨rfl,rfl,rfl,rfl,rfl,rfl,Vw.blk Lj.out,HF24.out.kc Vw Vi,HF44.out.kc Vw Vi,hk5.drew,HF5.out.kc Vw Vi,fun i o t _ _ hl=>absurd hl (hno i),fun hl=>absurd hl (hno 0),fun i _ hl=>absurd hl (hno i),(HB04.out.trans (hb5.mono HB04.out.size)).drew,rfl⟩
 ·intro listed a w' i hs hI hi
  obtain⟨-,o,ho,-⟩:=mem_ready.1 hi;have hlt:=(aaG.1 ho).1
  have hlt2:i<138:=by
   have:=MF;simp only[List.size_toArray]at hlt;omega
  exact op_all i hlt2 _ _ _ _ _ _ listed a w' _ hs hI hi
 ·intro listed a w' hs hall hI
  have hsz:(dz Tryz.f141 4).toArray.size=138:=by simp only[List.size_toArray];exact MF
  have Db:∀i,i<138->listed.getD i false=true:=by
   intro i hi;have h1:=hall i (by omega);have h2:i<listed.size:=by omega
   simp[h2]at h1⊢;exact h1
  obtain⟨r,m,h1,h2,h3,h4,h5,h6,h7⟩:=hI.nY (Db 0 (by omega));have hr0:=h7 (Db 137 (by omega));have iB:=kH Db;have HI:=kH hI
  have HM:Hid (Jk w' r):=kH ⟨m,h3,h4,fun k hk=>by
   obtain⟨i,hi1,hi2⟩:=ins_of hk
   exact h5 i k hi2 (Db i hi1)⟩
  clear hall Db h1 h2 h3 h4 h5 h6 h7 hI;refine hK a w' ?_;go_wp2_with fail
  refine bodyPost_ret (v:=.map (some r)) ?_ HI.out.defers ?_
  ·simp[results,Tryz.results141,go_sem,hr0]
  ·exact⟨r,rfl,HM.out,HI.out.below⟩
section
variable {P:Program}{t:TypeId}{ps rs:Array TypeId}{vr:Bool}
theorem AV(w:World)(d:Nat)(h:P.underlying t=some (.func ps rs vr)):(Op.equalIn (d+1) t Value.nilFunc Value.nilFunc).run P w= .ok true w:=by
 simp[Op.equalIn,run_underlying h]
theorem zY(f:Go.Fn)(cap:Array Value)(w:World)(d:Nat)(h:P.underlying t=some (.func ps rs vr)):(Op.equalIn (d+1) t (.func f #[] cap) Value.nilFunc).run P w= .ok false w:=by
 simp[Op.equalIn,run_underlying h]
theorem RU(w:World)(h:P.underlying t=some (.func ps rs vr)):(binOp BinOp.eql t Value.nilFunc Value.nilFunc).run P w= .ok (.bool true) w:=by
 simp only[binOp];simp[Op.equal,Op.maxDepth,AV w 9999 h]
theorem QL(f:Go.Fn)(cap:Array Value)(w:World)(h:P.underlying t=some (.func ps rs vr)):(binOp BinOp.eql t (.func f #[] cap) Value.nilFunc).run P w= .ok (.bool false) w:=by
 simp only[binOp];simp[Op.equal,Op.maxDepth,zY f cap w 9999 h]
theorem RL(w:World)(h:P.underlying t=some (.func ps rs vr)):(binOp BinOp.neq t Value.nilFunc Value.nilFunc).run P w= .ok (.bool false) w:=by
 simp only[binOp];simp[Op.equal,Op.maxDepth,AV w 9999 h]
theorem Pk(f:Go.Fn)(cap:Array Value)(w:World)(h:P.underlying t=some (.func ps rs vr)):(binOp BinOp.neq t (.func f #[] cap) Value.nilFunc).run P w= .ok (.bool true) w:=by
 simp only[binOp];simp[Op.equal,Op.maxDepth,zY f cap w 9999 h]
end
def yh(sh:vN)(i:Nat)(t:aa):Bool:=
 match sh.list with
 | some p=>p t.kind
 | none=>match sh.kids[i]? with|some p=>p t.kind|none=>false
def fA(sh:vN):Nat->List aa->Bool
 | _,[]=>true
 | i,t::ts=>yh sh i t&&fA sh (i+1) ts
def qB(sh:vN)(n:Nat):Bool:=
 match sh.list with
 | none=>decide (n=sh.kids.length)
 | some _=>decide (sh.most<=(n:Int))
def rW(sh:vN)(t:aa):Bool:=sh.text t.text&&qB sh t.kids.length&&fA sh 0 t.kids
theorem XQ(sh:vN)(v:Value)(t:aa)(A:Option Addr)(c:Nat)(w:World)(B:Nat)(hB:B<=w.heap.size)(hv:qf w v sh)(hk:aD w B A 0 t.kids)(hn:t.kids.length<=1000000000000)(hl:sh.list=none)(hsk:sh.kids.length<=10):
 Calls Tryz.prog 143 #[v,aX t A c] w fun e w'=>e= .returned (.bool (rW sh t))/\Below w.heap.size w w':=by
 obtain⟨tv,Ak,ck,lv,rfl,htext,hrow,hlist⟩:=hv;obtain⟨ft,ct,e1,hent,hcall⟩:=htext;subst e1;rw[hl]at hlist;have hlv:lv= .nilFunc:=hlist;subst hlv;have hres:rW sh t=(sh.text t.text&&decide (t.kids.length=sh.kids.length)&&fA sh 0 t.kids):=by unfold rW qB;rw[hl]
 rw[hres];unfold aX;unfold Ro at hent;obtain⟨kids,oJ⟩:∃x,t.kids=x:=⟨_,rfl⟩
 obtain⟨n,hnn⟩:∃x,kids.length=x:=⟨_,rfl⟩
 obtain⟨m,hmm⟩:∃x,sh.kids.length=x:=⟨_,rfl⟩
 rw[oJ]at hk hn⊢;rw[hnn]at hn⊢;rw[hmm]at hsk⊢;obtain⟨kd,hk0⟩:∃x,t.kind=x:=⟨_,rfl⟩
 obtain⟨x,hx0⟩:∃x,t.text=x:=⟨_,rfl⟩
 obtain⟨a,ha0⟩:∃x,t.at_=x:=⟨_,rfl⟩
 obtain⟨z,hz0⟩:∃x,t.end_=x:=⟨_,rfl⟩
 obtain⟨mo,hmo⟩:∃x,sh.most=x:=⟨_,rfl⟩
 obtain⟨bt,hbt⟩:∃b,sh.text x=b:=⟨_,rfl⟩
 rw[hk0,hx0,ha0,hz0,hmo,hbt];have mr:=kH hcall;have HBT:=kH hbt;have Jp:=kH hrow;have HK:=kH hk;have HN:=kH hnn;have Rb:=kH hmm;have HL:=kH hl;have HB:=kH hB;clear hcall hbt hrow hk hnn hmm hl hres oJ hk0 hx0 ha0 hz0 hmo hlist hB;have hnn1:∀w':World,(binOp BinOp.eql 54 .nilFunc .nilFunc).run Tryz.prog w'= .ok (.bool true) w':=fun w'=>RU w' Tryz.underlying54
 have hnn2:∀w':World,(binOp BinOp.neq 54 .nilFunc .nilFunc).run Tryz.prog w'= .ok (.bool false) w':=fun w'=>RL w' Tryz.underlying54
 go_enter Tryz.func143,Tryz.ntmps143
 go_wp2_with fail
 generalize hW1:w.alloc (.cells #[.func (Fn.func ft) #[] ct,.slice Ak m ck,.nilFunc,.int .i64 mo] 197)=W1
 have hb1:Below w.heap.size w W1:=by rw[<- hW1];exact af _ _
 have hS1:ai W1 w.heap.size 197 #[.func (Fn.func ft) #[] ct,.slice Ak m ck,.nilFunc,.int .i64 mo]:=by rw[<- hW1];exact ai.new w _ _
 have hs1:W1.heap.size=w.heap.size+1:=by rw[<- hW1];simp
 rw[<- hs1];generalize hW2:W1.alloc (.cells #[.int .i64 kd,.string x,.int .i64 a,.int .i64 z,.slice A n c] 24)=w2
 have hb2:Below W1.heap.size W1 w2:=by rw[<- hW2];exact af _ _
 have wN:ai w2 W1.heap.size 24 #[.int .i64 kd,.string x,.int .i64 a,.int .i64 z,.slice A n c]:=by rw[<- hW2];exact ai.new W1 _ _
 have hS2:=hS1.below hb2 hS1.lt;have lF:=hb1.trans (hb2.mono hb1.size);have hcl:=mr.out x w2 (KC.of_below lF) lF.size;rw[HBT.out]at hcl;have NC:=kH hcl;have FL:=kH lF;have hs1b:w.heap.size<W1.heap.size:=by omega
 clear hW1 hW2 hb1 hS1 hs1 hb2 lF hcl;refine NC.out.mono ?_;rintro e w3 ⟨rfl,hb3⟩;have sN:=hS2.below hb3 hS2.lt;have tK:=wN.below hb3 wN.lt;have QG:=FL.out.trans (hb3.mono FL.out.size);have p0:=sN.cell 0;have p1:=sN.cell 1;have p2:=sN.cell 2;have p3:=sN.cell 3;have q4:=tK.cell 4;have hlS:=sN.lt;have hlN:=tK.lt;have iF:=kH sN;have mi:=kH tK;have oo:=kH QG;clear sN tK QG hS2 wN hb3;cases bt
 ·go_wp2_with fail
  go_ret
  exact⟨bH (by simp),oo.out⟩
 by_cases hnm:n=m
 case neg=>
  have hne:((n:Int) !=(m:Int))=true:=by simp;omega
  have vO:=kH hnm;clear hnm;go_wp2_with fail
  go_ret
  exact⟨bH (by rw[decide_eq_false vO.out];simp),oo.out⟩
 subst hnm;have hne:((n:Int) !=(n:Int))=false:=by simp
 go_wp2_with fail
 go_loopg [44] n (fun gk s44 wr=> ∃k:Nat,k+gk=n/\s44= .int .i64 (k:Int)/\fA sh 0 kids=fA sh k (kids.drop k)/\Below w3.heap.size w3 wr)
 case atStart=>exact⟨0,by omega,rfl,rfl,Below.refl _ _⟩
 case round=>
  obtain⟨k,hk,rfl,hfit,hbr⟩:=hrel;have Jv:=kH hfit;have nL:=kH hbr;have hz3:=hbr.size;have hSr:=iF.out.below hbr hlS;have p1:wr.cell? ⟨w.heap.size,1,none⟩=some (.slice Ak n ck):=hSr.cell 1;have p2:wr.cell? ⟨w.heap.size,2,none⟩=some .nilFunc:=hSr.cell 2;have hlSr:=hSr.lt;have HI:=kH hk;have hkn:k<=n:=by omega
  clear hfit hbr hSr hk;by_cases hlt:k<n
  ·have hlt':(k:Int)<(n:Int):=by omega
   obtain⟨u,hu⟩:∃u,kids[k]? =some u:=⟨_,aaH (by rw[HN.out];exact hlt)⟩
   obtain⟨vals,⟨b,off,hA,hbl,hcs⟩,hT⟩:=HK.out.get k u hu;obtain⟨A',c',nO,-⟩:=hT.five;subst hA;subst nO;have hbw:b<w.heap.size:=by have:=HB.out;omega
   have L8:b<w3.heap.size:=by omega
   have hbb:b<wr.heap.size:=by omega
   have tr:∀o v',w.cell? ⟨b,o,none⟩=some v'->wr.cell? ⟨b,o,none⟩=some v':=fun o v' h=>(nL.out.cell (p:=⟨b,o,none⟩) L8).trans ((oo.out.cell (p:=⟨b,o,none⟩) hbw).trans h)
   have t0:wr.cell? ⟨b,off+k*5,none⟩=some (.int .i64 u.kind):=tr _ _ (by simpa using hcs 0 _ rfl);have t1:wr.cell? ⟨b,off+k*5+1,none⟩=some (.string u.text):=tr _ _ (by simpa using hcs 1 _ rfl);have t2:wr.cell? ⟨b,off+k*5+2,none⟩=some (.int .i64 u.at_):=tr _ _ (by simpa using hcs 2 _ rfl);have t3:wr.cell? ⟨b,off+k*5+3,none⟩=some (.int .i64 u.end_):=tr _ _ (by simpa using hcs 3 _ rfl);have t4:wr.cell? ⟨b,off+k*5+4,none⟩=some (.slice A' u.kids.length c'):=tr _ _ (by simpa using hcs 4 _ rfl);obtain⟨p,hp⟩:∃p,sh.kids[k]? =some p:=⟨_,aaH (by rw[Rb.out];exact hlt)⟩
   obtain⟨b',off',v',hAk,hcv,oq⟩:=Jp.out k p hp;obtain⟨fn,cap,e1,hent2,yu⟩:=oq;subst e1;subst hAk;have IW:KC w wr:=(KC.of_below oo.out).trans (KC.of_below nL.out);have MX:w.heap.size<=wr.heap.size:=by have:=oo.out.size;omega
   have hv:wr.cell? ⟨b',off'+k,none⟩=some (.func (Fn.func fn) #[] cap):=IW.cell hcv;have hbb':b'<wr.heap.size:=IW.lt hcv;have Kt:=af wr (.cells #[.int .i64 u.kind,.string u.text,.int .i64 u.at_,.int .i64 u.end_,.slice A' u.kids.length c'] 24);have IX:=yu u.kind _ (IW.trans (KC.of_below Kt)) (aaE MX Kt.size)
   have hstep:fA sh k (kids.drop k)=(p u.kind&&fA sh (k+1) (kids.drop (k+1))):=by
    have hd:kids.drop k=u::kids.drop (k+1):=by
     have hl2:k<kids.length:=by rw[HN.out];exact hlt
     rw[List.drop_eq_getElem_cons hl2];rw[aaH hl2]at hu;injection hu with hu
     rw[hu]
    rw[hd];simp only[fA,yh];rw[HL.out,hp]
   obtain⟨bk,hbk⟩:∃q,p u.kind=q:=⟨_,rfl⟩
   rw[hbk]at IX hstep;have Rn:=kH IX;have Ba:=kH hstep;have Hl:=kH Kt;unfold Ro at hent2;have hwr:IntKind.i64.wrap ((k:Int)+1)=(k:Int)+1:=IntWalk.i64_in _ (by omega);obtain⟨un,hun⟩:∃q,u.kids.length=q:=⟨_,rfl⟩
   rw[hun]at t4 Rn Hl;clear hcs hT tr yu IX hstep Kt IW hcv hu hp hbk hun MX;go_wp2_with fail
   refine Rn.out.mono ?_;rintro e w5 ⟨rfl,hb5⟩;have iQ:=kH (nL.out.trans ((Hl.out.trans (hb5.mono Hl.out.size)).mono nL.out.size));clear hb5;cases bk
   ·go_wp2_with fail
    go_ret
    have hend:fA sh 0 kids=false:=by rw[Jv.out,Ba.out];simp
    exact⟨bH (by simp[hend]),oo.out.trans (iQ.out.mono oo.out.size)⟩
   ·go_wp2_with fail
    go_roundg (gk - 1)
    case measure=>have:=HI.out;omega
    case rel=>exact⟨k+1,by have:=HI.out;omega,by simp,by rw[Jv.out,Ba.out];simp,iQ.out⟩
  ·have hke:k=n:=by omega
   have hres:fA sh 0 kids=true:=by rw[Jv.out,hke,<- HN.out,List.drop_length];rfl
   have aM:=kH hres;clear hres;go_wp2_with fail
   go_ret
   exact⟨bH (by simp[aM.out]),oo.out.trans (nL.out.mono oo.out.size)⟩
theorem XR(sh:vN)(v:Value)(t:aa)(A:Option Addr)(c:Nat)(w:World)(B:Nat)(hB:B<=w.heap.size)(hv:qf w v sh)(hk:aD w B A 0 t.kids)(hn:t.kids.length<=1000000000000)(p:Int->Bool)(hl:sh.list=some p):
 Calls Tryz.prog 143 #[v,aX t A c] w fun e w'=>e= .returned (.bool (rW sh t))/\Below w.heap.size w w':=by
 obtain⟨tv,Ak,ck,lv,rfl,htext,hrow,hlist⟩:=hv;obtain⟨ft,ct,e1,hent,hcall⟩:=htext;subst e1;rw[hl]at hlist;obtain⟨fl,cl,e1,hentl,Xx⟩:=(show jv w lv p from hlist)
 subst e1;have hres:rW sh t=(sh.text t.text&&decide (sh.most<=(t.kids.length:Int))&&fA sh 0 t.kids):=by unfold rW qB;rw[hl]
 rw[hres];unfold aX;unfold Ro at hent hentl;obtain⟨kids,oJ⟩:∃x,t.kids=x:=⟨_,rfl⟩
 obtain⟨n,hnn⟩:∃x,kids.length=x:=⟨_,rfl⟩
 obtain⟨m,hmm⟩:∃x,sh.kids.length=x:=⟨_,rfl⟩
 rw[oJ]at hk hn⊢;rw[hnn]at hn⊢;rw[hmm];obtain⟨kd,hk0⟩:∃x,t.kind=x:=⟨_,rfl⟩
 obtain⟨x,hx0⟩:∃x,t.text=x:=⟨_,rfl⟩
 obtain⟨a,ha0⟩:∃x,t.at_=x:=⟨_,rfl⟩
 obtain⟨z,hz0⟩:∃x,t.end_=x:=⟨_,rfl⟩
 obtain⟨mo,hmo⟩:∃x,sh.most=x:=⟨_,rfl⟩
 have HCALLL:=kH Xx;obtain⟨bt,hbt⟩:∃b,sh.text x=b:=⟨_,rfl⟩
 rw[hk0,hx0,ha0,hz0,hmo,hbt];have mr:=kH hcall;have HBT:=kH hbt;have HK:=kH hk;have HN:=kH hnn;have HL:=kH hl;have HB:=kH hB;clear hcall Xx hbt hrow hk hnn hmm hl hres oJ hk0 hx0 ha0 hz0 hmo hlist hB;have hnn1:∀w':World,(binOp BinOp.eql 54 (.func (Fn.func fl) #[] cl) .nilFunc).run Tryz.prog w'= .ok (.bool false) w':=fun w'=>QL _ _ w' Tryz.underlying54
 have hnn2:∀w':World,(binOp BinOp.neq 54 (.func (Fn.func fl) #[] cl) .nilFunc).run Tryz.prog w'= .ok (.bool true) w':=fun w'=>Pk _ _ w' Tryz.underlying54
 go_enter Tryz.func143,Tryz.ntmps143
 go_wp2_with fail
 generalize hW1:w.alloc (.cells #[.func (Fn.func ft) #[] ct,.slice Ak m ck,.func (Fn.func fl) #[] cl,.int .i64 mo] 197)=W1
 have hb1:Below w.heap.size w W1:=by rw[<- hW1];exact af _ _
 have hS1:ai W1 w.heap.size 197 #[.func (Fn.func ft) #[] ct,.slice Ak m ck,.func (Fn.func fl) #[] cl,.int .i64 mo]:=by rw[<- hW1];exact ai.new w _ _
 have hs1:W1.heap.size=w.heap.size+1:=by rw[<- hW1];simp
 rw[<- hs1];generalize hW2:W1.alloc (.cells #[.int .i64 kd,.string x,.int .i64 a,.int .i64 z,.slice A n c] 24)=w2
 have hb2:Below W1.heap.size W1 w2:=by rw[<- hW2];exact af _ _
 have wN:ai w2 W1.heap.size 24 #[.int .i64 kd,.string x,.int .i64 a,.int .i64 z,.slice A n c]:=by rw[<- hW2];exact ai.new W1 _ _
 have hS2:=hS1.below hb2 hS1.lt;have lF:=hb1.trans (hb2.mono hb1.size);have hcl:=mr.out x w2 (KC.of_below lF) lF.size;rw[HBT.out]at hcl;have NC:=kH hcl;have FL:=kH lF;have hs1b:w.heap.size<W1.heap.size:=by omega
 clear hW1 hW2 hb1 hS1 hs1 hb2 lF hcl;refine NC.out.mono ?_;rintro e w3 ⟨rfl,hb3⟩;have sN:=hS2.below hb3 hS2.lt;have tK:=wN.below hb3 wN.lt;have QG:=FL.out.trans (hb3.mono FL.out.size);have p0:=sN.cell 0;have p1:=sN.cell 1;have p2:=sN.cell 2;have p3:=sN.cell 3;have q4:=tK.cell 4;have hlS:=sN.lt;have hlN:=tK.lt;have iF:=kH sN;have mi:=kH tK;have oo:=kH QG;clear sN tK QG hS2 wN hb3;cases bt
 ·go_wp2_with fail
  go_ret
  exact⟨bH (by simp),oo.out⟩
 by_cases hnm:mo<=(n:Int)
 case neg=>
  have hne:decide ((n:Int)<mo)=true:=decide_eq_true (by omega);have vO:=kH hnm;clear hnm;go_wp2_with fail
  go_ret
  exact⟨bH (by have h:=vO.out;rw[decide_eq_false (p:=mo<=(n:Int)) (by omega)];simp),oo.out⟩
 have hne:decide ((n:Int)<mo)=false:=decide_eq_false (by omega);have vO:=kH hnm;clear hnm;go_wp2_with fail
 go_loopg [44] n (fun gk s44 wr=> ∃k:Nat,k+gk=n/\s44= .int .i64 (k:Int)/\fA sh 0 kids=fA sh k (kids.drop k)/\Below w3.heap.size w3 wr)
 case atStart=>exact⟨0,by omega,rfl,rfl,Below.refl _ _⟩
 case round=>
  obtain⟨k,hk,rfl,hfit,hbr⟩:=hrel;have Jv:=kH hfit;have nL:=kH hbr;have hz3:=hbr.size;have hSr:=iF.out.below hbr hlS;have p1:wr.cell? ⟨w.heap.size,1,none⟩=some (.slice Ak m ck):=hSr.cell 1;have p2:wr.cell? ⟨w.heap.size,2,none⟩=some (.func (Fn.func fl) #[] cl):=hSr.cell 2;have hlSr:=hSr.lt;have HI:=kH hk;have hkn:k<=n:=by omega
  clear hfit hbr hSr hk;by_cases hlt:k<n
  ·have hlt':(k:Int)<(n:Int):=by omega
   obtain⟨u,hu⟩:∃u,kids[k]? =some u:=⟨_,aaH (by rw[HN.out];exact hlt)⟩
   obtain⟨vals,⟨b,off,hA,hbl,hcs⟩,hT⟩:=HK.out.get k u hu;obtain⟨A',c',nO,-⟩:=hT.five;subst hA;subst nO;have hbw:b<w.heap.size:=by have:=HB.out;omega
   have L8:b<w3.heap.size:=by omega
   have hbb:b<wr.heap.size:=by omega
   have tr:∀o v',w.cell? ⟨b,o,none⟩=some v'->wr.cell? ⟨b,o,none⟩=some v':=fun o v' h=>(nL.out.cell (p:=⟨b,o,none⟩) L8).trans ((oo.out.cell (p:=⟨b,o,none⟩) hbw).trans h)
   have t0:wr.cell? ⟨b,off+k*5,none⟩=some (.int .i64 u.kind):=tr _ _ (by simpa using hcs 0 _ rfl);have t1:wr.cell? ⟨b,off+k*5+1,none⟩=some (.string u.text):=tr _ _ (by simpa using hcs 1 _ rfl);have t2:wr.cell? ⟨b,off+k*5+2,none⟩=some (.int .i64 u.at_):=tr _ _ (by simpa using hcs 2 _ rfl);have t3:wr.cell? ⟨b,off+k*5+3,none⟩=some (.int .i64 u.end_):=tr _ _ (by simpa using hcs 3 _ rfl);have t4:wr.cell? ⟨b,off+k*5+4,none⟩=some (.slice A' u.kids.length c'):=tr _ _ (by simpa using hcs 4 _ rfl);have IW:KC w wr:=(KC.of_below oo.out).trans (KC.of_below nL.out);have MX:w.heap.size<=wr.heap.size:=by have:=oo.out.size;omega
   have Kt:=af wr (.cells #[.int .i64 u.kind,.string u.text,.int .i64 u.at_,.int .i64 u.end_,.slice A' u.kids.length c'] 24);have IX:=HCALLL.out u.kind _ (IW.trans (KC.of_below Kt)) (aaE MX Kt.size)
   have hstep:fA sh k (kids.drop k)=(p u.kind&&fA sh (k+1) (kids.drop (k+1))):=by
    have hd:kids.drop k=u::kids.drop (k+1):=by
     have hl2:k<kids.length:=by rw[HN.out];exact hlt
     rw[List.drop_eq_getElem_cons hl2];rw[aaH hl2]at hu;injection hu with hu
     rw[hu]
    rw[hd];simp only[fA,yh];rw[HL.out]
   obtain⟨bk,hbk⟩:∃q,p u.kind=q:=⟨_,rfl⟩
   rw[hbk]at IX hstep;have Rn:=kH IX;have Ba:=kH hstep;have Hl:=kH Kt;have hwr:IntKind.i64.wrap ((k:Int)+1)=(k:Int)+1:=IntWalk.i64_in _ (by omega);obtain⟨un,hun⟩:∃q,u.kids.length=q:=⟨_,rfl⟩
   rw[hun]at t4 Rn Hl;clear hcs hT tr IX hstep Kt IW hu hbk hun MX;go_wp2_with fail
   refine Rn.out.mono ?_;rintro e w5 ⟨rfl,hb5⟩;have iQ:=kH (nL.out.trans ((Hl.out.trans (hb5.mono Hl.out.size)).mono nL.out.size));clear hb5;cases bk
   ·go_wp2_with fail
    go_ret
    have hend:fA sh 0 kids=false:=by rw[Jv.out,Ba.out];simp
    exact⟨bH (by simp[hend]),oo.out.trans (iQ.out.mono oo.out.size)⟩
   ·go_wp2_with fail
    go_roundg (gk - 1)
    case measure=>have:=HI.out;omega
    case rel=>exact⟨k+1,by have:=HI.out;omega,by simp,by rw[Jv.out,Ba.out];simp,iQ.out⟩
  ·have hke:k=n:=by omega
   have hres:fA sh 0 kids=true:=by rw[Jv.out,hke,<- HN.out,List.drop_length];rfl
   have aM:=kH hres;clear hres;go_wp2_with fail
   go_ret
   exact⟨bH (by have h:=vO.out;rw[decide_eq_true (p:=mo<=(n:Int)) (by omega),aM.out];simp),oo.out.trans (nL.out.mono oo.out.size)⟩
theorem Z0(sh:vN)(v:Value)(t:aa)(A:Option Addr)(c:Nat)(w:World)(B:Nat)(hB:B<=w.heap.size)(hv:qf w v sh)(hk:aD w B A 0 t.kids)(hn:t.kids.length<=1000000000000)(hsk:sh.kids.length<=10):
 Calls Tryz.prog 143 #[v,aX t A c] w fun e w'=>e= .returned (.bool (rW sh t))/\Below w.heap.size w w':=by
 cases hl:sh.list with
 | none=>exact XQ sh v t A c w B hB hv hk hn hl hsk
 | some p=>exact XR sh v t A c w B hB hv hk hn p hl
end Go.Proofs.YtoepemlnlpamlaaGreat
