/- The law NamesBack holds for every text and every number: it returns true, and its arguments read as before. No condition. Part 18: Shp2 TreeAt Tr3 Tr4. -/
import Derived.Test.YtoepemlnlpamlaaGreatBakk01
import Derived.Test.YtoepemlnlpamlaaGreatBakk04
import Derived.Test.YtoepemlnlpamlaaGreatBakk17
set_option maxRecDepth 100000
set_option maxHeartbeats 4000000
namespace Go.Proofs.YtoepemlnlpamlaaGreat
open Go.RowKit
theorem Sw(A:Option Addr)(n c:Nat)(l:List Int)(w:World)(h1:bW 1 dM w w.heap.size A l)(hl:l.length=n)(hn:n<=1000000):
 Calls Tryz.prog 189 #[.slice A n c] w fun e w'=> ∃v,e= .returned v/\jv w' v (fun k=>l.any fun y=>decide (k=y))/\Below w.heap.size w w':=by
 have H1:=kH h1;have HL:=kH hl;clear h1 hl;go_enter Tryz.func189,Tryz.ntmps189
 go_wp2_with fail
 refine bodyPost_ret (v:=.func (Fn.func 233) #[] #[.pointer (some ⟨w.heap.size,0,none⟩)]) (by simp[results,Tryz.results189,go_sem]) rfl ?_;refine⟨_,rfl,⟨_,_,rfl,fun args w=>by go_simp,fun k w' hb hsz=>?_⟩,af _ _⟩;have hbn:=ai.new w 28 #[.slice A n c];have hbk:ai w' w.heap.size 28 #[.slice A n c]:=hb.blk hbn;have hc:w'.cell? ⟨w.heap.size,0,none⟩=some (.slice A n c):=hbk.cell 0;have hr:bW 1 dM w' w'.heap.size A l:=((H1.out.below (af w _) (aaD _)).kc hb).mono (by simp at hsz;omega);have HR:=kH hr;have hl:=hbk.lt;clear hbn hbk hr hb hsz;show Calls Tryz.prog 233 #[.int .i64 k,.pointer (some ⟨w.heap.size,0,none⟩)] w' _;go_enter Tryz.func233,Tryz.ntmps233
 go_wp2_with fail
 refine(DY A n c l k w' HR.out HL.out hn).mono ?_;rintro e w2 ⟨rfl,rfl⟩;go_wp2_with fail
 go_ret
 exact⟨rfl,Below.refl _ _⟩
theorem Od(A:Option Addr)(n c:Nat)(l:List ByteArray)(w:World)(h1:bW 1 eZ w w.heap.size A l)(hl:l.length=n)(hn:n<=1000000):
 Calls Tryz.prog 193 #[.slice A n c] w fun e w'=> ∃v,e= .returned v/\oD w' v (fun s=>nE l s)/\Below w.heap.size w w':=by
 have H1:=kH h1;have HL:=kH hl;clear h1 hl;go_enter Tryz.func193,Tryz.ntmps193
 go_wp2_with fail
 refine bodyPost_ret (v:=.func (Fn.func 235) #[] #[.pointer (some ⟨w.heap.size,0,none⟩)]) (by simp[results,Tryz.results193,go_sem]) rfl ?_;refine⟨_,rfl,⟨_,_,rfl,fun args w=>by go_simp,fun k w' hb hsz=>?_⟩,af _ _⟩;have hbn:=ai.new w 41 #[.slice A n c];have hbk:ai w' w.heap.size 41 #[.slice A n c]:=hb.blk hbn;have hc:w'.cell? ⟨w.heap.size,0,none⟩=some (.slice A n c):=hbk.cell 0;have hr:bW 1 eZ w' w'.heap.size A l:=((H1.out.below (af w _) (aaD _)).kc hb).mono (by simp at hsz;omega);have HR:=kH hr;have hl:=hbk.lt;clear hbn hbk hr hb hsz;show Calls Tryz.prog 235 #[.string k,.pointer (some ⟨w.heap.size,0,none⟩)] w' _;go_enter Tryz.func235,Tryz.ntmps235
 go_wp2_with fail
 refine(DX A n c l k w' HR.out HL.out hn).mono ?_;rintro e w2 ⟨rfl,rfl⟩;go_wp2_with fail
 go_ret
 exact⟨rfl,Below.refl _ _⟩
theorem Dw(v:Value)(p:Int->Bool)(w:World)(hv:jv w v p):
 Calls Tryz.prog 191 #[v] w fun e w'=> ∃v',e= .returned v'/\jv w' v' (fun k=>decide (k=0) || p k)/\Below w.heap.size w w':=by
 obtain⟨fn,cap,rfl,hent,hcall⟩:=hv;have HENT:=kH hent;have mr:=kH hcall;clear hent hcall;go_enter Tryz.func191,Tryz.ntmps191
 go_wp2_with fail
 refine bodyPost_ret (v:=.func (Fn.func 234) #[] #[.pointer (some ⟨w.heap.size,0,none⟩)]) (by simp[results,Tryz.results191,go_sem]) rfl ?_;refine⟨_,rfl,⟨_,_,rfl,fun args w=>by go_simp,fun k w' hb hsz=>?_⟩,af _ _⟩;have hbn:=ai.new w 54 #[.func (Fn.func fn) #[] cap];have hbk:ai w' w.heap.size 54 #[.func (Fn.func fn) #[] cap]:=hb.blk hbn;have hc:w'.cell? ⟨w.heap.size,0,none⟩=some (.func (Fn.func fn) #[] cap):=hbk.cell 0;have hb2:KC w w':=(KC.of_below (af w _)).trans hb;have hcl:=mr.out k w' hb2 (by simp at hsz;omega);have NC:=kH hcl;have hent:=HENT.out;unfold Ro at hent;have hl:=hbk.lt;clear hbn hbk hb hb2 hcl hsz;show Calls Tryz.prog 234 #[.int .i64 k,.pointer (some ⟨w.heap.size,0,none⟩)] w' fun e w''=>e= .returned (.bool (decide (k=0) || p k))/\Below w'.heap.size w' w''
 by_cases hk:k=0
 ·have hki:(k==0)=true:=by simp[hk]
  subst hk;go_enter Tryz.func234,Tryz.ntmps234
  go_wp2_with fail
  go_ret
  exact⟨rfl,Below.refl _ _⟩
 ·have hki:(k==0)=false:=by simp[hk]
  have hd:decide (k=0)=false:=decide_eq_false hk;rw[hd];clear hk hd;go_enter Tryz.func234,Tryz.ntmps234
  go_wp2_with fail
  refine NC.out.mono ?_;rintro e w2 ⟨rfl,hb2⟩;go_wp2_with fail
  go_ret
  exact⟨bH (by simp),hb2⟩
def fq(k:Int):Bool:=decide (k=9) || decide (k=10)
def sI(k:Int):Bool:=decide (12<=k)&&decide (k<=19)
def bA(k:Int):Bool:=decide (20<=k)&&decide (k<=29)
def mU(k:Int):Bool:=decide (k=20) || decide (k=21) || decide (k=22)
theorem Xi(w:World):jv w (.func (Fn.func 192) #[] #[]) fq:=by
 refine⟨_,_,rfl,fun args w=>by go_simp,fun k w' _ _=>?_⟩;show Calls Tryz.prog 192 #[.int .i64 k] w' fun e w''=>e= .returned (.bool (fq k))/\Below w'.heap.size w' w''
 go_enter Tryz.func192,Tryz.ntmps192
 go_wp2_with fail
 all_goals go_ret
 all_goals exact⟨bH (by unfold fq;rw[Bool.eq_iff_iff];simp<;>omega),Below.refl _ _⟩
theorem Xj(w:World):jv w (.func (Fn.func 197) #[] #[]) sI:=by
 refine⟨_,_,rfl,fun args w=>by go_simp,fun k w' _ _=>?_⟩;show Calls Tryz.prog 197 #[.int .i64 k] w' fun e w''=>e= .returned (.bool (sI k))/\Below w'.heap.size w' w''
 go_enter Tryz.func197,Tryz.ntmps197
 go_wp2_with fail
 all_goals go_ret
 all_goals exact⟨bH (by unfold sI;rw[Bool.eq_iff_iff];simp<;>omega),Below.refl _ _⟩
theorem Xk(w:World):jv w (.func (Fn.func 190) #[] #[]) bA:=by
 refine⟨_,_,rfl,fun args w=>by go_simp,fun k w' _ _=>?_⟩;show Calls Tryz.prog 190 #[.int .i64 k] w' fun e w''=>e= .returned (.bool (bA k))/\Below w'.heap.size w' w''
 go_enter Tryz.func190,Tryz.ntmps190
 go_wp2_with fail
 all_goals go_ret
 all_goals exact⟨bH (by unfold bA;rw[Bool.eq_iff_iff];simp<;>omega),Below.refl _ _⟩
theorem U7(w:World):jv w (.func (Fn.func 198) #[] #[]) mU:=by
 refine⟨_,_,rfl,fun args w=>by go_simp,fun k w' _ _=>?_⟩;show Calls Tryz.prog 198 #[.int .i64 k] w' fun e w''=>e= .returned (.bool (mU k))/\Below w'.heap.size w' w''
 go_enter Tryz.func198,Tryz.ntmps198
 go_wp2_with fail
 all_goals go_ret
 all_goals exact⟨bH (by unfold mU;rw[Bool.eq_iff_iff];simp<;>omega),Below.refl _ _⟩
theorem Z4(w:World):oD w (.func (Fn.func 194) #[] #[]) (fun s=>decide (s.size=0)):=by
 refine⟨_,_,rfl,fun args w=>by go_simp,fun s w' _ _=>?_⟩;show Calls Tryz.prog 194 #[.string s] w' fun e w''=>e= .returned (.bool (decide (s.size=0)))/\Below w'.heap.size w' w''
 have he:=zO s;go_enter Tryz.func194,Tryz.ntmps194
 go_wp2_with fail
 go_ret
 exact⟨bH (by first|rfl|simp),Below.refl _ _⟩
theorem SC(w:World):oD w (.func (Fn.func 53) #[] #[]) (fun s=>xU s.data.toList):=
 ⟨_,_,rfl,fun args w=>by go_simp,fun s w' _ _=>MR s w'⟩
def oU(s:ByteArray):Bool:=(je s.data.toList).isSome&&(decide (s=⟨#[48]⟩) || decide (bz s.data.toList 0≠48))
theorem WU(w:World):oD w (.func (Fn.func 196) #[] #[]) oU:=by
 refine⟨_,_,rfl,fun args w=>by go_simp,fun s w' _ _=>?_⟩;show Calls Tryz.prog 196 #[.string s] w' fun e w''=>e= .returned (.bool (oU s))/\Below w'.heap.size w' w''
 have hn:=RJ s w';obtain⟨b1,hb1⟩:∃b,(je s.data.toList).isSome=b:=⟨_,rfl⟩
 rw[hb1]at hn
 have hp:b1=true->0<s.size:=by
  intro h;rw[h]at hb1;unfold je at hb1;split at hb1
  ·cases hb1
  ·rename_i h2
   rw[bS]at h2;omega
 have HN:=kH hn;have HB1:=kH hb1;have HP:=kH hp;clear hn hb1 hp;cases b1
 ·have hr:oU s=false:=by unfold oU;rw[HB1.out];rfl
  rw[hr];clear hr;go_enter Tryz.func196,Tryz.ntmps196
  go_wp2_with fail
  refine HN.out.mono ?_;rintro e w1 ⟨n,rfl,hb⟩;go_wp2_with fail
  go_ret
  exact⟨rfl,hb⟩
 ·have hp:=HP.out rfl
  have hp':(0:Int)<(s.size:Int):=by omega
  by_cases h48:s=⟨#[48]⟩
  ·have hr:oU s=true:=by unfold oU;rw[HB1.out,decide_eq_true h48];rfl
   rw[hr];have hs48:(s.toList==[48])=true:=by rw[h48,ByteArray.toList_eq];rfl
   have hs49:(s.data.toList==[48])=true:=by rw[h48];rfl
   clear hr h48;go_enter Tryz.func196,Tryz.ntmps196
   go_wp2_with fail
   refine HN.out.mono ?_;rintro e w1 ⟨n,rfl,hb⟩;go_wp2_with fail
   go_ret
   exact⟨rfl,hb⟩
  ·have hs49:(s.data.toList==[48])=false:=by
    rw[Bool.eq_false_iff];intro h;apply h48
    obtain⟨⟨l⟩⟩:=s;simp at h;rw[h]
   have hs48:(s.toList==[48])=false:=by rw[ByteArray.toList_eq];exact hs49
   have hr:oU s=decide (bz s.data.toList 0≠48):=by unfold oU;rw[HB1.out,decide_eq_false h48];simp
   rw[hr];have hbz:=pK s 0 hp;rw[<- hbz];clear hr h48 hbz;go_enter Tryz.func196,Tryz.ntmps196
   go_wp2_with fail
   refine HN.out.mono ?_;rintro e w1 ⟨n,rfl,hb⟩;go_wp2_with fail
   go_ret
   exact⟨bH (by rw[Bool.eq_iff_iff];simp;omega),hb⟩
theorem XX(w:World)(g1 g2:Nat)(v1 v2:Value)(p1 p2:ByteArray->Bool)(h1:oD w v1 p1)(h2:oD w v2 p2)(hb1:ai w g1 99 #[v1])(hb2:ai w g2 99 #[v2]):
 oD w (.func (Fn.func 195) #[] #[.pointer (some ⟨g1,0,none⟩),.pointer (some ⟨g2,0,none⟩)]) (fun s=>p1 s || p2 s):=by
 obtain⟨fn1,Jd,rfl,he1,hc1⟩:=h1;obtain⟨fn2,cap2,rfl,he2,hc2⟩:=h2;refine⟨_,_,rfl,fun args w=>by go_simp,fun s w' hb hsz=>?_⟩;show Calls Tryz.prog 195 #[.string s,.pointer (some ⟨g1,0,none⟩),.pointer (some ⟨g2,0,none⟩)] w' fun e w''=>e= .returned (.bool (p1 s || p2 s))/\Below w'.heap.size w' w''
 have hx1:=hb.blk hb1;have hx2:=hb.blk hb2;have hl1:=hx1.lt;have hl2:=hx2.lt;have hq1:w'.cell? ⟨g1,0,none⟩=some (.func (Fn.func fn1) #[] Jd):=hx1.cell 0;have hq2:w'.cell? ⟨g2,0,none⟩=some (.func (Fn.func fn2) #[] cap2):=hx2.cell 0;have H1:=kH (hc1 s w' hb hsz);have H2:=kH (fun w'' (h:Below w'.heap.size w' w'')=>hc2 s w'' (hb.trans (KC.of_below h)) (aaE hsz h.size));have hX2:=kH hx2;unfold Ro at he1 he2;obtain⟨b1,hp1⟩:∃b,p1 s=b:=⟨_,rfl⟩
 obtain⟨b2,hp2⟩:∃b,p2 s=b:=⟨_,rfl⟩
 rw[hp1,hp2];rw[hp1]at H1;rw[hp2]at H2;clear hb hc1 hc2 hb1 hb2 hx1 hx2 hp1 hp2 hsz;go_enter Tryz.func195,Tryz.ntmps195
 go_wp2_with fail
 refine H1.out.mono ?_;rintro e w1 ⟨rfl,hb1⟩;cases b1
 ·have hq2':w1.cell? ⟨g2,0,none⟩=some (.func (Fn.func fn2) #[] cap2):=(hb1.cell (p:=⟨g2,0,none⟩) hl2).trans hq2
  go_wp2_with fail
  refine(H2.out w1 hb1).mono ?_;rintro e w2 ⟨rfl,hb2⟩;go_wp2_with fail
  go_ret
  exact⟨bH (by simp),hb1.trans (hb2.mono hb1.size)⟩
 ·go_wp2_with fail
  go_ret
  exact⟨bH (by simp),hb1⟩
mutual
def lQ(w:World)(B:Nat):aa->List Value->Prop
 | .node k t a e kids,cs=> ∃A c,cs=[.int .i64 k,.string t,.int .i64 a,.int .i64 e,.slice A kids.length c]/\kids.length<=c/\aD w B A 0 kids
def aD(w:World)(B:Nat)(A:Option Addr):Nat->List aa->Prop
 | _,[]=>True
 | i,t::ts=>(∃b off vals,A=some ⟨b,off,none⟩/\b<B/\(∀j v,vals[j]? =some v->w.cell? ⟨b,off+i*5+j,none⟩=some v)/\lQ w B t vals)/\aD w B A (i+1) ts
end
mutual
theorem lQ.below{w w':World}{B B':Nat}(hb:Below B' w w')(hB:B<=B'):∀(t:aa) (cs:List Value),lQ w B t cs->lQ w' B t cs
 | .node _ _ _ _ kids,_,h=>by
  obtain⟨A,c,h1,hc,h2⟩:=h;exact⟨A,c,h1,hc,aD.below hb hB kids A 0 h2⟩
theorem aD.below{w w':World}{B B':Nat}(hb:Below B' w w')(hB:B<=B'):∀(ts:List aa) (A:Option Addr) (i:Nat),aD w B A i ts->aD w' B A i ts
 | [],_,_,_=>trivial
 | t::ts,A,i,h=>by
  obtain⟨⟨b,off,vals,h1,h2,h3,h4⟩,h5⟩:=h;exact⟨⟨b,off,vals,h1,h2,fun j v hj=>(hb.cell (p:=⟨b,_,none⟩) (by show b<B';omega)).trans (h3 j v hj),lQ.below hb hB t vals h4⟩,aD.below hb hB ts A (i+1) h5⟩
end
mutual
theorem lQ.mono{w:World}{B B':Nat}(hB:B<=B'):∀(t:aa) (cs:List Value),lQ w B t cs->lQ w B' t cs
 | .node _ _ _ _ kids,_,h=>by
  obtain⟨A,c,h1,hc,h2⟩:=h;exact⟨A,c,h1,hc,aD.mono hB kids A 0 h2⟩
theorem aD.mono{w:World}{B B':Nat}(hB:B<=B'):∀(ts:List aa) (A:Option Addr) (i:Nat),aD w B A i ts->aD w B' A i ts
 | [],_,_,_=>trivial
 | t::ts,A,i,h=>by
  obtain⟨⟨b,off,vals,h1,h2,h3,h4⟩,h5⟩:=h;exact⟨⟨b,off,vals,h1,Nat.lt_of_lt_of_le h2 hB,h3,lQ.mono hB t vals h4⟩,aD.mono hB ts A (i+1) h5⟩
end
theorem uP:∀(vals:List (List Value)),(∀v∈vals,v.length=5)->∀(i j:Nat) (v:List Value) (x:Value),vals[i]? =some v->v[j]? =some x->(List.flatten vals)[i*5+j]? =some x
 | [],_,i,j,v,x,h,_=>by simp at h
 | u::vals,hl,0,j,v,x,h,hx=>by
  simp at h;subst h;have hj:=(aaJ.1 hx).1;simp only[List.flatten_cons,Nat.zero_mul,Nat.zero_add];rw[List.getElem?_append_left hj];exact hx
 | u::vals,hl,i+1,j,v,x,h,hx=>by
  have hu:=hl u (by simp);have:=uP vals (fun v hv=>hl v (by simp[hv])) i j v x (by simpa using h) hx;simp only[List.flatten_cons];rw[aaN (by rw[hu,Nat.add_mul];omega),hu];rw[show(i+1)*5+j - 5=i*5+j by rw[Nat.add_mul];omega];exact this
theorem bM.lens5{w:World}{P:Nat->Prop}:∀{ts:List aa}{vals:List (List Value)},bM w P ts vals->∀v∈vals,v.length=5
 | [],vals,h,v,hv=>by
  have:vals=[]:=h;subst this
  cases hv
 | t::ts,vals,h,v,hv=>by
  obtain⟨v1,vs,rfl,h1,h2⟩:=h;rcases List.mem_cons.1 hv with rfl|hv
  ·exact aB.len h1
  ·exact bM.lens5 h2 v hv
def TM(w:World)(B:Nat)(A:Option Addr)(i:Nat)(vals:List Value):Prop:=∃b off,A=some ⟨b,off,none⟩/\b<B/\∀j v,vals[j]? =some v->w.cell? ⟨b,off+i*5+j,none⟩=some v
mutual
theorem aB.at_{w:World}{P:Nat->Prop}:∀(t:aa) (cs:List Value),aB w P t cs->lQ w w.heap.size t cs
 | .node _ _ _ _ kids,_,h=>by
  obtain⟨A,c,vals,h1,h2,h3,h4⟩:=h;refine⟨A,c,h1,(by obtain⟨A',c',h5,h6,_⟩:=h2.shape;cases h5;exact h6),bM.at_ kids vals A 0 h4 (fun j v hv=>?_)⟩;have hl:=bM.lens h4;have hj:=(aaJ.1 hv).1;obtain⟨g,off,cap,hv',_,_,_,hlt,hc⟩:=h2.form (by omega);cases hv'
  refine⟨g,off,rfl,hlt,fun q x hx=>?_⟩;rw[Nat.zero_add,Nat.add_assoc];exact hc _ _ (uP vals (bM.lens5 h4) j q v x hv hx)
theorem bM.at_{w:World}{P:Nat->Prop}:∀(ts:List aa) (vals:List (List Value)) (A:Option Addr) (i:Nat),bM w P ts vals->(∀j v,vals[j]? =some v->TM w w.heap.size A (i+j) v)->aD w w.heap.size A i ts
 | [],_,_,_,_,_=>trivial
 | t::ts,vals,A,i,h,hc=>by
  obtain⟨v1,vs,rfl,h1,h2⟩:=h;obtain⟨b,off,e1,e2,e3⟩:=hc 0 v1 rfl;refine⟨⟨b,off,v1,e1,e2,e3,aB.at_ t v1 h1⟩,bM.at_ ts vs A (i+1) h2 (fun j v hv=>?_)⟩;have:=hc (j+1) v (by simpa using hv);rw[show i+1+j=i+(j+1) by omega];exact this
end
theorem aD.get{w:World}{B:Nat}{A:Option Addr}:∀{ts:List aa}{i:Nat},aD w B A i ts->∀(j:Nat) (t:aa),ts[j]? =some t->∃vals,TM w B A (i+j) vals/\lQ w B t vals
 | [],_,_,j,t,ht=>by simp at ht
 | u::ts,i,h,0,t,ht=>by
  simp at ht;subst ht;obtain⟨⟨b,off,vals,h1,h2,h3,h4⟩,-⟩:=h;exact⟨vals,⟨b,off,h1,h2,h3⟩,h4⟩
 | u::ts,i,h,j+1,t,ht=>by
  obtain⟨vals,h1,h2⟩:=aD.get h.2 j t (by simpa using ht);exact⟨vals,by rw[show i+(j+1)=i+1+j by omega];exact h1,h2⟩
theorem lQ.five{w:World}{B:Nat}{t:aa}{cs:List Value}(h:lQ w B t cs):∃A c,cs=[.int .i64 t.kind,.string t.text,.int .i64 t.at_,.int .i64 t.end_,.slice A t.kids.length c]/\aD w B A 0 t.kids:=by
 cases t
 obtain⟨A,c,h1,_,h2⟩:=h;exact⟨A,c,h1,h2⟩
theorem lQ.cap{w:World}{B:Nat}{t:aa}{k:Int}{x:ByteArray}{a z:Int}{A:Option Addr}{n c:Nat}(h:lQ w B t [.int .i64 k,.string x,.int .i64 a,.int .i64 z,.slice A n c]):t.kids.length<=c:=by
 cases t
 obtain⟨A',c',h1,h2,_⟩:=h;simp only[List.cons.injEq,Value.slice.injEq,and_true]at h1;obtain⟨_,_,_,_,_,_,rfl⟩:=h1;exact h2
theorem gU:∀(ts:List aa) (i:Nat) (t:aa),ts[i]? =some t->ag (ts.take (i+1))=ag (ts.take i)+ah t
 | [],i,t,h=>by simp at h
 | u::ts,0,t,h=>by
  simp at h;subst h;simp[ag]
 | u::ts,i+1,t,h=>by
  have:=gU ts i t (by simpa using h);simp only[List.take_succ_cons,ag];omega
theorem jk:∀(ts:List aa) (i:Nat),ag (ts.take i)<=ag ts
 | [],i=>by simp[ag]
 | u::ts,0=>by simp[ag]
 | u::ts,i+1=>by
  have:=jk ts i;simp only[List.take_succ_cons,ag];omega
theorem tN(t:aa):ah t=1+ag t.kids:=by
 cases t
 rfl
theorem oL(t:aa):1<=ah t:=by
 rw[tN];omega
theorem kC:∀(ts:List aa),ts.length<=ag ts
 | []=>by simp[ag]
 | t::ts=>by
  have:=kC ts;have:=oL t;simp only[aaQ,ag];omega
def aX(t:aa)(A:Option Addr)(c:Nat):Value:=.agg #[.int .i64 t.kind,.string t.text,.int .i64 t.at_,.int .i64 t.end_,.slice A t.kids.length c]
theorem VI:∀(m:Nat) (t:aa) (A:Option Addr) (c:Nat) (w:World),ah t<=m->m<=1000000000000->aD w w.heap.size A 0 t.kids ->
 Calls Tryz.prog 39 #[aX t A c] w fun e w'=>e= .returned (.int .i64 (ah t:Int))/\Below w.heap.size w w':=by
 intro m
 induction m with
 | zero=>
  intro t A c w h;have:=oL t;omega
 | succ m ih=>
  intro t A c w hm hbig hk;have hce:=tN t;obtain⟨kids,oJ⟩:∃x,t.kids=x:=⟨_,rfl⟩
  obtain⟨n,hn⟩:∃x,kids.length=x:=⟨_,rfl⟩
  unfold aX;rw[oJ]at hk hce⊢;rw[hn];obtain⟨k,hk0⟩:∃x,t.kind=x:=⟨_,rfl⟩
  obtain⟨x,hx0⟩:∃x,t.text=x:=⟨_,rfl⟩
  obtain⟨a,ha0⟩:∃x,t.at_=x:=⟨_,rfl⟩
  obtain⟨z,hz0⟩:∃x,t.end_=x:=⟨_,rfl⟩
  rw[hk0,hx0,ha0,hz0];have hcl:=kC kids;have HK:=kH hk;have HN:=kH hn;have HCE:=kH hce;have eH:=kH ih;have HM:Hid (ag kids<=m/\m<=1000000000000):=kH ⟨by omega,by omega⟩;have hnb:n<=1000000000000:=by omega
  clear hk hce ih hm hbig hk0 hx0 ha0 hz0 oJ hn hcl;go_enter Tryz.func39,Tryz.ntmps39
  go_wp2_with fail
  generalize hW1:w.alloc (.cells #[.int .i64 k,.string x,.int .i64 a,.int .i64 z,.slice A n c] 24)=W1
  have hb1:Below w.heap.size w W1:=by rw[<- hW1];exact af _ _
  have eD:ai W1 w.heap.size 24 #[.int .i64 k,.string x,.int .i64 a,.int .i64 z,.slice A n c]:=by rw[<- hW1];exact ai.new w _ _
  have HR1:=kH eD;have HB1:=kH hb1;have hl1:=eD.lt;have Nz:=kH (aD.below hb1 (aaD _) _ _ _ HK.out);clear hW1 hb1 eD;go_loopg [3,4] n (fun gk s3 s4 wr=> ∃i:Nat,i+gk=n/\s3= .int .i64 ((1+ag (kids.take i):Nat):Int)/\s4= .int .i64 (i:Int)/\Below W1.heap.size W1 wr)
  case atStart=>exact⟨0,by omega,by simp[ag],rfl,Below.refl _ _⟩
  case round=>
   obtain⟨i,hi,rfl,rfl,hB⟩:=hrel;have hRr:=HR1.out.below hB hl1;have hc4:wr.cell? ⟨w.heap.size,4,none⟩=some (.slice A n c):=hRr.cell 4;have hlr:=hRr.lt;have HB:=kH hB;have HI:=kH hi;have hin:i<=n:=by omega
   have hcl:=jk kids i;have hcb:ag (kids.take i)<=1000000000000:=by have:=HM.out;omega
   clear hB hRr hi hcl;by_cases hlt:i<n
   ·have hlt':(i:Int)<(n:Int):=by omega
    obtain⟨u,hu⟩:∃u,kids[i]? =some u:=⟨_,aaH (by rw[HN.out];exact hlt)⟩
    obtain⟨vals,⟨b,off,hA,hbl,hcs⟩,hT⟩:=Nz.out.get i u hu;obtain⟨A',c',nO,hK'⟩:=hT.five;subst hA;subst nO;have hbb:b<wr.heap.size:=by omega
    have hbW:b<W1.heap.size:=by omega
    have t0:wr.cell? ⟨b,off+i*5,none⟩=some (.int .i64 u.kind):=(HB.out.cell (p:=⟨b,_,none⟩) hbW).trans (by simpa using hcs 0 _ rfl);have t1:wr.cell? ⟨b,off+i*5+1,none⟩=some (.string u.text):=(HB.out.cell (p:=⟨b,_,none⟩) hbW).trans (by simpa using hcs 1 _ rfl);have t2:wr.cell? ⟨b,off+i*5+2,none⟩=some (.int .i64 u.at_):=(HB.out.cell (p:=⟨b,_,none⟩) hbW).trans (by simpa using hcs 2 _ rfl);have t3:wr.cell? ⟨b,off+i*5+3,none⟩=some (.int .i64 u.end_):=(HB.out.cell (p:=⟨b,_,none⟩) hbW).trans (by simpa using hcs 3 _ rfl);have t4:wr.cell? ⟨b,off+i*5+4,none⟩=some (.slice A' u.kids.length c'):=(HB.out.cell (p:=⟨b,_,none⟩) hbW).trans (by simpa using hcs 4 _ rfl);have htk:=gU kids i u hu;have hle:=jk kids (i+1);have hcall:=eH.out u A' c' wr (by have:=HM.out;omega) HM.out.2 (aD.mono (B:=w.heap.size) (by omega) _ _ _ (aD.below HB.out (by omega) _ _ _ hK'));unfold aX at hcall;have HC:=kH hcall;have AZ:=kH htk;have hub:ah u<=1000000000000:=by have:=HM.out;omega
    have hwr:IntKind.i64.wrap ((i:Int)+1)=(i:Int)+1:=IntWalk.i64_in _ (by omega);have hws:IntKind.i64.wrap (((1+ag (kids.take i):Nat):Int)+(ah u:Int))=((1+ag (kids.take i):Nat):Int)+(ah u:Int):=IntWalk.i64_in _ (by omega);obtain⟨un,hun⟩:∃q,u.kids.length=q:=⟨_,rfl⟩
    rw[hun]at t4 HC;obtain⟨cs1,hcs1⟩:∃q,1+ag (kids.take i)=q:=⟨_,rfl⟩
    rw[hcs1]at hws⊢;have HCS1:=kH hcs1;obtain⟨cu,uB⟩:∃q,ah u=q:=⟨_,rfl⟩
    rw[uB]at hws HC;have HCU:=kH uB;clear hcs hT hK' htk hle hcall hu hun hcs1 uB hcb hub;go_wp2_with fail
    refine HC.out.mono ?_;rintro e w2 ⟨rfl,hb2⟩;go_wp2_with fail
    go_roundg (gk - 1)
    case measure=>have:=HI.out;omega
    case rel=>exact⟨i+1,by have:=HI.out;omega,by rw[AZ.out,<- HCS1.out,<- HCU.out];simp;omega,by simp,HB.out.trans (hb2.mono HB.out.size)⟩
   ·have hie:i=n:=by omega
    have hres:1+ag (kids.take i)=ah t:=by rw[HCE.out,hie,<- HN.out,List.take_length]
    rw[hres];clear hres;go_wp2_with fail
    go_ret
    exact⟨rfl,HB1.out.trans (HB.out.mono HB1.out.size)⟩
mutual
def dV:aa->List aa
 | .node k t a e kids=>.node k t a e kids::dh kids
def dh:List aa->List aa
 | []=>[]
 | t::ts=>dV t++dh ts
end
mutual
theorem qo:∀(t:aa),(dV t).length=ah t
 | .node _ _ _ _ kids=>by
  simp only[dV,ah,aaQ,y9 kids];omega
theorem y9:∀(ts:List aa),(dh ts).length=ag ts
 | []=>rfl
 | t::ts=>by simp only[dh,ag,aaO,qo t,y9 ts]
end
theorem EC(t:aa):dV t=t::dh t.kids:=by
 cases t
 rfl
theorem Bp:∀(ts:List aa) (i:Nat) (t:aa),ts[i]? =some t->dh (ts.take (i+1))=dh (ts.take i)++dV t
 | [],i,t,h=>by simp at h
 | u::ts,0,t,h=>by
  simp at h;subst h;simp[dh]
 | u::ts,i+1,t,h=>by
  have:=Bp ts i t (by simpa using h);simp only[List.take_succ_cons,dh,this,List.append_assoc]
def gB(w:World)(B:Nat):List aa->List (List Value)->Prop
 | [],vals=>vals=[]
 | t::ts,vals=> ∃v vs,vals=v::vs/\lQ w B t v/\gB w B ts vs
theorem gB.append{w:World}{B:Nat}:∀{ts us:List aa}{vs ws:List (List Value)},gB w B ts vs->gB w B us ws->gB w B (ts++us) (vs++ws)
 | [],us,vs,ws,h,h2=>by
  have:vs=[]:=h;subst this;exact h2
 | t::ts,us,_,ws,h,h2=>by
  obtain⟨v,vs,rfl,h3,h4⟩:=h;exact⟨v,vs++ws,rfl,h3,gB.append h4 h2⟩
theorem gB.below{w w':World}{B B':Nat}(hb:Below B' w w')(hB:B<=B'):∀{ts:List aa}{vs:List (List Value)},gB w B ts vs->gB w' B ts vs
 | [],_,h=>h
 | _::_,_,h=>by
  obtain⟨v,vs,rfl,h3,h4⟩:=h;exact⟨v,vs,rfl,lQ.below hb hB _ _ h3,gB.below hb hB h4⟩
theorem gB.lens{w:World}{B:Nat}:∀{ts:List aa}{vs:List (List Value)},gB w B ts vs->(List.flatten vs).length=ts.length*5/\∀u∈List.flatten vs,u.oneCell'=true
 | [],vs,h=>by
  have:vs=[]:=h;subst this;exact⟨rfl,by simp⟩
 | t::ts,_,h=>by
  obtain⟨v,vs,rfl,h3,h4⟩:=h;have ih:=gB.lens h4;obtain⟨A,c,rfl,-⟩:=h3.five;refine⟨?_,fun u hu=>?_⟩
  ·simp only[List.flatten_cons,aaO,ih.1,aaQ,List.length_nil]
   omega
  ·simp only[List.flatten_cons,List.mem_append]at hu
   rcases hu with hu|hu
   ·simp at hu
    rcases hu with rfl|rfl|rfl|rfl|rfl<;>rfl
   ·exact ih.2 u hu
def aaf(w:World)(B:Nat)(ts:List aa)(e:Ending)(w':World):Prop:=
 ∃v n vals,e= .returned v/\n=ts.length/\aL w' w.heap.size 24 5 v n (List.flatten vals)/\gB w' B ts vals/\Below w.heap.size w w'
theorem UZ:∀(m:Nat) (t:aa) (A:Option Addr) (c:Nat) (w:World) (B:Nat),B<=w.heap.size->ah t<=m->m<=1000000000->t.kids.length<=c->aD w B A 0 t.kids ->
 Calls Tryz.prog 36 #[aX t A c] w (aaf w B (dV t)):=by
 obtain⟨i0,hi0,hz0,hz1,hz2⟩:=info_parts qp;intro m
 induction m with
 | zero=>
  intro t A c w B _ h;have:=oL t;omega
 | succ m ih=>
  intro t A c w B hBw hm hbig hcap hk;have hce:=tN t;have hnd:=EC t;obtain⟨kids,oJ⟩:∃x,t.kids=x:=⟨_,rfl⟩
  obtain⟨n,hn⟩:∃x,kids.length=x:=⟨_,rfl⟩
  have XF:∀w',aD w' B A 0 t.kids->lQ w' B t [.int .i64 t.kind,.string t.text,.int .i64 t.at_,.int .i64 t.end_,.slice A t.kids.length c]:=fun w' h=>by cases t;exact⟨A,c,rfl,hcap,h⟩
  unfold aX;rw[oJ]at hk hce hnd XF⊢;rw[hn]at XF⊢;obtain⟨k,hk0⟩:∃x,t.kind=x:=⟨_,rfl⟩
  obtain⟨x,hx0⟩:∃x,t.text=x:=⟨_,rfl⟩
  obtain⟨a,ha0⟩:∃x,t.at_=x:=⟨_,rfl⟩
  obtain⟨z,hzz⟩:∃x,t.end_=x:=⟨_,rfl⟩
  rw[hk0,hx0,ha0,hzz]at XF⊢;have hcl:=kC kids;have HTN:=kH XF;have HK:=kH hk;have HN:=kH hn;have rF:=kH hnd;have eH:=kH ih;have HM:Hid (ag kids<=m/\m<=1000000000):=kH ⟨by omega,by omega⟩;have hnb:n<=1000000000:=by omega
  clear hk hce ih hm hbig hcap hk0 hx0 ha0 hzz oJ hn hcl XF hnd;go_enter Tryz.func36,Tryz.ntmps36
  go_wp2_with fail
  generalize hW1:w.alloc (.cells #[.int .i64 k,.string x,.int .i64 a,.int .i64 z,.slice A n c] 24)=W1
  have hb1:Below w.heap.size w W1:=by rw[<- hW1];exact af _ _
  have eD:ai W1 w.heap.size 24 #[.int .i64 k,.string x,.int .i64 a,.int .i64 z,.slice A n c]:=by rw[<- hW1];exact ai.new w _ _
  have hs1:W1.heap.size=w.heap.size+1:=by rw[<- hW1];simp
  rw[<- hs1];generalize hW2:W1.alloc (.cells #[.int .i64 k,.string x,.int .i64 a,.int .i64 z,.slice A n c] 24)=W2
  have hb2:Below W1.heap.size W1 W2:=by rw[<- hW2];exact af _ _
  have hO2:aL W2 W1.heap.size 24 5 (.slice (some ⟨W1.heap.size,0,none⟩) 1 1) 1 (List.flatten [[.int .i64 k,.string x,.int .i64 a,.int .i64 z,.slice A n c]]):=by
   have:=aL.block (base:=W1.heap.size) (e:=24) (size:=5) (n:=1) (aaD _) (ai.new W1 24 #[.int .i64 k,.string x,.int .i64 a,.int .i64 z,.slice A n c]) (by simp[maxLen]) rfl;rw[hW2]at this;exact this
  have hR2:=eD.below hb2 eD.lt;have lF:=hb1.trans (hb2.mono hb1.size);have hk2:=aD.below lF hBw _ _ _ HK.out;have hv2:gB W2 B [t] [[.int .i64 k,.string x,.int .i64 a,.int .i64 z,.slice A n c]]:=⟨_,_,rfl,HTN.out W2 hk2,rfl⟩
  have HR2:=kH hR2;have xm:=kH hO2;have HB2:=kH lF;have gD:=kH hv2;have Ap:=kH hk2;have hl2:=hR2.lt;have nV:Hid (W1.heap.size=w.heap.size+1/\W1.heap.size<W2.heap.size):=kH ⟨hs1,by rw[<- hW2];simp⟩;clear hW1 hW2 hb1 hb2 eD hR2 hO2 lF hk2 hv2 hs1;go_loopg [3,4] n (fun gk s3 s4 wr=> ∃(i:Nat) (A3:Option Addr) (n3 c3:Nat) (vals:List (List Value)),i+gk=n/\s3= .slice A3 n3 c3/\s4= .int .i64 (i:Int)/\n3=1+ag (kids.take i)/\aL wr W1.heap.size 24 5 (.slice A3 n3 c3) n3 (List.flatten vals)/\gB wr B (t::dh (kids.take i)) vals/\Below W1.heap.size W2 wr)
  case atStart=>exact⟨0,_,1,1,_,by omega,rfl,rfl,by simp[ag],xm.out,by simpa [dh] using gD.out,Below.refl _ _⟩
  case round=>
   obtain⟨i,A3,n3,c3,vals,hi,rfl,rfl,zQ,hO,hV,hB⟩:=hrel;have hS1:=nV.out;have hRr:=HR2.out.below hB (by omega);have hc4:wr.cell? ⟨w.heap.size,4,none⟩=some (.slice A n c):=hRr.cell 4;have hlr:=hRr.lt;have HB:=kH hB;have HI:=kH hi;have HO:=kH hO;have HV:=kH hV;have mi:=kH zQ;have hin:i<=n:=by omega
   have hcl:=jk kids i;have hcb:n3<=1000000001:=by have:=HM.out;omega
   clear hB hRr hi hcl hO hV zQ hS1;by_cases hlt:i<n
   ·have hlt':(i:Int)<(n:Int):=by omega
    obtain⟨u,hu⟩:∃u,kids[i]? =some u:=⟨_,aaH (by rw[HN.out];exact hlt)⟩
    obtain⟨kv,⟨b,off,hA,hbl,hcs⟩,hT⟩:=Ap.out.get i u hu;obtain⟨A',c',nO,hK'⟩:=hT.five;subst hA;subst nO;have hcapu:=hT.cap;have hS1:=nV.out;have hbb:b<wr.heap.size:=by omega
    have hbW:b<W1.heap.size:=by omega
    have t0:wr.cell? ⟨b,off+i*5,none⟩=some (.int .i64 u.kind):=(HB.out.cell (p:=⟨b,_,none⟩) hbW).trans (by simpa using hcs 0 _ rfl);have t1:wr.cell? ⟨b,off+i*5+1,none⟩=some (.string u.text):=(HB.out.cell (p:=⟨b,_,none⟩) hbW).trans (by simpa using hcs 1 _ rfl);have t2:wr.cell? ⟨b,off+i*5+2,none⟩=some (.int .i64 u.at_):=(HB.out.cell (p:=⟨b,_,none⟩) hbW).trans (by simpa using hcs 2 _ rfl);have t3:wr.cell? ⟨b,off+i*5+3,none⟩=some (.int .i64 u.end_):=(HB.out.cell (p:=⟨b,_,none⟩) hbW).trans (by simpa using hcs 3 _ rfl);have t4:wr.cell? ⟨b,off+i*5+4,none⟩=some (.slice A' u.kids.length c'):=(HB.out.cell (p:=⟨b,_,none⟩) hbW).trans (by simpa using hcs 4 _ rfl);have htk:=gU kids i u hu;have hle:=jk kids (i+1);have hnt:=Bp kids i u hu;have IY:=HB.out.size;have hcall:=eH.out u A' c' wr B (by omega) (by have:=HM.out;omega) HM.out.2 hcapu (aD.below HB.out (by omega) _ _ _ hK');unfold aX at hcall;have HC:=kH hcall;have AZ:=kH htk;have HNT:=kH hnt;have hub:ah u<=1000000001:=by have:=HM.out;omega
    have xh:=kH hub;have hup:=oL u;have HUP:=kH hup;have hwr:IntKind.i64.wrap ((i:Int)+1)=(i:Int)+1:=IntWalk.i64_in _ (by omega);obtain⟨un,hun⟩:∃q,u.kids.length=q:=⟨_,rfl⟩
    rw[hun]at t4 HC;have HZ:Hid (W1.heap.size<=wr.heap.size/\w.heap.size<=W1.heap.size/\w.heap.size<wr.heap.size):=kH ⟨by omega,by omega,by omega⟩;clear hcs hT hK' htk hle hnt hcall hu hun hub hup hS1 IY hcapu;go_wp2_with fail
    refine HC.out.mono ?_;rintro e w5 ⟨v5,n5,NU,rfl,M4,hO5,hV5,hb5⟩;rw[qo]at M4;have hn5p:0<n5:=by rw[M4];exact HUP.out
    obtain⟨g5,off5,cap5,rfl,hc5,gV,hg5,hgl5,Tc⟩:=hO5.form hn5p;have Vt:=hV5.lens;rw[qo,<- M4]at Vt;have hO5r:=HO.out.below hb5 (fun g hg=>(HO.out.lt g hg).2);have hsz5:=hb5.size;have HO5R:=kH hO5r;have HL5:=kH Vt
    have FC:Hid (∀j u,(List.flatten NU)[j]? =some u->w5.cell? ((⟨g5,off5,none⟩:Addr).add j)=some u):=kH (fun j u hu=>by
     have h5:=Tc j u hu;by_cases h0:j=0
     ·subst h0
      simpa [Addr.add] using h5
     ·simpa [Addr.add,h0] using h5)
    have HV5:=kH hV5;have iQ:=kH hb5;have Q8:=kH hO5;have Ea:=kH M4;have hn5b:n5<=1000000001:=by have:=xh.out;omega
    have G9:Hid (W1.heap.size<=w5.heap.size/\wr.heap.size<=g5):=kH ⟨by have:=HZ.out;omega,hg5⟩;clear hO5r Vt Tc hV5 hb5 hO5 M4 hc5 gV hg5 hn5p;go_wp2_with (at_builtin;go_must (refine dm _ rfl (.tmp 14) (.tmp 20) _ rfl W1.heap.size 24 i0 _ 5 64 Tryz.underlying22 hi0 hz0 hz1 hz2 rfl (.slice A3 n3 c3) n3 (List.flatten vals) rfl HO5R.out ⟨g5,off5,none⟩ n5 cap5 (List.flatten NU) rfl HL5.out.1 (FC.out) HL5.out.2 (by simp only[maxLen];omega) (by omega) G9.out.1 ?_);intro vn w6 hown hgrow hat;obtain⟨A6,c6,kP,-,-⟩:=hown.shape;subst kP;have HOWN:=kH hown;have nW:=kH hgrow;clear hown hgrow hat)
    have yQ:Below W1.heap.size W2 w6:=((HB.out.trans (iQ.out.mono HZ.out.1)).trans (((az.refl (fun g=>W1.heap.size<=g) w5).grown nW.out (fun g hg=>.inl (HO.out.lt g hg).1)).toBelow G9.out.1 (fun g hg=>hg)))
    have I5:Below w.heap.size w5 w6:=((az.refl (fun g=>W1.heap.size<=g) w5).grown nW.out (fun g hg=>.inl (HO.out.lt g hg).1)).toBelow (by have:=HZ.out;have:=G9.out;omega) (fun g hg=>by have:=HZ.out;omega)
    have hV6:gB w6 B (t::dh (kids.take (i+1))) (vals++NU):=by
     rw[HNT.out,<- List.cons_append];exact((HV.out.below (iQ.out.mono (by have:=HZ.out;omega)) hBw).append HV5.out).below I5 hBw
    go_roundg (gk - 1)
    case measure=>have:=HI.out;omega
    case rel=>exact⟨i+1,A6,n3+n5,c6,vals++NU,by have:=HI.out;omega,rfl,by simp,by rw[AZ.out,mi.out,Ea.out];omega,by rw[List.flatten_append];exact HOWN.out,hV6,yQ⟩
   ·have hie:i=n:=by omega
    have htake:kids.take i=kids:=by rw[hie,<- HN.out,List.take_length]
    have hV2:=HV.out;rw[htake,<- rF.out]at hV2;have HV2':=kH hV2;have hn2:n3=(dV t).length:=by rw[mi.out,htake,rF.out,aaQ,y9];omega
    have Bd:=kH hn2;clear hV2 hn2;go_wp2_with fail
    go_ret
    exact⟨_,n3,vals,rfl,Bd.out,HO.out.mono (by have:=nV.out;omega),HV2'.out,HB2.out.trans (HB.out.mono (by have:=nV.out;omega))⟩
end Go.Proofs.YtoepemlnlpamlaaGreat
