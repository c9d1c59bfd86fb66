/- The law NamesResolves holds where what it reads is of bulk at most 1048576: it returns true, and its argument reads as before. Part 43: Awk1 Awk2. -/
import Derived.Test.YtoepemlnlpamlaaGreatReso15
import Derived.Test.YtoepemlnlpamlaaGreatReso17
import Derived.Test.YtoepemlnlpamlaaGreatReso42
set_option maxRecDepth 100000
set_option maxHeartbeats 4000000
namespace Go.Proofs.YtoepemlnlpamlaaGreat
def KE:aZ:=[112,114,111,99,32,102,40,120,41,123,118,97,114,32,121,61,120,59,103,40,121,41,59,125,112,114,111,99,32,103,40,122,41,123,125]
def GL:aZ:=[105,102,32,97,32,123,32,118,97,114,32,98,32,61,32,99,59,32,100,32,61,32,98,59,32,125]
def MW(x:Int):List Int->List Int
 | []=>[x]
 | y::l=>if x<=y then x::y::l else y::MW x l
def l9:List Int->List Int
 | []=>[]
 | x::l=>MW x (l9 l)
theorem FI(x:Int):∀l:List Int,(MW x l).Perm (x::l)
 | []=>List.Perm.refl _
 | y::l=>by
  rw[MW];split
  ·exact List.Perm.refl _
  ·exact((FI x l).cons y).trans (List.Perm.swap x y l)
theorem Iq(x:Int):∀l:List Int,l.Pairwise (· <= ·)->(MW x l).Pairwise (· <= ·)
 | [],_=>List.pairwise_singleton _ _
 | y::l,h=>by
  rw[List.pairwise_cons]at h;rw[MW];split
  ·rename_i hxy
   rw[List.pairwise_cons];refine⟨fun z hz=>?_,List.pairwise_cons.2 h⟩;rcases List.mem_cons.1 hz with rfl|hz
   ·exact hxy
   ·exact Int.le_trans hxy (h.1 z hz)
  ·rename_i hxy
   rw[List.pairwise_cons];refine⟨fun z hz=>?_,Iq x l h.2⟩;rcases List.mem_cons.1 ((FI x l).mem_iff.1 hz) with rfl|hz
   ·omega
   ·exact h.1 z hz
theorem KH:∀l:List Int,(l9 l).Perm l
 | []=>List.Perm.refl _
 | x::l=>(FI x _).trans ((KH l).cons x)
theorem Fg:∀l:List Int,(l9 l).Pairwise (· <= ·)
 | []=>List.Pairwise.nil
 | x::l=>Iq x _ (Fg l)
theorem ZX(l:List Int):l9 l=aj l:=by
 rw[<- Nt (KH l)];refine(List.mergeSort_of_pairwise ?_).symm;exact(Fg l).imp fun h=>by simpa using h
mutual
def E9(G:bf)(inside:Bool):ae->aQ->RS->RS×aQ
 | .node k x a e kids,s,r0=>
  let t:ae:=.node k x a e kids
  let n:=r0.next
  let r:RS:={ r0 with next:=n+1,aS:=if inside then cZ r0.aS (n:Int) (l9 (ak s)) else r0.aS }
  let tq:=(aT G.globals x).getD 0
  if k=3 then ed G inside kids 0 kids.length s { aU r 0 n t (decide (tq≠n)) with owner:=n }
  else if k=4 then ed G inside kids 0 kids.length s (aU r 1 n t (decide ((aT G.fields x).getD 0≠n)))
  else if k=5 then
   let r1:RS:={ aU r 2 n t (decide (tq≠n)) with owner:=n }
   let q:=ed G false kids 0 2 [[]] r1
   ((ed G true kids 2 1 ([]::q.2) q.1).1,s)
  else if k=7\/k=8 then
   let q:=aD G r 3 n t s
   ed G inside kids 0 kids.length q.2 q.1
  else if k=11 then
   let q:=ed G inside kids 0 kids.length ([]::s) r
   (q.1,q.2.tail)
  else if k=12 then
   let q:=aD G r 4 n t ([]::s)
   let q2:=ed G inside kids 0 2 s q.1
   (q2.1,kr q2.2 (q.2.headD []))
  else if k=16 then
   let q:=aD G r 5 n t ([]::s)
   let q2:=ed G inside kids 0 2 s q.1
   let q3:=ed G inside kids 2 1 (q.2.headD []::q2.2) q2.1
   (q3.1,q3.2.tail)
  else
   let r1:=if k=20 then gT r n t (eP s x)
    else if k=22 then gT r n t (aT G.fields x)
    else if k=27 then gT r n t (aT G.globals x)
    else if k=19 then gT r n t ((aT G.globals x).filter fun j=>decide (jw G j=5))
    else if k=9/\dJ x=false then gT r n t ((aT G.globals x).filter fun j=>decide (jw G j=3))
    else r
   ed G inside kids 0 kids.length s r1
def ed(G:bf)(inside:Bool):List ae->Nat->Nat->aQ->RS->RS×aQ
 | [],_,_,s,r=>(r,s)
 | _::ts,from_+1,n,s,r=>ed G inside ts from_ n s r
 | _::_,0,0,s,r=>(r,s)
 | t::ts,0,n+1,s,r=>
  let q:=E9 G inside t s r
  ed G inside ts 0 n q.2 q.1
end
theorem UY(G:bf)(i:Bool)(k:Int)(x:ByteArray)(a e:Int)(kids:List ae)(s:aQ)(r:RS):E9 G i (.node k x a e kids) s r=
 if k=3 then ed G i kids 0 kids.length s { aU (aC r i (l9 (ak s))) 0 r.next (.node k x a e kids) (decide ((aT G.globals x).getD 0≠(r.next:Int))) with owner:=(r.next:Int) }
 else if k=4 then ed G i kids 0 kids.length s (aU (aC r i (l9 (ak s))) 1 r.next (.node k x a e kids) (decide ((aT G.fields x).getD 0≠(r.next:Int))))
 else if k=5 then((ed G true kids 2 1 ([]::(ed G false kids 0 2 [[]] { aU (aC r i (l9 (ak s))) 2 r.next (.node k x a e kids) (decide ((aT G.globals x).getD 0≠(r.next:Int))) with owner:=(r.next:Int) }).2) (ed G false kids 0 2 [[]] { aU (aC r i (l9 (ak s))) 2 r.next (.node k x a e kids) (decide ((aT G.globals x).getD 0≠(r.next:Int))) with owner:=(r.next:Int) }).1).1,s)
 else if k=7\/k=8 then ed G i kids 0 kids.length (aD G (aC r i (l9 (ak s))) 3 r.next (.node k x a e kids) s).2 (aD G (aC r i (l9 (ak s))) 3 r.next (.node k x a e kids) s).1
 else if k=11 then((ed G i kids 0 kids.length ([]::s) (aC r i (l9 (ak s)))).1,(ed G i kids 0 kids.length ([]::s) (aC r i (l9 (ak s)))).2.tail)
 else if k=12 then((ed G i kids 0 2 s (aD G (aC r i (l9 (ak s))) 4 r.next (.node k x a e kids) ([]::s)).1).1,kr (ed G i kids 0 2 s (aD G (aC r i (l9 (ak s))) 4 r.next (.node k x a e kids) ([]::s)).1).2 ((aD G (aC r i (l9 (ak s))) 4 r.next (.node k x a e kids) ([]::s)).2.headD []))
 else if k=16 then((ed G i kids 2 1 ((aD G (aC r i (l9 (ak s))) 5 r.next (.node k x a e kids) ([]::s)).2.headD []::(ed G i kids 0 2 s (aD G (aC r i (l9 (ak s))) 5 r.next (.node k x a e kids) ([]::s)).1).2) (ed G i kids 0 2 s (aD G (aC r i (l9 (ak s))) 5 r.next (.node k x a e kids) ([]::s)).1).1).1,
  (ed G i kids 2 1 ((aD G (aC r i (l9 (ak s))) 5 r.next (.node k x a e kids) ([]::s)).2.headD []::(ed G i kids 0 2 s (aD G (aC r i (l9 (ak s))) 5 r.next (.node k x a e kids) ([]::s)).1).2) (ed G i kids 0 2 s (aD G (aC r i (l9 (ak s))) 5 r.next (.node k x a e kids) ([]::s)).1).1).2.tail)
 else ed G i kids 0 kids.length s (iN G s r (aC r i (l9 (ak s))) (.node k x a e kids)):=by
 rw[E9];rfl
mutual
theorem Nk(G:bf):∀(t:ae) (i:Bool) (s:aQ) (r:RS),E9 G i t s r=aJ G i t s r
 | .node k x a e kids,i,s,r=>by
  have ih:∀i f n s r,ed G i kids f n s r=ah G i kids f n s r:=fun i f n s r=>Dy G kids i f n s r
  rw[dh,UY];simp only[ih,ZX]
theorem Dy(G:bf):∀(ts:List ae) (i:Bool) (f n:Nat) (s:aQ) (r:RS),ed G i ts f n s r=ah G i ts f n s r
 | [],i,f,n,s,r=>by rw[ed,ah]
 | t::ts,i,f+1,n,s,r=>by rw[ed,ah];exact Dy G ts i f n s r
 | t::ts,i,0,0,s,r=>by rw[ed,ah]
 | t::ts,i,0,n+1,s,r=>by
  rw[ed,ah];rw[Nk G t i s r];exact Dy G ts i 0 n _ _
end
def Je(t:ae):RS:=
 let r:=(E9 (dG t) false t [] ⟨[],List.replicate (au t) (-1),[],[],0,0⟩).1
 { r with uses:=r.uses.map (nV r.ds),aS:=r.aS.map fun x=>(x.1,x.2.map (nV r.ds)) }
theorem SN(t:ae):Je t=bS t:=by
 unfold Je bS;rw[Nk]
def Qw(r:RS)(k:Nat)(x:ae):Bool:=
 (!(decide (x.kind=20)&&(x.text.data.toList==[120])) || (decide (r.uses[k]? =some 1)&&decide ((bG r.aS (k:Int)).getD []=[1])))&&(!decide (x.kind=19) || decide ((bG r.aS (k:Int)).getD []=[1,2]))
def GX(r:RS):List ae->Nat->Bool
 | [],_=>true
 | x::l,k=>Qw r k x&&GX r l (k+1)
def RI(t:ae)(ds:List Dg):Bool:=
 let r:=Je t
 decide (ds.length=0)&&iJ t&&decide (r.aW.length=0)&&decide (r.ds.length=5)&&decide ((r.ds[2]?.map (·.name.data.toList))=some [121])&&decide ((r.ds[4]?.map (·.kind))=some 3)&&decide (r.uses.length=au t)&&decide (au t<=100)&&GX r (bY t) 0
def Ma(t:ae):Bool:=decide ((nI t [] []).map (·.data.toList)=[[97],[99],[100]])&&decide (au t<=100)
theorem parse1:((sP 40 KE).map fun x=>RI x.1 x.2)=some true:=by kernel_rfl
def Y6:Option (List ae×PS)->Bool
 | some ([x],p)=>Ma x&&decide (bM (pz GL) p=5)
 | _=>false
theorem parse2:Y6 (aN GL (pz GL) 30 .stmt ⟨0,0,[]⟩)=true:=by kernel_rfl
theorem parse2':∃x p,aN GL (pz GL) 30 .stmt ⟨0,0,[]⟩=some ([x],p)/\Ma x=true/\bM (pz GL) p=5:=by
 have h:=parse2;unfold Y6 at h;split at h
 ·rename_i x p e
  rw[abG,decide_eq_true_eq]at h;exact⟨x,p,e,h.1,h.2⟩
 ·cases h
theorem Ic(f:Nat)(s:aZ)(y:ae×List Dg)(h:sP f s=some y):sP (f+1) s=some y:=by
 unfold sP at h⊢
 cases hp:mf s (pz s) f ⟨0,0,[]⟩ [] with
 | none=>rw[hp]at h;cases h
 | some q=>
  rw[zF f _ _ q hp];rw[hp]at h;exact h
theorem parse1'{f:Nat}{t:ae}{ds:List Dg}(h:sP f KE=some (t,ds)):RI t ds=true:=by
 have h1:=parse1
 cases hp:sP 40 KE with
 | none=>rw[hp]at h1;cases h1
 | some y=>
  have e1:=jO (F:=fun f=>sP f KE) (fun f y h=>Ic f _ y h) (Nat.le_max_left f 40) h;have e2:=jO (F:=fun f=>sP f KE) (fun f y h=>Ic f _ y h) (Nat.le_max_right f 40) hp;rw[e1]at e2;rw[hp]at h1;cases e2
  simpa using h1
theorem K7{r:RS}:∀{l:List ae}{k:Nat},GX r l k=true->∀{j:Nat}{x:ae},l[j]? =some x->Qw r (k+j) x=true
 | [],_,_,j,x,h=>by cases h
 | y::l,k,hk,j,x,h=>by
  rw[GX,abG]at hk
  cases j with
  | zero=>
   simp only[abL,abJ]at h;rw[<- h];exact hk.1
  | succ j=>
   rw[abM]at h;have:=K7 hk.2 h;rw[show k+1+j=k+(j+1) by omega]at this;exact this
open Go.RowKit
theorem zU.at_{w0:World}{t:ae}{ds:List Dg}{e:Ending}{w':World}(h:zU w0 t ds e w'):∃A c DA dc,e= .returned (.tuple #[bD t A c,.slice DA ds.length dc,.int .i64 0])/\t.kids.length<=c/\aK w' w'.heap.size A 0 t.kids/\aL w' w0.heap.size 78 5 (.slice DA ds.length dc) ds.length (ds.flatMap bC)/\Below w0.heap.size w0 w':=by
 obtain⟨k,x,a,z,A,n,c,DA,dn,dc,he,hT,hd,ho,hb⟩:=h;have hat:=aB.at_ t _ hT;have hcap:=hat.cap;obtain⟨A',c',h1,h2⟩:=hat.five;simp only[List.cons.injEq,Value.int.injEq,Value.string.injEq,Value.slice.injEq,true_and,and_true]at h1;obtain⟨rfl,rfl,rfl,rfl,rfl,rfl,rfl⟩:=h1;subst hd;exact⟨A,c,DA,dc,he,hcap,h2,ho,hb⟩
theorem iL.get{w:World}{B:Nat}:∀{ts:List ae}{vs:List (List Value)},iL w B ts vs->∀{j:Nat}{x:ae},ts[j]? =some x->∃cs,jU w B x cs/\∀q u,cs[q]? =some u->(List.flatten vs)[j*5+q]? =some u
 | [],_,_,j,x,h=>by cases h
 | t::ts,vs0,h0,j,x,h=>by
  obtain⟨v,vs,rfl,h3,h4⟩:=h0;obtain⟨A,c,hv,-⟩:=h3.five;have hl:v.length=5:=by rw[hv];rfl
  cases j with
  | zero=>
   simp only[abL,abJ]at h;subst h;refine⟨v,h3,fun q u hq=>?_⟩;have hlt:=(abK.1 hq).1;rw[List.flatten_cons,Nat.zero_mul,Nat.zero_add,List.getElem?_append_left hlt];exact hq
  | succ j=>
   rw[abM]at h;obtain⟨cs,h5,h6⟩:=iL.get h4 h;refine⟨cs,h5,fun q u hq=>?_⟩;rw[List.flatten_cons,abO (by omega),hl,show(j+1)*5+q - 5=j*5+q by omega];exact h6 q u hq
theorem Z7{w:World}{b:Nat}(z:Int)(h:w.cell? ⟨b,0,none⟩=some (.int .i64 z))(hb:b<w.heap.size):bN 1 fO w w.heap.size (some ⟨b,0,none⟩) [z]:=by
 intro k c hk
 match k,hk with
 | 0,hk=>
  cases hk
  refine⟨b,0,rfl,hb,fun j v hj=>?_⟩
  match j,hj with
  | 0,hj=>cases hj;exact h
  | j+1,hj=>simp[fO]at hj
 | k+1,hk=>simp at hk
theorem Z6{w:World}{b:Nat}(y z:Int)(h0:w.cell? ⟨b,0,none⟩=some (.int .i64 y))(h1:w.cell? ⟨b,1,none⟩=some (.int .i64 z))(hb:b<w.heap.size):bN 1 fO w w.heap.size (some ⟨b,0,none⟩) [y,z]:=by
 intro k c hk
 match k,hk with
 | 0,hk=>
  cases hk
  refine⟨b,0,rfl,hb,fun j v hj=>?_⟩
  match j,hj with
  | 0,hj=>cases hj;exact h0
  | j+1,hj=>simp[fO]at hj
 | 1,hk=>
  cases hk
  refine⟨b,0,rfl,hb,fun j v hj=>?_⟩
  match j,hj with
  | 0,hj=>cases hj;exact h1
  | j+1,hj=>simp[fO]at hj
 | k+2,hk=>simp at hk
theorem U9{w:World}{b:Nat}(x y z:ByteArray)(h0:w.cell? ⟨b,0,none⟩=some (.string x))(h1:w.cell? ⟨b,1,none⟩=some (.string y))(h2:w.cell? ⟨b,2,none⟩=some (.string z))(hb:b<w.heap.size):bN 1 fE w w.heap.size (some ⟨b,0,none⟩) [x,y,z]:=by
 intro k c hk
 match k,hk with
 | 0,hk=>
  cases hk
  refine⟨b,0,rfl,hb,fun j v hj=>?_⟩
  match j,hj with
  | 0,hj=>cases hj;exact h0
  | j+1,hj=>simp[fE]at hj
 | 1,hk=>
  cases hk
  refine⟨b,0,rfl,hb,fun j v hj=>?_⟩
  match j,hj with
  | 0,hj=>cases hj;exact h1
  | j+1,hj=>simp[fE]at hj
 | 2,hk=>
  cases hk
  refine⟨b,0,rfl,hb,fun j v hj=>?_⟩
  match j,hj with
  | 0,hj=>cases hj;exact h2
  | j+1,hj=>simp[fE]at hj
 | k+3,hk=>simp at hk
theorem QK(l:List Int):gY l=l.flatMap fO:=by
 induction l with
 | nil=>rfl
 | cons a l ih=>rw[List.flatMap_cons,<- ih];rfl
theorem Tm{t:ae}(h:Ma t=true):nI t [] []=[⟨#[97]⟩,⟨#[99]⟩,⟨#[100]⟩]/\au t<=100:=by
 unfold Ma at h;rw[abG,decide_eq_true_eq,decide_eq_true_eq]at h;refine⟨?_,h.2⟩;have h1:=h.1;generalize nI t [] []=l at h1⊢
 match l,h1 with
 | [x,y,z],h1=>
  simp only[List.map_cons,List.map_nil,List.cons.injEq,and_true]at h1;rw[mE (a:=x) (b:=⟨#[97]⟩) (by rw[h1.1]),mE (a:=y) (b:=⟨#[99]⟩) (by rw[h1.2.1]),mE (a:=z) (b:=⟨#[100]⟩) (by rw[h1.2.2])]
 | [],h1=>cases h1
 | [x],h1=>simp at h1
 | [x,y],h1=>simp at h1
 | x::y::z::u::l,h1=>simp at h1
theorem Za(w:World):Calls Tryz.prog 11 #[] w fun e w'=>e= .returned (.bool true)/\Below w.heap.size w w':=by
 have hp1:=fun w=>XX ⟨#[112,114,111,99,32,102,40,120,41,123,118,97,114,32,121,61,120,59,103,40,121,41,59,125,112,114,111,99,32,103,40,122,41,123,125]⟩ w (by decide)
 obtain⟨t2,p2,hs1,hs2,hs3⟩:=parse2';have hp2:=fun w=>OH ⟨#[105,102,32,97,32,123,32,118,97,114,32,98,32,61,32,99,59,32,100,32,61,32,98,59,32,125]⟩ w (by decide) 30 t2 p2 hs1 hs3
 have Bg:=kH hp1;have yX:=kH hp2;have HS2:=kH hs2;clear hp1 hp2 hs1 hs2 hs3;go_enter Tryz.func11,Tryz.ntmps11
 go_wp2_with fail
 refine(Bg.out _).mono ?_;rintro e1 w1 ⟨f,t,ds,hpm,htd⟩;have hck:=parse1' hpm;obtain⟨A,c,DA,dc,rfl,hcap,hk,hod,hb1⟩:=htd.at_;unfold RI at hck;simp only[abG,decide_eq_true_eq,SN]at hck;obtain⟨⟨⟨⟨⟨⟨⟨⟨hd0,hval⟩,hpr⟩,hds⟩,hdn⟩,hdk⟩,Yw⟩,hcn⟩,hnok⟩:=hck;rw[hd0];obtain⟨k0,x0,a0,z0,n0,-,-,-,-,hn0,kX⟩:=fq t A c;rw[kX];have hres:=fun W (hb:Below w1.heap.size w1 W)=>IP t A c W (by omega) hcap (aK.mono hb.size _ _ _ (aK.below hb (abE _) _ _ _ hk))
 rw[kX]at hres;have aM:=kH hres;have HB1:=kH hb1;have HCAP:=kH hcap;have HK:=kH hk;have Gq:=kH hval;have qF:=kH hpr;have HDS:=kH hds;have HDN:=kH hdn;have HDK:=kH hdk;have Ov:=kH Yw;have Sv:=kH hcn;have HNOK:=kH hnok;have BV:=kH kX;clear hpm htd hod hd0 hval hpr hds hdn hdk Yw hcn hnok kX hres hb1 hcap hk hn0;go_wp2_with fail
 obtain⟨nb,hnb⟩:∃q,w1.heap.size=q:=⟨_,rfl⟩
 obtain⟨W1,hW1⟩:∃W1,w1.alloc (.cells #[.int .i64 k0,.string x0,.int .i64 a0,.int .i64 z0,.slice A n0 c] 24)=W1:=⟨_,rfl⟩
 rw[hW1];have hbW:Below w1.heap.size w1 W1:=by rw[<- hW1];exact ag _ _
 have Rw:ai W1 w1.heap.size 24 #[.int .i64 k0,.string x0,.int .i64 a0,.int .i64 z0,.slice A n0 c]:=by rw[<- hW1];exact ai.new _ _ _
 have hcall:=aM.out W1 hbW;have HC:=kH hcall;have Mv:=kH Rw;have qf:=kH hbW;rw[hnb]at Mv;clear hcall Rw hbW hW1;refine HC.out.mono ?_;rintro e2 w2 h2;rcases h2 with⟨hf,-⟩| ⟨-,E,V,Aw,nw,cw,rfl,BO,hR,hnw,how,hb2⟩
 ·rw[Gq.out]at hf
  cases hf
 rw[qF.out]at hnw;subst hnw;rw[HDS.out,Ov.out];obtain⟨N,hN⟩:∃q,au t=q:=⟨_,rfl⟩
 rw[hN]
 obtain⟨d2,hd2,aaL⟩:∃d,(bS t).ds[2]? =some d/\d.name.data.toList=[121]:=by
  have:=HDN.out
  cases h:(bS t).ds[2]? with
  | none=>rw[h]at this;cases this
  | some d=>rw[h]at this;exact⟨d,rfl,by simpa using this⟩
 obtain⟨d4,hd4,hd4k⟩:∃d,(bS t).ds[4]? =some d/\d.kind=3:=by
  have:=HDK.out
  cases h:(bS t).ds[4]? with
  | none=>rw[h]at this;cases this
  | some d=>rw[h]at this;exact⟨d,rfl,by simpa using this⟩
 have hrow:=hR.ds.rowAt (cells:=cB) (l:=(bS t).ds) rfl rfl (fun _ _=>rfl) rfl;obtain⟨db,zf,Rb,hdl,hdc⟩:=hrow 2 d2 hd2;obtain⟨db',doff',aaK,-,hdc'⟩:=hrow 4 d4 hd4;rw[Rb]at aaK;simp only[abJ,Addr.mk.injEq,and_true]at aaK;obtain⟨rfl,rfl⟩:=aaK;rw[Rb];have hc2:=hdc 1 _ rfl;have hc4:=hdc' 0 _ rfl;rw[hd4k]at hc4;obtain⟨yn,hyn⟩:∃q,d2.name=q:=⟨_,rfl⟩
 rw[hyn]at hc2 aaL;have hyt:yn.toList=[121]:=by rw[ByteArray.toList_eq];exact aaL
 obtain⟨uA,huA⟩:∃q,E.uA=q:=⟨_,rfl⟩
 obtain⟨uc,huc⟩:∃q,E.uc=q:=⟨_,rfl⟩
 obtain⟨dc2,hdc2⟩:∃q,V.dc=q:=⟨_,rfl⟩
 rw[huA,huc,hdc2];have mK:=hR.us;rw[Ov.out,hN,huA,huc]at mK;have qd:=kH mK;have uX:=kH hN;have uY:Hid (w2.cell? ⟨db,zf+9,none⟩=some (.string yn)/\w2.cell? ⟨db,zf+16,none⟩=some (.int .i64 3)/\db<w2.heap.size):=kH ⟨by simpa using hc2,by simpa using hc4,hdl⟩;have Xm:=kH (Mv.out.below hb2 Mv.out.lt);have HB2:Hid (Below w1.heap.size w1 w2):=kH (qf.out.trans (hb2.mono qf.out.size));have hNm:N<=100:=by rw[<- hN];exact Sv.out
 clear BO hR how hb2 hd2 aaL hd4 hd4k hrow Rb hdc hdc' hdl hc2 hc4 hyn huA huc hdc2 mK hN HC;go_wp2_with fail
 obtain⟨rb,hrb⟩:∃q,w2.heap.size=q:=⟨_,rfl⟩
 obtain⟨W2,hW2⟩:∃W2,w2.alloc (.cells #[.slice (some ⟨db,zf,none⟩) 5 dc2,.slice uA N uc] 30)=W2:=⟨_,rfl⟩
 rw[hW2];have hbW:Below w2.heap.size w2 W2:=by rw[<- hW2];exact ag _ _
 have hRW:ai W2 w2.heap.size 30 #[.slice (some ⟨db,zf,none⟩) 5 dc2,.slice uA N uc]:=by rw[<- hW2];exact ai.new _ _ _
 rw[hrb]at hRW;have HRW:=kH hRW;have CF:=kH hbW;clear hbW hRW hW2;refine(yX.out W2).mono ?_;rintro e3 w3 htd;obtain⟨A2,c2,DA2,dc3,rfl,hcap2,hk2,hod2,hb3⟩:=htd.at_;obtain⟨m0,y0,b0,f0,q0,-,-,-,-,-,aaw⟩:=fq t2 A2 c2;rw[aaw];obtain⟨nd2,hnd2⟩:∃q,(ib (iF (ByteArray.mk #[105,102,32,97,32,123,32,118,97,114,32,98,32,61,32,99,59,32,100,32,61,32,98,59,32,125]).data.toList) p2.ds).length=q:=⟨_,rfl⟩
 rw[hnd2];have HNV2:=kH aaw;have I1:=kH hk2;have I7:Hid (Below w1.heap.size w1 w3):=kH ((HB2.out.trans (CF.out.mono HB2.out.size)).trans (hb3.mono (abF HB2.out.size CF.out.size)));have Xq:Hid (Below w2.heap.size w2 w3):=kH (CF.out.trans (hb3.mono CF.out.size));have HR3:=kH (HRW.out.below hb3 HRW.out.lt);clear htd hod2 hb3 hcap2 hk2 aaw hnd2;go_wp2_with fail
 obtain⟨sb,hsb⟩:∃q,w3.heap.size=q:=⟨_,rfl⟩
 obtain⟨W3,hW3⟩:∃W3,w3.alloc (.cells #[.int .i64 m0,.string y0,.int .i64 b0,.int .i64 f0,.slice A2 q0 c2] 24)=W3:=⟨_,rfl⟩
 rw[hW3];have hbW:Below w3.heap.size w3 W3:=by rw[<- hW3];exact ag _ _
 have hSW:ai W3 w3.heap.size 24 #[.int .i64 m0,.string y0,.int .i64 b0,.int .i64 f0,.slice A2 q0 c2]:=by rw[<- hW3];exact ai.new _ _ _
 rw[hsb]at hSW;have HSW:=kH hSW;have Xo:=kH hbW;have O6:Hid (Below w2.heap.size w2 W3):=kH (Xq.out.trans (hbW.mono Xq.out.size));have Xl:=kH ((Xm.out.below Xq.out Xm.out.lt).below hbW (Xm.out.below Xq.out Xm.out.lt).lt);have Xi:=kH (HR3.out.below hbW HR3.out.lt);have oK:Hid (Below w1.heap.size w1 W3):=kH (I7.out.trans (hbW.mono I7.out.size))
 have kF:∀w':World,Below W3.heap.size W3 w'->(Below W3.heap.size W3 w'/\w'.cell? ⟨rb,0,none⟩=some (.slice (some ⟨db,zf,none⟩) 5 dc2)/\w'.cell? ⟨rb,1,none⟩=some (.slice uA N uc)/\w'.cell? ⟨db,zf+9,none⟩=some (.string yn)/\w'.cell? ⟨db,zf+16,none⟩=some (.int .i64 3)/\w'.cell? ⟨nb,0,none⟩=some (.int .i64 k0)/\w'.cell? ⟨nb,1,none⟩=some (.string x0)/\w'.cell? ⟨nb,2,none⟩=some (.int .i64 a0)/\w'.cell? ⟨nb,3,none⟩=some (.int .i64 z0)/\w'.cell? ⟨nb,4,none⟩=some (.slice A n0 c)):=fun w' hb=>by
  have b1:=Xl.out.below hb Xl.out.lt;have b2:=Xi.out.below hb Xi.out.lt;have hbz:Below w2.heap.size w2 w':=O6.out.trans (hb.mono O6.out.size);exact⟨hb,b2.cell 0,b2.cell 1,(hbz.cell (p:=⟨db,zf+9,none⟩) uY.out.2.2).trans uY.out.1,(hbz.cell (p:=⟨db,zf+16,none⟩) uY.out.2.2).trans uY.out.2.1,b1.cell 0,b1.cell 1,b1.cell 2,b1.cell 3,b1.cell 4⟩
 have dU:=kH kF;have hcnt:=fun W (hb:Below W3.heap.size W3 W)=>L9 (au t) t A c W (abE _) (by have:=Sv.out;omega) (aK.mono (abF oK.out.size hb.size) _ _ _ (aK.below (oK.out.trans (hb.mono oK.out.size)) (abE _) _ _ _ HK.out))
 rw[BV.out,uX.out]at hcnt;have Xn:=kH hcnt;clear hbW hSW kF hcnt hW3;refine dZ (fun w'=>Below W3.heap.size W3 w'/\w'.cell? ⟨rb,0,none⟩=some (.slice (some ⟨db,zf,none⟩) 5 dc2)/\w'.cell? ⟨rb,1,none⟩=some (.slice uA N uc)/\w'.cell? ⟨db,zf+9,none⟩=some (.string yn)/\w'.cell? ⟨db,zf+16,none⟩=some (.int .i64 3)/\w'.cell? ⟨nb,0,none⟩=some (.int .i64 k0)/\w'.cell? ⟨nb,1,none⟩=some (.string x0)/\w'.cell? ⟨nb,2,none⟩=some (.int .i64 a0)/\w'.cell? ⟨nb,3,none⟩=some (.int .i64 z0)/\w'.cell? ⟨nb,4,none⟩=some (.slice A n0 c)) [] [true,true,true,true,true,true,true,true,true,true,true,true,true,true,true,true,true,true,true,true,true,true,true,true,true,true,true,true,true,true,true,true,true,true,false,true,true] (by kernel_rfl) (by kernel_rfl) rfl (by kernel_rfl) ?_;have hS0:=dU.out W3.drew ((Below.refl _ _).drew);iterate 34((first|(refine eG (by rfl) hS0 ?_)|(refine dz (by rfl) hS0 (by intro w' hSw;obtain⟨-,hs1,hs2,hs3,hs4,hs5,hs6,hs7,jQ,Db⟩:=hSw;go_simp;rfl) ?_));simp only[Act.put,sA,sZ,sC])
 refine gm (by rfl) (by go_simp) ((Xn.out _ hS0.1).mono ?_);rintro e5 w5 ⟨rfl,hb5⟩;have hS1:=dU.out w5 (hS0.1.trans (hb5.mono hS0.1.size));refine⟨_,rfl,fun _=>hS1,?_⟩;iterate 2(simp only[Act.put,sA,sZ,sC];(first|(refine eG (by rfl) hS1 ?_)|(refine dz (by rfl) hS1 (by intro w' hSw;obtain⟨-,hs1,hs2,hs3,hs4,hs5,hs6,hs7,jQ,Db⟩:=hSw;go_simp;rfl) ?_)))
 simp only[Act.put,sA,sZ,sC];refine iU ?_;have jb:Hid (Below w1.heap.size w1 w5):=kH (oK.out.trans (hS1.1.mono oK.out.size));have HB52:Hid (Below w2.heap.size w2 w5):=kH (O6.out.trans (hS1.1.mono O6.out.size));have HB53:Hid (Below w3.heap.size w3 w5):=kH (Xo.out.trans (hS1.1.mono Xo.out.size));have Gu:=kH (Xl.out.below hS1.1 Xl.out.lt);have HRW5:=kH (Xi.out.below hS1.1 Xi.out.lt);have HSW5:=kH (HSW.out.below hS1.1 HSW.out.lt);have u0:=Gu.out.cell 0;have u1:=Gu.out.cell 1;have u2:=Gu.out.cell 2;have u3:=Gu.out.cell 3;have u4:=Gu.out.cell 4;have lu:=Gu.out.lt;have aax:=DN (au t) t A c w5 w5.heap.size (abE _) (abE _) (by have:=Sv.out;omega) HCAP.out (aK.mono jb.out.size _ _ _ (aK.below jb.out (abE _) _ _ _ HK.out));rw[BV.out]at aax;have HNOD:=kH aax;clear hS0 hS1 hb5 aax;go_wp2_with fail
 clear u0 u1 u2 u3 u4 lu;refine HNOD.out.mono ?_;rintro e6 w6 ⟨v6,n6,vals,rfl,Lt,TT,hva,hb6⟩;obtain⟨A6,c6,hv6,-,-⟩:=TT.shape;subst hv6;have hn6N:n6=N:=by rw[Lt,mh,uX.out]
 subst hn6N;have Dq:=kH TT;have HVA:=kH hva;have mP:Hid (Below w1.heap.size w1 w6):=kH (jb.out.trans (hb6.mono jb.out.size));have HB62:Hid (Below w2.heap.size w2 w6):=kH (HB52.out.trans (hb6.mono HB52.out.size));have HB63:Hid (Below w3.heap.size w3 w6):=kH (HB53.out.trans (hb6.mono HB53.out.size));have HNW6:=kH (Gu.out.below hb6 Gu.out.lt);have HRW6:=kH (HRW5.out.below hb6 HRW5.out.lt);have HSW6:=kH (HSW5.out.below hb6 HSW5.out.lt);have ZB:=kH Lt;clear TT hva hb6 Lt HNOD;go_wp2_with fail
 go_loopg [68] n6 (fun gk s68 wr=> ∃k:Nat,s68= .int .i64 (k:Int)/\k+gk=n6/\Hid (Below w6.heap.size w6 wr))
 case atStart=>exact⟨0,rfl,by omega,kH (Below.refl _ _)⟩
 case round=>
  obtain⟨k,rfl,YD,HB⟩:=hrel;have M9:=kH (HNW6.out.below HB.out HNW6.out.lt);have HRWr:=kH (HRW6.out.below HB.out HRW6.out.lt);have M6:=kH (HSW6.out.below HB.out HSW6.out.lt);by_cases hlt:k<n6
  ·have hlt':(k:Int)<(n6:Int):=by omega
   have hw:IntKind.i64.wrap ((k:Int)+1)=(k:Int)+1:=IntWalk.i64_in _ (by omega);obtain⟨x,hx⟩:∃x,(bY t)[k]? =some x:=⟨_,abI (by rw[<- ZB.out];exact hlt)⟩
   obtain⟨cs,hT,hfl⟩:=iL.get HVA.out hx;obtain⟨A',c',hcs,-⟩:=hT.five;subst hcs;obtain⟨bk,off,cap,hv,-,-,-,hbk,hcell⟩:=(Dq.out.below HB.out (fun g hg=>(Dq.out.lt g hg).2)).form (by omega);simp only[Value.slice.injEq,true_and]at hv;obtain⟨rfl,rfl⟩:=hv;obtain⟨xk,hxk⟩:∃q,x.kind=q:=⟨_,rfl⟩
   obtain⟨xt,hxt⟩:∃q,x.text=q:=⟨_,rfl⟩
   obtain⟨xa,hxa⟩:∃q,x.at_=q:=⟨_,rfl⟩
   obtain⟨xz,hxz⟩:∃q,x.end_=q:=⟨_,rfl⟩
   obtain⟨xn,hxn⟩:∃q,x.kids.length=q:=⟨_,rfl⟩
   have hcs':∀q v,[Value.int .i64 xk,.string xt,.int .i64 xa,.int .i64 xz,.slice A' xn c'][q]? =some v->wr.cell? ⟨bk,off+k*5+q,none⟩=some v:=fun q v hq=>by
    have:=hcell _ _ (hfl q v (by rw[hxk,hxt,hxa,hxz,hxn];exact hq));rw[show off+(k*5+q)=off+k*5+q by omega]at this;exact this
   have t0:wr.cell? ⟨bk,off+k*5,none⟩=some (.int .i64 xk):=by simpa using hcs' 0 _ rfl
   have t1:wr.cell? ⟨bk,off+k*5+1,none⟩=some (.string xt):=by simpa using hcs' 1 _ rfl
   have t2':wr.cell? ⟨bk,off+k*5+2,none⟩=some (.int .i64 xa):=by simpa using hcs' 2 _ rfl
   have t3:wr.cell? ⟨bk,off+k*5+3,none⟩=some (.int .i64 xz):=by simpa using hcs' 3 _ rfl
   have t4:wr.cell? ⟨bk,off+k*5+4,none⟩=some (.slice A' xn c'):=by simpa using hcs' 4 _ rfl
   have hok:=K7 HNOK.out hx;rw[Nat.zero_add]at hok;unfold Qw at hok;rw[hxk,hxt,abG]at hok;have yZ:Hid (Below w6.heap.size w6 (wr.alloc (.cells #[.int .i64 xk,.string xt,.int .i64 xa,.int .i64 xz,.slice A' xn c'] 24))):=kH (HB.out.trans ((ag wr _).mono HB.out.size));have xV:=Tu t A c (k:Int) (wr.alloc (.cells #[.int .i64 xk,.string xt,.int .i64 xa,.int .i64 xz,.slice A' xn c'] 24)) (by have:=Sv.out;omega) HCAP.out (aK.mono (abF mP.out.size yZ.out.size) _ _ _ (aK.below (mP.out.trans (yZ.out.mono mP.out.size)) (abE _) _ _ _ HK.out));rw[BV.out]at xV;have HVIS:=kH xV;have Yv:qI t (k:Int)=(bG (bS t).aS (k:Int)).getD []:=by unfold qI;rw[if_pos Gq.out]
   have p0:=M9.out.cell 0;have p1:=M9.out.cell 1;have p2':=M9.out.cell 2;have p3:=M9.out.cell 3;have p4:=M9.out.cell 4;have lp:=M9.out.lt;have r1:=HRWr.out.cell 1;have lr:=HRWr.out.lt;clear hx hT hfl hcell hxk hxt hxa hxz hxn hcs' xV;by_cases hA:xk=20/\xt.toList=[120]
   ·obtain⟨rfl,aaq⟩:=hA
    have h1:=hok.1;rw[ByteArray.toList_eq]at aaq;rw[aaq]at h1;simp only[decide_true,beq_self_eq_true,Bool.and_self,Bool.not_true,Bool.false_or,abG,decide_eq_true_eq]at h1;rw[<- ByteArray.toList_eq]at aaq;have HVV:Hid (qI t (k:Int)=[1]):=kH (by rw[Yv];exact h1.2);obtain⟨ub,uo,ucap,huv,-,-,-,hub,huc⟩:=(qd.out.below (HB62.out.trans (HB.out.mono HB62.out.size)) (fun g hg=>(qd.out.lt g hg).2)).form (by omega);simp only[Value.slice.injEq,true_and]at huv;obtain⟨rfl,rfl⟩:=huv;have cu:wr.cell? ⟨ub,uo+k,none⟩=some (.int .i64 1):=huc k _ (by unfold gY;rw[List.getElem?_map,h1.1];rfl);clear hok h1 Yv huc;go_wp2_with fail
    refine HVIS.out.mono ?_;rintro e7 w7 ⟨v7,rfl,De,dB⟩;rw[show qI t (k:Int)=[1] from HVV.out]at De;obtain⟨Av,cv,hv7,-,-⟩:=De.shape;subst hv7;have xK:=kH De;have gN:=kH dB;clear De dB;go_wp2_with fail
    refine(Kg Av (some ⟨w7.heap.size,0,none⟩) 1 1 cv 1 [1] [1] _ (((xK.out.rowAt (cells:=fO) (l:=[1]) rfl (QK _) (fun _ _=>rfl) rfl).below (ag _ _) (abE _)).mono (by simp)) (Z7 1 (by go_simp) (by simp)) rfl rfl (by omega)).mono ?_;rintro e8 w8 ⟨rfl,dW⟩;have uP:Hid (Below w6.heap.size w6 w8):=kH ((yZ.out.trans (gN.out.mono yZ.out.size)).trans (((ag w7 _).trans (dW.mono (by simp))).mono (abF yZ.out.size gN.out.size)));have aaO:=((((ai.new wr 24 #[.int .i64 20,.string xt,.int .i64 xa,.int .i64 xz,.slice A' xn c']).below gN.out (by simp)).alloc (.cells #[.int .i64 1] 3)).below dW (by have:=gN.out.size;simp at this⊢;omega))
    have x8:=aaO.cell 0;have lx8:=aaO.lt;simp only[decide_true];clear dW aaO;go_wp2_with fail
    go_roundg (gk - 1)
    case measure=>omega
    case rel=>exact⟨k+1,by simp,by omega,uP⟩
   ·by_cases hBk:xk=19
    ·subst hBk
     have h1:=hok.2;simp only[decide_true,Bool.not_true,Bool.false_or,decide_eq_true_eq]at h1;have HVV:Hid (qI t (k:Int)=[1,2]):=kH (by rw[Yv];exact h1);clear hok h1 Yv hA;go_wp2_with fail
     refine HVIS.out.mono ?_;rintro e7 w7 ⟨v7,rfl,De,dB⟩;rw[show qI t (k:Int)=[1,2] from HVV.out]at De;obtain⟨Av,cv,hv7,-,-⟩:=De.shape;subst hv7;have xK:=kH De;have gN:=kH dB;clear De dB;go_wp2_with fail
     refine(Kg Av (some ⟨w7.heap.size,0,none⟩) 2 2 cv 2 [1,2] [1,2] _ (((xK.out.rowAt (cells:=fO) (l:=[1,2]) rfl (QK _) (fun _ _=>rfl) rfl).below (ag _ _) (abE _)).mono (by simp)) (Z6 1 2 (by go_simp) (by go_simp) (by simp)) rfl rfl (by omega)).mono ?_;rintro e8 w8 ⟨rfl,dW⟩;have uP:Hid (Below w6.heap.size w6 w8):=kH ((yZ.out.trans (gN.out.mono yZ.out.size)).trans (((ag w7 _).trans (dW.mono (by simp))).mono (abF yZ.out.size gN.out.size)));simp only[decide_true];clear dW;go_wp2_with fail
     go_roundg (gk - 1)
     case measure=>omega
     case rel=>exact⟨k+1,by simp,by omega,uP⟩
    ·have hf19:(xk==19)=false:=by simp[hBk]
     clear hok Yv;have HBC:Hid (Below w6.heap.size w6 (wr.alloc (.cells #[.int .i64 xk,.string xt,.int .i64 xa,.int .i64 xz,.slice A' xn c'] 24))):=yZ;by_cases h20:xk=20
     ·have hx2:(xt.toList==[120])=false:=by
       rw[beq_eq_false_iff_ne];exact fun h=>hA ⟨h20,h⟩
      have hx3:¬xt.toList=[120]:=fun h=>hA ⟨h20,h⟩
      have FR:(xk==20)=true:=by simp[h20]
      clear hA h20 hBk;go_wp2_with fail
      go_roundg (gk - 1)
      case measure=>omega
      case rel=>exact⟨k+1,by simp,by omega,HBC⟩
     ·have FR:(xk==20)=false:=by simp[h20]
      clear hA h20 hBk;go_wp2_with fail
      go_roundg (gk - 1)
      case measure=>omega
      case rel=>exact⟨k+1,by simp,by omega,HBC⟩
  ·have hkn:k=n6:=by omega
   subst hkn;have hge:¬((k:Int)<(k:Int)):=by omega
   have s0:=M6.out.cell 0;have s1:=M6.out.cell 1;have s2:=M6.out.cell 2;have s3:=M6.out.cell 3;have s4:=M6.out.cell 4;have ls:=M6.out.lt;obtain⟨hfr,hcn2⟩:=Tm HS2.out;have aaQ:Below w3.heap.size w3 wr:=HB63.out.trans (HB.out.mono HB63.out.size);have hfree:=abC t2 A2 c2 wr (by omega) (aK.mono aaQ.size _ _ _ (aK.below aaQ (abE _) _ _ _ I1.out));rw[HNV2.out,hfr]at hfree;have HFR:=kH hfree;clear hfree hfr aaQ hcn2;go_wp2_with fail
   refine HFR.out.mono ?_;rintro e7 w7 ⟨v7,rfl,De,dB⟩;obtain⟨Av,cv,hv7,-,-⟩:=De.shape;subst hv7;have xK:=kH De;have gN:Hid (Below w1.heap.size w1 w7):=kH ((mP.out.trans (HB.out.mono mP.out.size)).trans (dB.mono (abF mP.out.size HB.out.size)));clear De dB s0 s1 s2 s3 s4 ls;go_wp2_with fail
   refine(Ze Av (some ⟨w7.heap.size,0,none⟩) 3 3 cv 3 [⟨#[97]⟩,⟨#[99]⟩,⟨#[100]⟩] [⟨#[97]⟩,⟨#[99]⟩,⟨#[100]⟩] _ (((xK.out.rowAt (cells:=fE) (l:=[⟨#[97]⟩,⟨#[99]⟩,⟨#[100]⟩]) rfl rfl (fun _ _=>rfl) rfl).below (ag _ _) (abE _)).mono (by simp)) (U9 _ _ _ (by go_simp) (by go_simp) (by go_simp) (by simp)) rfl rfl (by omega)).mono ?_;rintro e8 w8 ⟨rfl,dW⟩;have uP:Hid (Below w.heap.size w w8):=kH (HB1.out.trans ((gN.out.trans (((ag w7 _).trans (dW.mono (by simp))).mono gN.out.size)).mono HB1.out.size));simp only[decide_true];clear dW;go_wp2_with fail
   go_ret
   exact⟨rfl,uP.out⟩
end Go.Proofs.YtoepemlnlpamlaaGreat
