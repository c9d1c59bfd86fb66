/- The law NamesFreeAt holds: for every text and every number the law returns true, and its arguments read as before. No condition. Part 4: ParE ParW Scan. -/
import Derived.Test.YtoepemlnlpamlaaGreatFreeAt03
namespace Go.Proofs.YtoepemlnlpamlaaGreat
set_option maxRecDepth 100000
set_option maxHeartbeats 4000000
section
variable {s:Bytes} {l:List Tok}
def Ends (l:List Tok):Prop:=∀ k,k < l.length→(tkM l k).kind≠5→k+1 < l.length
def Le (l:List Tok) (p q:PS):Prop:=p.k≤q.k∧q.k < l.length
theorem Le.trans {p q r:PS} (h:Le l p q) (h2:Le l q r):Le l p r:=⟨Nat.le_trans h.1 h2.1,h2.2⟩
theorem isM_kind {p:PS} {w:Bytes} (h:isM s l p w=true):kindM l p≠5:=by
 unfold isM at h;simp at h;exact h.1
theorem le_refl {p:PS} (hp:p.k < l.length):Le l p p:=⟨Nat.le_refl _,hp⟩
theorem le_read (he:Ends l) {p:PS} (hp:p.k < l.length) (h:kindM l p≠5):Le l p (readM l p)∧p.k < (readM l p).k:=by
 have:=he p.k hp h;exact⟨⟨by simp[readM],this⟩,by simp[readM]⟩
theorem repM_k {p:PS} {c:Int} {t:Bytes}:(repM l p c t).k=p.k:=by
 unfold repM;split
 ·split <;> rfl
 ·rfl
theorem le_rep {p:PS} {c:Int} {t:Bytes} (hp:p.k < l.length):Le l p (repM l p c t):=by
 unfold Le;rw[repM_k];exact⟨Nat.le_refl _,hp⟩
theorem le_expect (he:Ends l) {p:PS} {w:Bytes} (hp:p.k < l.length):Le l p (expectM s l p w):=by
 unfold expectM;split
 ·rename_i h;exact(le_read he hp (isM_kind h)).1
 ·exact le_rep hp
theorem le_accept (he:Ends l) {p:PS} {w:Bytes} (hp:p.k < l.length):Le l p (acceptM s l p w):=by
 unfold acceptM;split
 ·rename_i h;exact(le_read he hp (isM_kind h)).1
 ·exact le_refl hp
theorem le_name (he:Ends l) {p:PS} (hp:p.k < l.length):Le l p (nameP l p):=by
 unfold nameP;split
 ·rename_i h;exact(le_read he hp (by rw[h];decide)).1
 ·exact le_rep hp
theorem le_typ (he:Ends l) {p:PS} (hp:p.k < l.length):Le l p (typM s l p).2:=by
 unfold typM;split
 ·rename_i h;exact(le_read he hp (isM_kind h)).1
 split
 ·rename_i h
  have h1:=(le_read he hp (isM_kind h)).1
  try simp only
  split
  ·rename_i h2
   have h3:=h1.trans (le_read he h1.2 (isM_kind h2)).1
   try simp only
   split
   ·rename_i h4
    have h5:=h3.trans (le_read he h3.2 (by rw[h4];decide)).1;exact h5.trans (le_expect he h5.2)
   ·have h5:=h3.trans (le_rep (c:=4) (t:=[110,117,109,98,101,114]) h3.2)
    exact h5.trans (le_expect he h5.2)
  ·exact h1
 split
 ·rename_i h;exact(le_read he hp (by rw[h];decide)).1
 ·exact le_rep hp
theorem le_opt (he:Ends l) {p:PS} (hp:p.k < l.length):Le l p (optM s l p).2:=by
 unfold optM;split
 ·rename_i h
  have h1:=(le_read he hp (isM_kind h)).1;exact h1.trans (le_typ he h1.2)
 ·exact le_refl hp
theorem le_var (he:Ends l) {p:PS} (hp:p.k < l.length):Le l p (varM s l p).2:=le_name he hp
theorem lt_var (he:Ends l) {p:PS} (hp:p.k < l.length) (h:kindM l p=0):p.k < (varM s l p).2.k:=by
 unfold varM nameP;simp only;rw[if_pos h];exact(le_read he hp (by rw[h];decide)).2
theorem stops_rep {p:PS} {c:Int} {t:Bytes}:stopsM s l (repM l p c t)=stopsM s l p:=by
 unfold stopsM isM kindM;rw[repM_k]
theorem skipL_ex (he:Ends l) (first:Nat):∀ (n:Nat) (p:PS),p.k < l.length→l.length - p.k≤n→∃ f q,skipL s l first f p=some q∧Le l p q∧(stopsM s l p=false→p.k=first→p.k < q.k):=by
 intro n
 induction n with
 | zero=>intro p h1 h2;omega
 | succ n ih =>
  intro p h1 h2
  by_cases hc:(!stopsM s l p && (decide (p.k=first) || !beginsP s l p))=true
  ·have hst:stopsM s l p=false:=by simp at hc;exact hc.1
   have hk:kindM l p≠5:=by
    intro h5;unfold stopsM at hst;simp[h5]at hst
   have hr:=le_read he h1 hk
   by_cases hw:wordM s l p.k = [59]
   ·refine⟨1,readM l p,?_,hr.1,fun _ _=>hr.2⟩
    rw[skipL,if_pos hc,if_pos hw]
   ·obtain⟨f,q,h3,h4,_⟩:=ih (readM l p) hr.1.2 (by have:=hr.2;omega)
    refine⟨f+1,q,?_,hr.1.trans h4,fun _ _=>by have:=h4.1;have:=hr.2;omega⟩;rw[skipL,if_pos hc,if_neg hw];exact h3
  ·refine⟨1,p,?_,le_refl h1,fun hs hf=>?_⟩
   ·rw[skipL,if_neg hc]
   ·simp[hs,hf]at hc
theorem skipped_ex (he:Ends l) {p:PS} (hp:p.k < l.length):∃ f x q,skippedM s l f p=some (x,q)∧Le l p q∧(stopsM s l p=false→p.k < q.k):=by
 obtain⟨f,q,h1,h2,h3⟩:=skipL_ex (s:=s) he p.k l.length (repM l p 6 []) (le_rep hp).2 (by omega);rw[stops_rep,repM_k]at h3;refine⟨f,nodeM l q p.k 1 [] [],q,?_,(le_rep hp).trans h2,fun h=>h3 h rfl⟩;unfold skippedM;rw[h1]
def EndsEmpty (s:Bytes) (l:List Tok):Prop:=∀ k,(tkM l k).kind=5→wordM s l k = []
theorem behind_kind (he:EndsEmpty s l) {p:PS} (h:behindM s l p = [40]):kindM l (readM l p)≠5:=by
 intro h5;have:=he (p.k+1) h5;unfold behindM at h;split at h
 ·rw[this]at h;cases h
 ·cases h
def rank:Fn→Nat
 | .expr lv=>40 - 2 * lv
 | .exprL _ _ _=>0
 | .operand=>20
 | .args=>5
 | .argsL _=>0
 | .place=>10
 | .stmt=>60
 | .block=>45
 | .blockL _=>70
 | .branch=>50
def ReadyF (l:List Tok) (p:PS):Fn→Prop
 | .expr lv=>1≤lv∧lv≤7
 | .exprL lv _ _=>lv≤6
 | .args=>kindM l p≠5
 | .branch=>kindM l p≠5
 | _=>True
def single:Fn→Bool
 | .args=>false
 | .argsL _=>false
 | .blockL _=>false
 | _=>true
def ShapeF (x:List Tree) (fn:Fn):Prop:=single fn=true→∃ t,x = [t]
def ProgF (s:Bytes) (l:List Tok) (p q:PS):Fn→Prop
 | .stmt=>stopsM s l p=false→p.k < q.k
 | .branch=>p.k < q.k
 | .place=>kindM l p=0→p.k < q.k
 | _=>True
def AnsF (s:Bytes) (l:List Tok) (fn:Fn) (p:PS):Prop:=∃ f x q,parM s l f fn p=some (x,q)∧Le l p q∧ShapeF x fn∧ProgF s l p q fn
theorem ans_mk1 {fn:Fn} {p:PS} {f:Nat} {x:Tree} {q:PS} (hl:Le l p q) (h:parM s l f fn p=some ([x],q)) (hp:ProgF s l p q fn):AnsF s l fn p:=⟨f,[x],q,h,hl,fun _=>⟨x,rfl⟩,hp⟩
theorem ans_mkm {fn:Fn} {p:PS} {f:Nat} {x:List Tree} {q:PS} (hl:Le l p q) (h:parM s l f fn p=some (x,q)) (hs:single fn=false) (hp:ProgF s l p q fn):AnsF s l fn p:=⟨f,x,q,h,hl,fun h1=>(by rw[hs]at h1;cases h1),hp⟩
theorem ans_one {fn:Fn} {p:PS} (h:AnsF s l fn p) (hs:single fn=true):∃ f t q,(∀ f',f≤f'→parM s l f' fn p=some ([t],q))∧Le l p q∧ProgF s l p q fn:=by
 obtain⟨f,x,q,h1,h2,h3,h4⟩:=h;obtain⟨t,rfl⟩:=h3 hs;exact⟨f,t,q,fun f' hf=>parM_le hf h1,h2,h4⟩
theorem ans_many {fn:Fn} {p:PS} (h:AnsF s l fn p):∃ f x q,(∀ f',f≤f'→parM s l f' fn p=some (x,q))∧Le l p q:=by
 obtain⟨f,x,q,h1,h2,_,_⟩:=h;exact⟨f,x,q,fun f' hf=>parM_le hf h1,h2⟩
theorem par_ex (he:Ends l) (hend:EndsEmpty s l):∀ (n:Nat) (fn:Fn) (p:PS),p.k < l.length→ReadyF l p fn→(l.length - p.k) * 100+rank fn < n→AnsF s l fn p:=by
 intro n
 induction n with
 | zero=>intro fn p _ _ h;omega
 | succ n ih =>
  intro fn p hp hr hn
  have E:∀ (lv:Nat) (q:PS),q.k < l.length→1≤lv→lv≤7→(l.length - q.k) * 100+(40 - 2 * lv) < n→∃ f t q',(∀ f',f≤f'→parM s l f' (.expr lv) q=some ([t],q'))∧Le l q q':=fun lv q hq h1 h7 h=>by
   obtain⟨f,t,q',h2,h3,_⟩:=ans_one (ih (.expr lv) q hq ⟨h1,h7⟩ h) rfl;exact⟨f,t,q',h2,h3⟩
  have B:∀ (q:PS),q.k < l.length→(l.length - q.k) * 100+45 < n→∃ f t q',(∀ f',f≤f'→parM s l f' .block q=some ([t],q'))∧Le l q q':=fun q hq h=>by
   obtain⟨f,t,q',h2,h3,_⟩:=ans_one (ih .block q hq trivial h) rfl;exact⟨f,t,q',h2,h3⟩
  cases fn with
  | expr lv =>
   obtain⟨h1,h7⟩:=hr;simp only[rank]at hn
   by_cases h3:lv=3
   ·subst h3
    by_cases hw:isM s l p [110,111,116] = true
    ·have hrd:=le_read he hp (isM_kind hw)
     obtain⟨f,t,q,h4,h5⟩:=E 3 (readM l p) hrd.1.2 (by omega) (by omega) (by have:=hrd.2;omega);refine ans_mk1 (x:=nodeM l q p.k 28 [110,111,116] [t]) (f:=f+1) (hrd.1.trans h5) ?_ (by trivial);rw[parM,if_pos rfl,if_pos hw,one_mk (h4 f (Nat.le_refl _))]
    ·obtain⟨f,t,q,h4,h5⟩:=E 4 p hp (by omega) (by omega) (by omega)
     refine ans_mk1 (x:=t) (f:=f+1) (h5) ?_ (by trivial);rw[parM,if_pos rfl,if_neg hw];exact h4 f (Nat.le_refl _)
   ·by_cases h77:lv=7
    ·subst h77
     by_cases hw:isM s l p [45] = true
     ·have hrd:=le_read he hp (isM_kind hw)
      obtain⟨f,t,q,h4,h5⟩:=E 7 (readM l p) hrd.1.2 (by omega) (by omega) (by have:=hrd.2;omega);refine ans_mk1 (x:=nodeM l q p.k 28 [45] [t]) (f:=f+1) (hrd.1.trans h5) ?_ (by trivial);rw[parM,if_neg h3,if_pos rfl,if_pos hw,one_mk (h4 f (Nat.le_refl _))]
     ·obtain⟨f,t,q,h4,h5,_⟩:=ans_one (ih .operand p hp trivial (by simp only[rank];omega)) rfl
      refine ans_mk1 (x:=t) (f:=f+1) (h5) ?_ (by trivial);rw[parM,if_neg h3,if_pos rfl,if_neg hw];exact h4 f (Nat.le_refl _)
    ·obtain⟨f,t,q,h4,h5⟩:=E (lv+1) p hp (by omega) (by omega) (by omega)
     obtain⟨f2,t2,q2,h6,h7',_⟩:=ans_one (ih (.exprL lv p.k t) q h5.2 (show lv≤6 by omega) (by simp only[rank];have:=h5.1;omega)) rfl;refine ans_mk1 (x:=t2) (f:=max f f2+1) (h5.trans h7') ?_ (by trivial);rw[parM,if_neg h3,if_neg h77,one_mk (h4 _ (Nat.le_max_left _ _))];exact h6 _ (Nat.le_max_right _ _)
  | exprL lv first x =>
   have hr':lv≤6:=hr;simp only[rank]at hn
   by_cases ho:operM s l p lv=true
   ·have hk:kindM l p≠5:=by unfold operM at ho;simp at ho;exact ho.1
    have hrd:=le_read he hp hk;obtain⟨f,t,q,h4,h5⟩:=E (lv+1) (readM l p) hrd.1.2 (by omega) (by omega) (by have:=hrd.2;omega)
    by_cases h44:lv=4
    ·refine ans_mk1 (x:=nodeM l q first 29 (wordM s l p.k) [x,t]) (f:=f+1) (hrd.1.trans h5) ?_ (by trivial)
     rw[parM,if_pos ho,one_mk (h4 f (Nat.le_refl _))]
     try simp only
     rw[if_pos h44]
    ·obtain⟨f2,t2,q2,h6,h7',_⟩:=ans_one (ih (.exprL lv first (nodeM l q first 29 (wordM s l p.k) [x,t])) q h5.2 hr' (by simp only[rank];have:=h5.1;have:=hrd.2;omega)) rfl
     refine ans_mk1 (x:=t2) (f:=max f f2+1) ((hrd.1.trans h5).trans h7') ?_ (by trivial);rw[parM,if_pos ho,one_mk (h4 _ (Nat.le_max_left _ _))]
     try simp only
     rw[if_neg h44];exact h6 _ (Nat.le_max_right _ _)
   ·refine ans_mk1 (x:=x) (f:=1) (le_refl hp) ?_ (by trivial)
    rw[parM,if_neg ho]
  | operand =>
   simp only[rank]at hn
   by_cases h1:kindM l p=2
   ·refine ans_mk1 (x:=nodeM l (readM l p) p.k 24 (digitsM (wordM s l p.k)) []) (f:=1) ((le_read he hp (by rw[h1];decide)).1) ?_ (by trivial)
    rw[parM,if_pos h1]
   by_cases h2:(isM s l p [116,114,117,101] || isM s l p [102,97,108,115,101])=true
   ·have hk:kindM l p≠5:=by
     rw[Bool.or_eq_true]at h2
     rcases h2 with h2 | h2 <;> exact isM_kind h2
    refine ans_mk1 (x:=nodeM l (readM l p) p.k 25 (wordM s l p.k) []) (f:=1) ((le_read he hp hk).1) ?_ (by trivial);rw[parM,if_neg h1,if_pos h2]
   by_cases h3:(decide (kindM l p=0) && decide (behindM s l p = [40]))=true
   ·have h3':=h3
    simp at h3';have hrd:=le_read he hp (by rw[h3'.1];decide);have hk2:=behind_kind hend h3'.2;obtain⟨f,x,q,h4,h5⟩:=ans_many (ih .args (readM l p) hrd.1.2 hk2 (by simp only[rank];have:=hrd.2;omega));refine ans_mk1 (x:=nodeM l q p.k 27 (wordM s l p.k) x) (f:=f+1) (hrd.1.trans h5) ?_ (by trivial);rw[parM,if_neg h1,if_neg h2,if_pos h3,many_mk (h4 f (Nat.le_refl _))]
   by_cases h4:kindM l p=0
   ·obtain⟨f,t,q,h5,h6,_⟩:=ans_one (ih .place p hp trivial (by simp only[rank];omega)) rfl
    refine ans_mk1 (x:=t) (f:=f+1) (h6) ?_ (by trivial);rw[parM,if_neg h1,if_neg h2,if_neg h3,if_pos h4];exact h5 f (Nat.le_refl _)
   by_cases h5:isM s l p [91] = true
   ·have hrd:=le_read he hp (isM_kind h5)
    obtain⟨f,t,q,h6,h7⟩:=E 1 (readM l p) hrd.1.2 (by omega) (by omega) (by have:=hrd.2;omega);obtain⟨f2,x2,q2,h8,h9⟩:=ans_many (ih (.argsL [t]) q h7.2 trivial (by simp only[rank];have:=hrd.2;have:=h7.1;omega));refine ans_mk1 (x:=nodeM l (expectM s l q2 [93]) p.k 26 [] x2) (f:=max f f2+1) ((hrd.1.trans h7).trans (h9.trans (le_expect (s:=s) (w:=[93]) he h9.2))) ?_ (by trivial);rw[parM,if_neg h1,if_neg h2,if_neg h3,if_neg h4,if_pos h5,one_mk (h6 _ (Nat.le_max_left _ _)),many_mk (h8 _ (Nat.le_max_right _ _))]
   by_cases h6:isM s l p [108,101,110] = true
   ·have hrd:=le_read he hp (isM_kind h6)
    have a1:=le_expect (s:=s) (w:=[40]) he hrd.1.2;have a2:=le_var (s:=s) he a1.2;have a3:=le_expect (s:=s) (w:=[41]) he a2.2;refine ans_mk1 (x:=nodeM l (expectM s l (varM s l (expectM s l (readM l p) [40])).2 [41]) p.k 23 [] [(varM s l (expectM s l (readM l p) [40])).1]) (f:=1) (((hrd.1.trans a1).trans a2).trans a3) ?_ (by trivial);rw[parM,if_neg h1,if_neg h2,if_neg h3,if_neg h4,if_neg h5,if_pos h6]
   by_cases h7:isM s l p [40] = true
   ·have hrd:=le_read he hp (isM_kind h7)
    obtain⟨f,t,q,h8,h9⟩:=E 1 (readM l p) hrd.1.2 (by omega) (by omega) (by have:=hrd.2;omega);refine ans_mk1 (x:=t) (f:=f+1) ((hrd.1.trans h9).trans (le_expect (s:=s) (w:=[41]) he h9.2)) ?_ (by trivial);rw[parM,if_neg h1,if_neg h2,if_neg h3,if_neg h4,if_neg h5,if_neg h6,if_pos h7,one_mk (h8 f (Nat.le_refl _))]
   ·refine ans_mk1 (x:=nodeM l (repM l p 5 []) p.k 1 [] []) (f:=1) (le_rep (c:=5) (t:=[]) hp) ?_ (by trivial)
    rw[parM,if_neg h1,if_neg h2,if_neg h3,if_neg h4,if_neg h5,if_neg h6,if_neg h7]
  | args =>
   have hk:kindM l p≠5:=hr;simp only[rank]at hn;have hrd:=le_read he hp hk
   by_cases h1:isM s l (readM l p) [41] = true
   ·refine ans_mkm (x:=[]) (f:=1) (hrd.1.trans (le_expect (s:=s) (w:=[41]) he hrd.1.2)) ?_ rfl (by trivial)
    rw[parM];rw[if_pos h1]
   ·obtain⟨f,t,q,h6,h7⟩:=E 1 (readM l p) hrd.1.2 (by omega) (by omega) (by have:=hrd.2;omega)
    obtain⟨f2,x2,q2,h8,h9⟩:=ans_many (ih (.argsL [t]) q h7.2 trivial (by simp only[rank];have:=hrd.2;have:=h7.1;omega));refine ans_mkm (x:=x2) (f:=max f f2+1) ((hrd.1.trans h7).trans (h9.trans (le_expect (s:=s) (w:=[41]) he h9.2))) ?_ rfl (by trivial);rw[parM]
    try simp only
    rw[if_neg h1,one_mk (h6 _ (Nat.le_max_left _ _)),many_mk (h8 _ (Nat.le_max_right _ _))]
  | argsL kids =>
   simp only[rank]at hn
   by_cases h1:isM s l p [44] = true
   ·have hrd:=le_read he hp (isM_kind h1)
    obtain⟨f,t,q,h6,h7⟩:=E 1 (readM l p) hrd.1.2 (by omega) (by omega) (by have:=hrd.2;omega);obtain⟨f2,x2,q2,h8,h9⟩:=ans_many (ih (.argsL (kids ++ [t])) q h7.2 trivial (by simp only[rank];have:=hrd.2;have:=h7.1;omega));refine ans_mkm (x:=x2) (f:=max f f2+1) ((hrd.1.trans h7).trans h9) ?_ rfl (by trivial);rw[parM,if_pos h1,one_mk (h6 _ (Nat.le_max_left _ _))];exact h8 _ (Nat.le_max_right _ _)
   ·refine ans_mkm (x:=kids) (f:=1) (le_refl hp) ?_ rfl (by trivial)
    rw[parM,if_neg h1]
  | place =>
   simp only[rank]at hn;have hv:=le_var (s:=s) he hp
   have hlt:=fun h=>lt_var (s:=s) he hp h
   by_cases h1:isM s l (varM s l p).2 [91] = true
   ·have hrd:=le_read he hv.2 (isM_kind h1)
    obtain⟨f,t,q,h6,h7⟩:=E 1 (readM l (varM s l p).2) hrd.1.2 (by omega) (by omega) (by have:=hrd.2;have:=hv.1;omega);refine ans_mk1 (x:=nodeM l (expectM s l q [93]) p.k 21 [] [(varM s l p).1,t]) (f:=f+1) (((hv.trans hrd.1).trans h7).trans (le_expect (s:=s) (w:=[93]) he h7.2)) ?_ (fun h=>by have:=hlt h;have:=((hrd.1.trans h7).trans (le_expect (s:=s) (w:=[93]) he h7.2)).1;omega);rw[parM]
    try simp only
    rw[if_pos h1,one_mk (h6 f (Nat.le_refl _))]
   by_cases h2:isM s l (varM s l p).2 [46] = true
   ·have hrd:=le_read he hv.2 (isM_kind h2)
    refine ans_mk1 (x:=nodeM l (nameP l (readM l (varM s l p).2)) p.k 22 (nameT s l (readM l (varM s l p).2)) [(varM s l p).1]) (f:=1) ((hv.trans hrd.1).trans (le_name he hrd.1.2)) ?_ (fun h=>by have:=hlt h;have:=(hrd.1.trans (le_name he hrd.1.2)).1;omega)
    rw[parM];rw[if_neg h1,if_pos h2]
   ·refine ans_mk1 (x:=(varM s l p).1) (f:=1) hv ?_ hlt
    rw[parM];rw[if_neg h1,if_neg h2]
  | stmt =>
   simp only[rank]at hn
   by_cases h1:isM s l p [118,97,114] = true
   ·have hrd:=le_read he hp (isM_kind h1)
    have a1:=le_name he hrd.1.2;have a2:=le_opt (s:=s) he a1.2;have a3:=le_expect (s:=s) (w:=[61]) he a2.2;have hall:=((hrd.1.trans a1).trans a2).trans a3
    have hlt:p.k < (expectM s l (optM s l (nameP l (readM l p))).2 [61]).k:=by have:=hrd.2;have:=((a1.trans a2).trans a3).1;omega
    obtain⟨f,t,q,h6,h7⟩:=E 1 (expectM s l (optM s l (nameP l (readM l p))).2 [61]) a3.2 (by omega) (by omega) (by omega);have h8:=le_expect (s:=s) (w:=[59]) he h7.2;refine ans_mk1 (x:=nodeM l (expectM s l q [59]) p.k 12 (nameT s l (readM l p)) [(optM s l (nameP l (readM l p))).1,t]) (f:=f+1) ((hall.trans h7).trans h8) ?_ (fun _=>?_)
    ·rw[parM]
     try simp only
     rw[if_pos h1,one_mk (h6 f (Nat.le_refl _))]
    ·have:=h7.1;have:=h8.1;omega
   by_cases h2:isM s l p [105,102] = true
   ·obtain⟨f,t,q,h6,h7,h8⟩:=ans_one (ih .branch p hp (isM_kind h2) (by simp only[rank];omega)) rfl
    refine ans_mk1 (x:=t) (f:=f+1) h7 ?_ (fun _=>h8);rw[parM]
    try simp only
    rw[if_neg h1,if_pos h2];exact h6 f (Nat.le_refl _)
   by_cases h3:isM s l p [119,104,105,108,101] = true
   ·have hrd:=le_read he hp (isM_kind h3)
    obtain⟨f1,t1,q1,a1,b1⟩:=E 1 (readM l p) hrd.1.2 (by omega) (by omega) (by have:=hrd.2;omega);obtain⟨f2,t2,q2,a2,b2⟩:=B q1 b1.2 (by have:=hrd.2;have:=b1.1;omega);refine ans_mk1 (x:=nodeM l q2 p.k 15 [] [t1,t2]) (f:=max f1 f2+1) ((hrd.1.trans b1).trans b2) ?_ (fun _=>?_)
    ·rw[parM]
     try simp only
     rw[if_neg h1,if_neg h2,if_pos h3,one_mk (a1 _ (Nat.le_max_left _ _)),one_mk (a2 _ (Nat.le_max_right _ _))]
    ·have:=hrd.2;have:=b1.1;have:=b2.1;omega
   by_cases h4:isM s l p [102,111,114] = true
   ·have hrd:=le_read he hp (isM_kind h4)
    have a1:=le_name he hrd.1.2;have a2:=le_expect (s:=s) (w:=[61]) he a1.2;obtain⟨f1,t1,q1,c1,b1⟩:=E 1 (expectM s l (nameP l (readM l p)) [61]) a2.2 (by omega) (by omega) (by have:=hrd.2;have:=(a1.trans a2).1;omega);have a3:=le_expect (s:=s) (w:=[116,111]) he b1.2;obtain⟨f2,t2,q2,c2,b2⟩:=E 1 (expectM s l q1 [116,111]) a3.2 (by omega) (by omega) (by have:=hrd.2;have:=(((a1.trans a2).trans b1).trans a3).1;omega);obtain⟨f3,t3,q3,c3,b3⟩:=B q2 b2.2 (by have:=hrd.2;have:=((((a1.trans a2).trans b1).trans a3).trans b2).1;omega);refine ans_mk1 (x:=nodeM l q3 p.k 16 (nameT s l (readM l p)) [t1,t2,t3]) (f:=max f1 (max f2 f3)+1) ((((((hrd.1.trans a1).trans a2).trans b1).trans a3).trans b2).trans b3) ?_ (fun _=>?_)
    ·rw[parM]
     try simp only
     rw[if_neg h1,if_neg h2,if_neg h3,if_pos h4,one_mk (c1 _ (Nat.le_max_left _ _)),one_mk (c2 _ (Nat.le_trans (Nat.le_max_left _ _) (Nat.le_max_right _ _))),one_mk (c3 _ (Nat.le_trans (Nat.le_max_right _ _) (Nat.le_max_right _ _)))]
    ·have:=hrd.2;have:=(((((a1.trans a2).trans b1).trans a3).trans b2).trans b3).1;omega
   by_cases h5:isM s l p [114,101,116,117,114,110] = true
   ·have hrd:=le_read he hp (isM_kind h5)
    by_cases h6:(primM s l (readM l p) || isM s l (readM l p) [110,111,116] || isM s l (readM l p) [45])=true
    ·obtain⟨f1,t1,q1,c1,b1⟩:=E 1 (readM l p) hrd.1.2 (by omega) (by omega) (by have:=hrd.2;omega)
     have a3:=le_expect (s:=s) (w:=[59]) he b1.2;refine ans_mk1 (x:=nodeM l (expectM s l q1 [59]) p.k 17 [] [t1]) (f:=f1+1) ((hrd.1.trans b1).trans a3) ?_ (fun _=>?_)
     ·rw[parM]
      try simp only
      rw[if_neg h1,if_neg h2,if_neg h3,if_neg h4,if_pos h5,if_pos h6,one_mk (c1 _ (Nat.le_refl _))]
     ·have:=hrd.2;have:=(b1.trans a3).1;omega
    ·have a3:=le_expect (s:=s) (w:=[59]) he hrd.1.2
     refine ans_mk1 (x:=nodeM l (expectM s l (readM l p) [59]) p.k 17 [] [nodeM l (readM l p) (readM l p).k 0 [] []]) (f:=1) (hrd.1.trans a3) ?_ (fun _=>?_)
     ·rw[parM]
      try simp only
      rw[if_neg h1,if_neg h2,if_neg h3,if_neg h4,if_pos h5,if_neg h6]
     ·have:=hrd.2;have:=a3.1;omega
   by_cases h6:isM s l p [97,115,115,101,114,116] = true
   ·have hrd:=le_read he hp (isM_kind h6)
    obtain⟨f1,t1,q1,c1,b1⟩:=E 1 (readM l p) hrd.1.2 (by omega) (by omega) (by have:=hrd.2;omega);have a3:=le_expect (s:=s) (w:=[59]) he b1.2;refine ans_mk1 (x:=nodeM l (expectM s l q1 [59]) p.k 18 [] [t1]) (f:=f1+1) ((hrd.1.trans b1).trans a3) ?_ (fun _=>?_)
    ·rw[parM]
     try simp only
     rw[if_neg h1,if_neg h2,if_neg h3,if_neg h4,if_neg h5,if_pos h6,one_mk (c1 _ (Nat.le_refl _))]
    ·have:=hrd.2;have:=(b1.trans a3).1;omega
   by_cases h7:(decide (kindM l p=0) && decide (behindM s l p = [40]))=true
   ·have h7':=h7
    simp at h7';have hrd:=le_read he hp (by rw[h7'.1];decide);have hk2:=behind_kind hend h7'.2;obtain⟨f,x,q,h8,h9⟩:=ans_many (ih .args (readM l p) hrd.1.2 hk2 (by simp only[rank];have:=hrd.2;omega));have a3:=le_expect (s:=s) (w:=[59]) he h9.2;refine ans_mk1 (x:=nodeM l (expectM s l q [59]) p.k 19 (wordM s l p.k) x) (f:=f+1) ((hrd.1.trans h9).trans a3) ?_ (fun _=>?_)
    ·rw[parM]
     try simp only
     rw[if_neg h1,if_neg h2,if_neg h3,if_neg h4,if_neg h5,if_neg h6,if_pos h7,many_mk (h8 f (Nat.le_refl _))]
    ·have:=hrd.2;have:=(h9.trans a3).1;omega
   by_cases h8:kindM l p=0
   ·obtain⟨f1,t1,q1,c1,b1,hpl⟩:=ans_one (ih .place p hp trivial (by simp only[rank];omega)) rfl
    have hlt:p.k < q1.k:=hpl h8;have a1:=le_expect (s:=s) (w:=[61]) he b1.2;obtain⟨f2,t2,q2,c2,b2⟩:=E 1 (expectM s l q1 [61]) a1.2 (by omega) (by omega) (by have:=a1.1;omega);have a3:=le_expect (s:=s) (w:=[59]) he b2.2;refine ans_mk1 (x:=nodeM l (expectM s l q2 [59]) p.k 13 [] [t1,t2]) (f:=max f1 f2+1) (((b1.trans a1).trans b2).trans a3) ?_ (fun _=>?_)
    ·rw[parM]
     try simp only
     rw[if_neg h1,if_neg h2,if_neg h3,if_neg h4,if_neg h5,if_neg h6,if_neg h7,if_pos h8,one_mk (c1 _ (Nat.le_max_left _ _)),one_mk (c2 _ (Nat.le_max_right _ _))]
    ·have:=((a1.trans b2).trans a3).1;omega
   ·obtain⟨f,x,q,c1,c2,c3⟩:=skipped_ex (s:=s) he hp
    refine ans_mk1 (x:=x) (f:=f+1) c2 ?_ c3;rw[parM]
    try simp only
    rw[if_neg h1,if_neg h2,if_neg h3,if_neg h4,if_neg h5,if_neg h6,if_neg h7,if_neg h8,c1]
  | block =>
   simp only[rank]at hn
   by_cases h1:isM s l p [123] = true
   ·have hrd:=le_read he hp (isM_kind h1)
    obtain⟨f2,x2,q2,h8,h9⟩:=ans_many (ih (.blockL []) (readM l p) hrd.1.2 trivial (by simp only[rank];have:=hrd.2;omega));refine ans_mk1 (x:=nodeM l (expectM s l q2 [125]) p.k 11 [] x2) (f:=f2+1) ((hrd.1.trans h9).trans (le_expect (s:=s) (w:=[125]) he h9.2)) ?_ (by trivial);rw[parM,if_pos h1,many_mk (h8 _ (Nat.le_refl _))]
   ·refine ans_mk1 (x:=nodeM l (repM l p 4 [123]) p.k 11 [] []) (f:=1) (le_rep (c:=4) (t:=[123]) hp) ?_ (by trivial)
    rw[parM,if_neg h1]
  | blockL kids =>
   simp only[rank]at hn
   by_cases h1:stopsM s l p=true
   ·refine ans_mkm (x:=kids) (f:=1) (le_refl hp) ?_ rfl (by trivial)
    rw[parM,if_pos h1]
   ·have h1':stopsM s l p=false:=by simpa using h1
    obtain⟨f,t,q,h6,h7,h8⟩:=ans_one (ih .stmt p hp trivial (by simp only[rank];omega)) rfl;have hlt:p.k < q.k:=h8 h1';obtain⟨f2,x2,q2,h9,h10⟩:=ans_many (ih (.blockL (kids ++ [t])) q h7.2 trivial (by simp only[rank];omega));refine ans_mkm (x:=x2) (f:=max f f2+1) (h7.trans h10) ?_ rfl (by trivial);rw[parM,if_neg h1,one_mk (h6 _ (Nat.le_max_left _ _))];exact h9 _ (Nat.le_max_right _ _)
  | branch =>
   have hk:kindM l p≠5:=hr;simp only[rank]at hn;have hrd:=le_read he hp hk;obtain⟨f1,t1,q1,a1,b1⟩:=E 1 (readM l p) hrd.1.2 (by omega) (by omega) (by have:=hrd.2;omega);obtain⟨f2,t2,q2,a2,b2⟩:=B q1 b1.2 (by have:=hrd.2;have:=b1.1;omega)
   have hq2:p.k < q2.k:=by have:=hrd.2;have:=b1.1;have:=b2.1;omega
   have hle:=(hrd.1.trans b1).trans b2
   by_cases h1:isM s l q2 [101,108,115,101] = true
   ·have hr2:=le_read he b2.2 (isM_kind h1)
    by_cases h2:isM s l (readM l q2) [105,102] = true
    ·obtain⟨f3,t3,q3,a3,b3,c3⟩:=ans_one (ih .branch (readM l q2) hr2.1.2 (isM_kind h2) (by simp only[rank];have:=hr2.2;omega)) rfl
     refine ans_mk1 (x:=nodeM l q3 p.k 14 [] [t1,t2,t3]) (f:=max f1 (max f2 f3)+1) ((hle.trans hr2.1).trans b3) ?_ ?_
     ·rw[parM,one_mk (a1 _ (Nat.le_max_left _ _)),one_mk (a2 _ (Nat.le_trans (Nat.le_max_left _ _) (Nat.le_max_right _ _))),if_pos h1,if_pos h2,one_mk (a3 _ (Nat.le_trans (Nat.le_max_right _ _) (Nat.le_max_right _ _)))]
     ·have:=b3.1;have:=hr2.2;show p.k < q3.k;omega
    ·obtain⟨f3,t3,q3,a3,b3⟩:=B (readM l q2) hr2.1.2 (by have:=hr2.2;omega)
     refine ans_mk1 (x:=nodeM l q3 p.k 14 [] [t1,t2,t3]) (f:=max f1 (max f2 f3)+1) ((hle.trans hr2.1).trans b3) ?_ ?_
     ·rw[parM,one_mk (a1 _ (Nat.le_max_left _ _)),one_mk (a2 _ (Nat.le_trans (Nat.le_max_left _ _) (Nat.le_max_right _ _))),if_pos h1,if_neg h2,one_mk (a3 _ (Nat.le_trans (Nat.le_max_right _ _) (Nat.le_max_right _ _)))]
     ·have:=b3.1;have:=hr2.2;show p.k < q3.k;omega
   ·refine ans_mk1 (x:=nodeM l q2 p.k 14 [] [t1,t2,nodeM l q2 q2.k 0 [] []]) (f:=max f1 f2+1) (hle) ?_ hq2
    rw[parM,one_mk (a1 _ (Nat.le_max_left _ _)),one_mk (a2 _ (Nat.le_max_right _ _)),if_neg h1]
end
end Go.Proofs.YtoepemlnlpamlaaGreat
namespace Go.Proofs.YtoepemlnlpamlaaGreat
set_option maxRecDepth 100000
set_option maxHeartbeats 4000000
open Go.RowKit
def tokCells (t:Tok):List Value:=[.int .i64 (t.kind:Int),.int .i64 (t.from_:Int),.int .i64 (t.at_:Int),.int .i64 (t.end_:Int)]
def dgCells (d:Dg):List Value:=[.int .i64 d.code,.int .i64 d.at_,.int .i64 d.end_,.string d.text,.slice none 0 0]
def GoodPS (l:List Tok) (p:PS):Prop:=(p.ds.Pairwise fun a b=>a.at_ < b.at_)∧∀ d ∈ p.ds,0≤d.at_∧d.at_≤((tkM l p.k).at_:Int)
theorem pair_len:∀ (ds:List Dg) (lo hi:Int),lo≤hi+1→(ds.Pairwise fun a b=>a.at_ < b.at_)→(∀ d ∈ ds,lo≤d.at_∧d.at_≤hi)→(ds.length:Int)≤hi - lo+1
 | [],lo,hi,h0,_,_=>by simp;omega
 | d :: ds,lo,hi,_,hp,hb=>by
  rw[List.pairwise_cons]at hp;have hd:=hb d (by simp);have:=pair_len ds (d.at_+1) hi (by omega) hp.2 (fun x hx=>⟨by have:=hp.1 x hx;omega,(hb x (by simp[hx])).2⟩);simp only[List.length_cons];omega
theorem GoodPS.len {l:List Tok} {p:PS} (h:GoodPS l p) {m:Nat} (hm:(tkM l p.k).at_≤m):p.ds.length≤m+1:=by
 have:=pair_len p.ds 0 (m:Int) (by omega) h.1 (fun d hd=>⟨(h.2 d hd).1,by have:=(h.2 d hd).2;omega⟩);omega
theorem GoodPS.rep {l:List Tok} {p:PS} (h:GoodPS l p) (c:Int) (t:Bytes):GoodPS l (repM l p c t):=by
 have push:(∀ d ∈ p.ds,d.at_ < ((tkM l p.k).at_:Int))→GoodPS l { p with ds:=p.ds ++ [⟨c,(tkM l p.k).at_,(tkM l p.k).end_,mkS t⟩] }:=fun hlt=>by
  refine⟨?_,fun d hd=>?_⟩
  ·rw[List.pairwise_append]
   exact⟨h.1,List.pairwise_singleton _ _,fun a ha b hb=>by simp at hb;subst hb;exact hlt a ha⟩
  ·simp only[List.mem_append,List.mem_singleton]at hd
   rcases hd with hd | rfl
   ·exact h.2 d hd
   ·exact⟨by simp only;omega,by simp only;omega⟩
 unfold repM;split
 ·rename_i d hd
  split
  ·exact h
  ·rename_i hne
   refine push fun x hx=>?_
   have hdm:=List.mem_of_getLast? hd
   have hle:x.at_≤d.at_:=by
    rw[List.getLast?_eq_some_iff]at hd;obtain⟨ys,hys⟩:=hd;have hp:=h.1;rw[hys]at hp hx;rw[List.pairwise_append]at hp;simp only[List.mem_append,List.mem_singleton]at hx
    rcases hx with hx | rfl
    ·have:=hp.2.2 x hx d (by simp);omega
    ·omega
   have:=(h.2 d hdm).2;omega
 ·rename_i hn
  refine push fun x hx=>?_
  rw[List.getLast?_eq_none_iff]at hn;rw[hn]at hx
  cases hx
theorem GoodPS.read {l:List Tok} {p:PS} (h:GoodPS l p) (hm:(tkM l p.k).at_≤(tkM l (p.k+1)).at_):GoodPS l (readM l p) :=
 ⟨h.1,fun d hd=>⟨(h.2 d hd).1,by have:=(h.2 d hd).2;show d.at_≤((tkM l (p.k+1)).at_:Int);omega⟩⟩
structure PE where
 gp:Nat
 lo:Nat
 s:ByteArray
 l:List Tok
 A:Option Addr
 n:Nat
 c:Nat
def PE.bs (E:PE):Bytes:=E.s.data.toList
structure PE.Ok (E:PE):Prop where
 len:E.l.length=E.n
 most:E.n≤5000
 size:E.s.size≤4096
 tok:∀ t ∈ E.l,t.from_≤t.at_∧t.at_≤t.end_∧t.end_≤E.s.size∧t.kind≤5
 ends:Ends E.l
 empty:EndsEmpty E.bs E.l
 mono:∀ k,k+1 < E.l.length→(tkM E.l k).at_≤(tkM E.l (k+1)).at_
 low:E.lo≤E.gp
structure PV where
 st:PS
 lv:Value
structure PW (w:World) (E:PE) (v:PV):Prop where
 blk:Blk w E.gp 130 #[.string E.s,.slice E.A E.n E.c,.int .i64 (v.st.k:Int),.int .i64 (v.st.last:Int),v.lv]
 own:OwnS w E.lo 78 5 v.lv v.st.ds.length (v.st.ds.flatMap dgCells)
 toks:OwnS w E.lo 186 4 (.slice E.A E.n E.c) E.n (E.l.flatMap tokCells)
 at_:v.st.k < E.n
 good:GoodPS E.l v.st
 last:v.st.last≤4096
structure PM (E:PE) (w:World) (v:PV) (w':World) (v':PV):Prop where
 since:Since (fun g=>g=E.gp∨v.lv.ownBlock=some g) w w'
 fresh:v'.lv.ownBlock=v.lv.ownBlock∨∀ g,v'.lv.ownBlock=some g→w.heap.size≤g
theorem PM.trans {E:PE} {w w1 w2:World} {v v1 v2:PV} (h:PM E w v w1 v1) (k:PM E w1 v1 w2 v2):PM E w v w2 v2:=by
 refine⟨h.since.step k.since (fun g hg=>?_),?_⟩
 ·rcases hg with hg | hg
  ·exact .inl (.inl hg)
  ·rcases h.fresh with h1 | h1
   ·exact .inl (.inr (h1 ▸ hg))
   ·exact .inr (h1 g hg)
 ·rcases k.fresh with h1 | h1
  ·rw[h1]
   exact h.fresh
  ·exact .inr fun g hg=>Nat.le_trans h.since.size (h1 g hg)
theorem PM.of_below {E:PE} {w w':World} {v:PV} (hb:Below w.heap.size w w'):PM E w v w' v:=⟨(Since.refl _ w).below hb,.inl rfl⟩
theorem PW.below {w w':World} {E:PE} {v:PV} (h:PW w E v) (hb:Below w.heap.size w w'):PW w' E v :=
 ⟨h.blk.below hb h.blk.lt,h.own.below hb (fun g hg=>(h.own.lt g hg).2),h.toks.below hb (fun g hg=>(h.toks.lt g hg).2),h.at_,h.good,h.last⟩
theorem PM.keepsN {P:Nat→Prop} {E:PE} {w w':World} {v v':PV} (hm:PM E w v w' v') (h:PW w E v):KeepsN P w w':=fun g cs _ hc=>by
 refine hm.since.block g (Array.getElem?_eq_some_iff.1 hc).1 ?_;rintro(rfl | hg)
 ·have:=h.blk
  unfold Blk at this;rw[hc]at this;simp at this
 ·obtain⟨cs',hc'⟩:=h.own.typed hg
  rw[hc]at hc';simp at hc'
theorem PM.below {E:PE} {w w':World} {v v':PV} (hm:PM E w v w' v') (h:PW w E v) {B:Nat} (hB:B≤E.lo) (hlo:E.lo≤E.gp):Below B w w' :=
 hm.since.toBelow (by have:=h.blk.lt;omega) (fun g hg=>by
  rcases hg with rfl | hg
  ·omega
  ·have:=(h.own.lt g hg).1;omega)
theorem PW.tok {w:World} {E:PE} {v:PV} (h:PW w E v) (hE:E.Ok) {k:Nat} (hk:k < E.n):∃ b off,E.A=some ⟨b,off,none⟩∧b < w.heap.size ∧
 w.cell? ⟨b,off+k * 4,none⟩=some (.int .i64 ((tkM E.l k).kind:Int))∧w.cell? ⟨b,off+k * 4+1,none⟩=some (.int .i64 ((tkM E.l k).from_:Int)) ∧
 w.cell? ⟨b,off+k * 4+2,none⟩=some (.int .i64 ((tkM E.l k).at_:Int))∧w.cell? ⟨b,off+k * 4+3,none⟩=some (.int .i64 ((tkM E.l k).end_:Int)):=by
 have hr:=h.toks.rowAt (cells:=tokCells) (l:=E.l) rfl rfl (by intro c _;rfl) hE.len
 have hkl:k < E.l.length:=by rw[hE.len];exact hk
 have hg:E.l[k]? = some (tkM E.l k):=by
  unfold tkM;rw[List.getD_eq_getElem?_getD,List.getElem?_eq_getElem hkl];rfl
 obtain⟨b,off,hA,hb,hc⟩:=hr k _ hg;exact⟨b,off,hA,hb,hc 0 _ rfl,hc 1 _ rfl,hc 2 _ rfl,hc 3 _ rfl⟩
theorem PE.Ok.get {E:PE} (hE:E.Ok) (k:Nat):(tkM E.l k).at_≤(tkM E.l k).end_∧(tkM E.l k).end_≤E.s.size∧(tkM E.l k).kind≤5:=by
 unfold tkM;rw[List.getD_eq_getElem?_getD]
 cases hk:E.l[k]? with
 | none=>simp[tokD]
 | some t =>
  have:=hE.tok t (List.mem_of_getElem? hk);exact⟨this.2.1,this.2.2.1,this.2.2.2⟩
end Go.Proofs.YtoepemlnlpamlaaGreat
namespace Go.Proofs.YtoepemlnlpamlaaGreat
set_option maxRecDepth 100000
set_option maxHeartbeats 4000000
open Go.RowKit
theorem tok_info:(Tryz.prog.info? 186).map (fun i=>(i.zero,i.size,i.bytes))=some (some (.agg #[.int .i64 0,.int .i64 0,.int .i64 0,.int .i64 0]),4,32):=by kernel_rfl
theorem news_four (w:World) (g:Nat) (a b c d:Value) (h0:w.cell? ⟨g,0,none⟩=some a) (h1:w.cell? ⟨g,1,none⟩=some b) (h2:w.cell? ⟨g,2,none⟩=some c) (h3:w.cell? ⟨g,3,none⟩=some d) :
 ∀ j v,[a,b,c,d][j]? = some v→w.cell? ((⟨g,0,none⟩:Addr).add j)=some v:=by
 intro j v hj
 match j,hj with
 | 0,hj=>simp at hj;subst hj;exact h0
 | 1,hj=>simp at hj;subst hj;exact h1
 | 2,hj=>simp at hj;subst hj;exact h2
 | 3,hj=>simp at hj;subst hj;exact h3
 | j+4,hj=>simp at hj
def ScanRes (w:World) (l:List Tok) (e:Ending) (w':World):Prop :=
 ∃ v,e = .returned (.tuple #[v,.int .i64 0])∧OwnS w' w.heap.size 186 4 v l.length (l.flatMap tokCells)∧Below w.heap.size w w'
theorem Scan_any (s:ByteArray) (w:World) (hs:s.size≤4096):Calls Tryz.prog 123 #[.string s] w (ScanRes w (scanAll s.data.toList)):=by
 obtain⟨i0,hi0,hz0,hz1,hz2⟩:=info_parts tok_info
 have hgt:¬ (4096:Int) < s.size:=by omega
 go_enter Tryz.func123,Tryz.ntmps123
 go_wp2_with fail
 go_loopg [4,5] (s.size) (fun gk s4 s5 wr => ∃ (f k:Nat) (pre:List Tok),k+gk=s.size∧s5 = .int .i64 k∧scanAll s.data.toList=pre ++ scanM s.data.toList f k∧s.size < f+k∧OwnS wr w.heap.size 186 4 s4 pre.length (pre.flatMap tokCells)∧pre.length≤k∧Below w.heap.size w wr)
 case atStart=>exact⟨s.size+1,0,[],by omega,rfl,by rw[scanAll,len_size];rfl,by omega,OwnS.block (n:=0) (cur:=#[]) (Nat.le_refl _) (Blk.new w 186 #[]) (by simp[maxLen]) rfl,Nat.le_refl _,by (repeat (first | exact Below.refl _ _ | assumption | refine Below.trans ?_ (Below.mono (by assumption) (by first | omega | (simp;done) | (simp;omega))) | refine Below.alloc ?_ (by first | omega | (simp;done) | (simp;omega)) _ | refine Below.setCell ?_ (by first | omega | (simp;done) | (simp;omega)) _ | refine Below.drew ?_ | refine below_drewN ?_ _))⟩
 case round =>
  obtain⟨f,k,pre,hk,rfl,hsc,hf,hO,hpl,hB⟩:=hrel
  have hk':k≤s.size:=by omega
  obtain⟨f,rfl⟩:∃ g,f=g+1:=⟨f - 1,by omega⟩
  obtain⟨k1,hk1⟩:∃ x,skipM s.data.toList (s.size+1) k=x:=⟨_,rfl⟩
  have hspec:=skipM_spec (s:=s.data.toList) (s.size+1) k (by rw[len_size];exact hk') (by rw[len_size];omega);rw[hk1,len_size]at hspec;obtain⟨hle,hle2,hstop⟩:=hspec
  have hskip:∀ w:World,Calls Tryz.prog 179 #[.string s,.int .i64 (k:Int)] w fun e w'=>e = .returned (.int .i64 (k1:Int))∧w=w':=fun w=>by rw[← hk1];exact skip_any s k w hk' hs
  have hstep:scanM s.data.toList (f+1) k=if s.size≤k1 then [⟨5,k,k1,k1⟩] else ⟨(tokenM s.data.toList k1).1,k,k1,(tokenM s.data.toList k1).2⟩ :: scanM s.data.toList f (tokenM s.data.toList k1).2:=by
   rw[scanM,len_size,hk1]
  have HK:=kH hk;have HSC:=kH hsc;have HO:=kH hO;have HSKIP:=kH hskip;have HSTEP:=kH hstep;have HSTOP:=kH hstop
  obtain⟨n,hn⟩:∃ x,pre.length=x:=⟨_,rfl⟩
  obtain⟨A4,c4,hv4,-,-⟩:=hO.shape;subst hv4;rw[hn]at HO hpl ⊢;have HN:=kH hn;clear hk hsc hO hskip hstep hstop hk1 hn;have hbs:=hB.size
  by_cases hlt:k1 < s.size
  ·have hne:((k1:Int) == s.size)=false:=by simp;omega
   have ht:=tokenM_spec (s:=s.data.toList) (a:=k1) (by rw[len_size];exact hlt) (HSTOP.out hlt).1 (HSTOP.out hlt).2;rw[len_size]at ht
   have hst:scanM s.data.toList (f+1) k=⟨(tokenM s.data.toList k1).1,k,k1,(tokenM s.data.toList k1).2⟩ :: scanM s.data.toList f (tokenM s.data.toList k1).2:=by rw[HSTEP.out,if_neg (by omega)]
   have htk:=fun w=>token_any s k1 w hlt hs
   obtain⟨⟨tk,te⟩,htt⟩:∃ x,tokenM s.data.toList k1=x:=⟨_,rfl⟩
   rw[htt]at ht hst;simp only[htt]at htk;simp only at ht hst;obtain⟨ht1,ht2,ht3⟩:=ht;have HST:=kH hst;have HTK:=kH htk;clear hst htk htt
   go_wp2_with fail
   refine(HSKIP.out _).mono ?_;rintro e w' ⟨rfl,rfl⟩
   go_wp2_with fail
   refine(HTK.out _).mono ?_;rintro e w2 ⟨rfl,hb2⟩;have hz2':=hb2.size;have hown2:=HO.out.below hb2 (fun g hg=>(HO.out.lt g hg).2);have HO2:=kH hown2;clear hown2
   go_wp2_with (at_builtin;go_must (refine wpList_append_S _ rfl (.tmp 33) (.tmp 39) _ rfl w.heap.size 186 i0 _ 4 32 Tryz.underlying128 hi0 hz0 hz1 hz2 rfl (.slice A4 n c4) n (pre.flatMap tokCells) rfl (HO2.out.alloc _) ⟨w2.heap.size,0,none⟩ 1 1 (tokCells ⟨tk,k,k1,te⟩) rfl rfl (news_four _ _ _ _ _ _ (by go_simp) (by go_simp) (by go_simp) (by go_simp)) (by simp[tokCells,Value.oneCell']) (by simp only[maxLen];omega) (by omega) (by simp;omega) ?_);intro v5 w5 hown5 hgrow5 hat5)
   have hlt5:=fun g hg=>(HO2.out.lt g hg).1
   go_roundg (s.size - te)
   case measure=>have:=HK.out;omega
   case rel =>
    refine⟨f,te,pre ++ [⟨tk,k,k1,te⟩],by omega,rfl,?_,by omega,?_,by simp[HN.out];omega,?_⟩
    ·rw[HSC.out,HST.out,List.append_assoc]
     rfl
    ·rw[List.length_append,HN.out,List.flatMap_append]
     simpa using hown5
    ·exact hB.trans ((((Since.refl (fun g=>w.heap.size≤g) wr).below hb2).alloc (.cells #[.int .i64 (tk:Int),.int .i64 (k:Int),.int .i64 (k1:Int),.int .i64 (te:Int)] 186) |>.grown hgrow5 (fun g hg=>.inl (hlt5 g hg))).toBelow hbs (fun g h=>h))
  ·have hke:k1=s.size:=by omega
   have hst:scanAll s.data.toList=pre ++ [⟨5,k,s.size,s.size⟩]:=by rw[HSC.out,HSTEP.out,if_pos (by omega),hke]
   have HST:=kH hst;clear hst;subst hke
   have heq:((s.size:Int) == s.size)=true:=by simp
   go_wp2_with fail
   refine(HSKIP.out _).mono ?_;rintro e w' ⟨rfl,rfl⟩
   go_wp2_with (at_builtin;go_must (refine wpList_append_S _ rfl (.tmp 20) (.tmp 25) _ rfl w.heap.size 186 i0 _ 4 32 Tryz.underlying128 hi0 hz0 hz1 hz2 rfl (.slice A4 n c4) n (pre.flatMap tokCells) rfl (HO.out.alloc _) ⟨wr.heap.size,0,none⟩ 1 1 (tokCells ⟨5,k,s.size,s.size⟩) rfl rfl (news_four _ _ _ _ _ _ (by go_simp) (by go_simp) (by go_simp) (by go_simp)) (by simp[tokCells,Value.oneCell']) (by simp only[maxLen];omega) (by omega) (by simp;omega) ?_);intro v5 w5 hown5 hgrow5 hat5)
   have hlt5:=fun g hg=>(HO.out.lt g hg).1
   go_ret2
   refine⟨v5,rfl,?_,?_⟩
   ·rw[HST.out,List.length_append,HN.out,List.flatMap_append]
    simpa using hown5
   ·exact hB.trans ((((Since.refl (fun g=>w.heap.size≤g) wr).alloc (.cells #[.int .i64 5,.int .i64 (k:Int),.int .i64 (s.size:Int),.int .i64 (s.size:Int)] 186)).grown hgrow5 (fun g hg=>.inl (hlt5 g hg))).toBelow hbs (fun g h=>h))
end Go.Proofs.YtoepemlnlpamlaaGreat
