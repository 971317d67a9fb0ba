import Derived.Test.YtdkfkpbijdimkaaGreatDoorLawPeel
import Derived.Test.YtdkfkpbijdimkaaGreatDoorLawCellO
set_option linter.unusedVariables false
set_option linter.unusedSimpArgs false
set_option linter.unusedSectionVars false
set_option maxRecDepth 20000
set_option maxHeartbeats 1000000
namespace Go.Proofs.YtdkfkpbijdimkaaGreatDoor
open Go Go.Sim
variable [Fu]
theorem lW {S R:Type} {f g:S→Option (Ctl S R)} {P:S→Prop} (h:∀s,P s→f s=g s∧∀s',f s=some (.next s')→P s') {s:S} (hs:P s):Loop.run f s=Loop.run g s:=by
 have key:∀k s,P s→Loop.iter f k s=Loop.iter g k s:=by
  intro k
  induction k with
  |zero=>intro s _;rfl
  |succ k ih=>
   intro s hs
   obtain⟨h1,h2⟩:=h s hs
   rw[Loop.iter,Loop.iter,←h1]
   cases hf:f s with
   |none=>rfl
   |some q=>
    cases q with
    |done r=>rfl
    |next s'=>exact ih s' (h2 s' hf)
 cases e1:Loop.run f s with
 |some r=>
  obtain⟨k,hk⟩:=Loop.iter_of_run e1
  rw[key k s hs] at hk
  exact(Loop.run_of_iter hk).symm
 |none=>
  cases e2:Loop.run g s with
  |none=>rfl
  |some r=>
   obtain⟨k,hk⟩:=Loop.iter_of_run e2
   rw[←key k s hs] at hk
   rw[Loop.run_of_iter hk] at e1;cases e1
theorem iz {p q:List Int} (hp:aA p) (hq:aA q):aA (p++q):=fun b h=>(List.mem_append.1 h).elim (hp b) (hq b)
theorem jk (n:Nat):aA (List.replicate n 0):=fun b h=>by rw[List.eq_of_mem_replicate h];omega
theorem kW (key:List Int) (l:Int) (c:List Int):aA (fu key l c).1.Cell:=by
 have hz:aA jr.Cell:=fun b h=>by cases h
 unfold fu
 cases key.length != 32||aD l==0 with
 |true=>exact hz
 |false=>
  cases (cutS c (aD l)).2 != 0 with
  |true=>exact hz
  |false=>
   show aA (ki key l (cutS c (aD l)).1).1.Cell
   generalize (cutS c (aD l)).1=o
   unfold ki
   cases (o.take 32).drop 16 != tagO (dh key (o.take 16)) l (o.take 16) (o.drop 32) with
   |true=>exact hz
   |false=>
    have hm:=fw (dh key (o.take 16)).Box (List.replicate 16 0) (o.drop 32)
    generalize eK (dh key (o.take 16)).Box (List.replicate 16 0) (o.drop 32)=M at*
    cases badS l M with
    |true=>exact hz
    |false=>
     have hi:aA (innS M):=fun b h=>hm b (List.mem_of_mem_take (List.mem_of_mem_drop h))
     cases hd:decide (l>1) with
     |true=>exact iz hi (jk _)
     |false=>
      refine iz (iz (fun b h=>?_) hi) (jk _)
      simp only[List.mem_cons,List.not_mem_nil,or_false] at h
      rcases h with rfl|rfl
      · omega
      · exact eL _
def BKs:List Int:=[99,104,117,114,110,32,98,97,99,107]
theorem lX {key nonce:List Int} (hk:key.length=32) (hn:nonce.length=16):dk key nonce=some (derS key nonce BKs 32,0):=by
 unfold dk
 have e0:((key.length:Int) != 32)=false:=by rw[hk];rfl
 have e1:decide (0<[99,104,117,114,110,32,98,97,99,107].length)=true:=by decide
 have e2:([99,104,117,114,110,32,98,97,99,107]:List Int)=BKs:=rfl
 rw[e0,e1,cond_false,cond_true,e2,fV (z:=32) (n:=32) rfl (by omega) (by omega) (by omega) (by simp[BKs])]
 simp only[aa]
theorem jL {key nonce:List Int} (hk:key.length=32) (hn:nonce.length=16):bW key nonce=some (derS key nonce BKs 32,0):=by
 unfold bW
 have e0:((key.length:Int) != 32)=false:=by rw[hk];rfl
 have e1:decide (0<[99,104,117,114,110,32,98,97,99,107].length)=true:=by decide
 have e2:([99,104,117,114,110,32,98,97,99,107]:List Int)=BKs:=rfl
 rw[e0,e1,cond_false,cond_true,e2,fW (z:=32) (n:=32) rfl (by omega) (by omega) (by omega) (by simp[BKs])]
 simp only[aa]
theorem mI (ks ns:List (List Int)):cc ks ns=cl ks ns:=by
 unfold cc cl
 rfl
noncomputable def fh (a0 a1 : List (List Int)) : ((List Int) × Int) → Option (Ctl ((List Int) × Int) ((List Int) ⊕ ((List Int) × Int))) := (fun (x94, x95) =>
 bif decide (x95<(a0.length:Int)) then
  (idx a0 x95).bind fun x114=>
  (idx a1 x95).bind fun x116=>
  (dk x114 x116).bind fun y118=>
  bif y118.2 != 0 then
   some (.done (.inr ([],y118.2)))
  else
   (cY y118.1 (IntKind.wrap .i64 ((a0.length:Int) - x95)) x94).bind fun y124=>
   bif y124.2 != 0 then
    some (.done (.inr ([],y124.2)))
   else
    some (.next (y124.1.Cell,IntKind.wrap .i64 (x95+1)))
 else
  some (.done (.inl x94)))
noncomputable def fi (a0 a1 : List (List Int)) : ((List Int) × Int) → Option (Ctl ((List Int) × Int) ((List Int) ⊕ ((List Int) × Int))) := (fun (x93, x94) =>
 bif decide (x94<(a0.length:Int)) then
  (idx a0 x94).bind fun x113=>
  (idx a1 x94).bind fun x115=>
  (bW x113 x115).bind fun y117=>
  (bw y117.1 (IntKind.wrap .i64 ((a0.length:Int) - x94)) x93).bind fun y120=>
  bif y120.2 != 0 then
   some (.done (.inr ([],y120.2)))
  else
   some (.next (y120.1.Cell,IntKind.wrap .i64 (x94+1)))
 else
  some (.done (.inl x93)))
theorem ly {ks ns:List (List Int)} (hk:∀k∈ks,k.length=32) (hn:∀x∈ns,x.length=16) (hl:ns.length=ks.length) {x:List Int} (hx:aA x) {i:Nat} (hi:i<ks.length) (h8:ks.length≤8):
  ∃(q:ab×Int),aA q.1.Cell∧fh ks ns (x,(i:Int))=(bif q.2 != 0 then some (.done (.inr ([],q.2))) else some (.next (q.1.Cell,((i+1:Nat):Int))))∧fi ks ns (x,(i:Int))=fh ks ns (x,(i:Int)):=by
 have hi2:i<ns.length:=by omega
 have h32:=hk _ (List.getElem_mem hi)
 have h16:=hn _ (List.getElem_mem hi2)
 have dl:=fB ks[i] ns[i] BKs 32
 have h1:decide ((i:Int)<(ks.length:Int))=true:=decide_eq_true (by omega)
 have w1:IntKind.wrap .i64 ((i:Int)+1)=((i+1:Nat):Int):=by rw[wrap64 (by omega)];omega
 have o1:fh ks ns (x,(i:Int))=(bif (fu (derS ks[i] ns[i] BKs 32) (IntKind.wrap .i64 ((ks.length:Int) - (i:Int))) x).2 != 0 then some (.done (.inr ([],(fu (derS ks[i] ns[i] BKs 32) (IntKind.wrap .i64 ((ks.length:Int) - (i:Int))) x).2))) else some (.next ((fu (derS ks[i] ns[i] BKs 32) (IntKind.wrap .i64 ((ks.length:Int) - (i:Int))) x).1.Cell,((i+1:Nat):Int)))):=by
  unfold fh
  simp only[h1,cond_true]
  rw[eQ hi,eQ hi2]
  simp only[aa]
  rw[lX h32 h16]
  simp only[aa,bne_self_eq_false,cond_false]
  rw[lf (by rw[dl];omega) hx,w1]
  simp only[aa]
 have o2:fi ks ns (x,(i:Int))=(bif (fu (derS ks[i] ns[i] BKs 32) (IntKind.wrap .i64 ((ks.length:Int) - (i:Int))) x).2 != 0 then some (.done (.inr ([],(fu (derS ks[i] ns[i] BKs 32) (IntKind.wrap .i64 ((ks.length:Int) - (i:Int))) x).2))) else some (.next ((fu (derS ks[i] ns[i] BKs 32) (IntKind.wrap .i64 ((ks.length:Int) - (i:Int))) x).1.Cell,((i+1:Nat):Int)))):=by
  unfold fi
  simp only[h1,cond_true]
  rw[eQ hi,eQ hi2]
  simp only[aa]
  rw[jL h32 h16]
  simp only[aa]
  rw[mT (by rw[dl];omega) hx,w1]
  simp only[aa]
 exact⟨_,kW _ _ _,o1,o2.trans o1.symm⟩
theorem mJ {ks ns:List (List Int)} (hk:∀k∈ks,k.length=32) (hn:∀x∈ns,x.length=16) (hl:ns.length=ks.length) (h8:ks.length≤8) {c:List Int} (hc:aA c):
   ∃r,Loop.run (fh ks ns) (c,0)=some r∧Loop.run (fi ks ns) (c,0)=some r∧(match r with| .inl x=>aA x| .inr p=>p.1=[]):=by
 have hend:∀x:List Int,fh ks ns (x,(ks.length:Int))=some (.done (.inl x))∧fi ks ns (x,(ks.length:Int))=some (.done (.inl x)):=fun x=>by
   have h1:decide ((ks.length:Int)<(ks.length:Int))=false:=decide_eq_false (by omega)
   unfold fh fi
   simp only[h1,cond_false,and_self]
 obtain ⟨r, h1, h2⟩ := jG (S := ((List Int) × Int)) (R := ((List Int) ⊕ ((List Int) × Int))) (step := fh ks ns) (P := fun s => ∃ i : Nat, s.2 = i ∧ i ≤ ks.length ∧ aA s.1) (Q := fun r => match r with | .inl x => aA x | .inr p => p.1 = []) (fun s => ((ks.length : Int) - s.2).toNat) (fun s hs => by
   obtain⟨x,z⟩:=s
   obtain⟨i,hz,hi,hx⟩:=hs
   simp only at hz hx
   subst hz
   by_cases hlt:i<ks.length
   · obtain⟨q,q1,q2,_⟩:=ly hk hn hl hx hlt h8
     rw[q2]
     cases q.2 != 0 with
     |true=>exact .inl ⟨_,rfl,rfl⟩
     |false=>exact .inr ⟨_,rfl,⟨i+1,rfl,by omega,q1⟩,by simp only;omega⟩
   · have:i=ks.length:=by omega
     subst this
     exact .inl ⟨_,(hend x).1,hx⟩) (s:=(c,0)) ⟨0,rfl,by omega,hc⟩
 refine⟨r,h1,?_,h2⟩
 rw[←h1]
 refine lW (P:=fun(s:(List Int)×Int)=>∃i:Nat,s.2=(i:Int)∧i≤ks.length∧aA s.1) (fun s hs=>?_) ⟨0,rfl,by omega,hc⟩
 obtain⟨x,z⟩:=s
 obtain⟨i,hz,hi,hx⟩:=hs
 simp only at hz hx
 subst hz
 by_cases hlt:i<ks.length
 · obtain⟨q,q1,q2,q3⟩:=ly hk hn hl hx hlt h8
   refine⟨q3,fun s' hs'=>?_⟩
   rw[q3,q2] at hs'
   cases hq:q.2 != 0 with
   |true=>rw[hq] at hs';cases hs'
   | false =>
     rw[hq] at hs'
     cases hs'
     exact⟨i+1,rfl,by omega,q1⟩
 · have:i=ks.length:=by omega
   subst this
   refine⟨(hend x).2.trans (hend x).1.symm,fun s' hs'=>?_⟩
   rw[(hend x).2] at hs';cases hs'
theorem mK {ks ns:List (List Int)} (hk:∀k∈ks,k.length=32):cl ks ns=some (bif ((decide ((ks.length:Int)<1))||(decide ((ks.length:Int)>8)))||((ns.length:Int) != (ks.length:Int)) then 80 else 0):=by
 unfold cl
 cases hg:((decide ((ks.length:Int)<1))||(decide ((ks.length:Int)>8)))||((ns.length:Int) != (ks.length:Int)) with
 |true=>rfl
 |false=>
  simp only[Bool.or_eq_false_iff,decide_eq_false_iff_not,bne_eq_false_iff_eq] at hg
  obtain⟨⟨g1,g2⟩,g3⟩:=hg
  rw[cond_false,ao (s0:=0) (r:=Sum.inl ()) (fun i=>(i:Int)) 0 ks.length (Nat.zero_le _) ?_ ?_ rfl]
  · rfl
  · intro i _ hi
    have h1:decide ((i:Int)<(ks.length:Int))=true:=decide_eq_true (by omega)
    have e0:((ks[i].length:Int) != 32)=false:=by rw[hk _ (List.getElem_mem hi)];rfl
    simp only[h1,cond_true]
    rw[eQ hi,wrap64 (by omega)]
    simp only[aa,e0,cond_false]
    rfl
  · have h1:decide ((ks.length:Int)<(ks.length:Int))=false:=decide_eq_false (by omega)
    simp only[h1,cond_false]
theorem lY {ks ns:List (List Int)} (hk:∀k∈ks,k.length=32) (hn:∀x∈ns,x.length=16) {c:List Int} (hc:aA c):
  ∃r,cZ ks ns c=some r∧bI ks ns c=some r∧aA r.1:=by
 unfold cZ bI
 rw[mI,mK hk]
 cases hg:((decide ((ks.length:Int)<1))||(decide ((ks.length:Int)>8)))||((ns.length:Int) != (ks.length:Int)) with
 |true=>exact⟨([],80),rfl,rfl,fun b h=>by cases h⟩
 |false=>
  simp only[Bool.or_eq_false_iff,decide_eq_false_iff_not,bne_eq_false_iff_eq] at hg
  obtain⟨⟨g1,g2⟩,g3⟩:=hg
  obtain⟨r,h1,h2,h3⟩:=mJ hk hn (by omega) (by omega) hc
  show∃r,(((Loop.run (fh ks ns) (c,0)).bind _).bind _)=some r∧(((Loop.run (fi ks ns) (c,0)).bind _).bind _)=some r∧_
  rw[h1,h2]
  cases r with
  |inr p=>
   have h3:p.1=[]:=h3
   exact⟨p,rfl,rfl,by rw[h3];exact fun b h=>by cases h⟩
  |inl x=>
   have h3:aA x:=h3
   refine⟨((gS x).1,(gS x).2.2),?_,?_,?_⟩
   · show(dn x).bind _=_
     rw[lS h3];rfl
   · show(bz x).bind _=_
     rw[my h3];rfl
   · show aA (gS x).1
     have hz:aA ([]:List Int):=fun b h=>by cases h
     unfold gS
     cases x.length != 320 with
     |true=>exact hz
     |false=>
      cases x.getD 0 0==0 with
      |true=>exact hz
      |false=>
       cases x.getD 0 0==1 with
       |false=>exact hz
       |true=>
        cases decide (x.getD 1 0>48) with
        |true=>exact hz
        |false=>
         cases nz (x.drop (2+(x.getD 1 0).toNat)) with
         |true=>exact hz
         |false=>exact fun b h=>h3 b (List.mem_of_mem_take (List.mem_of_mem_drop h))
theorem kc {p:List Int} (hb:aA p):∃r,db p=some r∧bT p=some r:=by
 unfold db bT
 cases hg:(decide ((p.length:Int)<1))||(decide ((p.length:Int)>41)) with
 |true=>exact⟨_,rfl,rfl⟩
 |false=>
  simp only[Bool.or_eq_false_iff,decide_eq_false_iff_not] at hg
  obtain⟨g1,g2⟩:=hg
  have hroom:room=17179869184:=rfl
  have i0:idx p 0=some (p.getD 0 0):=ai (z:=0) (i:=0) rfl (by omega)
  have b0:=aX hb 0
  rw[i0,cK (l:=1) (i:=1) (j:=p.length) rfl rfl (by omega) (Nat.le_refl _)]
  simp only[aa,cond_false]
  rw[wrap64 (x:=p.getD 0 0) (by omega)]
  cases h3:decide (p.getD 0 0>3) with
  |true=>exact⟨_,rfl,rfl⟩
  |false=>
   simp only[Bool.false_or,cond_false]
   cases h4:(p.getD 0 0 != 1)&&(decide ((p.length:Int)>1)) with
   |true=>exact⟨_,rfl,rfl⟩
   |false=>
    simp only[cond_false]
    rw[aV (by rw[hroom];simp;omega)]
    exact⟨_,rfl,rfl⟩
noncomputable def jM (a0 : List (List Int)) (a1 : Int) : ((List (List Int)) × Int) → Option (Ctl ((List (List Int)) × Int) ((List (List Int)) ⊕ (Int × (List Int) × Int))) := (fun (x73, x74) =>
 bif decide (x74<(a0.length:Int)) then
  (idx a0 x74).bind fun x88=>
  (cJ x88 a1).bind fun y90=>
  bif y90.2 != 0 then
   some (.done (.inr (0,[],y90.2)))
  else
   (app x73 [y90.1]).bind fun z95=>
   some (.next (z95,IntKind.wrap .i64 (x74+1)))
 else
  some (.done (.inl x73)))
theorem oe {ms:List (List Int)} {e:Int} (hl:ms.length<2^30):∃r,Loop.run (jM ms e) ([],0)=some r∧(match r with| .inl ks=>∀k∈ks,k.length=32| .inr _=>True):=by
 refine jG (S := ((List (List Int)) × Int)) (R := ((List (List Int)) ⊕ (Int × (List Int) × Int))) (step := jM ms e) (P := fun s => ∃ i : Nat, s.2 = i ∧ i ≤ ms.length ∧ s.1.length ≤ i ∧ ∀ k ∈ s.1, k.length = 32) (Q := fun r => match r with | .inl ks => ∀ k ∈ ks, k.length = 32 | .inr _ => True) (fun s => ((ms.length : Int) - s.2).toNat) (fun s hs => ?_) ⟨0, rfl, by omega, by simp, fun k hk => by cases hk⟩
 obtain⟨x,z⟩:=s
 obtain⟨i,hz,hi,hx,hall⟩:=hs
 simp only at hz hx hall
 subst hz
 unfold jM
 simp only
 by_cases hlt:i<ms.length
 · have h1:decide ((i:Int)<(ms.length:Int))=true:=decide_eq_true (by omega)
   rw[h1,cond_true,eQ hlt]
   simp only[aa,js]
   cases hk:(keyS ms[i] e).2 != 0 with
   |true=>exact .inl ⟨_,rfl,trivial⟩
   |false=>
    have hroom:room=17179869184:=rfl
    have hkl:=mU (key:=ms[i]) (e:=e) (by simpa using hk)
    rw[cond_false,aV (by rw[hroom];simp;omega),wrap64 (by omega)]
    simp only[aa]
    refine .inr ⟨_,rfl,⟨i+1,by simp only;omega,by omega,by simp;omega,fun k hk'=>?_⟩,by simp only;omega⟩
    rcases List.mem_append.1 hk' with h|h
    · exact hall k h
    · rw[List.mem_singleton.1 h];exact hkl
 · have h1:decide ((i:Int)<(ms.length:Int))=false:=decide_eq_false (by omega)
   rw[h1,cond_false]
   exact .inl ⟨_,rfl,hall⟩
theorem og {α:Type} (f:α→Nat) (h:∀x,1≤f x) (xs:List α):xs.length≤(xs.map f).sum:=by
 induction xs with
 |nil=>simp
 |cons x xs ih=>have:=h x;simp;omega
theorem lZ {ms ns:List (List Int)} {e:Int} {c:List Int} (hl:ms.length<2^30) (hn:∀x∈ns,x.length=16) (hc:aA c):∃r,dp ms e ns c=some r∧ck ms e ns c=some r:=by
 unfold dp ck
 simp only[nK]
 have hk:∀k,cJ k e=some (keyS k e):=fun k=>js
 obtain⟨r,h1,h2⟩:=oe (ms:=ms) (e:=e) hl
 have h1':=h1
 unfold jM at h1'
 simp only[hk] at h1'⊢
 rw[h1']
 cases r with
 |inr z=>exact⟨_,rfl,rfl⟩
 |inl ks=>
  have h2:∀k∈ks,k.length=32:=h2
  obtain⟨q,q1,q2,q3⟩:=lY h2 hn hc
  show∃r,((cZ ks ns c).bind _)=some r∧((bI ks ns c).bind _)=some r
  rw[q1,q2]
  simp only[aa]
  cases q.2 != 0 with
  |true=>exact⟨_,rfl,rfl⟩
  |false=>
   obtain⟨w,w1,w2⟩:=kc q3
   simp only[cond_false]
   rw[w1,w2]
   exact⟨_,rfl,rfl⟩
theorem l5 (aw:cb=some true) (c:az) (cell:List Int) (gc:c9 c) (gl:(gSl (gInt .u8)) cell) (hb:bK c+(bSl bOne) cell≤1048576):bb c cell=some true:=by
 obtain⟨gM,gE,gN,gK,gP,_⟩:=gc
 unfold bK at hb
 have hl:c.Masters.length<2^30:=by
  have:=og (bSl (bOne (α:=Int))) (fun x=>by unfold bSl;omega) c.Masters
  have h2:(bSl (bSl bOne)) c.Masters=(c.Masters.map (bSl bOne)).sum+1:=rfl
  omega
 have hn:∀x∈c.Nonces,x.length=16:=fun x hx=>(gN.1 x hx).2
 obtain⟨r,r1,r2⟩:=lZ (ms:=c.Masters) (ns:=c.Nonces) (e:=c.Epoch) (c:=cell) hl hn (fun b h=>gl.1 b h)
 unfold bb
 rw[aw,r1,r2]
 simp only[aa,Bool.not_true,cond_false,beq_self_eq_true,Bool.and_self]
end Go.Proofs.YtdkfkpbijdimkaaGreatDoor
