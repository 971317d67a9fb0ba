import Derived.Test.YtobbmodjdkcdcaaGreatDoorLawDraw
set_option linter.unusedVariables false
set_option linter.unusedSimpArgs false
set_option maxRecDepth 20000
namespace Go.Proofs.YtobbmodjdkcdcaaGreatDoor
open Go Go.Sim
set_option linter.unusedSectionVars false
variable [Fu]
def lM (n:Int):List Int:=(List.range (n.toNat - 1)).map fun i:Nat=>n - (i:Int)
theorem qp (n:Int):(lM n).length=n.toNat - 1:=by simp[lM]
theorem xv {n:Int} (h0:0≤n) (h1:n≤256):ij n=some (lM n):=by
 unfold ij
 rw[aV (s0:=([],n)) (r:=lM n) (fun i=>((List.range i).map fun k:Nat=>n - (k:Int),n - (i:Int))) 0 (n.toNat - 1) (Nat.zero_le _) ?_ ?_ ?_]
 · rfl
 · intro i _ hi
   have hd:decide (n - (i:Int)≥2)=true:=decide_eq_true (by omega)
   simp only[hd,cond_true]
   rw[bj (by rw[dT];simp;omega),eb (fun k:Nat=>n - (k:Int)),wrap64 (by omega)]
   simp only[ae]
   congr 3;omega
 · have hd:decide (n - ((n.toNat - 1:Nat):Int)≥2)=false:=decide_eq_false (by omega)
   simp only[hd,cond_false,lM]
 · simp
def idP (n:Nat):List Int:=(List.range n).map fun i:Nat=>(i:Int)
theorem uc {n:Nat} (h1:n≤256):eO (n:Int)=some (idP n):=by
 unfold eO
 have hm:max (n:Int) 0=n:=by omega
 rw[hm]
 rw[aV (s0:=([],0)) (r:=idP n) (fun i=>((List.range i).map fun k:Nat=>(k:Int),(i:Int))) 0 n (Nat.zero_le _) ?_ ?_ rfl]
 · rfl
 · intro i _ hi
   have hd:decide ((i:Int)<(n:Int))=true:=decide_eq_true (by omega)
   simp only[hd,cond_true]
   rw[bj (by rw[dT];simp;omega),eb (fun k:Nat=>(k:Int)),wrap64 (by omega)]
   rfl
 · have hd:decide ((n:Int)<(n:Int))=false:=decide_eq_false (by omega)
   simp only[hd,cond_false,idP]
def okP (n:Int) (ds:List Int):Bool:=dq (fun i=>decide (0≤ds.getD i 0)&&decide (ds.getD i 0<n - (i:Int))) ds.length 0
def nk (p:List Int) (a b:Nat):List Int:=(p.set a (p.getD b 0)).set b (p.getD a 0)
theorem qq (p:List Int) (a b:Nat):(nk p a b).length=p.length:=by simp[nk]
def iR (n:Nat) (ds:List Int):Nat→List Int
 |0=>idP n
 |i+1=>nk (iR n ds i) (n - 1 - i) (ds.getD i 0).toNat
theorem mX (n:Nat) (ds:List Int):∀i,(iR n ds i).length=n
 |0=>by simp[iR,idP]
 |i+1=>by simp only[iR,qq,mX n ds i]
def BI (n:Nat) (ds:List Int):List Int×Int:=
 bif decide (ds.length≠n - 1) then([],110) else bif okP n ds then(iR n ds ds.length,0) else([],110)
theorem AK {n:Nat} {ds:List Int} (h:n≤256) (hl:ds.length<2^31):iK (n:Int) ds=some (BI n ds):=by
 unfold iK BI
 rw[decide_eq_false (by omega:¬(n:Int)<0),cond_false]
 have hm:max (IntKind.wrap .i64 ((n:Int) - 1)) 0=((n - 1:Nat):Int):=by rw[wrap64 (by omega)];omega
 rw[hm]
 have hne:((ds.length:Int) != ((n - 1:Nat):Int))=decide (ds.length≠n - 1):=by
  rw[Bool.eq_iff_iff];simp only[bne_iff_ne,ne_eq,decide_eq_true_eq];omega
 rw[hne]
 cases hc:decide (ds.length≠n - 1) with
 |true=>rfl
 |false=>
  have hc:ds.length=n - 1:=by simpa using hc
  simp only[cond_false]
  rw[tp (s0:=0) (fun i=>(i:Int)) (Sum.inl ()) (Sum.inr (([],110):List Int×Int)) (fun i=>decide (0≤ds.getD i 0)&&decide (ds.getD i 0<(n:Int) - (i:Int))) ds.length ?_ ?_ rfl]
  · simp only[ae]
    show _=some (bif okP n ds then _ else _)
    have hok:dq (fun i=>decide (0≤ds.getD i 0)&&decide (ds.getD i 0<(n:Int) - (i:Int))) ds.length 0=okP n ds:=rfl
    rw[hok]
    cases ho:okP n ds with
    |false=>rfl
    | true =>
      simp only[cond_true,ae]
      rw[uc h]
      simp only[ae]
      have rng:∀i,i<ds.length→0≤ds.getD i 0∧ds.getD i 0<(n:Int) - (i:Int):=fun i hi=>by
        have:=dO.1 ho i (Nat.zero_le _) (by omega)
        simpa using this
      rw[aV (s0:=(idP n,0)) (r:=iR n ds ds.length) (fun i=>(iR n ds i,(i:Int))) 0 ds.length (Nat.zero_le _) ?_ ?_ rfl]
      · rfl
      · intro i _ hi
        have hd:decide ((i:Int)<(ds.length:Int))=true:=decide_eq_true (by omega)
        have hr:=rng i hi
        have hlen:=mX n ds i
        have w1:IntKind.wrap .i64 ((n:Int) - 1)=(n:Int) - 1:=wrap64 (by omega)
        have w2:IntKind.wrap .i64 ((n:Int) - 1 - (i:Int))=((n - 1 - i:Nat):Int):=by rw[wrap64 (by omega)];omega
        simp only[hd,cond_true,w1,w2]
        rw[aK rfl hi]
        simp only[ae]
        rw[aK (xs:=iR n ds i) (z:=ds.getD i 0) (i:=(ds.getD i 0).toNat) (by omega) (by omega)]
        simp only[ae]
        rw[aK (xs:=iR n ds i) (i:=n - 1 - i) rfl (by omega)]
        simp only[ae,Int.toNat_natCast]
        rw[aK (i:=(ds.getD i 0).toNat) (by omega) (by rw[List.length_set];omega)]
        simp only[ae]
        rw[wrap64 (x:=(i:Int)+1) (by omega)]
        rfl
      · have hd:decide ((ds.length:Int)<(ds.length:Int))=false:=decide_eq_false (by omega)
        simp only[hd,cond_false]
  · intro i hi
    have hd:decide ((i:Int)<(ds.length:Int))=true:=decide_eq_true (by omega)
    simp only[hd,cond_true]
    rw[aK rfl hi,wrap64 (x:=(n:Int) - (i:Int)) (by omega),wrap64 (x:=(i:Int)+1) (by omega)]
    simp only[ae]
    by_cases c1:ds.getD i 0<0
    · have e1:decide (ds.getD i 0<0)=true:=decide_eq_true c1
      have e2:decide (0≤ds.getD i 0)=false:=decide_eq_false (by omega)
      rw[e1,e2,Bool.true_or,cond_true]
      exact⟨fun h=>(by simp at h),fun _=>rfl⟩
    · have e1:decide (ds.getD i 0<0)=false:=decide_eq_false c1
      have e2:decide (0≤ds.getD i 0)=true:=decide_eq_true (by omega)
      rw[e1,e2,Bool.false_or,Bool.true_and]
      by_cases c2:ds.getD i 0<(n:Int) - (i:Int)
      · have e3:decide (ds.getD i 0≥(n:Int) - (i:Int))=false:=decide_eq_false (by omega)
        rw[e3,decide_eq_true c2,cond_false]
        exact⟨fun _=>rfl,fun h=>(by cases h)⟩
      · have e3:decide (ds.getD i 0≥(n:Int) - (i:Int))=true:=decide_eq_true (by omega)
        rw[e3,decide_eq_false c2,cond_true]
        exact⟨fun h=>(by cases h),fun _=>rfl⟩
  · have hd:decide ((ds.length:Int)<(ds.length:Int))=false:=decide_eq_false (by omega)
    simp only[hd,cond_false]
theorem AL {p:List Int} {n:Nat} (hp:∀i,0≤p.getD i 0∧(i<p.length→p.getD i 0<n)) {a b:Nat} (ha:a<p.length) (hb:b<p.length):∀i,0≤(nk p a b).getD i 0∧(i<(nk p a b).length→(nk p a b).getD i 0<n):=by
 intro i
 rw[qq]
 by_cases hi:i<p.length
 · have hx:(nk p a b).getD i 0=if b=i then p.getD a 0 else if a=i then p.getD b 0 else p.getD i 0:=by
     simp only[nk,List.getD,List.getElem?_set,List.length_set,hb,ha]
     split
     · simp
     · split
       · simp
       · rfl
   rw[hx]
   split
   · exact⟨(hp a).1,fun _=>(hp a).2 ha⟩
   · split
     · exact⟨(hp b).1,fun _=>(hp b).2 hb⟩
     · exact⟨(hp i).1,fun h=>(hp i).2 h⟩
 · have:(nk p a b).getD i 0=0:=by simp only[List.getD,List.getElem?_eq_none (by rw[qq];omega:(nk p a b).length≤i),Option.getD_none]
   rw[this]
   exact⟨Int.le_refl _,fun h=>absurd h hi⟩
theorem uR {n:Nat} {ds:List Int} (hl:ds.length=n - 1) (ho:okP n ds=true):∀k,k≤ds.length→∀i,0≤(iR n ds k).getD i 0∧(i<(iR n ds k).length→(iR n ds k).getD i 0<n)
 |0,_,i=>by
  simp only[iR,idP]
  by_cases hi:i<n
  · simp[List.getD,List.getElem?_range hi]
  · have:((List.range n).map fun i:Nat=>(i:Int)).getD i 0=0:=by simp only[List.getD,List.getElem?_eq_none (by simp;omega:((List.range n).map fun i:Nat=>(i:Int)).length≤i),Option.getD_none]
    rw[this]
    exact⟨Int.le_refl _,fun h=>(by simp at h;omega)⟩
 |k+1,hk,i=>by
  have:=dO.1 ho k (Nat.zero_le _) (by omega)
  simp only[Bool.and_eq_true,decide_eq_true_eq] at this
  have hlen:=mX n ds k
  exact AL (uR hl ho k (by omega)) (by omega) (by omega) i
def fitP (p:List Int) (k:Nat):Bool:=decide (0≤p.getD k 0)&&decide (p.getD k 0<(p.length:Int))&& !(p.take k).elem (p.getD k 0)
def mn (p:List Int):Bool:=dq (fitP p) p.length 0
def nm (p:List Int) (i:Nat):List Bool:=(List.range p.length).map fun v:Nat=>(p.take i).elem (v:Int)
theorem xw (l:List Int) (i:Nat) (h:i<l.length) (x:Int):(l.take (i+1)).elem x=((l.take i).elem x||x==l.getD i 0):=by
 have e:l.getD i 0=l[i]:=by simp[List.getD,h]
 rw[e,List.take_succ_eq_append_getElem h,Bool.eq_iff_iff]
 simp only[List.elem_eq_mem,decide_eq_true_eq,Bool.or_eq_true,List.mem_append,List.mem_singleton,beq_iff_eq]
theorem AM (p:List Int) (i:Nat) (h:i<p.length) (hx:0≤p.getD i 0):List.set (nm p i) (Int.toNat (p.getD i 0)) true=nm p (i+1):=by
 apply List.ext_getElem
 · simp[nm]
 · intro j h1 h2
   rw[List.getElem_set]
   simp only[nm,List.getElem_map,List.getElem_range]
   rw[xw _ _ h]
   split
   · rename_i e
     have:((j:Int)==p.getD i 0)=true:=by simp only[beq_iff_eq];omega
     rw[this,Bool.or_true]
   · rename_i e
     have:((j:Int)==p.getD i 0)=false:=by simp only[beq_eq_false_iff_ne];omega
     rw[this,Bool.or_false]
theorem AN {p:List Int} (hl:p.length<2^31):jF p=some (mn p):=by
 unfold jF
 rw[mt hl,cond_true,Int.toNat_natCast]
 rw[tp (s0:=(List.replicate p.length false,0)) (fun i=>(nm p i,(i:Int))) (Sum.inl ()) (Sum.inr false) (fitP p) p.length ?_ ?_ ?_]
 · simp only[ae,mn]
   cases dq (fitP p) p.length 0<;>rfl
 · intro i hi
   have hd:decide ((i:Int)<(p.length:Int))=true:=decide_eq_true (by omega)
   simp only[hd,cond_true]
   rw[aK rfl hi,wrap64 (x:=(i:Int)+1) (by omega)]
   simp only[ae,fitP]
   cases hb:(decide (p.getD i 0<0))||(decide (p.getD i 0≥(p.length:Int))) with
   | true =>
     simp only[cond_true,ae]
     refine⟨fun h=>?_,fun _=>trivial⟩
     simp only[Bool.and_eq_true,Bool.or_eq_true,decide_eq_true_eq] at h hb
     omega
   | false =>
     simp only[Bool.or_eq_false_iff,decide_eq_false_iff_not] at hb
     have h0:decide (0≤p.getD i 0)=true:=decide_eq_true (by omega)
     have h1:decide (p.getD i 0<(p.length:Int))=true:=decide_eq_true (by omega)
     have hs:(nm p i).length=p.length:=by simp[nm]
     simp only[cond_false,h0,h1,Bool.true_and]
     rw[cS (i:=(p.getD i 0).toNat) false (by omega) (by omega)]
     have hg:(nm p i).getD (p.getD i 0).toNat false=(p.take i).elem (p.getD i 0):=by
      have hl':(p.getD i 0).toNat<p.length:=by omega
      unfold nm
      rw[List.getD,List.getElem?_map,List.getElem?_range hl']
      show(p.take i).elem (((p.getD i 0).toNat:Nat):Int)=_
      rw[show(((p.getD i 0).toNat:Nat):Int)=p.getD i 0 by omega]
     rw[hg]
     simp only[ae]
     cases (p.take i).elem (p.getD i 0) with
     |true=>exact⟨fun h=>(by simp at h),fun _=>rfl⟩
     |false=>
      refine⟨fun _=>?_,fun h=>(by simp at h)⟩
      simp only[cond_false,ae]
      rw[AM p i hi (by omega)]
      rfl
 · have hd:decide ((p.length:Int)<(p.length:Int))=false:=decide_eq_false (by omega)
   simp only[hd,cond_false]
 · simp only[nm,List.take_zero]
   rw[Prod.mk.injEq]
   refine⟨?_,rfl⟩
   apply List.ext_getElem
   · simp
   · intro j h1 h2;simp
def pc (p:List Int) (xs:List (List Int)):List (List Int):=(List.range p.length).map fun i=>xs.getD (p.getD i 0).toNat []
theorem yT {p:List Int} {xs:List (List Int)} (hl:p.length<2^31):i9 p xs=some (bif decide (p.length≠xs.length)|| !mn p then([],110) else(pc p xs,0)):=by
 unfold i9
 have hne:((p.length:Int) != (xs.length:Int))=decide (p.length≠xs.length):=by
  rw[Bool.eq_iff_iff];simp only[bne_iff_ne,ne_eq,decide_eq_true_eq];omega
 rw[hne]
 cases hc:decide (p.length≠xs.length) with
 |true=>rfl
 |false=>
  have hc:p.length=xs.length:=by simpa using hc
  simp only[cond_false,Bool.false_or]
  rw[AN hl]
  simp only[ae]
  cases hf:mn p with
  |false=>rfl
  |true=>
   simp only[Bool.not_true,cond_false]
   unfold jy
   rw[we hl,cond_true]
   rw[aV (s0:=(List.replicate (Int.toNat 0) ([]:List Int),0)) (r:=pc p xs) (fun i=>((List.range i).map fun i=>xs.getD (p.getD i 0).toNat [],(i:Int))) 0 p.length (Nat.zero_le _) ?_ ?_ rfl]
   · rfl
   · intro i _ hi
     have hd:decide ((i:Int)<(p.length:Int))=true:=decide_eq_true (by omega)
     have hr:=dO.1 hf i (Nat.zero_le _) (by omega)
     simp only[fitP,Bool.and_eq_true,decide_eq_true_eq] at hr
     simp only[hd,cond_true]
     rw[aK rfl hi]
     simp only[ae]
     rw[cS (i:=(p.getD i 0).toNat) [] (by omega) (by omega)]
     simp only[ae]
     rw[bj (by rw[dT];simp;omega),eb (fun i=>xs.getD (p.getD i 0).toNat []),wrap64 (by omega)]
     rfl
   · have hd:decide ((p.length:Int)<(p.length:Int))=false:=decide_eq_false (by omega)
     simp only[hd,cond_false,pc]
end Go.Proofs.YtobbmodjdkcdcaaGreatDoor
