import Derived.Test.YtobbmodjdkcdcaaGreatDoorLawBraid2
set_option linter.unusedVariables false
set_option linter.unusedSimpArgs false
set_option maxRecDepth 20000
namespace Go.Proofs.YtobbmodjdkcdcaaGreatDoor
open Go Go.Sim
set_option linter.unusedSectionVars false
variable [Fu]
def zF:bp:=⟨⟨[],[],[]⟩,[],[]⟩
def fI (sizes:List Int) (i:Nat):List Int:=(List.range i).map fun j=>(sizes.take j).sum
def qZ (chs:List (List Int)) (i:Nat) (ps:List (List Int)) (s:Int):Option (List (List Int)):=
 match allD (chs.getD i []) (lM s) 0 with
 |none=>none
 |some q=>some (ps++[iR s.toNat q.1 q.1.length])
structure Read where
 parts:aP
 sizes:List Int
 pk:List (Nat×Int)
 perms:List (List Int)
def pe (t : List Int) (n c : Int) : Int ⊕ Read :=
 bif (kN n c).2 != 0 then .inl (kN n c).2 else bif (jH t c).2 != 0 then .inl (jH t c).2 else
 match allD (eS t c.toNat).Braid (iq n.toNat) 0 with
 |none=> .inl 3
 |some q=>match gZ (qZ (eS t c.toNat).Chunks) 0 [] (fZ n.toNat c.toNat) with
  |none=> .inl 3
  |some ps=> .inr ⟨eS t c.toNat,fZ n.toNat c.toNat,picks (fZ n.toNat c.toNat) q.1,ps⟩
def BK (t:List Int) (n c:Int):bp×List Int×List Int×List (List Int)×Int:=
 match pe t n c with
 | .inl e=>(zF,[],[],[],e)
 | .inr r=>(⟨r.parts,r.sizes,fI r.sizes r.sizes.length⟩,(patR r.sizes.length r.pk).1,(patR r.sizes.length r.pk).2.1,r.perms,0)
theorem j7 {x:List Int} (h:aS x) (n:Nat):aS (x.take n):=fun b hb=>h b (List.mem_of_mem_take hb)
theorem ji {x:List Int} (h:aS x) (n:Nat):aS (x.drop n):=fun b hb=>h b (List.mem_of_mem_drop hb)
theorem kx {t:List Int} (h:aS t) (c:Nat):aS (eS t c).Noise∧aS (eS t c).Braid∧∀x∈(eS t c).Chunks,aS x∧x.length≤t.length:=by
 refine⟨j7 h _,j7 (ji h _) _,fun x hx=>?_⟩
 obtain⟨j,_,rfl⟩:=List.mem_map.1 hx
 refine⟨ji (j7 (ji (ji h _) _) _) _,?_⟩
 simp[zS];omega
theorem rn (t:List Int) (c:Nat):(eS t c).Braid.length≤t.length:=by simp[eS];omega
theorem uU {α:Type} {l:List α} {i:Nat} {d:α} (h:i<l.length):l.getD i d∈l:=by simp only[List.getD,List.getElem?_eq_getElem h,Option.getD_some];exact List.getElem_mem h
theorem th {bs:List Int} {n:Nat} {ds:List Int} {w:Nat} (hb:aS bs) (hn:n≤256) (h:allD bs (lM (n:Int)) 0=some (ds,w)):ds.length=n - 1∧okP (n:Int) ds=true:=by
 have r:=nX hb (sN (uJ hn)) (Nat.zero_le _) h
 rw[qp] at r
 refine⟨by simpa using r.1,?_⟩
 unfold okP
 rw[dO]
 intro k _ hk
 have hk2:k<n - 1:=by rw[r.1] at hk;simpa using hk
 have:=r.2.1 k (by simpa using hk2)
 have e:(lM (n:Int)).getD k 0=(n:Int) - (k:Int):=by simp[lM,List.getD,List.getElem?_range hk2]
 rw[e] at this
 simp only[Bool.and_eq_true,decide_eq_true_eq];exact this
theorem wa {n:Nat} {ds:List Int} (h:n≤256) (hl:ds.length=n - 1) (ho:okP (n:Int) ds=true):iK (n:Int) ds=some (iR n ds ds.length,0):=by
 rw[AK h (by omega)]
 unfold BI
 rw[decide_eq_false (by omega:¬ds.length≠n - 1),cond_false,ho,cond_true]
theorem mq {chs:List (List Int)}:∀(ss:List Int) (i:Nat) (ps z:List (List Int)),gZ (qZ chs) i ps ss=some z→∃e,z=ps++e∧e.length=ss.length∧∀k,k<ss.length→(e.getD k []).length=(ss.getD k 0).toNat
 |[],i,ps,z,h=>by cases h;exact⟨[],by simp,rfl,fun k hk=>by simp at hk⟩
 |s::ss,i,ps,z,h=>by
  simp only[gZ,qZ] at h
  split at h
  · cases h
  · rename_i y hy
    split at hy
    · cases hy
    · rename_i q hq
      cases hy
      obtain⟨e,h1,h2,h3⟩:=mq ss (i+1) _ z h
      refine⟨iR s.toNat q.1 q.1.length::e,by rw[h1];simp,by simp[h2],fun k hk=>?_⟩
      cases k with
      |zero=>simp[mX]
      |succ k=>simpa using h3 k (by simpa using hk)
theorem mr {chs:List (List Int)} (hb:∀i,aS (chs.getD i [])):∀(ss:List Int) (i:Nat) (ps z:List (List Int)),(∀s∈ss,0≤s∧s≤256)→gZ (qZ chs) i ps ss=some z→∃e,z=ps++e∧∀k j,0≤(e.getD k []).getD j 0∧(e.getD k []).getD j 0≤256
 |[],i,ps,z,_,h=>by cases h;exact⟨[],by simp,fun k j=>by simp⟩
 |s::ss,i,ps,z,hs,h=>by
  simp only[gZ,qZ] at h
  split at h
  · cases h
  · rename_i y hy
    split at hy
    · cases hy
    · rename_i q hq
      cases hy
      obtain⟨e,h1,h2⟩:=mr hb ss (i+1) _ z (fun x hx=>hs x (by simp[hx])) h
      have hsr:=hs s (by simp)
      obtain⟨sn,rfl⟩:∃sn:Nat,s=sn:=⟨s.toNat,by omega⟩
      obtain⟨d1,d2⟩:=th (hb i) (by omega) hq
      refine⟨iR sn q.1 q.1.length::e,by rw[h1];simp,fun k j=>?_⟩
      cases k with
      |zero=>
       have r:=uR d1 d2 q.1.length (Nat.le_refl _) j
       simp only[List.getD_cons_zero]
       refine⟨r.1,?_⟩
       by_cases c:j<(iR sn q.1 q.1.length).length
       · have:=r.2 c;omega
       · simp only[List.getD,List.getElem?_eq_none (by omega:(iR sn q.1 q.1.length).length≤j),Option.getD_none];omega
      |succ k=>simpa using h2 k j
theorem xy {bs:List Int} {n:Nat} {ds:List Int} {w:Nat} (hb:aS bs) (hn:n≤256) (h:allD bs (iq n) 0=some (ds,w)):vF n ds:=by
 have r:=nX hb (sN (qP hn)) (Nat.zero_le _) h
 rw[ma] at r
 refine⟨r.1,fun i hi=>?_⟩
 have:=r.2.1 i hi
 have e:(iq n).getD i 0=(n:Int) - (i:Int):=by simp[iq,List.getD,List.getElem?_range hi]
 rw[e] at this;exact this
theorem q9 {n c:Nat} (hn:n≤256) (hc:0<c):nh (fZ n c) n:=⟨lB hn,yp hc⟩
theorem xz {t:List Int} {n c:Int} (hb:aS t) (hl:t.length<2^30):im t n c=some (BK t n c):=by
 unfold im BK pe
 rw[xb]
 simp only[ae]
 cases h1:(kN n c).2 != 0 with
 |true=>rfl
 |false=>
  have hsz:kN n c=(fZ n.toNat c.toNat,0)∧0≤n∧n≤256∧1≤c∧c≤64:=by
   unfold kN at h1⊢
   cases hc:(((decide (n<0))||(decide (n>256)))||(decide (c<1)))||(decide (c>64)) with
   |true=>rw[hc] at h1;simp at h1
   |false=>
    simp only[Bool.or_eq_false_iff,decide_eq_false_iff_not] at hc
    exact⟨rfl,by omega,by omega,by omega,by omega⟩
  obtain⟨es,n0,n1,c0,c1⟩:=hsz
  rw[es]
  obtain⟨k,rfl⟩:∃k:Nat,n=k:=⟨n.toNat,by omega⟩
  obtain⟨m,rfl⟩:∃m:Nat,c=m:=⟨c.toNat,by omega⟩
  simp only[cond_false,Int.toNat_natCast]
  rw[tz (by omega)]
  simp only[ae]
  cases h2:(jH t (m:Int)).2 != 0 with
  |true=>rfl
  |false=>
   have esp:jH t (m:Int)=(eS t m,0):=by
    unfold jH at h2⊢
    cases hx:decide ((m:Int)<1)||decide ((m:Int)>64) with
    |true=>rw[hx] at h2;simp at h2
    | false =>
      rw[hx] at h2
      simp only[cond_false] at h2⊢
      cases hy:decide ((t.length:Int)<18) with
      |true=>rw[hy] at h2;simp at h2
      |false=>rfl
   rw[esp]
   obtain⟨pb1,pb2,pb3⟩:=kx hb m
   have pl:=rn t m
   simp only[cond_false]
   rw[vy (by omega)]
   simp only[ae]
   rw[xh pb2 (by omega) (by rw[ma];omega)]
   simp only[ae,zr,qP (show k≤256 by omega),cond_true]
   cases hd:allD (eS t m).Braid (iq k) 0 with
   |none=>rfl
   |some q=>
    obtain⟨ds,w⟩:=q
    simp only[bne_self_eq_false,cond_false]
    have hg:=q9 (n:=k) (c:=m) (by omega) (by omega)
    have hsl:=lA k m
    have hrng:=lB (n:=k) (c:=m) (by omega)
    obtain⟨sizes,hS⟩:∃s,s=fZ k m:=⟨_,rfl⟩
    simp only[←hS] at hg hsl hrng⊢
    have hchl:=AR (t:=t) (c:=m)
    rw[(oR (fun(i:Nat) (x:List (List Int))=>(x,(sizes.take i).sum,(i:Int),fI sizes i)) (qZ (eS t m).Chunks) sizes (fun i r x=>x.length=i) (fun x=>Sum.inl (x,fI sizes sizes.length)) (Sum.inr (zF,[],[],[],3)) ?_ ?_ [] rfl ?_).1]
    · cases hf:gZ (qZ (eS t m).Chunks) 0 [] sizes with
      |none=>rfl
      |some ps=>
       simp only[ae]
       rw[ua (n:=k) (by omega) (by omega) hg (by omega) (xy pb2 (by omega) hd)]
       rfl
    · intro i s r x hdr hi hget I
      have hsd:sizes.getD i 0=s:=by simp[List.getD,hget]
      have hsr:=hrng s (List.mem_of_getElem? hget)
      obtain⟨sn,rfl⟩:∃sn:Nat,s=sn:=⟨s.toNat,by omega⟩
      have hlt:decide ((i:Int)<(sizes.length:Int))=true:=decide_eq_true (by omega)
      have hcm:=pb3 _ (uU (d:=[]) (show i<(eS t m).Chunks.length by omega))
      have hsum:=ku hrng i
      simp only[hlt,cond_true,qZ,Int.toNat_natCast]
      rw[aK rfl hi,hsd]
      simp only[ae]
      rw[bj (by rw[dT];simp[fI];omega)]
      simp only[ae]
      rw[cS (i:=i) [] rfl (by omega)]
      simp only[ae]
      rw[xv (by omega) (by omega)]
      simp only[ae]
      rw[xh hcm.1 (by omega) (by rw[qp];omega)]
      simp only[ae,zr,uJ (show sn≤256 by omega),cond_true]
      cases ha:allD ((eS t m).Chunks.getD i []) (lM (sn:Int)) 0 with
      |none=>exact⟨fun _=>rfl,fun y hy=>(by cases hy)⟩
      |some q2=>
       obtain⟨ds2,w2⟩:=q2
       refine⟨fun h=>(by cases h),fun y hy=>?_⟩
       cases hy
       obtain⟨d1,d2⟩:=th hcm.1 (by omega) ha
       simp only[bne_self_eq_false,cond_false]
       rw[wa (by omega) d1 d2]
       simp only[ae,bne_self_eq_false,cond_false]
       rw[bj (by rw[dT];simp;omega)]
       simp only[ae]
       rw[wrap64 (x:=(sizes.take i).sum+(sn:Int)) (by omega),wrap64 (x:=(i:Int)+1) (by omega),kO hi,hsd]
       refine⟨?_,by simp[I]⟩
       have hpush:fI sizes i++[(sizes.take i).sum]=fI sizes (i+1):=eb (fun j=>(sizes.take j).sum) i
       rw[hpush]
       rfl
    · intro x I
      have hlt:decide ((sizes.length:Int)<(sizes.length:Int))=false:=decide_eq_false (by omega)
      simp only[hlt,cond_false]
    · rfl
def ordL (starts:List Int) (perms:List (List Int)):List (Nat×Int)→List (Nat×Int)→List Int
 |_,[]=>[]
 |pp,q::r=>(starts.getD q.1 0+(perms.getD q.1 []).getD (cntP pp q.1) 0)::ordL starts perms (pp++[q]) r
theorem xF {starts:List Int} {perms:List (List Int)}:∀{r pp:List (Nat×Int)},(ordL starts perms pp r).length=r.length
 |[],_=>rfl
 |q::r,pp=>by simp[ordL,xF]
def ordN (starts:List Int) (perms:List (List Int)) (_:Nat) (x:List (Nat×Int)×List Int) (q:Nat×Int):Option (List (Nat×Int)×List Int):=
 some (x.1++[q],x.2++[starts.getD q.1 0+(perms.getD q.1 []).getD (cntP x.1 q.1) 0])
theorem uV {starts:List Int} {perms:List (List Int)}:∀(r:List (Nat×Int)) (i:Nat) (pp:List (Nat×Int)) (o:List Int),gZ (ordN starts perms) i (pp,o) r=some (pp++r,o++ordL starts perms pp r)
 |[],i,pp,o=>by simp[gZ,ordL]
 |q::r,i,pp,o=>by simp only[gZ,ordN,uV r,ordL];simp
def cntL (c:Nat) (pp:List (Nat×Int)):List Int:=(List.range c).map fun j=>(cntP pp j:Int)
theorem BL {c j:Nat} {pp:List (Nat×Int)} (h:j<c):(cntL c pp).getD j 0=(cntP pp j:Int):=by simp[cntL,List.getD,List.getElem?_range h]
theorem AO {c:Nat} {pp:List (Nat×Int)} {q:Nat×Int} (h:q.1<c):(cntL c pp).set q.1 ((cntP pp q.1:Int)+1)=cntL c (pp++[q]):=by
 apply List.ext_getElem
 · simp[cntL]
 · intro j h1 h2
   rw[List.getElem_set]
   simp only[cntL,List.getElem_map,List.getElem_range,uL]
   split
   · rename_i e;subst e;simp
   · rename_i e;simp[e]
def cW (t:List Int) (n c:Int):List Int×Int:=
 match pe t n c with
 | .inl e=>([],e)
 | .inr r=>(ordL (fI r.sizes r.sizes.length) r.perms [] r.pk,0)
theorem AP {t:List Int} {n c e:Int} (h:pe t n c= .inl e):e≠0:=by
 unfold pe at h
 cases h1:(kN n c).2 != 0 with
 |true=>rw[h1,cond_true] at h;cases h;simpa using h1
 |false=>
  rw[h1,cond_false] at h
  cases h2:(jH t c).2 != 0 with
  |true=>rw[h2,cond_true] at h;cases h;simpa using h2
  |false=>
   rw[h2,cond_false] at h
   split at h
   · cases h;omega
   · split at h
     · cases h;omega
     · cases h
structure C7 (t:List Int) (n c:Int) (r:Read):Prop where
 n0:0≤n∧n≤256
 c0:1≤c∧c≤64
 sizes:r.sizes=fZ n.toNat c.toNat
 pk:r.pk.length=n.toNat
 perms:r.perms.length=c.toNat∧∀j,j<c.toNat→(r.perms.getD j []).length=(r.sizes.getD j 0).toNat
 val:∀k j,0≤(r.perms.getD k []).getD j 0∧(r.perms.getD k []).getD j 0≤256
 at_:∀pre q s,r.pk=pre++q::s→q.1<c.toNat∧(cntP pre q.1:Int)<r.sizes.getD q.1 0
theorem xK {t:List Int} {n c:Int} {r:Read} (hb:aS t) (h:pe t n c= .inr r):C7 t n c r:=by
 unfold pe at h
 cases h1:(kN n c).2 != 0 with
 |true=>rw[h1,cond_true] at h;cases h
 |false=>
  rw[h1,cond_false] at h
  have hsz:0≤n∧n≤256∧1≤c∧c≤64:=by
   unfold kN at h1
   cases hc:(((decide (n<0))||(decide (n>256)))||(decide (c<1)))||(decide (c>64)) with
   |true=>rw[hc] at h1;simp at h1
   | false =>
     simp only[Bool.or_eq_false_iff,decide_eq_false_iff_not] at hc
     exact⟨by omega,by omega,by omega,by omega⟩
  obtain⟨n0,n1,c0,c1⟩:=hsz
  cases h2:(jH t c).2 != 0 with
  |true=>rw[h2,cond_true] at h;cases h
  |false=>
   rw[h2,cond_false] at h
   split at h
   · cases h
   · rename_i q hq
     obtain⟨ds,w⟩:=q
     split at h
     · cases h
     · rename_i ps hps
       cases h
       obtain⟨k,rfl⟩:∃k:Nat,n=k:=⟨n.toNat,by omega⟩
       obtain⟨m,rfl⟩:∃m:Nat,c=m:=⟨c.toNat,by omega⟩
       simp only[Int.toNat_natCast] at*
       have hd:=xy (kx hb m).2.1 (by omega) hq
       obtain⟨e,e1,e2,e3⟩:=mq _ _ _ _ hps
       rw[List.nil_append] at e1
       subst e1
       rw[lA] at e2 e3
       have hcb:∀i,aS ((eS t m).Chunks.getD i []):=fun i=>by
        by_cases hi:i<(eS t m).Chunks.length
        · exact((kx hb m).2.2 _ (uU (d:=[]) hi)).1
        · simp only[List.getD,List.getElem?_eq_none (by omega:(eS t m).Chunks.length≤i),Option.getD_none];exact fun b hb=>(by cases hb)
       obtain⟨e',e4,e5⟩:=mr hcb _ _ _ _ (lB (by omega)) hps
       rw[List.nil_append] at e4
       subst e4
       refine⟨⟨n0,n1⟩,⟨c0,c1⟩,rfl,by simp only[qh];exact hd.1,⟨e2,fun j hj=>e3 j hj⟩,e5,fun pre q s hpre=>?_⟩
       have hg:=q9 (n:=k) (c:=m) (by omega) (by omega)
       have:=xe (sizes:=fZ k m) (c:=m) ds (fZ k m) [] (lA k m) (fun j=>by simp[cntP]) (by rw[hd.1];exact hg) (by rw[hd.1];exact hd) pre q s hpre
       simpa using this
theorem pf {t:List Int} {n c:Int} (hb:aS t) (hl:t.length<2^30):fC t n c=some (cW t n c):=by
 unfold fC cW
 rw[xz hb hl]
 simp only[ae,BK]
 cases hr:pe t n c with
 |inl e=>
  have:=AP hr
  have:(e != 0)=true:=by simpa using this
  simp only[this,cond_true]
 |inr r=>
  have ok:=xK hb hr
  obtain⟨⟨n0,n1⟩,⟨c0,c1⟩,hsz,hpk,⟨hp1,hp2⟩,hval,hat⟩:=ok
  obtain⟨k,rfl⟩:∃k:Nat,n=k:=⟨n.toNat,by omega⟩
  obtain⟨m,rfl⟩:∃m:Nat,c=m:=⟨c.toNat,by omega⟩
  simp only[Int.toNat_natCast] at*
  have hsl:r.sizes.length=m:=by rw[hsz,lA]
  have hrng:∀x∈r.sizes,0≤x∧x≤256:=by rw[hsz];exact lB (by omega)
  simp only[bne_self_eq_false,cond_false,patR,hsl]
  rw[mt (by omega),cond_true,mt (by omega),cond_true]
  have hst:(fI r.sizes m).length=m:=by simp[fI]
  have hpm:∀j,j<m→0≤(fI r.sizes m).getD j 0∧(fI r.sizes m).getD j 0≤256*m:=fun j hj=>by
    have:(fI r.sizes m).getD j 0=(r.sizes.take j).sum:=by simp[fI,List.getD,List.getElem?_range hj]
    rw[this]
    have:=ku hrng j
    omega
  have hcnt:∀pp:List (Nat×Int),∀j,cntP pp j≤pp.length:=fun pp j=>List.length_filter_le _ _
  rw[(oR (fun(i:Nat) (x:List (Nat×Int)×List Int)=>(cntL m x.1,x.2++List.replicate (k - i) (0:Int),(i:Int))) (ordN (fI r.sizes m) r.perms) r.pk (fun i s x=>r.pk=x.1++s∧x.1.length=i∧x.2.length=i) (fun x=>x.2) ([]:List Int) ?_ ?_ ([],[]) ⟨rfl,rfl,rfl⟩ ?_).1]
  · rw[uV]
    simp only[ae,List.nil_append]
  · intro i q s x hdr hi hget I
    obtain⟨I1,I2,I3⟩:=I
    refine⟨fun h=>(by cases h),fun y hy=>?_⟩
    cases hy
    obtain⟨pp,o⟩:=x
    simp only at I1 I2 I3
    have ha:=hat pp q s I1
    have hlt:decide ((i:Int)<((r.pk.map fun q=>(q.1:Int)).length:Int))=true:=decide_eq_true (by simp;omega)
    have hqi:(r.pk.map fun q=>(q.1:Int)).getD i 0=(q.1:Int):=by simp[List.getD,hget]
    obtain⟨z,hz⟩:∃z,k - i=z+1:=⟨k - i - 1,by omega⟩
    have hz2:k - (i+1)=z:=by omega
    have hpl:=hp2 q.1 ha.1
    have hcn:=hcnt pp q.1
    refine⟨?_,by rw[I1];simp,by simp[I2],by simp[I3]⟩
    simp only[hlt,cond_true]
    rw[aK (i:=i) rfl (by simp;omega),hqi]
    simp only[ae]
    rw[aK (xs:=fI r.sizes m) (i:=q.1) rfl (by omega)]
    simp only[ae]
    rw[cS (xs:=r.perms) (i:=q.1) [] rfl (by omega)]
    simp only[ae]
    rw[aK (xs:=cntL m pp) (i:=q.1) rfl (by simp[cntL];omega),BL ha.1]
    simp only[ae]
    rw[aK (xs:=r.perms.getD q.1 []) (i:=cntP pp q.1) rfl (by omega)]
    simp only[ae]
    rw[aK (xs:=o++List.replicate (k - i) (0:Int)) (i:=i) rfl (by simp;omega)]
    simp only[ae,Int.toNat_natCast]
    rw[wrap64 (x:=(cntP pp q.1:Int)+1) (by omega),AO ha.1,wrap64 (x:=(i:Int)+1) (by omega),hz,hz2,xa I3]
    have hfr:=hpm q.1 ha.1
    have hvr:=hval q.1 (cntP pp q.1)
    rw[wrap64 (by omega)]
    rfl
  · intro x I
    have hlt:decide ((r.pk.length:Int)<((r.pk.map fun q=>(q.1:Int)).length:Int))=false:=decide_eq_false (by simp)
    obtain⟨I1,I2,I3⟩:=I
    rw[hpk] at hlt
    simp only[hpk,hlt,cond_false,Nat.sub_self,List.replicate_zero,List.append_nil]
  · simp only[List.nil_append,Nat.sub_zero]
    rw[Prod.mk.injEq,Prod.mk.injEq]
    refine⟨?_,rfl,rfl⟩
    apply List.ext_getElem
    · simp[cntL]
    · intro j h1 h2;simp[cntL,cntP]
end Go.Proofs.YtobbmodjdkcdcaaGreatDoor
