import Derived.Test.YtobbmodjdkcdcaaGreatDoorLawScan
import Derived.Test.YtobbmodjdkcdcaaGreatDoorBr7
set_option linter.unusedVariables false
set_option linter.unusedSimpArgs false
set_option maxRecDepth 20000
namespace Go.Proofs.YtobbmodjdkcdcaaGreatDoor
open Go Go.Sim
set_option linter.unusedSectionVars false
variable [Fu]
def pZ (m:aK):Bool:=((((((((((decide (m.Count<0))||(decide (m.Count>256)))||(decide ((m.From.length:Int)>256)))||((m.Nonces.length:Int) != m.Count))||(decide (m.Header.Left<0)))||(decide (m.Header.Left≥8)))||(decide (m.Header.Round<0)))||(decide (m.Header.Round>4611686018427387903)))||(decide (m.Header.Epoch<0)))||(decide (m.Header.Epoch>4611686018427387904)))
def okF (m:aK) (k:Nat):Bool:=m.From.getD k 0== -1||(decide (0≤m.From.getD k 0)&&decide (m.From.getD k 0<m.Count)&& !(m.From.take k).elem (m.From.getD k 0))
def py (m:aK):Int:=bif pZ m then 290 else bif hZ (okF m) m.From.length 0 then 0 else 290
def lz (m:aK) (i:Nat):List Bool:=(List.range m.Count.toNat).map fun v:Nat=>(m.From.take i).elem (v:Int)
theorem xw (m:aK) (i:Nat):(lz m i).length=m.Count.toNat:=by simp[lz]
theorem mN (l:List Int) (i:Nat) (h:i<l.length) (x:Int):(l.take (i+1)).elem x=((l.take i).elem x||x==l[i]):=by
 rw[List.take_succ_eq_append_getElem h,Bool.eq_iff_iff]
 simp only[List.elem_eq_mem,decide_eq_true_eq,Bool.or_eq_true,List.mem_append,List.mem_singleton,beq_iff_eq]
theorem kM (l:List Int) (i:Nat) (h:i<l.length):l.getD i 0=l[i]:=by simp[List.getD,h]
theorem vV (m:aK) (i:Nat) (h:i<m.From.length) (hx:m.From[i]<0):lz m (i+1)=lz m i:=by
 unfold lz
 apply List.map_congr_left
 intro v hv
 rw[mN _ _ h]
 have:((v:Int)==m.From[i])=false:=by simp;omega
 rw[this,Bool.or_false]
theorem xx (m:aK) (i:Nat) (h:i<m.From.length) (hx:0≤m.From[i]):List.set (lz m i) (Int.toNat m.From[i]) true=lz m (i+1):=by
 apply List.ext_getElem
 · simp[lz]
 · intro j h1 h2
   rw[List.getElem_set]
   simp only[lz,List.getElem_map,List.getElem_range]
   rw[mN _ _ h]
   split
   · rename_i e
     have:((j:Int)==m.From[i])=true:=by simp;omega
     rw[this,Bool.or_true]
   · rename_i e
     have:((j:Int)==m.From[i])=false:=by simp;omega
     rw[this,Bool.or_false]
theorem vW (m:aK):gY m=some (py m):=by
 unfold gY py
 have hroomI:(room:Int)=17179869184:=rfl
 have hh:pZ m=(((((decide (m.Count<0))||(decide (m.Count>256)))||(decide ((m.From.length:Int)>256)))||((m.Nonces.length:Int) != m.Count))||((((((decide (m.Header.Left<0))||(decide (m.Header.Left≥8)))||(decide (m.Header.Round<0)))||(decide (m.Header.Round>4611686018427387903)))||(decide (m.Header.Epoch<0)))||(decide (m.Header.Epoch>4611686018427387904)))):=by
  unfold pZ;simp only[Bool.or_assoc]
 rw[hh]
 cases c1:(((decide (m.Count<0))||(decide (m.Count>256)))||(decide ((m.From.length:Int)>256)))||((m.Nonces.length:Int) != m.Count) with
 |true=>rfl
 |false=>
  simp only[Bool.or_eq_false_iff,decide_eq_false_iff_not,bne_eq_false_iff_eq] at c1
  obtain⟨⟨⟨a1,a2⟩,a3⟩,a4⟩:=c1
  rw[cond_false,Bool.false_or]
  cases c2:(((((decide (m.Header.Left<0))||(decide (m.Header.Left≥8)))||(decide (m.Header.Round<0)))||(decide (m.Header.Round>4611686018427387903)))||(decide (m.Header.Epoch<0)))||(decide (m.Header.Epoch>4611686018427387904)) with
  |true=>rfl
  |false=>
   have g:mkB m.Count m.Count=true:=by unfold mkB;rw[hroomI];simp;omega
   rw[cond_false,g,cond_true]
   rw[rm (fun i=>(lz m i,(i:Int))) (Sum.inl ()) (Sum.inr 290) (okF m) m.From.length ?_ ?_ ?_]
   · simp only[af,cond_false]
     cases hZ (okF m) m.From.length 0<;>rfl
   · intro i hi
     have hd:decide ((i:Int)<(m.From.length:Int))=true:=decide_eq_true (by omega)
     simp only[hd,cond_true]
     rw[pq hi]
     simp only[af,okF]
     rw[kM _ _ hi,wrap64 (x:=(i:Int)+1) (by omega)]
     cases hm:(m.From[i]== -1) with
     | true =>
       have e:=eq_of_beq hm
       refine⟨fun _=>?_,fun h=>(by simp at h)⟩
       rw[vV m i hi (by omega)]
       rfl
     | false =>
       have e:m.From[i]≠ -1:=by simpa using hm
       simp only[cond_false,Bool.false_or]
       cases hb:(decide (m.From[i]<0))||(decide (m.From[i]≥m.Count)) with
       |true=>
        refine⟨fun h=>?_,fun _=>rfl⟩
        simp only[Bool.and_eq_true,Bool.or_eq_true,decide_eq_true_eq] at h hb
        omega
       |false=>
        simp only[Bool.or_eq_false_iff,decide_eq_false_iff_not] at hb
        have h0:decide (0≤m.From[i])=true:=decide_eq_true (by omega)
        have h1:decide (m.From[i]<m.Count)=true:=decide_eq_true (by omega)
        simp only[cond_false,h0,h1,Bool.true_and]
        rw[eQ (i:=m.From[i].toNat) false (by omega) (by rw[xw];omega)]
        have hg:(lz m i).getD m.From[i].toNat false=(m.From.take i).elem m.From[i]:=by
         have hl:m.From[i].toNat<m.Count.toNat:=by omega
         unfold lz
         simp only[List.getD,List.getElem?_map,List.getElem?_range hl,Option.map_some,Option.getD_some]
         rw[show((m.From[i].toNat:Nat):Int)=m.From[i] by omega]
        rw[hg]
        simp only[af]
        cases (m.From.take i).elem m.From[i] with
        |true=>exact⟨fun h=>(by simp at h),fun _=>rfl⟩
        |false=>
         refine⟨fun _=>?_,fun h=>(by simp at h)⟩
         rw[←xx m i hi (by omega)]
         rfl
   · have hd:decide ((m.From.length:Int)<(m.From.length:Int))=false:=decide_eq_false (by omega)
     simp only[hd,cond_false]
   · simp only[lz,List.take_zero]
     rw[Prod.mk.injEq]
     refine⟨?_,rfl⟩
     apply List.ext_getElem
     · simp
     · intro j h1 h2;simp
theorem uq (m:aK):eZ m=some (py m):=by
 unfold eZ py
 show(bif pZ m then _ else _)=_
 cases hh:pZ m with
 |true=>rfl
 |false=>
  unfold pZ at hh
  simp only[Bool.or_eq_false_iff,decide_eq_false_iff_not,bne_eq_false_iff_eq] at hh
  obtain⟨⟨⟨⟨⟨⟨⟨⟨⟨a1,a2⟩,a3⟩,a4⟩,_⟩,_⟩,_⟩,_⟩,_⟩,_⟩:=hh
  simp only[cond_false]
  rw[rm (s0:=0) (fun i=>(i:Int)) (Sum.inl ()) (Sum.inr 290) (okF m) m.From.length ?_ ?_ rfl]
  · simp only[af]
    cases hZ (okF m) m.From.length 0<;>rfl
  · intro i hi
    have hd:decide ((i:Int)<(m.From.length:Int))=true:=decide_eq_true (by omega)
    simp only[hd,cond_true]
    rw[pq hi]
    simp only[af]
    cases h1:decide (m.From[i]<(-1)) with
    |true=>
     have h1:=of_decide_eq_true h1
     simp only[cond_true,af,okF]
     rw[kM _ _ hi]
     refine⟨fun h=>?_,fun _=>trivial⟩
     simp only[Bool.or_eq_true,beq_iff_eq,Bool.and_eq_true,decide_eq_true_eq] at h
     omega
    |false=>
     have h1:=of_decide_eq_false h1
     simp only[cond_false,af]
     cases h2:decide (m.From[i]≥m.Count) with
     |true=>
      have h2:=of_decide_eq_true h2
      simp only[cond_true,af,okF]
      rw[kM _ _ hi]
      refine⟨fun h=>?_,fun _=>trivial⟩
      simp only[Bool.or_eq_true,beq_iff_eq,Bool.and_eq_true,decide_eq_true_eq] at h
      omega
     |false=>
      have h2:=of_decide_eq_false h2
      simp only[cond_false]
      rw[rm (s0:=0) (fun j=>(j:Int)) (Sum.inl ()) (Sum.inr 290) (fun j=> !(decide (m.From[i]≥0)&&(m.From.getD j 0==m.From[i]))) i ?_ ?_ rfl]
      · have e:hZ (fun j=> !(decide (m.From[i]≥0)&&(m.From.getD j 0==m.From[i]))) i 0=okF m i:=by
         rw[Bool.eq_iff_iff,mU]
         simp only[okF,kM _ _ hi]
         constructor
         · intro h
           by_cases hz:m.From[i]= -1
           · simp[hz]
           · have hz0:0≤m.From[i]:=by omega
             have:(m.From.take i).elem m.From[i]=false:=by
               rw[←Bool.not_eq_true]
               intro he
               rw[List.elem_eq_mem,decide_eq_true_eq,List.mem_take_iff_getElem] at he
               obtain⟨j,hj,e⟩:=he
               have:=h j (by omega) (by omega)
               rw[kM _ _ (by omega),e] at this
               simp[hz0] at this
             simp only[this,Bool.not_false,Bool.and_true,Bool.or_eq_true,beq_iff_eq,Bool.and_eq_true,decide_eq_true_eq]
             right;exact⟨hz0,by omega⟩
         · intro h k _ hk
           rw[kM _ _ (by omega)]
           simp only[Bool.or_eq_true,beq_iff_eq,Bool.and_eq_true,decide_eq_true_eq,Bool.not_eq_true'] at h
           rw[Bool.not_eq_true',Bool.and_eq_false_iff]
           by_cases hz:m.From[i]≥0
           · right
             rcases h with h|h
             · omega
             · rw[beq_eq_false_iff_ne]
               intro e
               have:=h.2
               rw[List.elem_eq_mem,decide_eq_false_iff_not] at this
               exact this (List.mem_take_iff_getElem.2 ⟨k,by omega,e⟩)
           · left;exact decide_eq_false hz
        rw[e,wrap64 (x:=(i:Int)+1) (by omega)]
        cases okF m i with
        |true=>exact⟨fun _=>rfl,fun h=>(by cases h)⟩
        |false=>exact⟨fun h=>(by cases h),fun _=>rfl⟩
      · intro j hj
        have hd2:decide ((j:Int)<(i:Int))=true:=decide_eq_true (by omega)
        simp only[hd2,cond_true]
        rw[pq (show j<m.From.length by omega),kM _ _ (show j<m.From.length by omega),wrap64 (x:=(j:Int)+1) (by omega)]
        simp only[af]
        cases decide (m.From[i]≥0) with
        |false=>exact⟨fun _=>rfl,fun h=>(by simp at h)⟩
        |true=>
         simp only[cond_true,af,Bool.true_and]
         cases m.From[j]==m.From[i] with
         |true=>exact⟨fun h=>(by simp at h),fun _=>rfl⟩
         |false=>exact⟨fun _=>rfl,fun h=>(by simp at h)⟩
      · have hd:decide ((i:Int)<(i:Int))=false:=decide_eq_false (by omega)
        simp only[hd,cond_false]
  · have hd:decide ((m.From.length:Int)<(m.From.length:Int))=false:=decide_eq_false (by omega)
    simp only[hd,cond_false]
end Go.Proofs.YtobbmodjdkcdcaaGreatDoor
