import Derived.Test.YtobbmodjdkcdcaaGreatDoorLawScan
import Derived.Test.YtobbmodjdkcdcaaGreatDoorBp6
set_option linter.unusedVariables false
set_option linter.unusedSimpArgs false
set_option maxRecDepth 20000
namespace Go.Proofs.YtobbmodjdkcdcaaGreatDoor
open Go Go.Sim
set_option linter.unusedSectionVars false
variable [Fu]
def rV (m:aI):Bool:=((((((((((decide (m.Count<0))||(decide (m.Count>256)))||(decide ((m.From.length:Int)>256)))||((m.Nonces.length:Int) != m.Count))||(decide (m.Header.Left<0)))||(decide (m.Header.Left≥8)))||(decide (m.Header.Round<0)))||(decide (m.Header.Round>4611686018427387903)))||(decide (m.Header.Epoch<0)))||(decide (m.Header.Epoch>4611686018427387904)))
def okF (m:aI) (k:Nat):Bool:=m.From.getD k 0== -1||(decide (0≤m.From.getD k 0)&&decide (m.From.getD k 0<m.Count)&& !(m.From.take k).elem (m.From.getD k 0))
def rm (m:aI):Int:=bif rV m then 290 else bif gF (okF m) m.From.length 0 then 0 else 290
def jJ (m:aI) (i:Nat):List Bool:=(List.range m.Count.toNat).map fun v:Nat=>(m.From.take i).elem (v:Int)
theorem uX (m:aI) (i:Nat):(jJ m i).length=m.Count.toNat:=by simp[jJ]
theorem kU (l:List Int) (i:Nat) (h:i<l.length) (x:Int):(l.take (i+1)).elem x=((l.take i).elem x||x==l[i]):=by
 rw[List.take_succ_eq_append_getElem h,Bool.eq_iff_iff]
 simp only[List.elem_eq_mem,decide_eq_true_eq,Bool.or_eq_true,List.mem_append,List.mem_singleton,beq_iff_eq]
theorem uk (l:List Int) (i:Nat) (h:i<l.length):l.getD i 0=l[i]:=by simp[List.getD,h]
theorem tf (m:aI) (i:Nat) (h:i<m.From.length) (hx:m.From[i]<0):jJ m (i+1)=jJ m i:=by
 unfold jJ
 apply List.map_congr_left
 intro v hv
 rw[kU _ _ h]
 have:((v:Int)==m.From[i])=false:=by simp;omega
 rw[this,Bool.or_false]
theorem uY (m:aI) (i:Nat) (h:i<m.From.length) (hx:0≤m.From[i]):List.set (jJ m i) (Int.toNat m.From[i]) true=jJ m (i+1):=by
 apply List.ext_getElem
 · simp[jJ]
 · intro j h1 h2
   rw[List.getElem_set]
   simp only[jJ,List.getElem_map,List.getElem_range]
   rw[kU _ _ h]
   split
   · rename_i e
     have:((j:Int)==m.From[i])=true:=by simp;omega
     rw[this,Bool.or_true]
   · rename_i e
     have:((j:Int)==m.From[i])=false:=by simp;omega
     rw[this,Bool.or_false]
theorem th (m:aI):fF m=some (rm m):=by
 unfold fF rm
 have hroomI:(room:Int)=17179869184:=rfl
 have hh:rV m=(((((decide (m.Count<0))||(decide (m.Count>256)))||(decide ((m.From.length:Int)>256)))||((m.Nonces.length:Int) != m.Count))||((((((decide (m.Header.Left<0))||(decide (m.Header.Left≥8)))||(decide (m.Header.Round<0)))||(decide (m.Header.Round>4611686018427387903)))||(decide (m.Header.Epoch<0)))||(decide (m.Header.Epoch>4611686018427387904)))):=by
  unfold rV;simp only[Bool.or_assoc]
 rw[hh]
 cases c1:(((decide (m.Count<0))||(decide (m.Count>256)))||(decide ((m.From.length:Int)>256)))||((m.Nonces.length:Int) != m.Count) with
 |true=>rfl
 |false=>
  simp only[Bool.or_eq_false_iff,decide_eq_false_iff_not,bne_eq_false_iff_eq] at c1
  obtain⟨⟨⟨a1,a2⟩,a3⟩,a4⟩:=c1
  rw[cond_false,Bool.false_or]
  cases c2:(((((decide (m.Header.Left<0))||(decide (m.Header.Left≥8)))||(decide (m.Header.Round<0)))||(decide (m.Header.Round>4611686018427387903)))||(decide (m.Header.Epoch<0)))||(decide (m.Header.Epoch>4611686018427387904)) with
  |true=>rfl
  |false=>
   have g:mkB m.Count m.Count=true:=by unfold mkB;rw[hroomI];simp;omega
   rw[cond_false,g,cond_true]
   rw[wq (fun i=>(jJ m i,(i:Int))) (Sum.inl ()) (Sum.inr 290) (okF m) m.From.length ?_ ?_ ?_]
   · simp only[ae,cond_false]
     cases gF (okF m) m.From.length 0<;>rfl
   · intro i hi
     have hd:decide ((i:Int)<(m.From.length:Int))=true:=decide_eq_true (by omega)
     simp only[hd,cond_true]
     rw[rP hi]
     simp only[ae,okF]
     rw[uk _ _ hi,wrap64 (x:=(i:Int)+1) (by omega)]
     cases hm:(m.From[i]== -1) with
     | true =>
       have e:=eq_of_beq hm
       refine⟨fun _=>?_,fun h=>(by simp at h)⟩
       rw[tf m i hi (by omega)]
       rfl
     | false =>
       have e:m.From[i]≠ -1:=by simpa using hm
       simp only[cond_false,Bool.false_or]
       cases hb:(decide (m.From[i]<0))||(decide (m.From[i]≥m.Count)) with
       |true=>
        refine⟨fun h=>?_,fun _=>rfl⟩
        simp only[Bool.and_eq_true,Bool.or_eq_true,decide_eq_true_eq] at h hb
        omega
       |false=>
        simp only[Bool.or_eq_false_iff,decide_eq_false_iff_not] at hb
        have h0:decide (0≤m.From[i])=true:=decide_eq_true (by omega)
        have h1:decide (m.From[i]<m.Count)=true:=decide_eq_true (by omega)
        simp only[cond_false,h0,h1,Bool.true_and]
        rw[cY (i:=m.From[i].toNat) false (by omega) (by rw[uX];omega)]
        have hg:(jJ m i).getD m.From[i].toNat false=(m.From.take i).elem m.From[i]:=by
         have hl:m.From[i].toNat<m.Count.toNat:=by omega
         unfold jJ
         simp only[List.getD,List.getElem?_map,List.getElem?_range hl,Option.map_some,Option.getD_some]
         rw[show((m.From[i].toNat:Nat):Int)=m.From[i] by omega]
        rw[hg]
        simp only[ae]
        cases (m.From.take i).elem m.From[i] with
        |true=>exact⟨fun h=>(by simp at h),fun _=>rfl⟩
        |false=>
         refine⟨fun _=>?_,fun h=>(by simp at h)⟩
         rw[←uY m i hi (by omega)]
         rfl
   · have hd:decide ((m.From.length:Int)<(m.From.length:Int))=false:=decide_eq_false (by omega)
     simp only[hd,cond_false]
   · simp only[jJ,List.take_zero]
     rw[Prod.mk.injEq]
     refine⟨?_,rfl⟩
     apply List.ext_getElem
     · simp
     · intro j h1 h2;simp
end Go.Proofs.YtobbmodjdkcdcaaGreatDoor
