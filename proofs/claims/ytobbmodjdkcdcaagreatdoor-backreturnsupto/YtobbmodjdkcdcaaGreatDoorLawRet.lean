import Derived.Test.YtobbmodjdkcdcaaGreatDoorLawInside
import Derived.Test.YtobbmodjdkcdcaaGreatDoorLawRead
import Derived.Test.YtobbmodjdkcdcaaGreatDoorLawChecksM
set_option linter.unusedVariables false
set_option linter.unusedSimpArgs false
set_option linter.unusedSectionVars false
set_option maxRecDepth 20000
set_option maxHeartbeats 1000000
namespace Go.Proofs.YtobbmodjdkcdcaaGreatDoor
open Go Go.Sim
variable [Fu]
theorem zd:fZ ⟨0,[]⟩=some 0:=by
 unfold fZ
 rw[Loop.run_done (r:=0) rfl];rfl
theorem wj:fI ⟨0,[]⟩=some []:=by
 unfold fI
 rw[Loop.run_done (r:=[]) rfl];rfl
theorem Al {α:Type} {n q:Nat} {f g:Nat→α} {v:α} (h:q<n) (hv:v=g q) (hs:∀p,p<n→p≠q→f p=g p):List.set ((List.range n).map f) q v=(List.range n).map g:=by
 subst hv
 apply List.ext_getElem
 · simp
 · intro p h1 h2
   rw[List.getElem_set]
   simp only[List.getElem_map,List.getElem_range]
   split
   · rename_i e;rw[e]
   · rename_i e;exact hs p (by simpa using h2) (by omega)
theorem uU {α:Type} {n:Nat} {f g:Nat→α} (hs:∀p,p<n→f p=g p):(List.range n).map f=(List.range n).map g:=by
 apply List.map_congr_left
 intro p hp;exact hs p (by simpa using hp)
section
variable (key:List Int) (l:Int) (fr:List Int) (ns cs:List (List Int))
def hitB (q i:Nat):Bool:=fr.getD i 0==(q:Int)&&(insS l (cs.getD i [])).2
def fQ (q:Nat):Nat→List Int
 |0=>List.replicate 320 0
 |i+1=>bif hitB l fr cs q i then(ansB key (ns.getD q []) l (cs.getD i [])).1 else fQ q i
end
section
variable {key:List Int} {l:Int} {fr:List Int} {ns cs:List (List Int)}
structure Ctx (key:List Int) (l:Int) (fr:List Int) (ns cs:List (List Int)):Prop where
 hk:key.length=32
 hl:1≤l∧l≤8
 hcs:∀i,i<cs.length→(cs.getD i []).length=320∧aS (cs.getD i [])
 hns:∀q,q<ns.length→(ns.getD q []).length=16∧aS (ns.getD q [])
 hlen:cs.length=fr.length
 hfl:fr.length≤256
 hnl:ns.length≤256
 hfr:∀i,i<fr.length→fr.getD i 0<ns.length
 hinj:∀i j,i<j→j<fr.length→0≤fr.getD j 0→fr.getD i 0≠fr.getD j 0
theorem ze {q i:Nat}:hitB l fr cs q i=true↔fr.getD i 0=(q:Int)∧(insS l (cs.getD i [])).2=true:=by
 unfold hitB;rw[Bool.and_eq_true,beq_iff_eq]
theorem tX (x:Ctx key l fr ns cs) {q:Nat} (hq:q<ns.length):∀i,i≤fr.length→(fQ key l fr ns cs q i).length=320∧aS (fQ key l fr ns cs q i)
 |0,_=>⟨by simp[fQ],fun b h=>by unfold fQ at h;rw[List.eq_of_mem_replicate h];omega⟩
 |i+1,h=>by
  unfold fQ
  cases hh:hitB l fr cs q i with
  |false=>exact tX x hq i (by omega)
  |true=>
   obtain⟨_,h2⟩:=ze.1 hh
   obtain⟨c1,c2⟩:=x.hcs i (by rw[x.hlen];omega)
   obtain⟨n1,n2⟩:=x.hns q hq
   obtain⟨_,p2,p3,_⟩:=xQ (key:=key) n1 n2 c1 c2 x.hl h2
   exact⟨p2,p3⟩
theorem uV {q i:Nat}:∀k,i≤k→(∀j,i≤j→j<k→hitB l fr cs q j=false)→fQ key l fr ns cs q k=fQ key l fr ns cs q i
 |0,h,_=>by rw[show i=0 by omega]
 |k+1,h,hj=>by
  by_cases e:i=k+1
  · rw[e]
  · rw[fQ,hj k (by omega) (by omega),cond_false]
    exact uV k (by omega) fun j a b=>hj j a (by omega)
end
def kp (key:List Int) (l:Int) (fr:List Int) (ns cs:List (List Int)):List (List Int):=(List.range ns.length).map fun q=>fQ key l fr ns cs q fr.length
end Go.Proofs.YtobbmodjdkcdcaaGreatDoor
