import Derived.Test.YtobbmodjdkcdcaaGreatDoorLawHash
set_option linter.unusedVariables false
set_option linter.unusedSimpArgs false
set_option maxRecDepth 20000
namespace Go.Proofs.YtobbmodjdkcdcaaGreatDoor
open Go Go.Sim
set_option linter.unusedSectionVars false
variable [Fu]
def IV:List Int:=[1779033703,3144134277,1013904242,2773480762,1359893119,2600822924,528734635,1541459225]
def chunk (m:List Int) (i:Nat):List Int:=(m.drop (64*i)).take 64
def cmp (m:List Int):Nat→List Int
 |0=>IV
 |n+1=>blk glob0 (cmp m n) (chunk m n)
theorem qv (m:List Int):∀n,(cmp m n).length=8
 |0=>rfl
 |n+1=>by rw[cmp,Ae (qv m n)]
theorem xO {p q:List Int} {i:Nat} (h:64*(i+1)≤p.length):chunk (p++q) i=chunk p i:=by
 unfold chunk
 rw[List.drop_append_of_le_length (by omega),List.take_append_of_le_length (by simp;omega)]
theorem tL {p q:List Int}:∀{n:Nat},64*n≤p.length→cmp (p++q) n=cmp p n
 |0,_=>rfl
 |n+1,h=>by rw[cmp,cmp,tL (by omega),xO h]
structure HR (h:az) (q:List Int):Prop where
 n:h.n=q.length
 tl:h.tail.length=64
 tail:h.tail.take (q.length%64)=q.drop (64*(q.length / 64))
 words:h.words=cmp q (q.length / 64)
structure HR0 (h:az) (q:List Int):Prop where
 n:h.n=q.length
 tl:h.tail.length=64
 tail:h.tail.take (q.length%64)=q.drop (64*(q.length / 64))
 words:64≤q.length→h.words=cmp q (q.length / 64)
theorem HR.zero {h:az} {q:List Int} (r:HR h q):HR0 h q:=⟨r.n,r.tl,r.tail,fun _=>r.words⟩
theorem kP {xs ys:List Int} {lo hi:Nat} (h1:lo≤hi) (h2:hi≤xs.length):over xs lo hi ys=xs.take lo++ys.take (hi - lo)++xs.drop (lo+min ys.length (hi - lo)):=by
 unfold over;rfl
theorem yU:∃h,ke=some h∧HR0 h []:=⟨_,rfl,⟨rfl,by simp,by simp,fun h=>by simp at h⟩⟩
theorem mQ {h:az} {q a:List Int} (hr:HR0 h q) (hb:q.length+a.length<2^60):∃h',cX h a=some h'∧HR h' (q++a):=by
 unfold cX
 have hfirst:∃h1,(bif decide (h.n<64) then(jP).bind fun y91=>some ({h with words:=y91}:az) else some h:Option az)=some h1∧HR h1 q:=by
  by_cases hlt:q.length<64
  · have e:decide (h.n<64)=true:=by rw[hr.n];simp;omega
    rw[e]
    refine⟨_,rfl,hr.n,hr.tl,hr.tail,?_⟩
    have:q.length / 64=0:=by omega
    rw[this];rfl
  · have e:decide (h.n<64)=false:=by rw[hr.n];simp;omega
    rw[e]
    exact⟨h,rfl,hr.n,hr.tl,hr.tail,hr.words (by omega)⟩
 obtain⟨h1,e1,r1⟩:=hfirst
 rw[e1]
 simp only[af]
 refine yM (wT (P:=fun s=>∃p,HR s.2 p∧p++s.1=q++a) (Q:=fun h'=>HR h' (q++a)) (fun s=>s.1.length) ?_ (s:=(a,h1)) ⟨q,r1,rfl⟩)
 rintro⟨rest,k⟩ ⟨p,hk,he⟩
 simp only at hk he⊢
 have hlen:p.length+rest.length=q.length+a.length:=by have:=congrArg List.length he;simpa using this
 cases hrest:rest with
 |nil=>
  subst hrest
  left
  refine⟨k,by simp,?_⟩
  rw[List.append_nil] at he;rw[←he];exact hk
 |cons x xs=>
  right
  rw[←hrest]
  have hpos:0<rest.length:=by rw[hrest];simp
  have c0:decide ((rest.length:Int)>0)=true:=by simp;omega
  rw[c0,hk.n]
  have em:Int.tmod (p.length:Int) 64=((p.length%64:Nat):Int):=rfl
  have hr64:p.length%64<64:=Nat.mod_lt _ (by decide)
  simp only[cond_true,em,Int.toNat_natCast]
  generalize hrr:p.length%64=r at hr64
  have g1:decide ((0:Int)≤(r:Int)∧(r:Int)≤64∧(64:Int)≤64)=true:=by simp;omega
  have e64:Int.toNat 64=64:=rfl
  have g2:decide (r≤Int.toNat 64∧Int.toNat 64≤64)=true:=by simp;omega
  rw[g1,g2]
  simp only[cond_true,e64]
  generalize hcc:min rest.length (64 - r)=c
  have hc1:1≤c:=by omega
  have hc2:c≤rest.length:=by omega
  have hc3:r+c≤64:=by omega
  have hsub:sub rest (c:Int) (rest.length:Int)=some (rest.drop c):=by
    unfold sub
    have d1:decide (0≤(c:Int))=true:=by simp
    have d2:decide ((c:Int)≤(rest.length:Int))=true:=by simp;omega
    rw[d1,d2];simp
  rw[hsub,gl (x:=(c:Int)) (by omega),gl (x:=(p.length:Int)+(c:Int)) (by omega)]
  simp only[af]
  have htl:=hk.tl
  have hov:over k.tail r 64 rest=k.tail.take r++rest.take (64 - r)++k.tail.drop (r+c):=by
    rw[kP (by omega) (by omega),hcc]
  have hovl:(over k.tail r 64 rest).length=64:=by rw[hov];simp;omega
  have htail:=hk.tail
  rw[hrr] at htail
  have hq':(p++rest.take c)++rest.drop c=q++a:=by rw[List.append_assoc,List.take_append_drop,he]
  have hpl:(p++rest.take c).length=p.length+c:=by simp;omega
  have hdm:p.length=64*(p.length / 64)+r:=by rw[←hrr];exact(Nat.div_add_mod _ _).symm
  have e2:Int.tmod ((p.length:Int)+(c:Int)) 64=(((p.length+c)%64:Nat):Int):=by
    rw[←Int.natCast_add];rfl
  rw[e2]
  by_cases hfull:r+c=64
  · have hz:(p.length+c)%64=0:=by omega
    have hd:(p.length+c) / 64=p.length / 64+1:=by omega
    rw[hz]
    simp only[Int.ofNat_zero,Int.natCast_zero,beq_self_eq_true,cond_true]
    have hov2:over k.tail r 64 rest=chunk (p++rest.take c) (p.length / 64):=by
      rw[hov,htail]
      unfold chunk
      have:k.tail.drop (r+c)=[]:=List.drop_eq_nil_of_le (by omega)
      have hl3:(p.drop (64*(p.length / 64))++rest.take c).length=64:=by simp;omega
      rw[this,List.append_nil,show 64 - r=c by omega,List.drop_append_of_le_length (by omega)]
      exact(List.take_of_length_le (by omega)).symm
    rw[wb (by rw[hk.words,qv]) hovl]
    simp only[af]
    refine⟨_,rfl,⟨p++rest.take c,⟨?_,hovl,?_,?_⟩,hq'⟩,?_⟩
    · simp only[hpl];omega
    · rw[hpl,hz,hd]
      simp only[List.take_zero]
      exact(List.drop_eq_nil_of_le (by rw[hpl];omega)).symm
    · rw[hpl,hd,cmp,tL (by omega),←hov2,hk.words]
    · simp;omega
  · have hz:(p.length+c)%64=r+c:=by omega
    have hd:(p.length+c) / 64=p.length / 64:=by omega
    have hne:((((p.length+c)%64:Nat):Int)==0)=false:=by rw[hz];simp;omega
    rw[hne]
    simp only[cond_false]
    refine⟨_,rfl,⟨p++rest.take c,⟨?_,hovl,?_,?_⟩,hq'⟩,?_⟩
    · show(p.length:Int)+(c:Int)=(((p++rest.take c).length:Nat):Int)
      rw[hpl];simp
    · have hcr:c=rest.length:=by omega
      rw[hpl,hz,hd]
      show(over k.tail r 64 rest).take (r+c)=_
      rw[hov,htail]
      have ht2:rest.take (64 - r)=rest.take c:=by rw[List.take_of_length_le (by omega),List.take_of_length_le (by omega)]
      have hl2:(p.drop (64*(p.length / 64))++rest.take (64 - r)).length=r+c:=by simp;omega
      rw[List.take_append_of_le_length (by omega),List.take_of_length_le (by omega),ht2,List.drop_append_of_le_length (by omega)]
    · rw[hpl,hd,tL (by omega)];exact hk.words
    · simp;omega
end Go.Proofs.YtobbmodjdkcdcaaGreatDoor
