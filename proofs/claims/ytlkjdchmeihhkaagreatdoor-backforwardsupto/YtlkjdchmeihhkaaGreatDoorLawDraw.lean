import Derived.Test.YtlkjdchmeihhkaaGreatDoorLawTape
set_option autoImplicit true
set_option relaxedAutoImplicit true
set_option linter.all false
set_option maxRecDepth 20000
namespace Go.Proofs.YtlkjdchmeihhkaaGreatDoor
open Go Go.Sim
open Go.IntKind (wrap)
variable [Fu]
def qR (bs:List Int) (b:Int):Nat→Nat→Option (Int×Nat)|0,_=>none|k+1,u=>bif decide (bs.getD u 0<256 - Int.tmod 256 b) then some (Int.tmod (bs.getD u 0) b,u+1) else qR bs b k (u+1)
def tH (bs:List Int) (u:Nat) (b:Int):Option (Int×Nat):=bif b==1 then some (0,u) else qR bs b (bs.length - u) u
def Qh (b:Int):Bool:=decide (b≥1)&&decide (b≤256)
def Dh (bs:List Int) (u:Nat) (b:Int):Int×bz×Int:=bif !Qh b then(0,⟨[],0⟩,2) else match tH bs u b with|some (d,v)=>(d,⟨bs,(v:Int)⟩,0)|none=>(0,⟨[],0⟩,3)
theorem gi {bs:List Int} (h:aV bs) (u:Nat):0≤bs.getD u 0∧bs.getD u 0≤255:=by by_cases c:u<bs.length;simp only[List.getD,IW c,Jb];exact h _ (IF c);simp only[List.getD,Jx (by omega:bs.length≤u),KN];omega
theorem uK {bs:List Int} {b:Int} (a:aV bs) (h1:1≤b):∀{k u:Nat} {d:Int} {v:Nat},qR bs b k u=some (d,v)→0≤d∧d<b∧u<v∧v≤u+k|0,_,_,_,h=>by cases h|k+1,u,d,v,h=>by simp only[qR] at h;cases c:decide (bs.getD u 0<256 - Int.tmod 256 b) with|true=>rw[c,Im] at h;cases h;exact⟨Int.tmod_nonneg _ (gi a u).1,Int.tmod_lt_of_pos _ (by omega),by omega,by omega⟩|false=>rw[c,Il] at h;have:=uK a h1 h;omega
theorem qS {bs:List Int} {b:Int} {u:Nat} {d:Int} {v:Nat} (a:aV bs) (h1:1≤b) (c:u≤bs.length) (h:tH bs u b=some (d,v)):0≤d∧d<b∧u≤v∧v≤bs.length:=by unfold tH at h;cases c:(b==1) with|true=>have:=eq_of_beq c;rw[c,Im] at h;cases h;omega|false=>rw[c,Il] at h;have:=uK a h1 h;omega
theorem Di {bs:List Int} {u:Nat} {b:Int} (a:aV bs) (c:bs.length<2^31) (e:u≤bs.length):iY ⟨bs,(u:Int)⟩ b=some (Dh bs u b):=by
 unfold iY jC Dh
 simp only[aB]
 show(bif !Qh b then _ else _)=_
 cases d:Qh b with
 |false=>rfl
 |true=>
  simp only[Qh,Ix,IB] at d
  simp only[IQ,Il,tH]
  cases f:(b==1) with
  |true=>rfl
  |false=>
   have d:b≠1:=by simpa using f
   have d:decide (b≠0)=true:=Io (by omega)
   have h:0≤Int.tmod 256 b:=Int.tmod_nonneg _ (by omega)
   have h:Int.tmod 256 b<b:=Int.tmod_lt_of_pos _ (by omega)
   have h:wrap .i64 (256 - Int.tmod 256 b)=256 - Int.tmod 256 b:=wrap64 (by omega)
   simp only[Il,d,Im,h]
   have h:∀k u,bs.length - u=k→u≤bs.length→Loop.run (S:=bz) (R:=(Int×bz×Int)) (λd=>
     (gX d).bind λd=>
     bif d.2.2 != 0 then
      some (.done (0,(⟨[],(0:Int)⟩:bz),d.2.2))
     else
      bif decide ((wrap .i64 d.1)<256 - Int.tmod 256 b) then
       some (.done (Int.tmod (wrap .i64 d.1) b,d.2.1,0))
      else
       some (.next d.2.1)) ⟨bs,(u:Int)⟩=some (match qR bs b k u with|some (d,v)=>(d,⟨bs,(v:Int)⟩,0)|none=>(0,⟨[],0⟩,3)):=by
    intro k
    induction k with
    |zero=>
     intro u f d
     refine Mp ?_
     rw[vW d c,Ip (by omega:¬u<bs.length)]
     rfl
    |succ k i=>
     intro u f d
     have f:u<bs.length:=by omega
     have j:=gi a u
     have a:wrap .i64 (bs.getD u 0)=bs.getD u 0:=wrap64 (by omega)
     simp only[qR]
     cases j:decide (bs.getD u 0<256 - Int.tmod 256 b) with
     |true=>
      refine Mp ?_
      rw[vW d c,Io f]
      simp only[Im,aB,IH,Il,a,j]
     |false=>
      simp only[Il]
      rw[←i (u+1) (by omega) (by omega)]
      refine My ?_
      rw[vW d c,Io f]
      simp only[Im,aB,IH,Il,a,j]
   rw[h _ u rfl e]
   rfl
theorem Hh {step : Int → Option (tj Int (Unit ⊕ Int))} (f : Nat → Bool) (n : Nat) (hd : ∀ i : Nat, i < n → (f i = true → step (i : Int) = some (.next ((i + 1 : Nat) : Int))) ∧ (f i = false → step (i : Int) = some (.done (.inr (i : Int))))) (a : step (n : Int) = some (.done (.inl ()))) : ∃r,Loop.run step 0=some r∧((r= .inl ()∧fN f n 0=true)∨∃i:Nat,i<n∧r= .inr (i:Int)∧fN f n 0=false):=by (have d:∀c i:Nat,n - i=c→i≤n→∃r,Loop.run step (i:Int)=some r∧((r= .inl ()∧fN f c i=true)∨∃j:Nat,j<n∧r= .inr (j:Int)∧fN f c i=false):=by intro c;induction c with| zero => (intro i b e; have : i = n := by omega);subst this;exact⟨_,Mp a,.inl ⟨rfl,rfl⟩⟩|succ c c=>intro i b e;obtain⟨a,b⟩:=hd i (by omega);cases e:f i with|true=>obtain⟨r,h,j⟩:=c (i+1) (by omega) (by omega);refine⟨r,by rw[My (a e)];exact h,?_⟩;simp only[fN,e,JE];exact j|false=>exact⟨_,Mp (b e),.inr ⟨i,by omega,rfl,by simp only[fN,e,LL]⟩⟩);exact d n 0 (by omega) (by omega)
def Qw (l:List Int):Bool:=fN (λi=>Qh (l.getD i 0)) l.length 0
theorem BU {l:List Int} (a:l.length<2^31):da l=some (!Qw l):=by
 unfold da ek ny jC
 simp only[aB]
 obtain⟨r,a,b⟩:=Hh (step:=(λc=>
    bif decide (c<(l.length:Int)) then
     (idx l c).bind λd=>
     bif !((decide (d≥1))&&(decide (d≤256))) then
      some (.done (.inr c))
     else
      some (.next (wrap .i64 (c+1)))
    else
     some (.done (.inl ())) : Int → Option (tj Int (Unit ⊕ Int)))) (λi => Qh (l.getD i 0)) l.length (λi c => by
   have d:decide ((i:Int)<(l.length:Int))=true:=Io (by omega)
   simp only[d,Im]
   rw[aK rfl c,wrap64 (x:=(i:Int)+1) (by omega)]
   simp only[aB]
   show(Qh (l.getD i 0)=true→(bif !Qh (l.getD i 0) then _ else _)=_)∧(Qh (l.getD i 0)=false→(bif !Qh (l.getD i 0) then _ else _)=_)
   cases Qh (l.getD i 0) with
   |true=>exact⟨λ_=>rfl,λh=>(by cases h)⟩
   |false=>exact⟨λh=>(by cases h),λ_=>rfl⟩) (by
   have d:decide ((l.length:Int)<(l.length:Int))=false:=Ip (by omega)
   simp only[d,Il])
 rw[a]
 simp only[aB,Qw]
 rcases b with⟨rfl,h⟩|⟨i,c,rfl,h⟩
 · rw[h];rfl
 · rw[h]
   simp only[aB,JL]
   rw[Io (show(i:Int)≥0 by omega)]
def uD (bs:List Int):List Int→Nat→Option (List Int×Nat)|[],u=>some ([],u)|b::r,u=>match tH bs u b with|none=>none|some (d,v)=>match uD bs r v with|none=>none|some (a,w)=>some (d::a,w)
def wl (bs l:List Int):List Int×Int×Int:=bif Qw l then(match uD bs l 0 with|some (a,w)=>(a,(w:Int),0)|none=>([],0,3)) else([],0,2)
theorem uL {l:List Int} (h:Qw l=true):∀b∈l,1≤b∧b≤256:=by intro b a;obtain⟨i,c,rfl⟩:=JC a;have:=fv.1 h i (IG _) (by omega);simp only[List.getD,IW c,Jb,Qh,Ix,IB] at this;omega
theorem tF {bs:List Int} (a:aV bs):∀{l:List Int} {u:Nat} {ds:List Int} {w:Nat},(∀b∈l,1≤b∧b≤256)→u≤bs.length→uD bs l u=some (ds,w)→ds.length=l.length∧(∀i,i<l.length→0≤ds.getD i 0∧ds.getD i 0<l.getD i 0)∧u≤w∧w≤bs.length|[],u,ds,w,_,c,h=>by cases h;exact⟨rfl,λi e=>by simp at e,by omega,c⟩|b::r,u,ds,w,f,c,h=>by simp only[uD] at h;split at h;cases h;rename_i d v d;have j:=qS a (f b (by simp)).1 c d;split at h;cases h;rename_i c c c;cases h;have d:=tF a (λq a=>f q (by simp[a])) (by omega) c;refine⟨by simp[d.1],λi e=>?_,by omega,by omega⟩;cases i with|zero=>simpa using⟨j.1,j.2.1⟩|succ i=>simpa using d.2.1 i (by simpa using e)
theorem EG {ds:List Int} {m:Nat} {d:Int}:List.set (ds++List.replicate (m+1) 0) ds.length d=(ds++[d])++List.replicate m 0:=by rw[Lg _ _ (IL _),KS,JD,LJ,IR];rfl
theorem BV {bs l:List Int} (a:aV bs) (c:bs.length<2^31) (b:l.length<2^31):ne bs l=some (wl bs l):=by
 unfold ne wl
 rw[pv b,Im,Iq]
 unfold gO
 rw[BU b]
 simp only[aB]
 cases b:Qw l with
 |false=>rfl
 |true=>
  simp only[IQ,Il,Im]
  rw[Gr a]
  simp only[aB]
  have f:=uL b
  have h:∀(r i j:List Int) (u:Nat),l=i++r→j.length=i.length→u≤bs.length→(match uD bs r u with
    | some (k, w) => Loop.run (S := (Int × bz × (List Int))) (R := ((bz × (List Int)) ⊕ (Int × Int × (List Int)))) (λx =>
    bif decide (x.1<(l.length:Int)) then
     (idx l x.1).bind λm=>
     (iY x.2.1 m).bind λn=>
     bif n.2.2 != 0 then
      some (.done (.inr (0,n.2.2,x.2.2)))
     else
      (fa n.2.1).bind λo=>
      (jY x.1 (wrap .i64 (o - 1)) n.1 x.2.2).bind λp=>
      some (.next (wrap .i64 (x.1+1),n.2.1,p))
    else
     some (.done (.inl (x.2.1,x.2.2)))) ((i.length:Int),⟨bs,(u:Int)⟩,j++List.replicate r.length 0)=some (.inl (⟨bs,(w:Int)⟩,j++k))
    | none => ∃ z, Loop.run (S := (Int × bz × (List Int))) (R := ((bz × (List Int)) ⊕ (Int × Int × (List Int)))) (λx =>
    bif decide (x.1<(l.length:Int)) then
     (idx l x.1).bind λm=>
     (iY x.2.1 m).bind λn=>
     bif n.2.2 != 0 then
      some (.done (.inr (0,n.2.2,x.2.2)))
     else
      (fa n.2.1).bind λo=>
      (jY x.1 (wrap .i64 (o - 1)) n.1 x.2.2).bind λp=>
      some (.next (wrap .i64 (x.1+1),n.2.1,p))
    else
     some (.done (.inl (x.2.1,x.2.2)))) ((i.length:Int),⟨bs,(u:Int)⟩,j++List.replicate r.length 0)=some (.inr (0,3,z))):=by
   intro r
   induction r with
   |nil=>
    intro i j u e s t
    simp only[uD,I7,Kv,JW]
    refine Mp ?_
    have:decide ((i.length:Int)<(l.length:Int))=false:=Ip (by rw[e];simp)
    simp only[this,Il]
   |cons b r x=>
    intro i j u e s t
    have d:l.length=i.length+(r.length+1):=by rw[e];simp
    have y:decide ((i.length:Int)<(l.length:Int))=true:=Io (by omega)
    have A:l.getD i.length 0=b:=by rw[e];simp[List.getD]
    have d:Qh b=true:=by
     have:=f b (by rw[e];simp)
     simp only[Qh,Ix,IB];omega
    have B:=Di (u:=u) (b:=b) a c t
    unfold Dh at B
    rw[d,IQ,Il] at B
    simp only[uD]
    cases c:tH bs u b with
    |none=>
     rw[c] at B
     refine⟨j++List.replicate (b::r).length 0,Mp ?_⟩
     simp only[y,Im]
     rw[aK rfl (by omega),A]
     simp only[aB]
     rw[B];rfl
    |some q=>
     obtain⟨d,v⟩:=q
     rw[c] at B
     have C:=qS a (f b (by rw[e];simp)).1 t c
     have a:(bif decide ((i.length:Int)<(l.length:Int)) then
      (idx l (i.length:Int)).bind λm=>
      (iY ⟨bs,(u:Int)⟩ m).bind λn=>
      bif n.2.2 != 0 then
       some (.done (.inr (0,n.2.2,j++List.replicate (b::r).length 0)))
      else
       (fa n.2.1).bind λo=>
       (jY (i.length:Int) (wrap .i64 (o - 1)) n.1 (j++List.replicate (b::r).length 0)).bind λp=>
       some (.next (wrap .i64 ((i.length:Int)+1),n.2.1,p))
     else
      some (.done (.inl ((⟨bs, (u : Int)⟩ : bz), j ++ List.replicate (b :: r).length 0)))) = (some (.next (((i ++ [b]).length : Int), (⟨bs, (v : Int)⟩ : bz), (j ++ [d]) ++ List.replicate r.length 0)) : Option (tj (Int × bz × (List Int)) ((bz × (List Int)) ⊕ (Int × Int × (List Int))))) := by
      rw[y,Im,aK rfl (by omega),A]
      simp only[aB]
      rw[B]
      simp only[aB,IH,Il,fa,jY]
      rw[aK (i:=i.length) rfl (by simp;omega)]
      simp only[aB]
      rw[Iq,←s,IN,EG,wrap64 (by omega),s]
      simp
     have c:=x (i++[b]) (j++[d]) v (by rw[e];simp) (by simp[s]) C.2.2.2
     cases b:uD bs r v with
     |none=>
      rw[b] at c
      obtain⟨z,d⟩:=c
      simp only[b]
      exact⟨z,(My a).trans d⟩
     |some q=>
      obtain⟨k,w⟩:=q
      rw[b] at c
      simp only at c
      simp only[b]
      rw[My a,c]
      simp
  have a:=h l [] [] 0 rfl rfl (IG _)
  cases s:uD bs l 0 with
  |none=>
   rw[s] at a
   obtain⟨z,d⟩:=a
   have b:=d
   simp only[I7,IP] at b
   rw[show(((0:Nat):Int))=0 from rfl] at b
   rw[b];rfl
  |some q=>
   obtain⟨k,w⟩:=q
   rw[s] at a
   simp only[I7,IP] at a
   rw[show(((0:Nat):Int))=0 from rfl] at a
   rw[a];rfl
end Go.Proofs.YtlkjdchmeihhkaaGreatDoor
