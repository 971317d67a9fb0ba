import Derived.Test.YtlkjdchmeihhkaaGreatDoorLawTape
set_option autoImplicit true
set_option relaxedAutoImplicit true
set_option linter.all false
set_option maxRecDepth 20000
namespace Go.Proofs.YtlkjdchmeihhkaaGreatDoor
open Go Go.Sim
open Go.IntKind (wrap)
variable [Fu]
def sS (bs:List Int) (b:Int):Nat→Nat→Option (Int×Nat)|0,_=>none|k+1,u=>bif decide (bs.getD u 0<256 - Int.tmod 256 b) then some (Int.tmod (bs.getD u 0) b,u+1) else sS bs b k (u+1)
def vC (bs:List Int) (u:Nat) (b:Int):Option (Int×Nat):=bif b==1 then some (0,u) else sS bs b (bs.length - u) u
def O0 (b:Int):Bool:=decide (b≥1)&&decide (b≤256)
def BJ (bs:List Int) (u:Nat) (b:Int):Int×bQ×Int:=bif !O0 b then(0,⟨[],0⟩,2) else match vC bs u b with|some (d,v)=>(d,⟨bs,(v:Int)⟩,0)|none=>(0,⟨[],0⟩,3)
theorem sT {bs:List Int} (h:bW bs) (u:Nat):0≤bs.getD u 0∧bs.getD u 0≤255:=by by_cases c:u<bs.length;simp only[List.getD,Ho c,Hi];exact h _ (GV c);simp only[List.getD,HB (by omega:bs.length≤u),IT];omega
theorem rR {bs:List Int} {b:Int} (a:bW bs) (h1:1≤b):∀{k u:Nat} {d:Int} {v:Nat},sS bs b k u=some (d,v)→0≤d∧d<b∧u<v∧v≤u+k|0,_,_,_,h=>by cases h|k+1,u,d,v,h=>by simp only[sS] at h;cases c:decide (bs.getD u 0<256 - Int.tmod 256 b) with|true=>rw[c,Gy] at h;cases h;exact⟨Int.tmod_nonneg _ (sT a u).1,Int.tmod_lt_of_pos _ (by omega),by omega,by omega⟩|false=>rw[c,Gx] at h;have:=rR a h1 h;omega
theorem rS {bs:List Int} {b:Int} {u:Nat} {d:Int} {v:Nat} (a:bW bs) (h1:1≤b) (c:u≤bs.length) (h:vC bs u b=some (d,v)):0≤d∧d<b∧u≤v∧v≤bs.length:=by unfold vC at h;cases c:(b==1) with|true=>have:=J4 c;rw[c,Gy] at h;cases h;omega|false=>rw[c,Gx] at h;have:=rR a h1 h;omega
theorem BK {bs:List Int} {u:Nat} {b:Int} (a:bW bs) (c:bs.length<2^31) (e:u≤bs.length):gP ⟨bs,(u:Int)⟩ b=some (BJ bs u b):=by
 unfold gP iq BJ
 simp only[aF]
 show(bif !O0 b then _ else _)=_
 cases d:O0 b with
 |false=>rfl
 |true=>
  simp only[O0,GH,GM] at d
  simp only[G9,Gx,vC]
  cases f:(b==1) with
  |true=>rfl
  |false=>
   have d:b≠1:=by simpa using f
   have d:decide (b≠0)=true:=Gz (by omega)
   have h:0≤Int.tmod 256 b:=Int.tmod_nonneg _ (by omega)
   have h:Int.tmod 256 b<b:=Int.tmod_lt_of_pos _ (by omega)
   have h:wrap .i64 (256 - Int.tmod 256 b)=256 - Int.tmod 256 b:=wrap64 (by omega)
   simp only[Gx,d,Gy,h]
   have h:∀k u,bs.length - u=k→u≤bs.length→Loop.run (S:=bQ) (R:=(Int×bQ×Int)) (λd=>
     (ga d).bind λd=>
     bif d.2.2 != 0 then
      some (.done (0,(⟨[],(0:Int)⟩:bQ),d.2.2))
     else
      bif decide ((wrap .i64 d.1)<256 - Int.tmod 256 b) then
       some (.done (Int.tmod (wrap .i64 d.1) b,d.2.1,0))
      else
       some (.next d.2.1)) ⟨bs,(u:Int)⟩=some (match sS bs b k u with|some (d,v)=>(d,⟨bs,(v:Int)⟩,0)|none=>(0,⟨[],0⟩,3)):=by
    intro k
    induction k with
    |zero=>
     intro u f d
     refine Km ?_
     rw[tc d c,GA (by omega:¬u<bs.length)]
     rfl
    |succ k i=>
     intro u f d
     have f:u<bs.length:=by omega
     have j:=sT a u
     have a:wrap .i64 (bs.getD u 0)=bs.getD u 0:=wrap64 (by omega)
     simp only[sS]
     cases j:decide (bs.getD u 0<256 - Int.tmod 256 b) with
     |true=>
      refine Km ?_
      rw[tc d c,Gz f]
      simp only[Gy,aF,GQ,Gx,a,j]
     |false=>
      simp only[Gx]
      rw[←i (u+1) (by omega) (by omega)]
      refine Kx ?_
      rw[tc d c,Gz f]
      simp only[Gy,aF,GQ,Gx,a,j]
   rw[h _ u rfl e]
   rfl
theorem Fl {step : Int → Option (md Int (Unit ⊕ Int))} (f : Nat → Bool) (n : Nat) (hd : ∀ i : Nat, i < n → (f i = true → step (i : Int) = some (.next ((i + 1 : Nat) : Int))) ∧ (f i = false → step (i : Int) = some (.done (.inr (i : Int))))) (a : step (n : Int) = some (.done (.inl ()))) : ∃r,Loop.run step 0=some r∧((r= .inl ()∧fh f n 0=true)∨∃i:Nat,i<n∧r= .inr (i:Int)∧fh f n 0=false):=by (have d:∀c i:Nat,n - i=c→i≤n→∃r,Loop.run step (i:Int)=some r∧((r= .inl ()∧fh f c i=true)∨∃j:Nat,j<n∧r= .inr (j:Int)∧fh f c i=false):=by intro c;induction c with| zero => (intro i b e; have : i = n := by omega);subst this;exact⟨_,Km a,.inl ⟨rfl,rfl⟩⟩|succ c c=>intro i b e;obtain⟨a,b⟩:=hd i (by omega);cases e:f i with|true=>obtain⟨r,h,j⟩:=c (i+1) (by omega) (by omega);refine⟨r,by rw[Kx (a e)];exact h,?_⟩;simp only[fh,e,HK];exact j|false=>exact⟨_,Km (b e),.inr ⟨i,by omega,rfl,by simp only[fh,e,J1]⟩⟩);exact d n 0 (by omega) (by omega)
def Og (l:List Int):Bool:=fh (λi=>O0 (l.getD i 0)) l.length 0
theorem Ah {l:List Int} (a:l.length<2^31):dc l=some (!Og l):=by
 unfold dc ej ly iq
 simp only[aF]
 obtain⟨r,a,b⟩:=Fl (step:=(λc=>
    bif decide (c<(l.length:Int)) then
     (idx l c).bind λd=>
     bif !((decide (d≥1))&&(decide (d≤256))) then
      some (.done (.inr c))
     else
      some (.next (wrap .i64 (c+1)))
    else
     some (.done (.inl ())) : Int → Option (md Int (Unit ⊕ Int)))) (λi => O0 (l.getD i 0)) l.length (λi c => by
   have d:decide ((i:Int)<(l.length:Int))=true:=Gz (by omega)
   simp only[d,Gy]
   rw[bP rfl c,wrap64 (x:=(i:Int)+1) (by omega)]
   simp only[aF]
   show(O0 (l.getD i 0)=true→(bif !O0 (l.getD i 0) then _ else _)=_)∧(O0 (l.getD i 0)=false→(bif !O0 (l.getD i 0) then _ else _)=_)
   cases O0 (l.getD i 0) with
   |true=>exact⟨λ_=>rfl,λh=>(by cases h)⟩
   |false=>exact⟨λh=>(by cases h),λ_=>rfl⟩) (by
   have d:decide ((l.length:Int)<(l.length:Int))=false:=GA (by omega)
   simp only[d,Gx])
 rw[a]
 simp only[aF,Og]
 rcases b with⟨rfl,h⟩|⟨i,c,rfl,h⟩
 · rw[h];rfl
 · rw[h]
   simp only[aF,IH]
   rw[Gz (show(i:Int)≥0 by omega)]
def tK (bs:List Int):List Int→Nat→Option (List Int×Nat)|[],u=>some ([],u)|b::r,u=>match vC bs u b with|none=>none|some (d,v)=>match tK bs r v with|none=>none|some (a,w)=>some (d::a,w)
def Cu (bs l:List Int):List Int×Int×Int:=bif Og l then(match tK bs l 0 with|some (a,w)=>(a,(w:Int),0)|none=>([],0,3)) else([],0,2)
theorem vi {l:List Int} (h:Og l=true):∀b∈l,1≤b∧b≤256:=by intro b a;obtain⟨i,c,rfl⟩:=Ii a;have:=f9.1 h i (GX _) (by omega);simp only[List.getD,Ho c,Hi,O0,GH,GM] at this;omega
theorem qQ {bs:List Int} (a:bW bs):∀{l:List Int} {u:Nat} {ds:List Int} {w:Nat},(∀b∈l,1≤b∧b≤256)→u≤bs.length→tK bs l u=some (ds,w)→ds.length=l.length∧(∀i,i<l.length→0≤ds.getD i 0∧ds.getD i 0<l.getD i 0)∧u≤w∧w≤bs.length|[],u,ds,w,_,c,h=>by cases h;exact⟨rfl,λi e=>by simp at e,by omega,c⟩|b::r,u,ds,w,f,c,h=>by simp only[tK] at h;split at h;cases h;rename_i d v d;have j:=rS a (f b (by simp)).1 c d;split at h;cases h;rename_i c c c;cases h;have d:=qQ a (λq a=>f q (by simp[a])) (by omega) c;refine⟨by simp[d.1],λi e=>?_,by omega,by omega⟩;cases i with|zero=>simpa using⟨j.1,j.2.1⟩|succ i=>simpa using d.2.1 i (by simpa using e)
theorem Da {ds:List Int} {m:Nat} {d:Int}:List.set (ds++List.replicate (m+1) 0) ds.length d=(ds++[d])++List.replicate m 0:=by rw[II _ _ (GZ _),IZ,H1,IX,GW];rfl
theorem Ai {bs l:List Int} (a:bW bs) (c:bs.length<2^31) (b:l.length<2^31):li bs l=some (Cu bs l):=by
 unfold li Cu
 rw[pv b,Gy,GG]
 unfold fZ
 rw[Ah b]
 simp only[aF]
 cases b:Og l with
 |false=>rfl
 |true=>
  simp only[G9,Gx,Gy]
  rw[Ey a]
  simp only[aF]
  have f:=vi b
  have h:∀(r i j:List Int) (u:Nat),l=i++r→j.length=i.length→u≤bs.length→(match tK bs r u with
    | some (k, w) => Loop.run (S := (Int × bQ × (List Int))) (R := ((bQ × (List Int)) ⊕ (Int × Int × (List Int)))) (λx =>
    bif decide (x.1<(l.length:Int)) then
     (idx l x.1).bind λm=>
     (gP x.2.1 m).bind λn=>
     bif n.2.2 != 0 then
      some (.done (.inr (0,n.2.2,x.2.2)))
     else
      (eT n.2.1).bind λo=>
      (iJ x.1 (wrap .i64 (o - 1)) n.1 x.2.2).bind λp=>
      some (.next (wrap .i64 (x.1+1),n.2.1,p))
    else
     some (.done (.inl (x.2.1,x.2.2)))) ((i.length:Int),⟨bs,(u:Int)⟩,j++List.replicate r.length 0)=some (.inl (⟨bs,(w:Int)⟩,j++k))
    | none => ∃ z, Loop.run (S := (Int × bQ × (List Int))) (R := ((bQ × (List Int)) ⊕ (Int × Int × (List Int)))) (λx =>
    bif decide (x.1<(l.length:Int)) then
     (idx l x.1).bind λm=>
     (gP x.2.1 m).bind λn=>
     bif n.2.2 != 0 then
      some (.done (.inr (0,n.2.2,x.2.2)))
     else
      (eT n.2.1).bind λo=>
      (iJ x.1 (wrap .i64 (o - 1)) n.1 x.2.2).bind λp=>
      some (.next (wrap .i64 (x.1+1),n.2.1,p))
    else
     some (.done (.inl (x.2.1,x.2.2)))) ((i.length:Int),⟨bs,(u:Int)⟩,j++List.replicate r.length 0)=some (.inr (0,3,z))):=by
   intro r
   induction r with
   |nil=>
    intro i j u e s t
    simp only[tK,Ha,JV,HY]
    refine Km ?_
    have:decide ((i.length:Int)<(l.length:Int))=false:=GA (by rw[e];simp)
    simp only[this,Gx]
   |cons b r x=>
    intro i j u e s t
    have d:l.length=i.length+(r.length+1):=by rw[e];simp
    have y:decide ((i.length:Int)<(l.length:Int))=true:=Gz (by omega)
    have A:l.getD i.length 0=b:=by rw[e];simp[List.getD]
    have d:O0 b=true:=by
     have:=f b (by rw[e];simp)
     simp only[O0,GH,GM];omega
    have B:=BK (u:=u) (b:=b) a c t
    unfold BJ at B
    rw[d,G9,Gx] at B
    simp only[tK]
    cases c:vC bs u b with
    |none=>
     rw[c] at B
     refine⟨j++List.replicate (b::r).length 0,Km ?_⟩
     simp only[y,Gy]
     rw[bP rfl (by omega),A]
     simp only[aF]
     rw[B];rfl
    |some q=>
     obtain⟨d,v⟩:=q
     rw[c] at B
     have C:=rS a (f b (by rw[e];simp)).1 t c
     have a:(bif decide ((i.length:Int)<(l.length:Int)) then
      (idx l (i.length:Int)).bind λm=>
      (gP ⟨bs,(u:Int)⟩ m).bind λn=>
      bif n.2.2 != 0 then
       some (.done (.inr (0,n.2.2,j++List.replicate (b::r).length 0)))
      else
       (eT n.2.1).bind λo=>
       (iJ (i.length:Int) (wrap .i64 (o - 1)) n.1 (j++List.replicate (b::r).length 0)).bind λp=>
       some (.next (wrap .i64 ((i.length:Int)+1),n.2.1,p))
     else
      some (.done (.inl ((⟨bs, (u : Int)⟩ : bQ), j ++ List.replicate (b :: r).length 0)))) = (some (.next (((i ++ [b]).length : Int), (⟨bs, (v : Int)⟩ : bQ), (j ++ [d]) ++ List.replicate r.length 0)) : Option (md (Int × bQ × (List Int)) ((bQ × (List Int)) ⊕ (Int × Int × (List Int))))) := by
      rw[y,Gy,bP rfl (by omega),A]
      simp only[aF]
      rw[B]
      simp only[aF,GQ,Gx,eT,iJ]
      rw[bP (i:=i.length) rfl (by simp;omega)]
      simp only[aF]
      rw[GG,←s,GT,Da,wrap64 (by omega),s]
      simp
     have c:=x (i++[b]) (j++[d]) v (by rw[e];simp) (by simp[s]) C.2.2.2
     cases b:tK bs r v with
     |none=>
      rw[b] at c
      obtain⟨z,d⟩:=c
      simp only[b]
      exact⟨z,(Kx a).trans d⟩
     |some q=>
      obtain⟨k,w⟩:=q
      rw[b] at c
      simp only at c
      simp only[b]
      rw[Kx a,c]
      simp
  have a:=h l [] [] 0 rfl rfl (GX _)
  cases s:tK bs l 0 with
  |none=>
   rw[s] at a
   obtain⟨z,d⟩:=a
   have b:=d
   simp only[Ha,GS] at b
   rw[show(((0:Nat):Int))=0 from rfl] at b
   rw[b];rfl
  |some q=>
   obtain⟨k,w⟩:=q
   rw[s] at a
   simp only[Ha,GS] at a
   rw[show(((0:Nat):Int))=0 from rfl] at a
   rw[a];rfl
end Go.Proofs.YtlkjdchmeihhkaaGreatDoor
