/- A part of the proof: Wz, Xa, Xb -/
import Derived.Test.YtimfnccfnefajaaGreatDoorVWi
set_option linter.unusedSimpArgs false
set_option linter.unusedVariables false
namespace Go.Proofs
open Go.RowKit Go.Sp
theorem EBlk.two (w:World) (a b:Ev) (g h:Value):EBlk ((w.alloc (.cells (ecells a g) 33)).alloc (.cells (ecells b h) 33)) w.heap.size a g∧EBlk ((w.alloc (.cells (ecells a g) 33)).alloc (.cells (ecells b h) 33)) (w.heap.size+1) b h∧Below w.heap.size w ((w.alloc (.cells (ecells a g) 33)).alloc (.cells (ecells b h) 33)):=by
 have h1:=EBlk.new w a g
 have b2:Below (w.alloc (.cells (ecells a g) 33)).heap.size (w.alloc (.cells (ecells a g) 33)) ((w.alloc (.cells (ecells a g) 33)).alloc (.cells (ecells b h) 33)):=(Below.refl _ _).alloc (Nat.le_refl _) _
 have b1:Below w.heap.size w (w.alloc (.cells (ecells a g) 33)):=(Below.refl _ _).alloc (Nat.le_refl _) _
 have h2:=EBlk.new (w.alloc (.cells (ecells a g) 33)) b h
 rw [show (w.alloc (.cells (ecells a g) 33)).heap.size=w.heap.size+1 from by simp] at h2
 exact ⟨h1.below h1.lt b2,h2,b1.trans (b2.mono b1.size)⟩
theorem ev_cases (a b:Ev):a=b∨(a≠b∧((¬ a.kind=b.kind)∨(a.kind=b.kind∧¬ a.user=b.user)∨(a.kind=b.kind∧a.user=b.user∧¬ a.note=b.note)∨(a.kind=b.kind∧a.user=b.user∧a.note=b.note∧¬ a.tSp=b.tSp)∨(a.kind=b.kind∧a.user=b.user∧a.note=b.note∧a.tSp=b.tSp∧¬ a.tN=b.tN)∨(a.kind=b.kind∧a.user=b.user∧a.note=b.note∧a.tSp=b.tSp∧a.tN=b.tN∧¬ a.oSp=b.oSp)∨(a.kind=b.kind∧a.user=b.user∧a.note=b.note∧a.tSp=b.tSp∧a.tN=b.tN∧a.oSp=b.oSp∧¬ a.oN=b.oN)∨(a.kind=b.kind∧a.user=b.user∧a.note=b.note∧a.tSp=b.tSp∧a.tN=b.tN∧a.oSp=b.oSp∧a.oN=b.oN∧¬ a.text=b.text)∨(a.kind=b.kind∧a.user=b.user∧a.note=b.note∧a.tSp=b.tSp∧a.tN=b.tN∧a.oSp=b.oSp∧a.oN=b.oN∧a.text=b.text∧¬ a.base=b.base)∨(a.kind=b.kind∧a.user=b.user∧a.note=b.note∧a.tSp=b.tSp∧a.tN=b.tN∧a.oSp=b.oSp∧a.oN=b.oN∧a.text=b.text∧a.base=b.base∧¬ a.n=b.n)∨(a.kind=b.kind∧a.user=b.user∧a.note=b.note∧a.tSp=b.tSp∧a.tN=b.tN∧a.oSp=b.oSp∧a.oN=b.oN∧a.text=b.text∧a.base=b.base∧a.n=b.n∧¬ a.hist=b.hist))):=by
 by_cases h:a=b
 ·exact .inl h
 ·refine .inr ⟨h,?_⟩
  obtain ⟨a1,a2,a3,a4,a5,a6,a7,a8,a9,a10,a11⟩:=a
  obtain ⟨b1,b2,b3,b4,b5,b6,b7,b8,b9,b10,b11⟩:=b
  simp only [Ev.mk.injEq] at h
  simp only
  by_cases h1:a1=b1
  case neg=>exact .inl h1
  by_cases h2:a2=b2
  case neg=>exact .inr (.inl ⟨h1,h2⟩)
  by_cases h3:a3=b3
  case neg=>exact .inr (.inr (.inl ⟨h1,h2,h3⟩))
  by_cases h4:a4=b4
  case neg=>exact .inr (.inr (.inr (.inl ⟨h1,h2,h3,h4⟩)))
  by_cases h5:a5=b5
  case neg=>exact .inr (.inr (.inr (.inr (.inl ⟨h1,h2,h3,h4,h5⟩))))
  by_cases h6:a6=b6
  case neg=>exact .inr (.inr (.inr (.inr (.inr (.inl ⟨h1,h2,h3,h4,h5,h6⟩)))))
  by_cases h7:a7=b7
  case neg=>exact .inr (.inr (.inr (.inr (.inr (.inr (.inl ⟨h1,h2,h3,h4,h5,h6,h7⟩))))))
  by_cases h8:a8=b8
  case neg=>exact .inr (.inr (.inr (.inr (.inr (.inr (.inr (.inl ⟨h1,h2,h3,h4,h5,h6,h7,h8⟩)))))))
  by_cases h9:a9=b9
  case neg=>exact .inr (.inr (.inr (.inr (.inr (.inr (.inr (.inr (.inl ⟨h1,h2,h3,h4,h5,h6,h7,h8,h9⟩))))))))
  by_cases h10:a10=b10
  case neg=>exact .inr (.inr (.inr (.inr (.inr (.inr (.inr (.inr (.inr (.inl ⟨h1,h2,h3,h4,h5,h6,h7,h8,h9,h10⟩)))))))))
  exact .inr (.inr (.inr (.inr (.inr (.inr (.inr (.inr (.inr (.inr (⟨h1,h2,h3,h4,h5,h6,h7,h8,h9,h10,fun h11=>h ⟨h1,h2,h3,h4,h5,h6,h7,h8,h9,h10,h11⟩⟩))))))))))
end Go.Proofs
namespace Go.Proofs
open Go.RowKit Go.Sp
structure EvFit (e:Ev):Prop where
 user:e.user.length<4294960000
 note:e.note.length<4294960000
 text:e.text.length<4294960000
 tN:e.tN.length<4294960000
 oN:e.oN.length<4294960000
 b0 : -9223372036854775808≤e.base
 b1:e.base≤9223372036854775807
 n0 : -9223372036854775808≤e.n
 n1:e.n≤9223372036854775807
theorem EBlk.one (w:World) (a:Ev) (g:Value):EBlk (w.alloc (.cells (ecells a g) 33)) w.heap.size a g∧Below w.heap.size w (w.alloc (.cells (ecells a g) 33)):=⟨EBlk.new w a g,(Below.refl _ _).alloc (Nat.le_refl _) _⟩
end Go.Proofs
namespace Go.Proofs
open Go.RowKit Go.Sp
end Go.Proofs
