import Derived.Test.YthglcjhdmoljjaaDoorURel
import Derived.Test.YthglcjhdmoljjaaDoorPlM2
/-! Plain laws: the document's sums. -/
namespace Go.Rel
open Go Go.Eng Go.Pl
end Go.Rel
/-! Plain laws: bytes read from the left, bytes written. -/
namespace Go.Rel
open Go Go.Eng Go.Pl
end Go.Rel
/-! Plain laws: what is stuffed is taken apart. -/
namespace Go.Rel
open Go Go.Eng Go.Pl
end Go.Rel
/-! Plain laws: heads. -/
namespace Go.Rel
open Go Go.Eng Go.Pl
end Go.Rel
/-! Plain laws: rooms on the wire. -/
namespace Go.Rel
open Go Go.Eng Go.Pl
end Go.Rel
/-! Plain laws: frames. -/
namespace Go.Rel
open Go Go.Eng Go.Pl
end Go.Rel
/-! Plain laws: the head of bytes. -/
namespace Go.Rel
open Go Go.Eng Go.Pl
/-! ### heads -/
end Go.Rel
/-! Plain laws: the frame of a segment. -/
namespace Go.Rel
open Go Go.Eng Go.Pl
/-! ### frames -/
end Go.Rel
/-! Plain law: what the segments of any bytes are. -/
namespace Go.Rel
open Go Go.Eng Go.Pl
end Go.Rel
/-! Plain laws: heads of one message; the head of any bytes. -/
namespace Go.Rel
open Go Go.Eng Go.Pl
end Go.Rel
/-! Plain laws: whether any head may be, its bytes and its line. -/
namespace Go.Rel
open Go Go.Eng Go.Pl
end Go.Rel
/-! Plain law: whether any frames may be, and what they are on the wire. -/
namespace Go.Rel
open Go Go.Eng Go.Pl
/-! ### Bytes as strings, and back -/
/-! ### Segments -/
/-! ### The document's -/
/-! ### The law -/
end Go.Rel
/-! Plain law: which segments weren't sent. -/
namespace Go.Rel
open Go Go.Eng Go.Pl
end Go.Rel
